/- Part 5 of the proof: what it says stands at its theorems. -/
import Derived.Test.YtooliddjiiilfaaRrA4
import Derived.Test.YtooliddjiiilfaaRrA3
import Derived.KernelRfl
set_option linter.unusedVariables false
set_option linter.unusedSimpArgs false
set_option linter.unusedSectionVars false
section
namespace Go.AM.S
open Go Go.AM Go.Proofs NumL
open _root_.Go.AM.G (R)
set_option maxRecDepth 100000
theorem qw0{z:Int}(h1:-9223372036854775808≤z)(h2:z≤9223372036854775807):F.QaO .i64 z=z:=by
 rw[F.Qae]
 show(if (true&&decide (z % 18446744073709551616 ≥ 9223372036854775808))=true then z % 18446744073709551616 - 18446744073709551616 else z % 18446744073709551616)=_
 by_cases h:z % 18446744073709551616 ≥ 9223372036854775808
 ·rw[decide_eq_true h]
  show z % 18446744073709551616 - 18446744073709551616=z
  omega
 ·rw[decide_eq_false h]
  show z % 18446744073709551616=z
  omega
theorem qta{x y:Int}(h1:-9223372036854775808≤x - y)(h2:x - y≤9223372036854775807):G.int2 .sub .i64 x y=some (.int .i64 (x - y)):=by
 show some (V.int .i64 (F.QaO .i64 (x - y)))=_
 rw[qw0 h1 h2]
theorem qxC{x y:Int}(h1:-9223372036854775808≤x+y)(h2:x+y≤9223372036854775807):G.int2 .add .i64 x y=some (.int .i64 (x+y)):=by
 show some (V.int .i64 (F.QaO .i64 (x+y)))=_
 rw[qw0 h1 h2]
theorem qxB(k:IntKind)(x y:Int):G.int2 .lss k x y=some (.bool (decide (x<y))):=by
 show some (V.bool (F.ltI x y))=_
 rw[F.Qas]
theorem qk3{D:Nat}{out:List Nat}{i n x y d c p q:Nat}(hl:out.length=i)(hv:p+D ^ i*n=vl D out+q)(he:x+D*c=d+y+n):(p+D ^ i*x)+D ^ (i+1)*c=vl D (out++[d])+(q+D ^ i*y):=by
 rw[qaZ,qdd,hl,Nat.pow_succ,Nat.mul_assoc]
 have h1:D ^ i*(x+D*c)=D ^ i*(d+y+n):=by rw[he]
 simp only[Nat.mul_add]at h1
 omega
theorem qeb{va vb:V}{a b:List Nat}(ha:Sl .i64 va a)(hb:Sl .i64 vb b)(da:Dg 10000 a)(db:Dg 10000 b)(la:a.length≤1000000)(lb:b.length≤a.length)(hle:vl 10000 b≤vl 10000 a) :
  Gives 76 [va,vb] fun r=>∃ c,Sl .i64 r c∧Dg 10000 c∧vl 10000 c+vl 10000 b=vl 10000 a∧c.length≤a.length:=by
 refine qak tbl76 fun h Q hQ=>?_
 unfold rc76
 refine sR ?_
 refine sR ?_
 refine sR ?_
 refine qau (M:=fun s=>∃ out,Tk s.loc 38 (gt s.tm 5) .i64 out∧Dg 10000 out∧vl 10000 out+vl 10000 b=vl 10000 a∧out.length≤a.length∧s.hp=⟨h.rows,none,h.mods⟩) ?_ (fun s ⟨out,htk,hdg,hv,hlen,hhp⟩=>?_)
 ·refine sR ?_
  refine qaP (fun m s=>∃ i w out,m+i=a.length∧gt s.tm 0=va∧gt s.tm 1=vb∧gt s.tm 7=.int .i64 (.ofNat i)∧gt s.tm 6=.int .i64 (.ofNat w)∧Tk s.loc 38 (gt s.tm 5) .i64 out∧out.length=i∧Dg 10000 out∧w≤1∧vl 10000 (a.take i)+10000 ^ i*w=vl 10000 out+vl 10000 (b.take i)∧s.hp=⟨h.rows,none,h.mods⟩) a.length ⟨0,0,[],rfl,sSG,sSG,sS,sS,.inl ⟨rfl,sS⟩,rfl,Dg.nil _,by decide,by simp[vl],rfl⟩ ?_
  intro m s ⟨i,w,out,hm,h0,h1,h7,h6,htk,hlen,hdg,hn1,hv,hhp⟩
  refine qac (qac (qad (fun n k=>by simp -implicitDefEqProofs (disch:=omega) only[go_sem,reduceIte,Nat.reduceEqDiff,h0,h7,qam ha];rfl) ?_))
  refine qaU (by simp only[qal,reduceIte];rfl) (fun hi=>qag ?_) (fun hi=>qax ?_)
  ·have hx:a.getD i 0<10000:=da.get (by decide) i
   have hy:b.getD i 0<10000:=db.get (by decide) i
   have s1:=qta (x:=Int.ofNat (a.getD i 0)) (y:=Int.ofNat w) (by show _≤((a.getD i 0:Nat):Int) - (w:Int);omega) (by show((a.getD i 0:Nat):Int) - (w:Int)≤_;omega)
   have s2:=qta (x:=Int.ofNat (a.getD i 0) - Int.ofNat w) (y:=Int.ofNat (b.getD i 0)) (by show _≤((a.getD i 0:Nat):Int) - (w:Int) - ((b.getD i 0:Nat):Int);omega) (by show((a.getD i 0:Nat):Int) - (w:Int) - ((b.getD i 0:Nat):Int)≤_;omega)
   have s3:=qxC (x:=Int.ofNat (a.getD i 0) - Int.ofNat w - Int.ofNat (b.getD i 0)) (y:=Int.ofNat 10000) (by show _≤((a.getD i 0:Nat):Int) - (w:Int) - ((b.getD i 0:Nat):Int)+10000;omega) (by show((a.getD i 0:Nat):Int) - (w:Int) - ((b.getD i 0:Nat):Int)+10000≤_;omega)
   refine qac (qaq ?_)
   have s1':bin Pg .sub 3 false (.int .i64 (.ofNat (a.getD i 0))) (.int .i64 (.ofNat w))=some (.int .i64 (Int.ofNat (a.getD i 0) - Int.ofNat w)):=by rw[qnh,s1]
   refine qac (qad (fun n k=>by simp -implicitDefEqProofs (disch:=omega) only[go_sem,reduceIte,Nat.reduceEqDiff,h0,h6,h7,qk9 ha,s1'];rfl) ?_)
   refine qau (M:=fun s1=>gt s1.tm 8=.int .i64 (Int.ofNat (a.getD i 0) - Int.ofNat w - Int.ofNat (b.getD i 0))∧Kp [0,1,5,7] s.tm s1.tm∧s1.loc=s.loc∧s1.hp=s.hp) ?_ (fun s1 ⟨a8,ak,al,ah⟩=>?_)
   ·refine qac (qad (fun n k=>by simp -implicitDefEqProofs (disch:=omega) only[go_sem,reduceIte,Nat.reduceEqDiff,h1,h7,qam hb];rfl) ?_)
    refine qaU (by simp only[qal,reduceIte];rfl) (fun hib=>?_) (fun hib=>qag ?_)
    ·have s2':bin Pg .sub 3 false (.int .i64 (Int.ofNat (a.getD i 0) - Int.ofNat w)) (.int .i64 (.ofNat (b.getD i 0)))=some (.int .i64 (Int.ofNat (a.getD i 0) - Int.ofNat w - Int.ofNat (b.getD i 0))):=by rw[qnh,s2]
     refine qad (fun n k=>by simp -implicitDefEqProofs (disch:=omega) only[go_sem,reduceIte,Nat.reduceEqDiff,h1,h7,qk9 hb,s2'];rfl) ?_
     exact⟨sS,(by(try dsimp only);repeat (first | with_reducible exact qaH _ _ | with_reducible refine qbh (by decide) ?_)),rfl,rfl⟩
    ·refine⟨?_,(by(try dsimp only);repeat (first | with_reducible exact qaH _ _ | with_reducible refine qbh (by decide) ?_)),rfl,rfl⟩
     rw[qbR hib,show Int.ofNat (a.getD i 0) - Int.ofNat w - Int.ofNat 0=Int.ofNat (a.getD i 0) - Int.ofNat w from Int.sub_zero _]
     exact sS
   ·have a0:=(ak 0 (by decide)).trans h0;have a1:=(ak 1 (by decide)).trans h1;have a7:=(ak 7 (by decide)).trans h7;have a5:=ak 5 (by decide)
    refine sR ?_
    refine qau (M:=fun s2=>∃ d c,gt s2.tm 8=.int .i64 (.ofNat d)∧gt s2.tm 6=.int .i64 (.ofNat c)∧d<10000∧c≤1∧a.getD i 0+10000*c=d+b.getD i 0+w∧Kp [0,1,5,7] s1.tm s2.tm∧s2.loc=s.loc∧s2.hp=s.hp) ?_ (fun s2 ⟨d,c,b8,b6,hd,hc,heq,bk,bl,bh⟩=>?_)
    ·have cmp:bin Pg .lss 3 true (.int .i64 (Int.ofNat (a.getD i 0) - Int.ofNat w - Int.ofNat (b.getD i 0))) (.int .i64 (.ofNat 0))=some (.bool (decide (Int.ofNat (a.getD i 0) - Int.ofNat w - Int.ofNat (b.getD i 0)<Int.ofNat 0))):=by rw[qnh,qxB]
     refine qac (qad (fun n k=>by simp -implicitDefEqProofs (disch:=omega) only[go_sem,reduceIte,Nat.reduceEqDiff,a8,cmp];rfl) ?_)
     refine qaU (by simp only[qal,reduceIte];rfl) (fun hneg=>?_) (fun hneg=>qag ?_)
     ·have hneg':((a.getD i 0:Nat):Int) - (w:Int) - ((b.getD i 0:Nat):Int)<0:=hneg
      have s3':bin Pg .add 3 true (.int .i64 (Int.ofNat (a.getD i 0) - Int.ofNat w - Int.ofNat (b.getD i 0))) (.int .i64 (.ofNat 10000))=some (.int .i64 (Int.ofNat (a.getD i 0) - Int.ofNat w - Int.ofNat (b.getD i 0)+Int.ofNat 10000)):=by rw[qnh,s3]
      refine sE2 a8 s3' ?_
      refine⟨a.getD i 0+10000 - w - b.getD i 0,1,?_,sS,by omega,by decide,by omega,(by(try dsimp only);repeat (first | with_reducible exact qaH _ _ | with_reducible refine qbh (by decide) ?_)),al,ah⟩
      have e:Int.ofNat (a.getD i 0) - Int.ofNat w - Int.ofNat (b.getD i 0)+Int.ofNat 10000=Int.ofNat (a.getD i 0+10000 - w - b.getD i 0):=by
       show((a.getD i 0:Nat):Int) - (w:Int) - ((b.getD i 0:Nat):Int)+10000=((a.getD i 0+10000 - w - b.getD i 0:Nat):Int)
       omega
      rw[←e]
      exact sS
     ·have hneg':¬((a.getD i 0:Nat):Int) - (w:Int) - ((b.getD i 0:Nat):Int)<0:=hneg
      refine⟨a.getD i 0 - w - b.getD i 0,0,?_,sS,by omega,by decide,by omega,(by(try dsimp only);repeat (first | with_reducible exact qaH _ _ | with_reducible refine qbh (by decide) ?_)),al,ah⟩
      have e:Int.ofNat (a.getD i 0) - Int.ofNat w - Int.ofNat (b.getD i 0)=Int.ofNat (a.getD i 0 - w - b.getD i 0):=by
       show((a.getD i 0:Nat):Int) - (w:Int) - ((b.getD i 0:Nat):Int)=((a.getD i 0 - w - b.getD i 0:Nat):Int)
       omega
      rw[←e]
      exact(sS1 a8)
    ·have b5:=(bk 5 (by decide)).trans a5;have b7:=(bk 7 (by decide)).trans a7
     obtain⟨v5,l5,happ,htk5,hfr⟩:=qsQ [d] none true htk (by simp) (by simp;omega)
     refine qad (fun n k=>by simp -implicitDefEqProofs (disch:=omega) only[go_sem,reduceIte,Nat.reduceEqDiff,b8,b5,bl,qwL,happ];rfl) ?_
     refine sE1 b7 ?_
     refine⟨m - 1,by omega,i+1,c,out++[d],by omega,(by simp -implicitDefEqProofs (disch:=omega) only[go_sem,reduceIte,Nat.reduceEqDiff,bk 0 (by decide),a0]),(by simp -implicitDefEqProofs (disch:=omega) only[go_sem,reduceIte,Nat.reduceEqDiff,bk 1 (by decide),a1]),sS,(sS1 b6),?_,by simp[hlen],hdg.snoc hd,hc,?_,bh.trans hhp⟩
     ·have e:∀ y,gt (pt (pt s2.tm 5 v5) 7 y) 5=v5:=fun y=>sS
      rw[e];exact htk5
     ·rw[qaA,qaA]
      exact qk3 hlen hv heq
  ·rw[if_pos rfl]
   have ei:i=a.length:=by omega
   have hout:vl 10000 (a.take i)+10000 ^ i*w=vl 10000 out+vl 10000 (b.take i):=hv
   rw[List.take_of_length_le (by omega),List.take_of_length_le (by omega)]at hout
   have hw0:w=0:=by
    have hlt:=qaV (B:=10000) (by decide) hdg (k:=i) (by omega)
    rcases Nat.eq_zero_or_pos w with q | q
    ·exact q
    ·exfalso
     have e1:w=1:=by omega
     subst e1
     omega
   subst hw0
   refine⟨out,?_,hdg,by simpa using hout.symm,by omega,hhp⟩
   have e:∀ y,gt (pt s.tm 12 y) 5=gt s.tm 5:=fun y=>sS
   rw[e];exact htk
 ·obtain⟨v',hsl,hex⟩:=htk.out
  refine sR ?_
  exact qai (hQ _ _ (qaX (v:=gt s.tm 5) sS (hex _) (by rw[hhp]) hsl.Qao) ⟨out,hsl,hdg,hv,hlen⟩)
theorem qhD{va vb:V}{a b:List Nat}(ha:Sl .i64 va a)(hb:Sl .i64 vb b)(da:Dg 10000 a)(db:Dg 10000 b)(ca:Cn a)(cb:Cn b)(la:a.length≤1000000000)(lb:b.length≤1000000000) :
  Gives 75 [va,vb] fun r=>r=.int .i64 (Qb9 (vl 10000 a) (vl 10000 b)):=by
 refine qak tbl75 fun h Q hQ=>?_
 have done:∀ (st:St) (z:Int),z=Qb9 (vl 10000 a) (vl 10000 b)→gt st.tm 4=.int .i64 z→st.hp=⟨h.rows,none,h.mods⟩→Q st:=by
  intro st z e h4 hh
  exact hQ st _ (qbJ h4 (Ex1.int _ _) (by rw[hh];exact fun x hx=>by cases hx) rfl) (by rw[e])
 unfold rc75
 refine sR ?_
 have hneq:∀ (x y:Nat),bin Pg .neq 3 false (.int .i64 (.ofNat x)) (.int .i64 (.ofNat y))=some (.bool (decide (x≠y))):=fun x y=>by rw[qnh,qq3]
 rcases Nat.lt_trichotomy a.length b.length with hl | hl | hl
 ·refine qac (qac (qad (fun n k=>by simp -implicitDefEqProofs (disch:=omega) only[go_sem,reduceIte,Nat.reduceEqDiff,qae,List.getD_cons_zero,List.getD_cons_succ,qam ha,qam hb,hneq,decide_eq_true (show a.length≠b.length by omega)];rfl) ?_))
  refine qan sS ?_
  refine qac (qac (qad (fun n k=>by simp -implicitDefEqProofs (disch:=omega) only[go_sem,reduceIte,Nat.reduceEqDiff,qae,List.getD_cons_zero,List.getD_cons_succ,qam ha,qam hb,qaQ];rfl) ?_))
  refine qan sS ?_
  refine sR ?_
  refine qai (done _ (.negSucc 0) ?_ sS rfl)
  unfold Qb9
  rw[if_pos (qbG (by decide) da cb hl)]
 ·refine qac (qac (qad (fun n k=>by simp -implicitDefEqProofs (disch:=omega) only[go_sem,reduceIte,Nat.reduceEqDiff,qae,List.getD_cons_zero,List.getD_cons_succ,qam ha,qam hb,hneq,decide_eq_false (show ¬a.length≠b.length by omega)];rfl) ?_))
  refine qaj sS (qag ?_)
  refine qac (qac (qad (fun n k=>by simp -implicitDefEqProofs (disch:=omega) only[go_sem,reduceIte,Nat.reduceEqDiff,qae,List.getD_cons_zero,List.getD_cons_succ,qam ha,qgG];rfl) ?_))
  refine qaP (fun m s=>m≤a.length∧gt s.tm 5=.int .i64 (dn m)∧a.drop m=b.drop m∧gt s.tm 0=va∧gt s.tm 1=vb∧s.hp=⟨h.rows,none,h.mods⟩) a.length ⟨Nat.le_refl _,sS,?_,sSG,sSG,rfl⟩ ?_
  ·rw[List.drop_eq_nil_of_le (Nat.le_refl _),List.drop_eq_nil_of_le (by omega)]
  intro m s ⟨hm,h5,he,h0,h1,hhp⟩
  cases m with
  | zero =>
   refine qac (qac (qad (fun n k=>by simp -implicitDefEqProofs (disch:=omega) only[go_sem,reduceIte,Nat.reduceEqDiff,h5,dn];rfl) ?_))
   refine qaj sS (qax ?_)
   rw[if_pos rfl]
   refine sR ?_
   refine qai (done _ (.ofNat 0) ?_ sS hhp)
   have e:a=b:=by simpa using he
   subst e
   simp[Qb9]
  | succ i =>
   have h5':gt s.tm 5=.int .i64 (.ofNat i):=h5
   refine qac (qac (qad (fun n k=>by simp -implicitDefEqProofs (disch:=omega) only[go_sem,reduceIte,Nat.reduceEqDiff,h5',qaQ];rfl) ?_))
   refine qan sS (qag ?_)
   refine qac (qaq ?_)
   refine qac (qac (qad (fun n k=>by simp -implicitDefEqProofs (disch:=omega) only[go_sem,reduceIte,Nat.reduceEqDiff,h0,h1,h5',qk9 ha,qk9 hb];rfl) ?_))
   refine qaU (by simp only[qal,reduceIte];rfl) (fun hx=>?_) (fun hx=>qag ?_)
   ·refine sR ?_
    refine qai (done _ (.negSucc 0) ?_ sS hhp)
    unfold Qb9
    rw[if_pos (qfN (by decide) da (by omega) (by omega) he hx)]
   ·refine qac (qad (fun n k=>by simp -implicitDefEqProofs (disch:=omega) only[go_sem,reduceIte,Nat.reduceEqDiff,h0,h1,h5',qk9 ha,qk9 hb];rfl) ?_)
    refine qaU (by simp only[qal,reduceIte];rfl) (fun hy=>?_) (fun hy=>qag ?_)
    ·refine sR ?_
     refine qai (done _ (.ofNat 1) ?_ sS hhp)
     have hlt:=qfN (B:=10000) (by decide) db (by omega) (by omega) he.symm hy
     unfold Qb9
     rw[if_neg (by omega),if_pos hlt]
    ·refine qad (fun n k=>by simp -implicitDefEqProofs (disch:=omega) only[go_sem,reduceIte,Nat.reduceEqDiff,h5',qgG];rfl) ?_
     refine⟨i,by omega,by omega,sS,?_,(sS1 h0),(sS1 h1),hhp⟩
     rw[qeF a i,qeF b i,if_pos (by omega),if_pos (by omega),he]
     congr 1
     omega
 ·refine qac (qac (qad (fun n k=>by simp -implicitDefEqProofs (disch:=omega) only[go_sem,reduceIte,Nat.reduceEqDiff,qae,List.getD_cons_zero,List.getD_cons_succ,qam ha,qam hb,hneq,decide_eq_true (show a.length≠b.length by omega)];rfl) ?_))
  refine qan sS ?_
  refine qac (qac (qad (fun n k=>by simp -implicitDefEqProofs (disch:=omega) only[go_sem,reduceIte,Nat.reduceEqDiff,qae,List.getD_cons_zero,List.getD_cons_succ,qam ha,qam hb,qaY];rfl) ?_))
  refine qaj sS (qag ?_)
  refine sR ?_
  refine qai (done _ (.ofNat 1) ?_ sS rfl)
  have hlt:=qbG (B:=10000) (by decide) db ca hl
  unfold Qb9
  rw[if_neg (by omega),if_pos hlt]
theorem tbl26:tbl 26=some ⟨rc26,[.cell 4 31]⟩:=by kernel_rfl
theorem tbl28:tbl 28=some ⟨rc28,[.cell 4 31]⟩:=by kernel_rfl
theorem tbl32:tbl 32=some ⟨rc32,[.cell 2 31]⟩:=by kernel_rfl
theorem tbl34:tbl 34=some ⟨rc34,[.tmp 4]⟩:=by kernel_rfl
theorem tbl36:tbl 36=some ⟨rc36,[.tmp 2]⟩:=by kernel_rfl
theorem qtr{d e f:List Nat}{b:Bool}(hf:vl 10000 f=vl 10000 d+vl 10000 e):zr f (b && !f.isEmpty)=zr d b+zr e b:=by
 cases b with
 | false=>simp only[zr,Bool.false_and,cond_false];omega
 | true =>
  cases f with
  | nil=>simp only[vl]at hf;simp only[zr,Bool.true_and,List.isEmpty_nil,Bool.not_true,cond_false,cond_true,vl];omega
  | cons x l=>simp only[zr,Bool.true_and,List.isEmpty_cons,Bool.not_false,cond_true];omega
theorem qno{d e f:List Nat}{b:Bool}(hf:vl 10000 f+vl 10000 e=vl 10000 d):zr f (b && !f.isEmpty)=zr d b+zr e (!b):=by
 cases b with
 | false=>simp only[zr,Bool.false_and,cond_false,Bool.not_false,cond_true];omega
 | true =>
  cases f with
  | nil=>simp only[vl]at hf;simp only[zr,Bool.true_and,List.isEmpty_nil,Bool.not_true,cond_false,cond_true,vl];omega
  | cons x l=>simp only[zr,Bool.true_and,List.isEmpty_cons,Bool.not_false,cond_true,Bool.not_true,cond_false];omega
theorem qeR{k l:Nat}{va vb:V}{x y:Int}(ha:IsR k va x)(hb:IsR l vb y)(hk:k≤1000000)(hl:l≤1000000):Gives 26 [va,vb] fun r=>IsR (max k l+1) r (x+y):=by
 obtain⟨d,b,⟨⟨s,rfl,hs⟩,dd,cd,h0⟩,rfl,hdl⟩:=ha
 obtain⟨e,c,⟨⟨u,rfl,hu⟩,de,ce,he0⟩,rfl,hel⟩:=hb
 refine qak tbl26 fun h Q hQ=>?_
 unfold rc26
 refine sRG ?_
 have fin:∀ (s2:V) (f:List Nat) (g:Bool) (st:St),NR (.agg [.bool g,s2]) f g→zr f g=zr d b+zr e c→f.length≤max k l+1→gt st.tm 4=.ptr (.loc 4 1) 0→lg st.loc 4=(1,.cells false [.bool g,s2])→st.hp=⟨h.rows,none,h.mods⟩→Q st:=by
  intro s2 f g st hn hz hf h4 hr hh
  obtain⟨⟨s3,e3,hs3⟩,q⟩:=hn
  obtain rfl:s2=s3:=by simpa using e3
  exact hQ _ _ (qaW (x:=.bool g) (y:=s2) (f:=false) (d:=4) (g:=1) (by kernel_rfl) h4 hr (Pl.bool _) hs3.pl (by rw[hh])) ⟨f,g,⟨⟨s2,rfl,hs3⟩,q⟩,hz.symm,hf⟩
 by_cases hbc:b=c
 ·subst hbc
  have eqb:bin Pg .eql 4 false (.bool b) (.bool b)=some (.bool true):=by rw[qi0 4 false b b U4,beq_self_eq_true]
  refine qac (qac (qad (fun n k=>by simp -implicitDefEqProofs (disch:=omega) only[go_sem,reduceIte,Nat.reduceEqDiff,qae,List.getD_cons_zero,List.getD_cons_succ,qar L4,eqb];rfl) ?_))
  refine qan sS ?_
  obtain⟨p,hp,m,hm,dm,hvm,hlm⟩:=qmw hs hu dd de (by omega) (by omega) ⟨h.rows,none,h.mods⟩
  obtain⟨r,hr,f,⟨⟨s2,rfl,hs2⟩,df,cf,hf0⟩,ht⟩:=qbt hm dm (by omega) b ⟨h.rows,none,h.mods⟩
  have hlen:=ht.len
  refine qac (qaf (hp.and hr) (fun n hn k=>by
   simp -implicitDefEqProofs (disch:=omega) only[go_sem,reduceIte,Nat.reduceEqDiff,qae,List.getD_cons_zero,List.getD_cons_succ,qao L29,qar L4,qbl hn.1 hs.ex hu.ex hs.quiet hu.quiet,qbl hn.2 (Ex1.bool _) hm.ex rfl hm.quiet,qah N31 1 (.bool (b && !f.isEmpty)) s2 (.bool false) .nils _ rfl hs2.pl.ok]
   exact qav (by kernel_rfl)) ?_)
  exact qai (fin s2 f _ _ ⟨⟨s2,rfl,hs2⟩,df,cf,hf0⟩ (qtr (by rw[ht.vl,hvm])) (by omega) sS sS rfl)
 ·have ec:c = !b:=by cases b<;>cases c<;>first | rfl | exact absurd rfl hbc
  have eqb:bin Pg .eql 4 false (.bool b) (.bool c)=some (.bool false):=by
   rw[qi0 4 false b c U4,ec];cases b<;>rfl
  refine qac (qac (qad (fun n k=>by simp -implicitDefEqProofs (disch:=omega) only[go_sem,reduceIte,Nat.reduceEqDiff,qae,List.getD_cons_zero,List.getD_cons_succ,qar L4,eqb];rfl) ?_))
  refine qaj sS (qag ?_)
  obtain⟨q,hq,rfl⟩:=qhD hs hu dd de cd ce (by omega) (by omega) ⟨h.rows,none,h.mods⟩
  rcases Nat.lt_or_ge (vl 10000 d) (vl 10000 e)with hlt | hge
  ·have hcmp:Qb9 (vl 10000 d) (vl 10000 e)=.negSucc 0:=by unfold Qb9;rw[if_pos hlt]
   rw[hcmp]at hq
   refine qac (qac (qaf (hq) (fun n hn k=>by simp -implicitDefEqProofs (disch:=omega) only[go_sem,reduceIte,Nat.reduceEqDiff,qae,List.getD_cons_zero,List.getD_cons_succ,qao L29,qb5 hn hs.ex hu.ex];rfl) ?_))
   refine qaj sS (qag ?_)
   have hle:d.length≤e.length:=by
    rcases Nat.lt_or_ge e.length d.length with h1 | h1
    ·have:=qbG (B:=10000) (by decide) de cd h1;omega
    ·exact h1
   obtain⟨p,hp,m,hm,dm,hvm,hlm⟩:=qeb hu hs de dd (by omega) hle (by omega) ⟨h.rows,none,h.mods⟩
   obtain⟨r,hr,f,⟨⟨s2,rfl,hs2⟩,df,cf,hf0⟩,ht⟩:=qbt hm dm (by omega) c ⟨h.rows,none,h.mods⟩
   have hlen:=ht.len
   refine qac (qaf (hp.and hr) (fun n hn k=>by
    simp -implicitDefEqProofs (disch:=omega) only[go_sem,reduceIte,Nat.reduceEqDiff,qae,List.getD_cons_zero,List.getD_cons_succ,qao L29,qar L4,qbl hn.1 hu.ex hs.ex hu.quiet hs.quiet,qbl hn.2 (Ex1.bool _) hm.ex rfl hm.quiet,qah N31 1 (.bool (c && !f.isEmpty)) s2 (.bool false) .nils _ rfl hs2.pl.ok]
    exact qav (by kernel_rfl)) ?_)
   refine qai (fin s2 f _ _ ⟨⟨s2,rfl,hs2⟩,df,cf,hf0⟩ ?_ (by omega) sS sS rfl)
   rw[qno (d:=e) (e:=d) (by rw[ht.vl,hvm]),ec,Int.add_comm]
   cases b<;>rfl
  ·have hcmp:∃ n,Qb9 (vl 10000 d) (vl 10000 e)=.ofNat n:=by unfold Qb9;rw[if_neg (by omega)];split<;>exact⟨_,rfl⟩
   obtain⟨n0,hcmp⟩:=hcmp
   rw[hcmp]at hq
   refine qac (qac (qaf (hq) (fun n hn k=>by simp -implicitDefEqProofs (disch:=omega) only[go_sem,reduceIte,Nat.reduceEqDiff,qae,List.getD_cons_zero,List.getD_cons_succ,qao L29,qb5 hn hs.ex hu.ex,qaQ];rfl) ?_))
   refine qan sS ?_
   have hle:e.length≤d.length:=by
    rcases Nat.lt_or_ge d.length e.length with h1 | h1
    ·have:=qbG (B:=10000) (by decide) dd ce h1;omega
    ·exact h1
   obtain⟨p,hp,m,hm,dm,hvm,hlm⟩:=qeb hs hu dd de (by omega) hle (by omega) ⟨h.rows,none,h.mods⟩
   obtain⟨r,hr,f,⟨⟨s2,rfl,hs2⟩,df,cf,hf0⟩,ht⟩:=qbt hm dm (by omega) b ⟨h.rows,none,h.mods⟩
   have hlen:=ht.len
   refine qac (qaf (hp.and hr) (fun n hn k=>by
    simp -implicitDefEqProofs (disch:=omega) only[go_sem,reduceIte,Nat.reduceEqDiff,qae,List.getD_cons_zero,List.getD_cons_succ,qao L29,qar L4,qbl hn.1 hs.ex hu.ex hs.quiet hu.quiet,qbl hn.2 (Ex1.bool _) hm.ex rfl hm.quiet,qah N31 1 (.bool (b && !f.isEmpty)) s2 (.bool false) .nils _ rfl hs2.pl.ok]
    exact qav (by kernel_rfl)) ?_)
   refine qai (fin s2 f _ _ ⟨⟨s2,rfl,hs2⟩,df,cf,hf0⟩ ?_ (by omega) sS sS rfl)
   rw[qno (d:=d) (e:=e) (by rw[ht.vl,hvm]),ec]
theorem IsR.form{k:Nat}{v:V}{x:Int}(h:IsR k v x):∃ s b,v=.agg [.bool b,s]∧Pl s∧Ex1 v∧AM.quiet v=true:=by
 obtain⟨d,b,hn,_,_⟩:=h
 have h1:=hn.ex;have h2:=hn.quiet
 obtain⟨⟨s,rfl,hs⟩,_⟩:=hn
 exact⟨s,b,rfl,hs.pl,h1,h2⟩
theorem qew{k:Nat}{va:V}{x:Int}(ha:IsR k va x)(hk:k≤1000000):Gives 32 [va] fun r=>IsR k r (-x):=by
 obtain⟨d,b,⟨⟨s,rfl,hs⟩,dd,cd,h0⟩,hx,hl⟩:=ha
 refine qak tbl32 fun h Q hQ=>?_
 unfold rc32
 refine sRG ?_
 have fin:∀ (st:St) (g:Bool),g=(!b&&decide (0<d.length))→gt st.tm 2=.ptr (.loc 2 1) 0→lg st.loc 2=(1,.cells false [.bool g,s])→st.hp=⟨h.rows,none,h.mods⟩→Q st:=by
  intro st g hg h2 hr hh
  refine hQ _ _ (qaW (x:=.bool g) (y:=s) (f:=false) (d:=2) (g:=1) (by kernel_rfl) h2 hr (Pl.bool _) hs.pl (by rw[hh])) ⟨d,g,⟨⟨s,rfl,hs⟩,dd,cd,fun e=>by rw[hg,e];simp⟩,?_,hl⟩
  subst hx;subst hg
  unfold zr
  cases b with
  | true=>simp only[Bool.not_true,Bool.false_and,cond_true,cond_false,Int.neg_neg]
  | false =>
   cases d with
   | nil=>rfl
   | cons x l=>simp
 cases b with
 | true =>
  refine qac (qad (fun n k=>by simp -implicitDefEqProofs (disch:=omega) only[go_sem,reduceIte,Nat.reduceEqDiff,qar L4,qao L29,qmj (Pl.bool _) hs.pl,qah N31 1 (.bool false) s (.bool false) .nils _ rfl hs.pl.ok];rfl) ?_)
  exact qai (fin _ false (by simp) sS sS rfl)
 | false =>
  refine qac (qad (fun n k=>by simp -implicitDefEqProofs (disch:=omega) only[go_sem,reduceIte,Nat.reduceEqDiff,qar L4,qao L29,qam hs,qmj (Pl.bool _) hs.pl,qah N31 1 (.bool (decide (0<d.length))) s (.bool false) .nils _ rfl hs.pl.ok];rfl) ?_)
  exact qai (fin _ (decide (0<d.length)) (by simp) sS sS rfl)
theorem qi8{k l:Nat}{va vb:V}{x y:Int}(ha:IsR k va x)(hb:IsR l vb y)(hk:k≤1000000)(hl:l≤1000000):Gives 28 [va,vb] fun r=>IsR (max k l+1) r (x - y):=by
 obtain⟨s,b,rfl,ps,es,qs⟩:=ha.form
 obtain⟨u,c,rfl,pu,eu,qu⟩:=hb.form
 refine qak tbl28 fun h Q hQ=>?_
 unfold rc28
 refine sRG ?_
 obtain⟨p,hp,hpI⟩:=qew hb hl ⟨h.rows,none,h.mods⟩
 obtain⟨r,hr,hrI⟩:=qeR ha hpI hk hl ⟨h.rows,none,h.mods⟩
 obtain⟨s1,b1,rfl,ps1,es1,qs1⟩:=hpI.form
 obtain⟨s2,b2,rfl,ps2,es2,qs2⟩:=hrI.form
 refine qac (qaf (hp.and hr) (fun n hn k=>by simp -implicitDefEqProofs (disch:=omega) only[go_sem,reduceIte,Nat.reduceEqDiff,qae,List.getD_cons_zero,List.getD_cons_succ,qaz L31,qb9 hn.1 eu qu,qbl hn.2 es es1 qs qs1,qah N31 1 (.bool b2) s2 (.bool false) .nils _ rfl ps2.ok];exact qav (by kernel_rfl)) ?_)
 exact qai (hQ _ _ (qaW (x:=.bool b2) (y:=s2) (f:=false) (d:=4) (g:=1) (by kernel_rfl) sS sS (Pl.bool _) ps2 rfl) (by rw[Int.sub_eq_add_neg];exact hrI))
theorem qht{k:Nat}{va:V}{x:Int}(ha:IsR k va x)(hk:k≤1000000):Gives 36 [va] fun r=>r=.int .i64 (sgn x):=by
 obtain⟨d,b,⟨⟨s,rfl,hs⟩,dd,cd,h0⟩,hx,hl⟩:=ha
 refine qak tbl36 fun h Q hQ=>?_
 have done:∀ (st:St) (z:Int),z=sgn x→gt st.tm 2=.int .i64 z→st.hp=⟨h.rows,none,h.mods⟩→Q st:=by
  intro st z e h4 hh
  exact hQ st _ (qbJ h4 (Ex1.int _ _) (by rw[hh];exact fun x hx=>by cases hx) rfl) (by rw[e])
 unfold rc36
 refine sRG ?_
 refine qac (qaq ?_)
 rcases Nat.eq_zero_or_pos d.length with e0 | e0
 ·have e:d=[]:=List.length_eq_zero_iff.1 e0
  have eb:=h0 e
  refine qac (qad (fun n k=>by simp -implicitDefEqProofs (disch:=omega) only[go_sem,reduceIte,Nat.reduceEqDiff,qao L29,qam hs,e0,qaQ];rfl) ?_)
  refine qan sS ?_
  refine sR ?_
  refine qai (done _ (.ofNat 0) ?_ sS rfl)
  subst e;subst eb;subst hx
  rfl
 ·have hne:d≠[]:=fun e=>by subst e;simp at e0
  have hpos:=qdh (B:=10000) cd hne (by decide)
  refine qac (qad (fun n k=>by simp -implicitDefEqProofs (disch:=omega) only[go_sem,reduceIte,Nat.reduceEqDiff,qao L29,qam hs,decide_eq_false (show ¬d.length=0 by omega)];rfl) ?_)
  refine qaj sS ?_
  cases b with
  | true =>
   refine qac (qad (fun n k=>by simp -implicitDefEqProofs (disch:=omega) only[go_sem,reduceIte,Nat.reduceEqDiff,qar L4];rfl) ?_)
   refine qan sS ?_
   refine sR ?_
   refine qai (done _ (.negSucc 0) ?_ sS rfl)
   subst hx
   unfold sgn Qcy zr
   rw[cond_true,if_pos (by omega)]
  | false =>
   refine qac (qad (fun n k=>by simp -implicitDefEqProofs (disch:=omega) only[go_sem,reduceIte,Nat.reduceEqDiff,qar L4];rfl) ?_)
   refine qaj sS (qag ?_)
   refine sR ?_
   refine qai (done _ (.ofNat 1) ?_ sS rfl)
   subst hx
   unfold sgn Qcy zr
   rw[cond_false,if_neg (by omega),if_pos (by omega)]
theorem qsC(x y:Int):sgn (x - y)=Qcy x y:=by
 unfold sgn Qcy
 rcases Int.lt_trichotomy x y with h | h | h
 ·rw[if_pos (by omega),if_pos h]
 ·rw[if_neg (by omega),if_neg (by omega),if_neg (by omega),if_neg (by omega)]
 ·rw[if_neg (by omega),if_pos (by omega),if_neg (by omega),if_pos h]
theorem qku{k l:Nat}{va vb:V}{x y:Int}(ha:IsR k va x)(hb:IsR l vb y)(hk:k≤100000)(hl:l≤100000):Gives 34 [va,vb] fun r=>r=.int .i64 (Qcy x y):=by
 obtain⟨s,b,rfl,ps,es,qs⟩:=ha.form
 obtain⟨u,c,rfl,pu,eu,qu⟩:=hb.form
 refine qak tbl34 fun h Q hQ=>?_
 unfold rc34
 refine sRG ?_
 obtain⟨p,hp,hpI⟩:=qi8 ha hb (by omega) (by omega) ⟨h.rows,none,h.mods⟩
 obtain⟨_,hr,rfl⟩:=qht hpI (by omega) ⟨h.rows,none,h.mods⟩
 refine qac (qaf (hp.and hr) (fun n hn k=>by simp -implicitDefEqProofs (disch:=omega) only[go_sem,reduceIte,Nat.reduceEqDiff,qae,List.getD_cons_zero,List.getD_cons_succ,qaz L31,qb5 hn.1 es eu,qcG hn.2 hpI.ex];rfl) ?_)
 exact qai (hQ _ _ (qaX (v:=.int .i64 (sgn (x - y))) sS (Ex1.int _ _ _) rfl rfl) (by rw[qsC]))
theorem tbl88:tbl 88=some ⟨rc88,[.tmp 4]⟩:=by kernel_rfl
theorem qwa(v w:V)(l:List V):fld Pg 31 (.agg (v::w::l)) 1=some w:=by kernel_rfl
theorem qml{D:Nat}{out:List Nat}{i w x d c p m:Nat}(hl:out.length=i)(hv:vl D out+D ^ i*w=p*m)(he:w+x*m=d+D*c):vl D (out++[d])+D ^ (i+1)*c=(p+D ^ i*x)*m:=by
 rw[qaZ,qdd,hl,Nat.pow_succ,Nat.mul_assoc,Nat.add_mul,Nat.mul_assoc]
 have h1:D ^ i*(w+x*m)=D ^ i*(d+D*c):=by rw[he]
 simp only[Nat.mul_add]at h1
 omega
theorem qf1{w x m:Nat}(hw:w<10000)(hx:x<10000)(hm:m<10000):(w+x*m) / 10000<10000∧w+x*m<1000000000:=by
 have h:=Nat.mul_le_mul (show x≤9999 by omega) (show m≤9999 by omega)
 constructor
 ·rw[Nat.div_lt_iff_lt_mul (by decide)];omega
 ·omega
theorem qhs{va:V}{a:List Nat}(ha:Sl .i64 va a)(da:Dg 10000 a)(la:a.length≤1000000){q:Nat}(hq:q<10000) :
  Gives 88 [va,.int .i64 (.ofNat q)] fun r=>∃ c,Sl .i64 r c∧Dg 10000 c∧Cn c∧vl 10000 c=vl 10000 a*q∧c.length≤a.length+1:=by
 refine qak tbl88 fun h Q hQ=>?_
 unfold rc88
 refine sR ?_
 refine sR ?_
 refine sR ?_
 refine qau (M:=fun s=>∃ out,Tk s.loc 34 (gt s.tm 5) .i64 out∧Dg 10000 out∧vl 10000 out=vl 10000 a*q∧out.length≤a.length+1∧s.hp=⟨h.rows,none,h.mods⟩) ?_ (fun s ⟨out,htk,hdg,hv,hlen,hhp⟩=>?_)
 ·refine sR ?_
  refine qaP (fun m s=>∃ i w out,m+i=a.length+1∧gt s.tm 0=va∧gt s.tm 1=.int .i64 (.ofNat q)∧gt s.tm 7=.int .i64 (.ofNat i)∧gt s.tm 6=.int .i64 (.ofNat w)∧Tk s.loc 34 (gt s.tm 5) .i64 out∧out.length=i∧Dg 10000 out∧w<10000∧(i≤a.length∨w=0)∧vl 10000 out+10000 ^ i*w=vl 10000 (a.take i)*q∧s.hp=⟨h.rows,none,h.mods⟩) (a.length+1) ⟨0,0,[],rfl,sSG,sSG,sS,sS,.inl ⟨rfl,sS⟩,rfl,Dg.nil _,by decide,.inl (Nat.zero_le _),by simp[vl],rfl⟩ ?_
  intro m s ⟨i,w,out,hm,h0,h1,h7,h6,htk,hlen,hdg,hw,hin,hv,hhp⟩
  refine qac (qau (M:=fun s'=>gt s'.tm 15=.bool (decide (i<a.length∨0<w))∧Kp [0,1,5,6,7] s.tm s'.tm∧s'.loc=s.loc∧s'.hp=s.hp) ?_ (fun s' ⟨k15,kk,kl,kh⟩=>?_))
  ·by_cases c1:i<a.length
   ·refine qad (fun n k=>by simp -implicitDefEqProofs (disch:=omega) only[go_sem,reduceIte,Nat.reduceEqDiff,h0,h7,qam ha,decide_eq_true c1];rfl) ?_
    exact⟨by rw[decide_eq_true (.inl c1)];exact sS,(by(try dsimp only);repeat (first | with_reducible exact qaH _ _ | with_reducible refine qbh (by decide) ?_)),rfl,rfl⟩
   ·refine qad (fun n k=>by simp -implicitDefEqProofs (disch:=omega) only[go_sem,reduceIte,Nat.reduceEqDiff,h0,h6,h7,qam ha,decide_eq_false c1];rfl) ?_
    exact⟨by rw[show decide (i<a.length∨0<w)=decide (0<w)by congr 1;apply propext;omega];exact sS,(by(try dsimp only);repeat (first | with_reducible exact qaH _ _ | with_reducible refine qbh (by decide) ?_)),rfl,rfl⟩
  ·have k0:=(kk 0 (by decide)).trans h0;have k1:=(kk 1 (by decide)).trans h1;have k6:=(kk 6 (by decide)).trans h6;have k7:=(kk 7 (by decide)).trans h7;have k5:=kk 5 (by decide)
   refine qaU k15 (fun hc=>qag ?_) (fun hc=>qax ?_)
   ·have hx:a.getD i 0<10000:=da.get (by decide) i
    obtain⟨b1,b2⟩:=qf1 hw hx hq
    have b3:=(qf1 (show 0<10000 by decide) hx hq).2
    rw[Nat.zero_add]at b3
    obtain⟨v5,l5,happ,htk5,hfr⟩:=qwU [(w+a.getD i 0*q) % 10000] none true htk (by simp) (by simp;omega)
    refine qac (qaq ?_)
    refine qau (M:=fun s1=>gt s1.tm 6=.int .i64 (.ofNat (w+a.getD i 0*q))∧Kp [0,1,5,7] s'.tm s1.tm∧s1.loc=s.loc∧s1.hp=s.hp) ?_ (fun s1 ⟨a6,ak,al,ah⟩=>?_)
    ·refine qac (qad (fun n k=>by simp -implicitDefEqProofs (disch:=omega) only[go_sem,reduceIte,Nat.reduceEqDiff,k0,k7,qam ha];rfl) ?_)
     refine qaU (by simp only[qal,reduceIte];rfl) (fun hia=>?_) (fun hia=>qag ?_)
     ·refine qad (fun n k=>by simp -implicitDefEqProofs (disch:=omega) only[go_sem,reduceIte,Nat.reduceEqDiff,k0,k1,k6,k7,qk9 ha];rfl) ?_
      exact⟨sS,(by(try dsimp only);repeat (first | with_reducible exact qaH _ _ | with_reducible refine qbh (by decide) ?_)),kl,kh⟩
     ·exact⟨(by simp -implicitDefEqProofs (disch:=omega) only[go_sem,reduceIte,Nat.reduceEqDiff,k6,qbR hia,Nat.zero_mul,Nat.add_zero]),(by(try dsimp only);repeat (first | with_reducible exact qaH _ _ | with_reducible refine qbh (by decide) ?_)),kl,kh⟩
    have a1:=(ak 1 (by decide)).trans k1;have a7:=(ak 7 (by decide)).trans k7;have a5:=(ak 5 (by decide)).trans k5
    refine qac (qad (fun n k=>by simp -implicitDefEqProofs (disch:=omega) only[go_sem,reduceIte,Nat.reduceEqDiff,a6,a5,al,qwL,happ];rfl) ?_)
    refine sE1 a6 ?_
    refine sE1 a7 ?_
    refine⟨m - 1,by omega,i+1,(w+a.getD i 0*q) / 10000,out++[(w+a.getD i 0*q) % 10000],by omega,(by simp -implicitDefEqProofs (disch:=omega) only[go_sem,reduceIte,Nat.reduceEqDiff,ak 0 (by decide),k0]),(sS1 a1),sS,sS,?_,by simp[hlen],hdg.snoc (Nat.mod_lt _ (by decide)),b1,?_,?_,ah.trans hhp⟩
    ·have e:∀ x y,gt (pt (pt (pt s1.tm 5 v5) 6 x) 7 y) 5=v5:=fun x y=>sS
     rw[e];exact htk5
    ·rcases Nat.lt_or_ge i a.length with q1 | q1
     ·exact .inl q1
     ·right
      rw[qbR (by omega),Nat.zero_mul]
      omega
    ·rw[qaA]
     exact qml hlen hv (by omega)
   ·rw[if_pos rfl]
    refine⟨out,by rw[kl,k5];exact htk,hdg,?_,by omega,kh.trans hhp⟩
    have en:w=0:=by omega
    subst en
    rw[List.take_of_length_le (by omega)]at hv
    simpa using hv
 ·obtain⟨v',hsl,hex⟩:=htk.out
  obtain⟨r,hr,d,⟨⟨x,rfl,hx⟩,dd,cd,_⟩,ht⟩:=qbt hsl hdg (by omega) false ⟨h.rows,none,h.mods⟩
  refine qac (qaf (hr) (fun n hn k=>by simp -implicitDefEqProofs (disch:=omega) only[go_sem,reduceIte,Nat.reduceEqDiff,hhp,qyK (Ex1.bool _) hex hn,qwa];rfl) ?_)
  exact qai (hQ _ _ (qaX (v:=x) sS (hx.ex _) rfl hx.Qao) ⟨d,hx,dd,cd,by rw[ht.vl,hv],by have:=ht.len;omega⟩)
section
variable {P:Program}{C:Cfg}{call:Qad}{gl:Nat→Bool}{o:Oper}{t' tm:Tm}{loc:Lo}{hp:Hp}{j:V→Lo→Hp→R}
theorem qoA{d:Nat}{x:Nat}{t e:TypeId}{n b:Nat}{k1 k2:IntKind}(hd:o.dst=some d)(ho:o.op=.makeSlice t (.tmp x) (.tmp x))(hg:gl d=true)(he:QaB P t=some e)(hl:Qax P e=some (1,false))(hb:(P.info? e).map (·.bytes)=some b)
  (hz:zeroV P e=some (.int k2 (.ofNat 0))) (hv:gt t' x=.int k1 (.ofNat n)) (hn:n*b≤70368744177664) (hn2:n≤70368744177664) :
  gen P C call gl o t' tm loc hp j=j (.arr (.glob hp.rows.length) 0 n (some n) 1 false) loc (qgI hp (.cells false (nl k2 (List.replicate n 0)))):=by
 have hf:flat (List.replicate n (V.int k2 (.ofNat 0)))=nl k2 (List.replicate n 0):=by
  unfold flat nl
  rw[List.map_replicate]
  clear hv hn hn2
  induction n with
  | zero=>rfl
  | succ n ih=>rw[List.replicate_succ,List.flatMap_cons,ih];rfl
 refine qaL (v:=.arr (.glob hp.rows.length) 0 n (some n) 1 false) (st:=⟨t',loc,qgI hp (.cells false (nl k2 (List.replicate n 0)))⟩) hd ?_
 have hp1:Qal P C gl (⟨t',loc,hp⟩:St).ρ (⟨t',loc,hp⟩:St).lc o=none:=by
  unfold Qal
  simp only[ho,Qam,Option.map_none]
 unfold Qah
 rw[hp1]
 unfold stepG
 simp only[ho,hd,qaB,hv,QbZ,he,hl,hb,hz]
 rw[show Nat.ble n n=true from by rw[Nat.ble_eq];exact Nat.le_refl n,show Nat.ble (n*b) Qaj=true from by rw[Nat.ble_eq];exact hn,show Nat.ble n Qaj=true from by rw[Nat.ble_eq];exact hn2]
 simp only[V.cells,List.length_cons,List.length_nil,V.live,Bool.and_self,hg,Qaa,cond_true,hf]
 rfl
theorem qnC{t e:TypeId}{ag0:Bool}(he:F.QaB P t=some e)(hl:F.Qax P e=some (1,ag0))(r:Ref)(len c:Nat)(ag:Bool)(k k':IntKind)(i m:Nat)(hi:i<m)(hm:m≤len)(hc:len≤c) :
  slc P t (.arr r 0 len (some c) 1 ag) (some (.int k (.ofNat i))) (some (.int k' (.ofNat m))) none=some (.arr r i (m - i) (some (c - i)) 1 ag):=by
 show F.Qbd P t (.arr r 0 len (some c) 1 ag) (some (.ofNat i)) (some (.ofNat m)) none=_
 unfold F.Qbd
 simp only[he,hl,Nat.beq_refl,cond_true]
 unfold F.Qbo
 simp only[Option.getD_some,F.Qau]
 rw[show Nat.ble m len=true from by rw[Nat.ble_eq];exact hm]
 simp only[cond_true]
 rw[show Nat.ble i m=true from by rw[Nat.ble_eq];omega]
 simp only[cond_true,show Nat.beq i c=false from by
  cases hb:Nat.beq i c with
  | false=>rfl
  | true=>have:=Nat.eq_of_beq_eq_true hb;omega,Bool.false_and,cond_false,Nat.mul_one,Nat.zero_add]
theorem qtF{t e:TypeId}{ag0:Bool}(he:F.QaB P t=some e)(hl:F.Qax P e=some (1,ag0))(r:Ref)(off len c:Nat)(ag:Bool)(k':IntKind)(i:Nat)(hi:i≤len) :
  slc P t (.arr r off len (some c) 1 ag) none (some (.int k' (.ofNat i))) none=some (.arr r off i (some c) 1 ag):=by
 show F.Qbd P t (.arr r off len (some c) 1 ag) none (some (.ofNat i)) none=_
 unfold F.Qbd
 simp only[he,hl,Nat.beq_refl,cond_true]
 unfold F.Qbo
 simp only[Option.getD_some,F.Qau]
 rw[show Nat.ble i len=true from by rw[Nat.ble_eq];exact hi]
 simp only[cond_true,Option.getD_none,show Nat.ble 0 i=true from Nat.ble_eq ▸ Nat.zero_le i,show(Nat.beq 0 0)=true from rfl,Bool.not_true,Bool.and_false,cond_false,Nat.zero_mul,Nat.add_zero,Nat.sub_zero]
def put(L:List Nat)(i:Nat)(l:List Nat):List Nat:=L.take i++l++L.drop (i+l.length)
theorem qje(k:IntKind)(L l:List Nat)(i:Nat)(h:i+l.length≤L.length):setAt (nl k L) i (nl k l)=some (nl k (put L i l)):=by
 unfold setAt put
 simp only[qaD]
 rw[show Nat.ble (i+l.length) L.length=true from by rw[Nat.ble_eq];exact h]
 simp only[cond_true,nl,List.map_append,List.map_take,List.map_drop]
theorem qhw{L l:List Nat}{i:Nat}(h:i+l.length≤L.length):(put L i l).length=L.length:=by
 unfold put
 simp only[List.length_append,List.length_take,List.length_drop]
 omega
theorem qoE{x:Nat}{c:Call}{t e:TypeId}{k:IntKind}{r off len:Nat}{li:Option Nat}{L:List Nat}(hd:o.dst=none)(ho:o.op=.call c)(hc:c.callee=.builtin .clear)(ha:c.args = #[.tmp x])(hty:c.argTypes[0]? = some t)
  (he:QaB P t=some e) (hl:Qax P e=some (1,false)) (hz:zeroV P e=some (.int k (.ofNat 0))) (hx:gt t' x=.arr (.glob r) off len li 1 false) (hlen:0<len) (hr:hp.rows[r]? = some (.cells false (nl k L))) (hb:off+len≤L.length) :
  gen P C call gl o t' tm loc hp j=j (.tuple []) loc (hset hp r (.cells false (nl k (put L off (List.replicate len 0))))):=by
 have hf:flat (List.replicate len (V.int k (.ofNat 0)))=nl k (List.replicate len 0):=by
  rw[←qcF]
  unfold nl
  rw[List.map_replicate]
 refine ql6 (v:=.tuple []) (st:=⟨t',loc,hset hp r (.cells false (nl k (put L off (List.replicate len 0))))⟩) hd ?_
 have hp1:Qal P C gl (⟨t',loc,hp⟩:St).ρ (⟨t',loc,hp⟩:St).lc o=none:=by
  unfold Qal
  simp only[ho,Qam,hc,ha,Option.map_none]
 unfold Qah
 rw[hp1]
 unfold stepG
 simp only[ho,QaP,hc,hty,hd,opds,ha,List.map_cons,List.map_nil,qaB,hx,Qbi,he,hl,hz,hf]
 rw[show Nat.blt 0 len=true from by rw[Nat.blt_eq];exact hlen]
 simp only[Nat.beq_refl,V.live,V.cells,V.Qap,List.length_cons,List.length_nil,List.all_cons,List.all_nil,V.Qaw,Bool.or_true,Bool.and_self,cond_true,qbQ,hr,qje k L (List.replicate len 0) off (by simpa using hb),qbx]
theorem qrl{d x y:Nat}{c:Call}{t e:TypeId}{k:IntKind}{r off len:Nat}{li:Option Nat}{L ys:List Nat}{w:V}(hd:o.dst=some d)(ho:o.op=.call c)(hc:c.callee=.builtin .copy)(ha:c.args = #[.tmp x,.tmp y])(hty:c.argTypes[0]? = some t)
  (he:QaB P t=some e) (hl:Qax P e=some (1,false)) (hxy:x≠y) (hit:Qag ⟨pt (pt .lf x (.arr (.glob r) off len li 1 false)) y w,loc,hp⟩ w=some (nl k ys)) (hys:ys.length≤len) (hr:hp.rows[r]? = some (.cells false (nl k L))) (hb:off+len≤L.length) :
  gen P C call gl o (pt (pt .lf x (.arr (.glob r) off len li 1 false)) y w) tm loc hp j=j (.int .i64 (.ofNat ys.length)) loc (hset hp r (.cells false (nl k (put L off ys)))):=by
 have hx:gt (pt (pt .lf x (.arr (.glob r) off len li 1 false)) y w) x=.arr (.glob r) off len li 1 false:=by rw[qal,if_neg (Ne.symm hxy),qal,if_pos rfl]
 have hy:gt (pt (pt .lf x (.arr (.glob r) off len li 1 false)) y w) y=w:=by rw[qal,if_pos rfl]
 have hf:flat ((nl k ys).take len)=nl k ys:=by rw[List.take_of_length_le (by rw[qaD];exact hys),qcF]
 refine qaL (v:=.int .i64 (.ofNat ys.length)) (st:=⟨pt (pt .lf x (.arr (.glob r) off len li 1 false)) y w,loc,hset hp r (.cells false (nl k (put L off ys)))⟩) hd ?_
 have hp1:Qal P C gl (⟨pt (pt .lf x (.arr (.glob r) off len li 1 false)) y w,loc,hp⟩:St).ρ (⟨pt (pt .lf x (.arr (.glob r) off len li 1 false)) y w,loc,hp⟩:St).lc o=none:=by
  unfold Qal
  simp only[ho,Qam,hc,ha,Option.map_none]
 unfold Qah
 rw[hp1]
 unfold stepG
 simp only[ho,QaP,hc,hty,hd,opds,ha,List.map_cons,List.map_nil,qaB,hx,hy,copyV,he,hl,hit,qbS,qcF,qdo,Nat.beq_refl,Bool.or_true,Bool.and_self,qbQ,hr,hf,qje k L ys off (by omega),qaD,Nat.mul_one]
 rw[show Nat.ble (off+len) L.length=true from by rw[Nat.ble_eq];exact hb,Nat.min_eq_left hys]
 simp only[cond_true,qbx]
 rfl
end
theorem tbl85:tbl 85=some ⟨rc85,[.tmp 4]⟩:=by kernel_rfl
theorem qv9(c:Qad)(t:Tm)(l:Lo)(h:Hp)(j:V→Lo→Hp→R)(k:IntKind)(n:Nat)(hn:n≤1000000000):go1 Try.f85 85 1 3 11 (.int k (.ofNat n)) c t l h j=j (.arr (.glob h.rows.length) 0 n (some n) 1 false) l (qgI h (.cells false (nl .u32 (List.replicate n 0)))) :=
 qoA (C:=Cg) (gl:=Cg.glob 85) (call:=c) (tm:=t) (loc:=l) (hp:=h) (j:=j) (t':=pt .lf 11 (.int k (.ofNat n))) (k1:=k) (n:=n) (o:=opA Try.f85 1 3) (d:=12) (x:=11) (t:=24) (e:=86) (b:=4) (by kernel_rfl) (by kernel_rfl) (by kernel_rfl) (by kernel_rfl) (by kernel_rfl) (by kernel_rfl) (by kernel_rfl) (by rw[qal,if_pos rfl]) (by omega) (by omega)
theorem qxd{a b m:Nat}(hb:b<2 ^ m):a*2 ^ m ||| b=a*2 ^ m+b:=by
 rw[Nat.mul_comm,Nat.two_pow_add_eq_or_of_lt hb]
theorem qnG{x up:Nat}(hx:x<4294967296)(hu:up≤32):x*2 ^ up<18446744073709551616:=by
 have h1:2 ^ up≤2 ^ 32:=Nat.pow_le_pow_right (by decide) hu
 calc x*2 ^ up≤4294967295*2 ^ 32:=Nat.mul_le_mul (by omega) h1
  _<_:=by decide
structure I85(v:V)(a:List Nat)(up:Nat)(h:Hp)(m:Nat)(s:St)(i:Nat)(L:List Nat):Prop where
 m:m+i=a.length
 h0:gt s.tm 13=v
 h1:gt s.tm 1=.int .u64 (.ofNat up)
 h5:gt s.tm 5=.arr (.glob h.rows.length) 0 (a.length+1) (some (a.length+1)) 1 false
 h14:gt s.tm 14=.int .i64 (.ofNat a.length)
 h15:gt s.tm 15=.int .i64 (.ofNat i)
 len:L.length=a.length+1
 dg:Dg B L
 top:L.getD i 0<2 ^ up
 zero:∀ q,i<q→L.getD q 0=0
 v:vl B L=vl B (a.take i)*2 ^ up
 row:s.hp.rows[h.rows.length]? = some (.cells false (nl .u32 L))
 rl:s.hp.rows.length=h.rows.length+1
 same:∀ q,q<h.rows.length→s.hp.rows[q]? = h.rows[q]?
 dg2:DG h.rows.length s.hp
theorem qnF(x up:Nat)(hu:up≤32):x*2 ^ up % 4294967296=x % 2 ^ (32 - up)*2 ^ up:=by
 have e:(4294967296:Nat)=2 ^ (32 - up)*2 ^ up:=by rw[←Nat.pow_add,Nat.sub_add_cancel hu]
 rw[e,Nat.mul_mod_mul_right]
theorem qxb{x up:Nat}(hx:x<4294967296):x*2 ^ up / 4294967296<2 ^ up:=by
 rw[Nat.div_lt_iff_lt_mul (by decide),Nat.mul_comm (2 ^ up)]
 exact Nat.mul_lt_mul_of_pos_right hx (Nat.two_pow_pos up)
theorem qod{x up y:Nat}(hu:up≤32)(hy:y<2 ^ up):(y ||| x*2 ^ up % 4294967296)=y+x*2 ^ up % 4294967296∧y+x*2 ^ up % 4294967296<4294967296:=by
 rw[qnF x up hu]
 have h1:x % 2 ^ (32 - up)+1≤2 ^ (32 - up):=Nat.mod_lt _ (Nat.two_pow_pos _)
 have h2:(x % 2 ^ (32 - up)+1)*2 ^ up≤2 ^ (32 - up)*2 ^ up:=Nat.mul_le_mul_right _ h1
 rw[←Nat.pow_add,Nat.sub_add_cancel hu,Nat.add_mul,Nat.one_mul]at h2
 refine⟨by rw[Nat.or_comm,qxd hy,Nat.add_comm],?_⟩
 have:(2:Nat) ^ 32=4294967296:=rfl
 omega
theorem qh2(B n:Nat):vl B (List.replicate n 0)=0:=by
 induction n with
 | zero=>rfl
 | succ n ih=>simp only[List.replicate_succ,vl,ih,Nat.mul_zero,Nat.add_zero]
theorem qeE(n i:Nat):(List.replicate n 0).getD i 0=0:=by
 rw[List.getD_eq_getElem?_getD,List.getElem?_replicate]
 split<;>rfl
theorem qiX(n:Nat):Dg B (List.replicate n 0):=by
 intro x hx
 rw[List.eq_of_mem_replicate hx];decide
theorem qwR{h h':Hp}{l:List V}(hd:DG h.rows.length h')(hl:V.Qaf l=false):Qar h h' l=⟨h'.rows,h.dirty,h.mods⟩:=by
 unfold Qar
 rw[qdc hd,hl];rfl
theorem qp4{p i v0 v1 v2 l lo hi w x u:Nat}(e1:v1+p ^ i*l=v0+p ^ i*(l+lo))(e2:v2=v1+p ^ (i+1)*hi)(hy:lo+p*hi=x*u)(hv:v0=w*u):v2=(w+p ^ i*x)*u:=by
 rw[Nat.add_mul,Nat.mul_assoc,←hy,←hv,e2,Nat.pow_succ,Nat.mul_add,Nat.mul_assoc]
 rw[Nat.mul_add]at e1
 omega
theorem qfx{v:V}{a:List Nat}{up:Nat}(hv:Sl .u32 v a)(da:Dg B a)(la:a.length≤1000000)(hu:up≤32)(h:Hp) :
  ∃ h' L,Runs Pg kn0 tbl 85 [v,.int .u64 (.ofNat up)] h (.val (.arr (.glob h.rows.length) 0 (a.length+1) (some (a.length+1)) 1 false) h')∧L.length=a.length+1∧Dg B L∧vl B L=vl B a*2 ^ up∧h'.rows.length=h.rows.length+1∧h'.rows[h.rows.length]? = some (.cells false (nl .u32 L))∧(∀ q,q<h.rows.length→h'.rows[q]? = h.rows[q]?)∧h'.dirty=h.dirty:=by
 let Post:Out→Prop:=fun o=>∃ h' L,o=.val (.arr (.glob h.rows.length) 0 (a.length+1) (some (a.length+1)) 1 false) h'∧L.length=a.length+1∧Dg B L∧vl B L=vl B a*2 ^ up∧h'.rows.length=h.rows.length+1∧h'.rows[h.rows.length]? = some (.cells false (nl .u32 L))∧(∀ q,q<h.rows.length→h'.rows[q]? = h.rows[q]?)∧h'.dirty=h.dirty
 suffices hw:WW Pg kn0 tbl rc85 ⟨QaE [v,.int .u64 (.ofNat up)],.lf,⟨h.rows,none,h.mods⟩⟩ (fun s=>∃ o,fin Pg h [.tmp 4] s=some o∧Post o) (fun _ _=>False) (fun s=>∃ o,fin Pg h [.tmp 4] s=some o∧Post o)by
  obtain⟨o,h1,h',L,rfl,h2⟩:=qcV (kn:=kn0) (h:=h) rfl tbl85 hw
  exact⟨h',L,h1,h2⟩
 unfold rc85
 refine sR ?_
 refine qac (qad (fun n k=>by simp -implicitDefEqProofs (disch:=omega) only[go_sem,reduceIte,Nat.reduceEqDiff,qae,List.getD_cons_zero,List.getD_cons_succ,qam hv,qv9];rfl) ?_)
 refine qac (qac (qad (fun n k=>by simp -implicitDefEqProofs (disch:=omega) only[go_sem,reduceIte,Nat.reduceEqDiff,qae,List.getD_cons_zero,List.getD_cons_succ,qam hv];rfl) ?_))
 refine qaP (fun m s=>∃ i L,I85 v a up h m s i L) a.length ⟨0,List.replicate (a.length+1) 0,by omega,sSG,sSG,sS,sS,sS,by simp,qiX _,?_,fun q _=>qeE _ q,?_,qff _ _,?_,fun q hq=>qgH _ _ hq,fun x hx=>by cases hx⟩ ?_
 ·rw[qeE];exact Nat.two_pow_pos _
 ·rw[qh2];simp[vl]
 ·rw[qb7]
 intro m s ⟨i,L,hm,h0,h1,h5,h14,h15,hL,hdg,htop,hz,hvl,hrow,hrl,hsame,hdg2⟩
 refine sR2 h14 h15 ?_
 refine qac (qaU (by simp only[qal,reduceIte];rfl) (fun hi=>qag ?_) (fun hi=>qax ?_))
 ·have hx:a.getD i 0<4294967296:=da.get (by decide) i
  have hp:=qnG hx hu
  obtain⟨f1,f2⟩:=qod (x:=a.getD i 0) hu htop
  have hLi:L.getD i 0<4294967296:=hdg.get (by decide) i
  have hhi:=qxb (up:=up) hx
  have hu2:(2:Nat) ^ up≤4294967296:=Nat.pow_le_pow_right (by decide) hu
  refine qac (qaq ?_)
  refine qac (qad (fun n k=>by simp -implicitDefEqProofs (disch:=omega) only[go_sem,reduceIte,Nat.reduceEqDiff,h0,h15,qj0 hv];rfl) ?_)
  refine sR1 h1 ?_
  refine qac (qad (fun n k=>by simp -implicitDefEqProofs (disch:=omega) only[go_sem,reduceIte,Nat.reduceEqDiff,h5,qbk hrow,qde L86,qbB,f1,qtv hrow];rfl) ?_)
  have hrow2:=qc5 s.hp (row:=.cells false (nl .u32 (L.set i (L.getD i 0+a.getD i 0*2 ^ up % 4294967296)))) hrow
  refine qad (fun n k=>by simp -implicitDefEqProofs (disch:=omega) only[go_sem,reduceIte,Nat.reduceEqDiff,h5,Nat.reducePow,qtu (off:=i+1) hrow2 (by rw[List.length_set];omega)];rfl) ?_
  refine sE1 h15 ?_
  refine⟨m - 1,by omega,i+1,(L.set i (L.getD i 0+a.getD i 0*2 ^ up % 4294967296)).set (i+1) (a.getD i 0*2 ^ up / 4294967296),by omega,(sS1 h0),(sS1 h1),(sS1 h5),(sS1 h14),sS,by simp[hL],(hdg.set _ f2).set _ (Nat.lt_of_lt_of_le hhi hu2),?_,?_,?_,qc5 _ hrow2,by rw[qbd,qbd];exact hrl,fun q hq=>by rw[qck _ (by omega),qck _ (by omega)];exact hsame q hq,(hdg2.set (Nat.le_refl _) _).set (Nat.le_refl _) _⟩
  ·rw[qbc _ _ _ (by rw[List.length_set];omega)];exact hhi
  ·intro q hq
   rw[qaG _ _ _ _ (by omega),qaG _ _ _ _ (by omega)]
   exact hz q (by omega)
  ·have e1:=qfu B L i (L.getD i 0+a.getD i 0*2 ^ up % 4294967296) (by omega)
   have e2:=qfu B (L.set i (L.getD i 0+a.getD i 0*2 ^ up % 4294967296)) (i+1) (a.getD i 0*2 ^ up / 4294967296) (by rw[List.length_set];omega)
   rw[qaG _ _ _ _ (by omega),hz (i+1) (by omega),Nat.mul_zero,Nat.add_zero]at e2
   rw[qaA]
   exact qp4 e1 e2 (Nat.mod_add_div _ _) hvl
 ·rw[if_pos rfl]
  have ei:i=a.length:=by omega
  subst ei
  refine sR1 h5 ?_
  rw[List.take_length]at hvl
  have key:fin Pg h [.tmp 4] ⟨pt (pt s.tm 16 (.bool (decide (a.length<a.length)))) 4 (.arr (.glob h.rows.length) 0 (a.length+1) (some (a.length+1)) 1 false),s.loc,s.hp⟩ = some (.val (.arr (.glob h.rows.length) 0 (a.length+1) (some (a.length+1)) 1 false) (Qar h s.hp [.arr (.glob h.rows.length) 0 (a.length+1) (some (a.length+1)) 1 false])):=by
   unfold fin
   simp only[Qbj,qbI,Option.map_some]
   rw[show ∀ t w,gt (pt t 4 w) 4=w from fun t w=>sS]
   rfl
  refine qai ⟨_,key,_,L,rfl,hL,hdg,hvl,?_⟩
  rw[qwR hdg2 rfl]
  exact⟨hrl,hrow,hsame,rfl⟩
theorem tbl87:tbl 87=some ⟨rc87,[.tmp 4]⟩:=by kernel_rfl
structure I87(r:Nat)(a:List Nat)(up:Nat)(c:Nat)(h:Hp)(m:Nat)(s:St)(i:Nat)(L:List Nat):Prop where
 m:m+i=a.length
 h12:gt s.tm 12=.arr (.glob r) 0 a.length (some c) 1 false
 h1:gt s.tm 1=.int .u64 (.ofNat up)
 h5:gt s.tm 5=.arr (.loc 11 1) 0 a.length (some a.length) 1 false
 h13:gt s.tm 13=.int .i64 (.ofNat a.length)
 h14:gt s.tm 14=.int .i64 (.ofNat i)
 row:lg s.loc 11=(1,.cells false (nl .u32 L))
 len:L.length=a.length
 dg:Dg B L
 top:∀ q,i=q+1→L.getD q 0<2 ^ (32 - up)
 zero:∀ q,i≤q→L.getD q 0=0
 v:vl B L*2 ^ up+a.getD 0 0 % 2 ^ up*(if i=0 then 0 else 1)=vl B (a.take i)
 hp:s.hp=h
theorem qhW{x up:Nat}(hx:x<4294967296)(hu:up<32):x*2 ^ 32 / 2 ^ up=x*2 ^ (32 - up):=by
 rw[show(2:Nat) ^ 32=2 ^ (32 - up)*2 ^ up by rw[←Nat.pow_add,Nat.sub_add_cancel (by omega)],←Nat.mul_assoc,Nat.mul_div_cancel _ (Nat.two_pow_pos up)]
theorem qwQ{x up:Nat}(hu:up<32):x*2 ^ (32 - up) / 4294967296=x / 2 ^ up:=by
 rw[show(4294967296:Nat)=2 ^ up*2 ^ (32 - up)by rw[←Nat.pow_add,Nat.add_sub_cancel' (by omega)],Nat.mul_div_mul_right _ _ (Nat.two_pow_pos _)]
theorem qwP{x up:Nat}(hx:x<4294967296)(hu:up<32):x / 2 ^ up<2 ^ (32 - up):=by
 rw[Nat.div_lt_iff_lt_mul (Nat.two_pow_pos up),←Nat.pow_add,Nat.sub_add_cancel (by omega)]
 exact hx
theorem qpL{p b v0 v1 v2 l lo hi x u r w:Nat}(e1:v1=v0+p*b*hi)(e2:v2+p*l=v1+p*(l+lo))(hx:b*hi*u+lo*u=b*x)(hv:v0*u+r=w):v2*u+r=w+p*b*x:=by
 rw[Nat.mul_add]at e2
 have e3:v2=v0+p*b*hi+p*lo:=by omega
 have e4:p*(b*hi*u+lo*u)=p*(b*x):=by rw[hx]
 rw[Nat.mul_add,←Nat.mul_assoc,←Nat.mul_assoc,←Nat.mul_assoc,←Nat.mul_assoc]at e4
 rw[e3,Nat.add_mul,Nat.add_mul]
 omega
theorem qpM{r c:Nat}{a:List Nat}{up:Nat}{h:Hp}{f:Bool}(hr:h.rows[r]? = some (.cells f (nl .u32 a)))(da:Dg B a)(la:a.length≤1000000)(hu:up<32) :
  ∃ v b,Runs Pg kn0 tbl 87 [.arr (.glob r) 0 a.length (some c) 1 false,.int .u64 (.ofNat up)] h (.val v h)∧Sl .u32 v b∧Dg B b∧vl B b=vl B a / 2 ^ up∧b.length=a.length:=by
 let Post:Out→Prop:=fun o=>∃ v b,o=.val v h∧Sl .u32 v b∧Dg B b∧vl B b=vl B a / 2 ^ up∧b.length=a.length
 suffices hw:WW Pg kn0 tbl rc87 ⟨QaE [.arr (.glob r) 0 a.length (some c) 1 false,.int .u64 (.ofNat up)],.lf,⟨h.rows,none,h.mods⟩⟩ (fun s=>∃ o,fin Pg h [.tmp 4] s=some o∧Post o) (fun _ _=>False) (fun s=>∃ o,fin Pg h [.tmp 4] s=some o∧Post o)by
  obtain⟨o,h1,v,b,rfl,h2⟩:=qcV (kn:=kn0) (h:=h) rfl tbl87 hw
  exact⟨v,b,h1,h2⟩
 unfold rc87
 refine sR ?_
 refine sRG ?_
 refine sQG ?_
 refine qaP (fun m s=>∃ i L,I87 r a up c ⟨h.rows,none,h.mods⟩ m s i L) a.length ⟨0,List.replicate a.length 0,by omega,sSG,sSG,sS,sS,sS,sS,by simp,qiX _,(fun q hq=>by omega),fun q _=>qeE _ q,by rw[qh2];simp[vl],rfl⟩ ?_
 intro m s ⟨i,L,hm,h12,h1,h5,h13,h14,hrow,hL,hdg,htop,hz,hvl,hhp⟩
 have hrr:s.hp.rows[r]? = some (.cells f (nl .u32 a)):=by rw[hhp];exact hr
 refine sR2 h13 h14 ?_
 refine qac (qaU (by simp only[qal,reduceIte];rfl) (fun hi=>qag ?_) (fun hi=>qax ?_))
 ·have hx:a.getD i 0<4294967296:=da.get (by decide) i
  have hp32:a.getD i 0*2 ^ 32<18446744073709551616:=by
   have:(2:Nat) ^ 32=4294967296:=rfl
   omega
  have hle:a.getD i 0*2 ^ (32 - up)<18446744073709551616:=by rw[←qhW hx hu];exact Nat.lt_of_le_of_lt (Nat.div_le_self _ _) hp32
  have hhi:=qwP hx hu
  have hhi2:a.getD i 0 / 2 ^ up<4294967296:=Nat.lt_of_le_of_lt (Nat.div_le_self _ _) hx
  have hLi:=hz i (Nat.le_refl _)
  refine qau (M:=fun s1=>∃ L2,gt s1.tm 12=.arr (.glob r) 0 a.length (some c) 1 false∧gt s1.tm 1=.int .u64 (.ofNat up)∧gt s1.tm 5=.arr (.loc 11 1) 0 a.length (some a.length) 1 false∧gt s1.tm 13=.int .i64 (.ofNat a.length)∧gt s1.tm 14=.int .i64 (.ofNat i)∧lg s1.loc 11=(1,.cells false (nl .u32 L2))∧L2.length=a.length∧Dg B L2∧L2.getD i 0<2 ^ (32 - up)∧(∀ q,i<q→L2.getD q 0=0)∧vl B L2*2 ^ up+a.getD 0 0 % 2 ^ up=vl B (a.take (i+1))∧s1.hp=⟨h.rows,none,h.mods⟩) ?_ ?_
  ·refine qaq ?_
   refine qac (qad (fun n k=>by simp -implicitDefEqProofs (disch:=omega) only[go_sem,reduceIte,Nat.reduceEqDiff,h12,h14,qbk hrr,qde L86];rfl) ?_)
   refine qac (qad (fun n k=>by simp -implicitDefEqProofs (disch:=omega) only[go_sem,reduceIte,Nat.reduceEqDiff,h1,Nat.reducePow,qhW hx hu];rfl) ?_)
   refine qac (qad (fun n k=>by simp -implicitDefEqProofs (disch:=omega) only[go_sem,reduceIte,Nat.reduceEqDiff,h5,hrow,hLi,Nat.zero_or,Nat.reducePow,qwQ hu];rfl) ?_)
   have e1:=qfu B L i (a.getD i 0 / 2 ^ up) (by omega)
   rw[hLi,Nat.mul_zero,Nat.add_zero]at e1
   have hmd:=Nat.div_add_mod (a.getD i 0) (2 ^ up)
   refine sR ?_
   refine qaU (by simp only[qal,reduceIte];rfl) (fun h0=>?_) (fun h0=>qag ?_)
   ·have hq:=htop (i - 1) (by omega)
    obtain⟨f1,f2⟩:=qod (x:=a.getD i 0) (up:=32 - up) (by omega) hq
    have hn1:(L.set i (a.getD i 0 / 2 ^ up)).getD (i - 1) 0=L.getD (i - 1) 0:=qaG _ _ _ _ (by omega)
    have hLq:L.getD (i - 1) 0<4294967296:=hdg.get (by decide) _
    have hb:i - 1<(L.set i (a.getD i 0 / 2 ^ up)).length:=by rw[List.length_set];omega
    refine qad (fun n k=>by simp -implicitDefEqProofs (disch:=omega) only[go_sem,reduceIte,Nat.reduceEqDiff,h5,qbB,hn1,f1,qb4 (P:=Pg) L86 1 false .u32 _ _ hb,qbV (P:=Pg) N86 _ _ hb];rfl) ?_
    refine⟨(L.set i (a.getD i 0 / 2 ^ up)).set (i - 1) (L.getD (i - 1) 0+a.getD i 0*2 ^ (32 - up) % 4294967296),(sS1 h12),(sS1 h1),(sS1 h5),(sS1 h13),(sS1 h14),sS,by simp[hL],(hdg.set _ hhi2).set _ f2,?_,?_,?_,hhp⟩
    ·rw[qaG _ _ _ _ (by omega),qbc _ _ _ (by omega)];exact hhi
    ·intro q hq
     rw[qaG _ _ _ _ (by omega),qaG _ _ _ _ (by omega)]
     exact hz q (by omega)
    ·have e2:=qfu B (L.set i (a.getD i 0 / 2 ^ up)) (i - 1) (L.getD (i - 1) 0+a.getD i 0*2 ^ (32 - up) % 4294967296) hb
     rw[hn1]at e2
     rw[if_neg (by omega),Nat.mul_one]at hvl
     rw[qaA]
     have ei:B ^ i=B ^ (i - 1)*B:=by rw[←Nat.pow_succ];congr 1;omega
     rw[ei]at e1 ⊢
     refine qpL e1 e2 ?_ hvl
     have e5:(4294967296:Nat)=2 ^ (32 - up)*2 ^ up:=by rw[←Nat.pow_add,Nat.sub_add_cancel (by omega)]
     have e3:a.getD i 0*2 ^ (32 - up) % 4294967296=a.getD i 0 % 2 ^ up*2 ^ (32 - up):=by
      rw[e5,Nat.mul_comm (2 ^ (32 - up)) (2 ^ up),Nat.mul_mod_mul_right]
     rw[e3,Nat.mul_assoc _ (2 ^ (32 - up)),←e5]
     show 4294967296*(a.getD i 0 / 2 ^ up)*2 ^ up+a.getD i 0 % 2 ^ up*4294967296=4294967296*a.getD i 0
     rw[Nat.mul_assoc,Nat.mul_comm (a.getD i 0 / 2 ^ up),Nat.mul_comm (a.getD i 0 % 2 ^ up),←Nat.mul_add,hmd]
   ·have ei:i=0:=by omega
    subst ei
    refine⟨L.set 0 (a.getD 0 0 / 2 ^ up),(sS1 h12),(sS1 h1),(sS1 h5),(sS1 h13),(sS1 h14),sS,by simpa using hL,hdg.set _ hhi2,by rw[qbc _ _ _ (by omega)];exact hhi,fun q hq=>by rw[qaG _ _ _ _ (by omega)];exact hz q (by omega),?_,hhp⟩
    rw[e1,qaA]
    simp only[if_true,Nat.mul_zero,Nat.add_zero,Nat.pow_zero,Nat.one_mul]at hvl ⊢
    rw[←hvl,Nat.add_mul,Nat.mul_comm (a.getD 0 0 / 2 ^ up)]
    omega
  ·intro s1 ⟨L2,g12,g1,g5,g13,g14,grow,gL,gdg,gtop,gz,gvl,ghp⟩
   refine sE1 g14 ?_
   exact⟨m - 1,by omega,i+1,L2,by omega,(sS1 g12),(sS1 g1),(sS1 g5),(sS1 g13),sS,(by simp -implicitDefEqProofs (disch:=omega) only[go_sem,reduceIte,Nat.reduceEqDiff,grow]),gL,gdg,fun q hq=>by rw[show q=i by omega];exact gtop,fun q hq=>gz q (by omega),by rw[if_neg (by omega),Nat.mul_one];exact gvl,ghp⟩
 ·rw[if_pos rfl]
  have ei:i=a.length:=by omega
  refine sR1 h5 ?_
  have key:fin Pg h [.tmp 4] ⟨pt (pt s.tm 15 (.bool (decide (i<a.length)))) 4 (.arr (.loc 11 1) 0 a.length (some a.length) 1 false),s.loc,s.hp⟩ = some (.val (.slice none false 1 (nl .u32 L)) h):=by
   have hx:=qiT (tm:=pt (pt s.tm 15 (.bool (decide (i<a.length)))) 4 (.arr (.loc 11 1) 0 a.length (some a.length) 1 false)) (hp:=s.hp) (li:=some a.length) hrow
   rw[hL]at hx
   exact qaX sS hx (by rw[hhp]) rfl
  refine qai ⟨_,key,_,L,rfl,.inl ⟨false,rfl⟩,hdg,?_,hL⟩
  rw[ei,List.take_length]at hvl
  rw[←hvl]
  symm
  split
  ·rw[Nat.mul_zero,Nat.add_zero,Nat.mul_div_cancel _ (Nat.two_pow_pos up)]
  ·rw[Nat.mul_one,Nat.mul_comm,Nat.mul_add_div (Nat.two_pow_pos up),Nat.div_eq_of_lt (Nat.mod_lt _ (Nat.two_pow_pos up)),Nat.add_zero]
theorem tbl89:tbl 89=some ⟨rc89,[.tmp 2]⟩:=by kernel_rfl
theorem tbl84:tbl 84=some ⟨rc84,[.tmp 2]⟩:=by kernel_rfl
def Bits(x n:Nat):Prop:=x<2 ^ n∧(0<x→2 ^ n≤2*x)
instance (x n:Nat):Decidable (Bits x n):=inferInstanceAs (Decidable (_∧_))
theorem qvY(s:Str)(k:IntKind)(i:Nat)(hi:i<s.n):idx Pg 9 (.str s) (.int k (.ofNat i))=some (.int .u8 (.ofNat (s.get i))):=by
 have hu:G.isStr (Pg.underlying 9)=true:=by rw[U9];rfl
 show(bif G.isStr (Pg.underlying 9)then (bif Nat.blt i s.n then some (V.int .u8 (.ofNat (s.get i)))else none)else none)=_
 rw[hu,show Nat.blt i s.n=true from by rw[Nat.blt_eq];exact hi]
 rfl
theorem len8:∀ i,i<256→Bits i (Str.get ⟨256,1013866857139168856493015739252390649739422828853819106890363778118420553376247557433637691341895324351018602695588957474325319502760499485336098898398377509666851054660423406800006203933793007272033180812049178612605246075062580585469430410618860250057463399279570354286669047577758927328864388992123306212451509403152394148136105363817402562688186708175358218852349079190158732807302672745370040257219644697201681238697346923541678507645485296520536209706771857694240900605172937619415410180424934769249448772944216470541052485265558808433676546390051204254346932932316488017972311616136051587427851453983453479168⟩ i)∧Str.get ⟨256,1013866857139168856493015739252390649739422828853819106890363778118420553376247557433637691341895324351018602695588957474325319502760499485336098898398377509666851054660423406800006203933793007272033180812049178612605246075062580585469430410618860250057463399279570354286669047577758927328864388992123306212451509403152394148136105363817402562688186708175358218852349079190158732807302672745370040257219644697201681238697346923541678507645485296520536209706771857694240900605172937619415410180424934769249448772944216470541052485265558808433676546390051204254346932932316488017972311616136051587427851453983453479168⟩ i≤8:=by decide +kernel
theorem Bits.up{x n k:Nat}(h:Bits (x / 2 ^ k) n)(hx:2 ^ k≤x):Bits x (k+n):=by
 have hp:=Nat.two_pow_pos k
 obtain⟨h1,h2⟩:=h
 have h3:=h2 (Nat.div_pos hx hp)
 refine⟨?_,fun _=>?_⟩
 ·rw[Nat.div_lt_iff_lt_mul hp]at h1
  rwa [Nat.pow_add,Nat.mul_comm]
 ·have h4:2 ^ k*2 ^ n≤2 ^ k*(2*(x / 2 ^ k)):=Nat.mul_le_mul_left _ h3
  have h5:=Nat.div_mul_le_self x (2 ^ k)
  rw[Nat.mul_comm]at h5
  rw[Nat.pow_add]
  have h6:2 ^ k*(2*(x / 2 ^ k))=2*(2 ^ k*(x / 2 ^ k)):=by rw[←Nat.mul_assoc,←Nat.mul_assoc,Nat.mul_comm (2 ^ k) 2]
  omega
theorem qmK{x:Nat}(hx:x<4294967296):Gives 89 [.int .u32 (.ofNat x)] fun r=>∃ n,r=.int .i64 (.ofNat n)∧Bits x n∧n≤32:=by
 refine qak tbl89 fun h Q hQ=>?_
 unfold rc89
 refine sR ?_
 have last:∀ (s:St) (y n:Nat),y<256→n≤24→(∀ m,Bits y m→Bits x (n+m))→gt s.tm 0=.int .u32 (.ofNat y)→gt s.tm 2=.int .i64 (.ofNat n)→s.hp=⟨h.rows,none,h.mods⟩→WW Pg kn0 tbl (.seq (.reg fun c t l h k=>gn Try.f89 89 7 2 c (p14 t (g0 t)) t l h (fun v0 l0 h0=>bO (idx Pg 9 (.str ⟨256,1013866857139168856493015739252390649739422828853819106890363778118420553376247557433637691341895324351018602695588957474325319502760499485336098898398377509666851054660423406800006203933793007272033180812049178612605246075062580585469430410618860250057463399279570354286669047577758927328864388992123306212451509403152394148136105363817402562688186708175358218852349079190158732807302672745370040257219644697201681238697346923541678507645485296520536209706771857694240900605172937619415410180424934769249448772944216470541052485265558808433676546390051204254346932932316488017972311616136051587427851453983453479168⟩) v0) fun v1=>gn Try.f89 89 7 4 c (p16 t v1) t l0 h0 (fun v2 l2 h2=>bO (bin Pg .add 3 false (g2 t) v2) fun v3=>k (p2 t v3) l2 h2))) .ret) s (fun _=>False) (fun _ _=>False) Q:=by
  intro s y n hy hn hb h0 h2 hh
  obtain⟨b1,b2⟩:=len8 y hy
  generalize hg:Str.get ⟨256,1013866857139168856493015739252390649739422828853819106890363778118420553376247557433637691341895324351018602695588957474325319502760499485336098898398377509666851054660423406800006203933793007272033180812049178612605246075062580585469430410618860250057463399279570354286669047577758927328864388992123306212451509403152394148136105363817402562688186708175358218852349079190158732807302672745370040257219644697201681238697346923541678507645485296520536209706771857694240900605172937619415410180424934769249448772944216470541052485265558808433676546390051204254346932932316488017972311616136051587427851453983453479168⟩ y=q at b1 b2
  refine qac (qad (fun n k=>by simp -implicitDefEqProofs (disch:=omega) only[go_sem,reduceIte,Nat.reduceEqDiff,h0,h2,qnp,qvY,hg];rfl) ?_)
  exact qai (hQ _ _ (qaX (v:=.int .i64 (.ofNat (n+q))) sS (Ex1.int _ _ _) (by rw[hh]) rfl) ⟨_,rfl,hb q b1,by omega⟩)
 refine qau (M:=fun s=>∃ y n,y<65536∧n≤16∧(∀ m,Bits y m→Bits x (n+m))∧gt s.tm 0=.int .u32 (.ofNat y)∧gt s.tm 2=.int .i64 (.ofNat n)∧s.hp=⟨h.rows,none,h.mods⟩) ?_ ?_
 ·refine sRG ?_
  refine qaU (by simp only[qal,reduceIte];rfl) (fun hb=>?_) (fun hb=>qag ?_)
  ·have e1:x / 2 ^ 16<65536:=by rw[Nat.div_lt_iff_lt_mul (by decide)];exact hx
   refine sRG ?_
   refine sE ?_
   exact⟨x / 2 ^ 16,16,e1,Nat.le_refl _,fun m hm=>hm.up hb,sS,sS,rfl⟩
  ·exact⟨x,0,by omega,by decide,fun m hm=>by rwa [Nat.zero_add],sSG,sS,rfl⟩
 intro s ⟨y,n,hy,hn,hb,h0,h2,hh⟩
 refine qau (M:=fun s=>∃ y n,y<256∧n≤24∧(∀ m,Bits y m→Bits x (n+m))∧gt s.tm 0=.int .u32 (.ofNat y)∧gt s.tm 2=.int .i64 (.ofNat n)∧s.hp=⟨h.rows,none,h.mods⟩) ?_ ?_
 ·refine sR1 h0 ?_
  refine qaU (by simp only[qal,reduceIte];rfl) (fun hc=>?_) (fun hc=>qag ?_)
  ·have e1:y / 2 ^ 8<256:=by rw[Nat.div_lt_iff_lt_mul (by decide)];exact hy
   refine sR1 h0 ?_
   refine sE1 h2 ?_
   exact⟨y / 2 ^ 8,n+8,e1,by omega,fun m hm=>by rw[Nat.add_assoc];exact hb _ (hm.up hc),sS,sS,hh⟩
  ·exact⟨y,n,by omega,by omega,hb,(sS1 h0),(sS1 h2),hh⟩
 ·intro s ⟨y,n,hy,hn,hb,h0,h2,hh⟩
  exact last s y n hy hn hb h0 h2 hh
theorem qob{x:Nat}(hx:x<4294967296)(h0:0<x):Gives 84 [.int .u32 (.ofNat x)] fun r=>∃ n,r=.int .i64 (.ofNat n)∧n<32∧2147483648≤x*2 ^ n∧x*2 ^ n<4294967296:=by
 refine qak tbl84 fun h Q hQ=>?_
 unfold rc84
 refine sR ?_
 obtain⟨_,hr,n,rfl,⟨b1,b2⟩,hn⟩:=qmK hx ⟨h.rows,none,h.mods⟩
 have b3:=b2 h0
 have hn0:0<n:=by
  rcases Nat.eq_zero_or_pos n with e | e
  ·subst e;simp at b1;omega
  ·exact e
 refine qac (qaf (hr) (fun n hn k=>by simp -implicitDefEqProofs (disch:=omega) only[go_sem,reduceIte,Nat.reduceEqDiff,qae,List.getD_cons_zero,List.getD_cons_succ,qcG hn (Ex1.int _ _)];rfl) ?_)
 have e1:(2:Nat) ^ n*2 ^ (32 - n)=4294967296:=by rw[←Nat.pow_add,Nat.add_sub_cancel' hn]
 have hp:=Nat.two_pow_pos (32 - n)
 refine qai (hQ _ _ (qaX (v:=.int .i64 (.ofNat (32 - n))) sS (Ex1.int _ _ _) rfl rfl) ⟨_,rfl,by omega,?_,?_⟩)
 ·have:=Nat.mul_le_mul_right (2 ^ (32 - n)) b3
  rw[e1,Nat.mul_assoc]at this
  omega
 ·rw[←e1]
  exact Nat.mul_lt_mul_of_pos_right b1 hp
theorem tbl86:tbl 86=some ⟨rc86,[.tmp 6]⟩:=by kernel_rfl
theorem qrs(v:V)(l:List V):fld Pg 26 (.agg (v::l)) 0=some v:=by kernel_rfl
theorem qvy(c:Qad)(t' t:Tm)(l:Lo)(h:Hp)(j:V→Lo→Hp→R):gn Try.f86 86 6 1 c t' t l h j=go1 Try.f86 86 6 1 27 (gt t' 27) c t l h j:=qtc (by kernel_rfl)
theorem qwI{r off len:Nat}{li:Option Nat}{L:List Nat}{h:Hp}(hlen:0<len)(hr:h.rows[r]? = some (.cells false (nl .u32 L)))(hb:off+len≤L.length)(c:Qad)(t:Tm)(l:Lo)(j:V→Lo→Hp→R) :
  go1 Try.f86 86 6 1 27 (.arr (.glob r) off len li 1 false) c t l h j=j (.tuple []) l (hset h r (.cells false (nl .u32 (put L off (List.replicate len 0))))) :=
 qoE (C:=Cg) (gl:=Cg.glob 86) (call:=c) (o:=opA Try.f86 6 1) (x:=27) (t:=24) (e:=86) (k:=.u32) (c:={ callee:=.builtin .clear,args:=#[.tmp 27],argTypes:=#[24] }) (by kernel_rfl) (by kernel_rfl) rfl rfl rfl (by kernel_rfl) (by kernel_rfl) (by kernel_rfl) (by rw[qal,if_pos rfl]) hlen hr hb
theorem qwH{r off len:Nat}{li:Option Nat}{L ys:List Nat}{w:V}{h:Hp}{l:Lo}(hw:∀ tm,Qag ⟨tm,l,h⟩ w=some (nl .u32 ys))(hys:ys.length≤len)(hr:h.rows[r]? = some (.cells false (nl .u32 L)))(hb:off+len≤L.length)(c:Qad)(t:Tm)(j:V→Lo→Hp→R) :
  go2 Try.f86 86 7 2 28 29 (.arr (.glob r) off len li 1 false) w c t l h j=j (.int .i64 (.ofNat ys.length)) l (hset h r (.cells false (nl .u32 (put L off ys)))) :=
 qrl (C:=Cg) (gl:=Cg.glob 86) (call:=c) (o:=opA Try.f86 7 2) (d:=30) (x:=28) (y:=29) (t:=24) (e:=86) (k:=.u32) (c:={ callee:=.builtin .copy,args:=#[.tmp 28,.tmp 29],argTypes:=#[24,24] }) (by kernel_rfl) (by kernel_rfl) rfl rfl rfl (by kernel_rfl) (by kernel_rfl) (by decide) (hw _) hys hr hb
theorem qtS{L a b:List Nat}{i:Nat}(h:b.length≤a.length)(hi:i+a.length≤L.length):put (put L i a) i b=put L i (b++a.drop b.length):=by
 have e1:(put L i a).take i=L.take i:=by
  unfold put
  rw[List.append_assoc,List.take_append_of_le_length (by simp;omega),List.take_take,Nat.min_self]
 have e2:(put L i a).drop (i+b.length)=a.drop b.length++L.drop (i+a.length):=by
  unfold put
  rw[List.append_assoc,List.drop_append,List.length_take,Nat.min_eq_left (by omega),List.drop_eq_nil_of_le (by simp;omega),List.nil_append,Nat.add_sub_cancel_left,List.drop_append,Nat.sub_eq_zero_of_le h]
  rfl
 have e3:(b++a.drop b.length).length=a.length:=by simp;omega
 show(put L i a).take i++b++(put L i a).drop (i+b.length)=L.take i++(b++a.drop b.length)++L.drop (i+(b++a.drop b.length).length)
 rw[e1,e2,e3]
 simp only[List.append_assoc]
theorem qw5(B:Nat)(a:List Nat)(n:Nat):vl B (a++List.replicate n 0)=vl B a:=by rw[qaZ,qh2];simp
theorem qgA{B:Nat}(hB:0<B){a b:List Nat}(da:Dg B a)(cb:Cn b)(h:vl B b≤vl B a):b.length≤a.length:=by
 rcases Nat.lt_or_ge a.length b.length with h1 | h1
 ·have:=qbG hB da cb h1;omega
 ·exact h1
theorem qsN{h h':Hp}{r:Nat}{row:Row}{l:List V}(hr:r<h.rows.length):(Qar h (hset h' r row) l).rows=(hset h' r row).rows:=by
 have hc:QaX h (hset h' r row)=false:=by
  have hd:(hset h' r row).dirty=lower h'.dirty r:=rfl
  unfold QaX
  rw[hd]
  cases h'.dirty with
  | none =>
   show Nat.ble h.rows.length r=false
   cases hb:Nat.ble h.rows.length r with
   | false=>rfl
   | true=>rw[Nat.ble_eq]at hb;omega
  | some x =>
   show Nat.ble h.rows.length (min x r)=false
   cases hb:Nat.ble h.rows.length (min x r)with
   | false=>rfl
   | true=>rw[Nat.ble_eq]at hb;omega
 unfold Qar
 rw[hc];rfl
theorem qmm{n r0 r1 i m q lb:Nat}{li lj:Option Nat}{L Lb:List Nat}{fb:Bool}{h:Hp}(hr0:h.rows[r0]? = some (.cells false (nl .u32 L)))(hr1:h.rows[r1]? = some (.cells fb (nl .u32 Lb)))(dL:Dg B L)(dLb:Dg B Lb)(hne:r0≠r1)
  (him:i+m≤L.length) (hm:0<m) (hlb:lb≤Lb.length) (hb:0<lb) (lL:L.length≤1000000) (lLb:Lb.length≤900000) (hq:q<4294967296) (hn:DG n h) (hn0:n≤r0) :
  ∃ ok h',Runs Pg kn0 tbl 86 [.arr (.glob r0) i m li 1 false,.arr (.glob r1) 0 lb lj 1 false,.int .u64 (.ofNat q)] h (.val (.bool ok) h')∧DG n h'∧h.rows.length≤h'.rows.length∧(∀ p,p<h.rows.length→p≠r0→h'.rows[p]? = h.rows[p]?) ∧
   (ok=false→vl B ((L.drop i).take m)<vl B (Lb.take lb)*q∧h'=h)∧(ok=true→∃ c,c.length=m∧Dg B c∧vl B c+vl B (Lb.take lb)*q=vl B ((L.drop i).take m)∧h'.rows[r0]? = some (.cells false (nl .u32 (put L i c)))):=by
 let Post:Out→Prop:=fun o=>∃ ok h',o=.val (.bool ok) h'∧DG n h'∧h.rows.length≤h'.rows.length∧(∀ p,p<h.rows.length→p≠r0→h'.rows[p]? = h.rows[p]?) ∧
   (ok=false→vl B ((L.drop i).take m)<vl B (Lb.take lb)*q∧h'=h)∧(ok=true→∃ c,c.length=m∧Dg B c∧vl B c+vl B (Lb.take lb)*q=vl B ((L.drop i).take m)∧h'.rows[r0]? = some (.cells false (nl .u32 (put L i c))))
 suffices hw:WW Pg kn0 tbl rc86 ⟨QaE [.arr (.glob r0) i m li 1 false,.arr (.glob r1) 0 lb lj 1 false,.int .u64 (.ofNat q)],.lf,⟨h.rows,none,h.mods⟩⟩ (fun s=>∃ o,fin Pg h [.tmp 6] s=some o∧Post o) (fun _ _=>False) (fun s=>∃ o,fin Pg h [.tmp 6] s=some o∧Post o)by
  obtain⟨o,h1,ok,h',rfl,h2⟩:=qcV (kn:=kn0) (h:=h) rfl tbl86 hw
  exact⟨ok,h',h1,h2⟩
 have hl0:r0<h.rows.length:=by
  rcases Nat.lt_or_ge r0 h.rows.length with h1 | h1
  ·exact h1
  ·rw[List.getElem?_eq_none h1]at hr0;simp at hr0
 unfold rc86
 refine sR ?_
 have hbl:(Lb.take lb).length=lb:=by rw[List.length_take,Nat.min_eq_left hlb]
 have hbne:Lb.take lb≠[]:=fun e=>by rw[e]at hbl;simp at hbl;omega
 have hcl1:=qfs (va:=.arr (.glob r1) 0 lb lj 1 false) ⟨h.rows,none,h.mods⟩ (by intro e;cases e) (.inr ⟨_,_,_,_,rfl⟩) hbne (by omega) (fun tm loc=>by
  have:=qdP (tm:=tm) (loc:=loc) (h:=⟨h.rows,none,h.mods⟩) (li:=lj) hr1 (off:=0) (len:=lb) (by omega)
  rwa [List.drop_zero]at this)
 obtain⟨v2,h2,d2,hg2,gr2,dd2,vl2,ll2,HG2,vn2,le2⟩:=qhH (n:=h.rows.length) (h:=qgI ⟨h.rows,none,h.mods⟩ (.cells false (nl .u32 (Lb.take lb)))) (v:=.arr (.glob h.rows.length) 0 (Lb.take lb).length none 1 false) q 0 (.inr ⟨hbne,_,rfl,qff _ _⟩) (dLb.take lb) (by omega) hq (by decide) (fun x hx=>by cases hx) (fun r e=>by cases e;exact Nat.le_refl _) (by rw[qb7];exact Nat.le_succ _)
 rcases gr2 with ⟨e2,_⟩ | ⟨ne2,r2,rfl,hr2⟩
 ·exfalso;rw[e2]at le2;simp only[List.length_nil]at le2;omega
 obtain⟨u3,h3,d3,hg3,⟨⟨s3,rfl,hs3⟩,dd3,cd3,_⟩,ht3,HG3,rl3⟩:=qgx (n:=h.rows.length) hr2 dd2 (by omega) false HG2.dg (vn2 _ rfl)
 have hrl2:=HG2.len
 rw[qb7]at hrl2
 have hrl2':h.rows.length+1≤h2.rows.length:=hrl2
 have same3:∀ p,p<h.rows.length→h3.rows[p]? = h.rows[p]?:=by
  intro p hp
  have hp2:=vn2 _ rfl
  rw[HG3.same p (by omega) (by intro e;cases e;omega),HG2.same p (by rw[qb7];exact Nat.lt_succ_of_lt hp) (by intro e;cases e;omega)]
  exact qgH ⟨h.rows,none,h.mods⟩ _ hp
 refine qac (qaf (hcl1.and (hg2.and hg3)) (fun n hn k=>by simp -implicitDefEqProofs (disch:=omega) only[go_sem,reduceIte,Nat.reduceEqDiff,qae,List.getD_cons_zero,List.getD_cons_succ,qcG hn.1 (Ex1.glob _ _ _ _ _ _),qxQ hn.2.1 (Ex1.glob _ _ _ _ _ _) (Ex1.int _ _) (Ex1.int _ _),qb5 hn.2.2 (Ex1.glob _ _ _ _ _ _) (Ex1.bool _),qrs];rfl) ?_)
 have hpl:((L.drop i).take m).length=m:=by rw[List.length_take,List.length_drop,Nat.min_eq_left (by omega)]
 have hpne:(L.drop i).take m≠[]:=fun e=>by rw[e]at hpl;simp at hpl;omega
 have hr03:h3.rows[r0]? = some (.cells false (nl .u32 L)):=by rw[same3 _ hl0];exact hr0
 have hcl4:=qfs (va:=.arr (.glob r0) i m li 1 false) h3 (by intro e;cases e) (.inr ⟨_,_,_,_,rfl⟩) hpne (by omega) (fun tm loc=>qdP (tm:=tm) (loc:=loc) (h:=⟨h3.rows,none,h3.mods⟩) (li:=li) hr03 (off:=i) (len:=m) him)
 have hrl3:h.rows.length≤h3.rows.length:=by omega
 obtain⟨u5,h5,d5,hg5,⟨⟨s5,rfl,hs5⟩,dd5,cd5,_⟩,ht5,HG5,rl5⟩:=qgx (n:=h.rows.length) (h:=qgI h3 (.cells false (nl .u32 ((L.drop i).take m)))) (qff _ _) ((dL.drop i).take m) (by omega) false (HG3.dg.add _) hrl3
 have hrl5:h.rows.length≤h5.rows.length:=by rw[rl5,qb7];omega
 have same5:∀ p,p<h.rows.length→h5.rows[p]? = h.rows[p]?:=by
  intro p hp
  rw[HG5.same p (by rw[qb7];omega) (by intro e;cases e;omega),qgH _ _ (by omega)]
  exact same3 p hp
 refine qac (qaf (hcl4.and hg5) (fun n hn k=>by simp -implicitDefEqProofs (disch:=omega) only[go_sem,reduceIte,Nat.reduceEqDiff,qae,List.getD_cons_zero,List.getD_cons_succ,qcG hn.1 (Ex1.glob _ _ _ _ _ _),qb5 hn.2 (Ex1.glob _ _ _ _ _ _) (Ex1.bool _),qrs];rfl) ?_)
 have v3:vl B d3=vl B (Lb.take lb)*q:=by rw[ht3.vl,vl2,Nat.add_zero]
 have v5:vl B d5=vl B ((L.drop i).take m):=ht5.vl B
 have l3:=ht3.len
 have l5:=ht5.len
 obtain⟨_,hcm,rfl⟩:=qbZ hs3 hs5 dd3 dd5 cd3 cd5 (by omega) (by omega) h5
 rcases Nat.lt_or_ge (vl B d5) (vl B d3)with hlt | hge
 ·have hc:Qb9 (vl B d3) (vl B d5)=.ofNat 1:=by unfold Qb9;rw[if_neg (by omega),if_pos hlt]
  rw[hc]at hcm
  refine qac (qac (qaf (hcm) (fun n hn k=>by simp -implicitDefEqProofs (disch:=omega) only[go_sem,reduceIte,Nat.reduceEqDiff,qb5 hn hs3.ex hs5.ex,qaQ];rfl) ?_))
  refine qan sS ?_
  refine sR ?_
  refine qai ⟨_,qbJ (v:=.bool false) sS (Ex1.bool _) HG5.dg rfl,false,h,rfl,hn,Nat.le_refl _,fun _ _ _=>rfl,fun _=>⟨by rw[←v3,←v5];exact hlt,rfl⟩,fun e=>by cases e⟩
 ·have hc:∃ z,Qb9 (vl B d3) (vl B d5)=z∧bin Pg .gtr 3 true (.int .i64 z) (.int .i64 (.ofNat 0))=some (.bool false):=by
   unfold Qb9
   rcases Nat.lt_or_ge (vl B d3) (vl B d5)with h1 | h1
   ·exact⟨_,rfl,by rw[if_pos h1];rfl⟩
   ·exact⟨_,rfl,by rw[if_neg (by omega),if_neg (by omega)];rfl⟩
  obtain⟨z,hz,hzb⟩:=hc
  rw[hz]at hcm
  refine qac (qac (qaf (hcm) (fun n hn k=>by simp -implicitDefEqProofs (disch:=omega) only[go_sem,reduceIte,Nat.reduceEqDiff,qb5 hn hs3.ex hs5.ex,hzb];rfl) ?_))
  refine qaj sS (qag ?_)
  have hll:d3.length≤d5.length:=qgA (by decide) dd5 cd3 hge
  obtain⟨w6,hmi,c,hsc,dc,vc,lc⟩:=qfb hs5 hs3 dd5 dd3 (by omega) hll hge h5
  refine qac (qaf (hmi) (fun n hn k=>by simp -implicitDefEqProofs (disch:=omega) only[go_sem,reduceIte,Nat.reduceEqDiff,qb5 hn hs5.ex hs3.ex];rfl) ?_)
  have hr05:h5.rows[r0]? = some (.cells false (nl .u32 L)):=by rw[same5 _ hl0];exact hr0
  refine qac (qad (fun n k=>by simp -implicitDefEqProofs (disch:=omega) only[go_sem,reduceIte,Nat.reduceEqDiff,qae,List.getD_cons_zero,List.getD_cons_succ,qvy,qwI hm hr05 him];rfl) ?_)
  have hr06:=qc5 h5 (row:=.cells false (nl .u32 (put L i (List.replicate m 0)))) hr05
  have hpz:(put L i (List.replicate m 0)).length=L.length:=qhw (by simpa using him)
  refine qac (qad (fun n k=>by simp -implicitDefEqProofs (disch:=omega) only[go_sem,reduceIte,Nat.reduceEqDiff,qae,List.getD_cons_zero,List.getD_cons_succ,qwH (fun tm=>qlY hsc _) (show c.length≤m by omega) hr06 (by rw[hpz];exact him)];rfl) ?_)
  refine sR ?_
  have hrow:=qc5 (hset h5 r0 (.cells false (nl .u32 (put L i (List.replicate m 0))))) (row:=.cells false (nl .u32 (put (put L i (List.replicate m 0)) i c))) hr06
  have hpp:put (put L i (List.replicate m 0)) i c=put L i (c++List.replicate (m - c.length) 0):=by rw[qtS (by simp;omega) (by simpa using him),List.drop_replicate]
  have hd6:DG n (hset (hset h5 r0 (.cells false (nl .u32 (put L i (List.replicate m 0))))) r0 (.cells false (nl .u32 (put (put L i (List.replicate m 0)) i c)))):=(DG.set (n:=n) (fun x hx=>Nat.le_trans (by omega) (HG5.dg x hx)) hn0 _).set hn0 _
  refine qai ⟨.val (.bool true) (Qar h (hset (hset h5 r0 (.cells false (nl .u32 (put L i (List.replicate m 0))))) r0 (.cells false (nl .u32 (put (put L i (List.replicate m 0)) i c)))) [.bool true]),?_,true,_,rfl,hn.back hd6 _,?_⟩
  ·unfold fin
   simp only[Qbj,qbI,Option.map_some]
   rw[show ∀ t w,gt (pt t 6 w) 6=w from fun t w=>sS]
   rfl
  rw[qsN hl0]
  refine⟨by rw[qbd,qbd];exact hrl5,fun p hp hne=>by rw[qck _ hne,qck _ hne];exact same5 p hp,(fun e=>by cases e),fun _=>⟨c++List.replicate (m - c.length) 0,by simp;omega,?_,by rw[qw5,←v3,←v5];exact vc,by rw[hrow,hpp]⟩⟩
  intro x hx
  rcases List.mem_append.1 hx with h1 | h1
  ·exact dc x h1
  ·rw[List.eq_of_mem_replicate h1];decide
section
variable {C:Cfg}{P:Program}{call:Qad}{gl:Nat→Bool}{o:Oper}{t' tm:Tm}{loc:Lo}{hp:Hp}
theorem qoH{d x:Nat}{s t:TypeId}{ks kd k:IntKind}{n:Int}{J:JD}{X:XD}(hd:o.dst=some d)(ho:o.op=.convert s t (.tmp x))(h1:P.underlying s=some (.int ks))(h2:P.underlying t=some (.int kd))(hv:gt t' x=.int k n) :
  qgN P C call gl o t' loc hp J X=J (.int kd (F.QaO kd n)) ⟨[],[],false,false,false,false⟩ loc hp:=by
 have hp1:Qal P C gl (⟨t',loc,hp⟩:St).ρ (⟨t',loc,hp⟩:St).lc o=some (.int kd (F.QaO kd n),none):=by
  unfold Qal
  simp only[ho,Qam,qaB,hv,Qcr,h1,h2,F.Qae,Option.map_some]
 have hf:Qaz P C gl (⟨t',loc,hp⟩:St).ρ (⟨t',loc,hp⟩:St).lc o=some ⟨[],[],false,false,false,false⟩:=by
  unfold Qaz
  rw[hp1]
  simp only[ho]
 have hs:Qah P C gl ⟨t',loc,hp⟩ o=some (.val (.int kd (F.QaO kd n)) ⟨t',loc,hp⟩):=by
  unfold Qah
  rw[hp1];rfl
 unfold qgN
 rw[F.QbN,F.QbL,F.Qcg,F.Qcq,hf]
 show G.Qac (QaA P C call gl ⟨t',loc,hp⟩ o) _ none=_
 unfold QaA
 rw[hs]
 have e1:F.settle hp hp ⟨[],[],false,false,false,false⟩ = ⟨[],[],false,false,false,false⟩:=by
  unfold F.settle
  rw[Nat.beq_refl,Nat.beq_refl];rfl
 simp only[QaF,hd]
 show J (gt (aset t' d (V.int kd (F.QaO kd n))) d) (F.settle hp hp ⟨[],[],false,false,false,false⟩) loc hp=_
 rw[qcN,qaI,if_pos rfl,e1]
end
theorem qxP(k:IntKind)(n:Int)(c:Qad)(t:Tm)(l:Lo)(h:Hp)(J:JD)(X:XD):gD Try.f78 78 18 7 c (pt t 97 (.int k n)) l h J X=J (.int .u64 (F.QaO .u64 n)) ⟨[],[],false,false,false,false⟩ l h :=
 qoH (C:=Cg) (gl:=Cg.glob 78) (call:=c) (o:=opA Try.f78 18 7) (d:=98) (x:=97) (s:=86) (t:=80) (by kernel_rfl) (by kernel_rfl) U86 U80 (by rw[qal,if_pos rfl])
theorem qwz(k:IntKind)(n:Int)(c:Qad)(t:Tm)(l:Lo)(h:Hp)(J:JD)(X:XD):gD Try.f78 78 18 15 c (pt t 105 (.int k n)) l h J X=J (.int .u64 (F.QaO .u64 n)) ⟨[],[],false,false,false,false⟩ l h :=
 qoH (C:=Cg) (gl:=Cg.glob 78) (call:=c) (o:=opA Try.f78 18 15) (d:=106) (x:=105) (s:=86) (t:=80) (by kernel_rfl) (by kernel_rfl) U86 U80 (by rw[qal,if_pos rfl])
structure Norm(b:List Nat)(up:Nat)(Lb:List Nat):Prop where
 len:Lb.length=b.length+1
 dg:Dg B Lb
 v:vl B (Lb.take b.length)=vl B b*2 ^ up
 top:0<Lb.getD (b.length - 1) 0
 lead:Lb.getD (b.length - 1) 0*B ^ (b.length - 1)≤vl B b*2 ^ up
 high:2147483648*B ^ (b.length - 1)≤vl B b*2 ^ up
theorem qtY{b Lb:List Nat}{up:Nat}(hb:b≠[])(db:Dg B b)(hu:up<32)(h1:2147483648≤b.getD (b.length - 1) 0*2 ^ up)(h2:b.getD (b.length - 1) 0*2 ^ up<4294967296)
  (hl:Lb.length=b.length+1) (dL:Dg B Lb) (hv:vl B Lb=vl B b*2 ^ up):Norm b up Lb:=by
 have hp:0<b.length:=List.length_pos_iff.2 hb
 have hB:0<B:=by decide
 have hu0:=Nat.two_pow_pos up
 have eb:=qns B b (b.length - 1) (by omega)
 rw[List.drop_eq_nil_of_le (show b.length≤b.length - 1+1 by omega)]at eb
 simp only[vl,Nat.mul_zero,Nat.add_zero]at eb
 have t1:vl B (b.take (b.length - 1))<B ^ (b.length - 1):=qaV hB (db.take _) (by simp)
 have hpow:B ^ b.length=B ^ (b.length - 1)*B:=by rw[←Nat.pow_succ];congr 1;omega
 generalize hx:b.getD (b.length - 1) 0=x at *
 generalize hP:B ^ (b.length - 1)=p at *
 have hx1:(x+1)*2 ^ up≤4294967296:=by
  have e5:(4294967296:Nat)=2 ^ (32 - up)*2 ^ up:=by rw[←Nat.pow_add,Nat.sub_add_cancel (by omega)]
  rw[e5]at h2 ⊢
  exact Nat.mul_le_mul_right _ (Nat.lt_of_mul_lt_mul_right h2)
 have hlt:vl B b*2 ^ up<B ^ b.length:=by
  rw[hpow]
  have h3:vl B b<p*(x+1):=by rw[eb,Nat.mul_add,Nat.mul_one];omega
  have h4:vl B b*2 ^ up<p*(x+1)*2 ^ up:=Nat.mul_lt_mul_of_pos_right h3 hu0
  rw[Nat.mul_assoc]at h4
  exact Nat.lt_of_lt_of_le h4 (Nat.mul_le_mul_left _ hx1)
 have hvt:vl B (Lb.take b.length)=vl B b*2 ^ up:=by
  rw[←qs0 B hB Lb dL,hv,Nat.mod_eq_of_lt hlt]
 have hhigh:2147483648*p≤vl B b*2 ^ up:=by
  have h3:p*x≤vl B b:=by rw[eb];omega
  have h4:p*x*2 ^ up≤vl B b*2 ^ up:=Nat.mul_le_mul_right _ h3
  have h5:p*2147483648≤p*(x*2 ^ up):=Nat.mul_le_mul_left _ h1
  rw[Nat.mul_assoc]at h4
  rw[Nat.mul_comm]
  omega
 have el:=qns B (Lb.take b.length) (b.length - 1) (by simp;omega)
 have et:(Lb.take b.length).getD (b.length - 1) 0=Lb.getD (b.length - 1) 0:=qeD _ _ _ (by omega)
 rw[List.drop_eq_nil_of_le (show(Lb.take b.length).length≤b.length - 1+1 by simp;omega),et,hvt,hP]at el
 simp only[vl,Nat.mul_zero,Nat.add_zero]at el
 have t2:vl B ((Lb.take b.length).take (b.length - 1))<p:=by rw[←hP];exact qaV hB ((dL.take _).take _) (by simp;omega)
 have hp0:0<p:=by rw[←hP];exact Nat.pow_pos hB
 refine⟨hl,dL,hvt,?_,?_,by rw[hP];exact hhigh⟩
 ·rcases Nat.eq_zero_or_pos (Lb.getD (b.length - 1) 0)with e | e
  ·rw[e,Nat.mul_zero,Nat.add_zero]at el;omega
  ·exact e
 ·rw[hP,el,Nat.mul_comm];omega
theorem qre{rv bv bt two p:Nat}(hbt:0<bt)(hp:rv<(two+1)*p)(hl:bt*p≤bv)(hB:rv<bv*B):rv<bv*(min (two / bt) 4294967295+1):=by
 rcases Nat.lt_or_ge (two / bt) 4294967295 with h | h
 ·rw[Nat.min_eq_left (by omega)]
  have h1:two+1≤bt*(two / bt+1):=by
   have:=Nat.lt_mul_div_succ two hbt
   omega
  calc rv<(two+1)*p:=hp
   _≤bt*(two / bt+1)*p:=Nat.mul_le_mul_right _ h1
   _=bt*p*(two / bt+1):=by rw[Nat.mul_assoc,Nat.mul_comm (two / bt+1),←Nat.mul_assoc]
   _≤bv*(two / bt+1):=Nat.mul_le_mul_right _ hl
 ·rw[Nat.min_eq_right h];exact hB
structure Div(a' bv lb la i:Nat)(L O:List Nat):Prop where
 len:L.length=la+1
 olen:O.length=la
 dg:Dg B L
 odg:Dg B O
 eq:vl B L+bv*vl B O=a'
 low:vl B (L.drop i)<bv
 zero:∀ j,j<i→O.getD j 0=0
theorem qo7{a L:List Nat}{up lb bv:Nat}(da:Dg B a)(hl:L.length=a.length+1)(dL:Dg B L)(hv:vl B L=vl B a*2 ^ up)(hu:up<32)(hlb:0<lb)(hla:lb≤a.length)(hh:2147483648*B ^ (lb - 1)≤bv) :
  Div (vl B a*2 ^ up) bv lb a.length (a.length - lb+1) L (List.replicate a.length 0):=by
 refine⟨hl,by simp,dL,qiX _,by rw[qh2,hv];simp,?_,fun j _=>qeE _ j⟩
 have hB:0<B:=by decide
 rw[←qnr B hB L dL,hv,Nat.div_lt_iff_lt_mul (Nat.pow_pos hB)]
 have h1:vl B a<B ^ a.length:=qaV hB da (Nat.le_refl _)
 have h2:(2:Nat) ^ up≤2147483648:=Nat.pow_le_pow_right (n:=2) (by decide) (show up≤31 by omega)
 have h3:B ^ a.length=B ^ (lb - 1)*B ^ (a.length - lb+1):=by rw[←Nat.pow_add];congr 1;omega
 calc vl B a*2 ^ up<B ^ a.length*2 ^ up:=Nat.mul_lt_mul_of_pos_right h1 (Nat.two_pow_pos up)
  _≤B ^ a.length*2147483648:=Nat.mul_le_mul_left _ h2
  _=2147483648*B ^ (lb - 1)*B ^ (a.length - lb+1):=by rw[h3,Nat.mul_comm,Nat.mul_assoc]
  _≤bv*B ^ (a.length - lb+1):=Nat.mul_le_mul_right _ hh
theorem Div.rest{a' bv lb la i:Nat}{L O:List Nat}(D:Div a' bv lb la (i+1) L O)(hb:bv<B ^ lb)(hi:i+lb≤la):vl B (L.drop (i+lb+1))=0:=by
 have h1:=D.low
 have h2:=qdD B (L.drop (i+1)) lb
 have hl:=D.len
 rw[Nat.min_eq_left (show lb≤(L.drop (i+1)).length by simp;omega),List.drop_drop,show i+1+lb=i+lb+1 by omega]at h2
 rcases Nat.eq_zero_or_pos (vl B (L.drop (i+lb+1)))with e | e
 ·exact e
 ·exfalso
  have:B ^ lb*1≤B ^ lb*vl B (L.drop (i+lb+1)):=Nat.mul_le_mul_left _ e
  omega
theorem Div.part{a' bv lb la i:Nat}{L O:List Nat}(D:Div a' bv lb la (i+1) L O)(hb:bv<B ^ lb)(hi:i+lb≤la):vl B ((L.drop i).take (lb+1))=vl B (L.drop i):=by
 have h2:=qdD B (L.drop i) (lb+1)
 rw[List.drop_drop,show i+(lb+1)=i+lb+1 by omega,D.rest hb hi]at h2
 omega
theorem Div.lt{a' bv lb la i:Nat}{L O:List Nat}(D:Div a' bv lb la (i+1) L O)(hi:i+lb≤la):vl B (L.drop i)<bv*B:=by
 have hl:=D.len
 rw[qa8 B L i (by omega)]
 have h1:=D.low
 have h2:L.getD i 0<B:=D.dg.get (by decide) i
 have h3:B*(vl B (L.drop (i+1))+1)≤B*bv:=Nat.mul_le_mul_left _ h1
 rw[Nat.mul_add,Nat.mul_one]at h3
 rw[Nat.mul_comm bv]
 omega
theorem Div.two{a' bv lb la i:Nat}{L O:List Nat}(D:Div a' bv lb la (i+1) L O)(hb:bv<B ^ lb)(hi:i+lb≤la)(hlb:0<lb):vl B (L.drop i)<(L.getD (i+lb) 0*4294967296+L.getD (i+(lb - 1)) 0+1)*B ^ (lb - 1):=by
 have hl:=D.len
 have h2:=qdD B (L.drop i) (lb - 1)
 rw[Nat.min_eq_left (show lb - 1≤(L.drop i).length by simp;omega),List.drop_drop,qa8 B L (i+(lb - 1)) (by omega),show i+(lb - 1)+1=i+lb by omega,qa8 B L (i+lb) (by omega),D.rest hb hi,Nat.mul_zero,Nat.add_zero]at h2
 have h3:vl B ((L.drop i).take (lb - 1))<B ^ (lb - 1):=qaV (by decide) ((D.dg.drop i).take _) (by simp;omega)
 rw[h2,Nat.mul_comm _ (B ^ (lb - 1)),Nat.mul_add (B ^ (lb - 1)) _ 1,Nat.mul_one,show L.getD (i+lb) 0*4294967296+L.getD (i+(lb - 1)) 0=L.getD (i+(lb - 1)) 0+B*L.getD (i+lb) 0 by rw[Nat.mul_comm,Nat.add_comm]]
 omega
theorem Div.next{a' bv lb la i q:Nat}{L O c:List Nat}(D:Div a' bv lb la (i+1) L O)(hb:bv<B ^ lb)(hi:i+lb≤la)(hlb:0<lb)(hc:c.length=lb+1)(dc:Dg B c)(hv:vl B c+bv*q=vl B (L.drop i))(hlt:vl B c<bv)(hq:q<B) :
  Div a' bv lb la i (put L i c) (O.set i q):=by
 have hl:=D.len
 have ho:=D.olen
 have e1:vl B ((put L i c).drop i)=vl B c:=by
  unfold put
  rw[List.append_assoc,List.drop_append,List.length_take,Nat.min_eq_left (by omega),List.drop_eq_nil_of_le (by simp;omega),List.nil_append,Nat.sub_self,List.drop_zero,qaZ,hc,show i+(lb+1)=i+lb+1 by omega,D.rest hb hi,Nat.mul_zero,Nat.add_zero]
 have e2:(put L i c).take i=L.take i:=by
  unfold put
  rw[List.append_assoc,List.take_append_of_le_length (by simp;omega),List.take_take,Nat.min_self]
 have hpl:(put L i c).length=L.length:=qhw (by omega)
 refine⟨hpl.trans hl,by simp[ho],?_,D.odg.set _ hq,?_,by rw[e1];exact hlt,fun j hj=>by rw[qaG _ _ _ _ (by omega)];exact D.zero j (by omega)⟩
 ·intro x hx
  unfold put at hx
  rcases List.mem_append.1 hx with h1 | h1
  ·rcases List.mem_append.1 h1 with h2 | h2
   ·exact D.dg.take i x h2
   ·exact dc x h2
  ·exact D.dg.drop _ x h1
 ·have s1:=qdD B (put L i c) i
  have s2:=qdD B L i
  rw[e1,e2,hpl]at s1
  rw[Nat.min_eq_left (by omega)]at s1 s2
  have s3:=qfu B O i q (by omega)
  rw[D.zero i (by omega),Nat.mul_zero,Nat.add_zero]at s3
  have s4:=D.eq
  rw[s1,s3,Nat.mul_add]
  rw[s2,←hv]at s4
  rw[Nat.mul_add]at s4
  have s5:bv*(B ^ i*q)=B ^ i*(bv*q):=by rw[←Nat.mul_assoc,←Nat.mul_assoc,Nat.mul_comm bv]
  omega
theorem qwA{va vb up lb la:Nat}{L O:List Nat}(D:Div (va*2 ^ up) (vb*2 ^ up) lb la 0 L O):vl B O*vb+vl B L / 2 ^ up=va∧vl B L / 2 ^ up<vb:=by
 have h1:=D.eq
 have h2:=D.low
 have hp:=Nat.two_pow_pos up
 rw[List.drop_zero]at h2
 have h3:vl B L / 2 ^ up<vb:=by rw[Nat.div_lt_iff_lt_mul hp];exact h2
 refine⟨?_,h3⟩
 have h4:vl B L / 2 ^ up+vb*vl B O=va:=by
  have e:vl B L+vb*vl B O*2 ^ up=va*2 ^ up:=by rw[←h1,Nat.mul_assoc vb,Nat.mul_comm (vl B O),←Nat.mul_assoc]
  have e2:(vl B L+vb*vl B O*2 ^ up) / 2 ^ up=va:=by rw[e,Nat.mul_div_cancel _ hp]
  rwa [Nat.add_mul_div_right _ _ hp]at e2
 rw[Nat.mul_comm];omega
theorem tbl78:tbl 78=some ⟨rc78,[.tmp 4,.tmp 5]⟩:=by kernel_rfl
theorem qgT{h:Hp}{a b d g n:Nat}{li:Option Nat}{k:IntKind}{l:List Nat}{s:St}{w:V}(hv:gt s.tm a=.arr (.loc d g) 0 n li 1 false)(hn:n=l.length)(hr:lg s.loc d=(g,.cells false (nl k l)))(hw:gt s.tm b=w)(pw:Ex1 w)(rw':w.Qao=true)(hd:DG h.rows.length s.hp) :
  fin Pg h [.tmp a,.tmp b] s=some (.val (.tuple [.slice none false 1 (nl k l),w]) h):=by
 subst hn
 unfold fin
 have e1:Qbj Pg s [.tmp a,.tmp b]=some [.arr (.loc d g) 0 l.length li 1 false,w]:=by simp only[Qbj,qbI,hv,hw,Option.map_some]
 rw[e1]
 have e2:exps false s [.arr (.loc d g) 0 l.length li 1 false,w]=some ([.slice none false 1 (nl k l),w],⟨s.tm,lp s.loc d (g,.cells true (nl k l)),s.hp⟩):=by
  rw[show ∀ (st:St) (v:V) (r:List V),exps false st (v::r)=(match exp false st v with
   | none=>none
   | some (v',st')=>match exps false st' r with
    | none=>none
    | some (l',st'')=>some (v'::l',st'')) from fun _ _ _=>rfl]
  have hx:=qiT (tm:=s.tm) (hp:=s.hp) (li:=li) hr
  have hx':exp false s (.arr (.loc d g) 0 l.length li 1 false)=some (.slice none false 1 (nl k l),⟨s.tm,lp s.loc d (g,.cells true (nl k l)),s.hp⟩):=hx
  rw[hx']
  simp only[qb3 [w] _ ⟨pw,trivial⟩]
 simp only[e2]
 show some (Out.val (.tuple [.slice none false 1 (nl k l),w]) (Qar h s.hp [.slice none false 1 (nl k l),w]))=_
 unfold Qar
 rw[qdc hd]
 simp only[V.Qaf,V.Qao,rw',Bool.and_self,cond_true,Option.isNone_none]
theorem qkK{n x b:Nat}(hn:n<b)(hb:b≤4294967296)(hx:x<4294967296):(n*4294967296+x) / b<4294967296:=by
 rw[Nat.div_lt_iff_lt_mul (by omega)]
 have:=Nat.mul_le_mul_right 4294967296 (show n+1≤b by omega)
 rw[Nat.mul_comm 4294967296]
 omega
structure I78(va:V)(a b Lb:List Nat)(up N:Nat)(s:St)(m:Nat)(L O:List Nat):Prop where
 h0:gt s.tm 0=va
 h1:gt s.tm 1=.arr (.glob N) 0 b.length (some (b.length+1)) 1 false
 h9:gt s.tm 9=.int .u64 (.ofNat up)
 h10:gt s.tm 10=.arr (.glob (N+1)) 0 (a.length+1) (some (a.length+1)) 1 false
 h11:gt s.tm 11=.arr (.loc 78 1) 0 a.length (some a.length) 1 false
 h12:gt s.tm 12=.int .i64 (.ofNat (b.length - 1))
 row:lg s.loc 78=(1,.cells false (nl .u32 O))
 rb:s.hp.rows[N]? = some (.cells false (nl .u32 Lb))
 rl:s.hp.rows[N+1]? = some (.cells false (nl .u32 L))
 dg:DG N s.hp
 D:Div (vl B a*2 ^ up) (vl B b*2 ^ up) b.length a.length m L O
def qBS(a b:List Nat)(r:V):Prop:=∃ s t d e,r=.tuple [s,t]∧Sl .u32 s d∧Sl .u32 t e∧Dg B d∧Dg B e∧Cn e∧vl B d*vl B b+vl B e=vl B a∧vl B e<vl B b∧d.length=a.length
theorem qkt{va vb:V}{a b:List Nat}(ha:Sl .u32 va a)(hb:Sl .u32 vb b)(da:Dg B a)(db:Dg B b)(cb:Cn b)(hne:b≠[])(hle:b.length≤a.length)(la:a.length≤400000):Gives 78 [va,vb] (qBS a b):=by
 have hb0:0<b.length:=List.length_pos_iff.2 hne
 have htop:b.getD (b.length - 1) 0≠0:=cb _ (by omega)
 refine qak tbl78 fun h Q hQ=>?_
 unfold rc78
 refine sR ?_
 by_cases h1:b.length=1
 ·have hbb:b=[b.getD 0 0]:=by
   obtain⟨x,rfl⟩:=List.length_eq_one_iff.1 h1
   rfl
  have hvb:vl B b=b.getD 0 0:=by rw[hbb,qdd];rfl
  have hx0:b.getD 0 0≠0:=by rw[h1]at htop;exact htop
  have hxB:b.getD 0 0<4294967296:=db.get (by decide) 0
  refine qac (qac (qad (fun n k=>by simp -implicitDefEqProofs (disch:=omega) only[go_sem,reduceIte,Nat.reduceEqDiff,qae,List.getD_cons_zero,List.getD_cons_succ,qam hb,h1,qaQ];rfl) ?_))
  refine qan sS ?_
  refine qac (qad (fun n k=>by simp -implicitDefEqProofs (disch:=omega) only[go_sem,reduceIte,Nat.reduceEqDiff,qae,List.getD_cons_zero,List.getD_cons_succ,qam ha];rfl) ?_)
  refine qac (qac (qad (fun n k=>by simp -implicitDefEqProofs (disch:=omega) only[go_sem,reduceIte,Nat.reduceEqDiff,qae,List.getD_cons_zero,List.getD_cons_succ,qam ha,qgG];rfl) ?_))
  refine qaP (fun m s=>∃ z O,m≤a.length∧gt s.tm 8=.int .i64 (dn m)∧gt s.tm 7=.int .u64 (.ofNat z)∧z<b.getD 0 0∧gt s.tm 0=va∧gt s.tm 1=vb∧gt s.tm 6=.arr (.loc 21 1) 0 a.length (some a.length) 1 false∧lg s.loc 21=(1,.cells false (nl .u32 O))∧O.length=a.length∧Dg B O∧vl B (a.drop m)=b.getD 0 0*vl B (O.drop m)+z∧s.hp=⟨h.rows,none,h.mods⟩) a.length ⟨0,List.replicate a.length 0,Nat.le_refl _,sS,sS,by omega,sSG,sSG,sS,sS,by simp,qiX _,by rw[List.drop_length,List.drop_eq_nil_of_le (by simp)];rfl,rfl⟩ ?_
  intro m s ⟨z,O,hm,h8,h7,hz,g0,g1,h6,hrow,hO,dO,hv,hhp⟩
  cases m with
  | zero =>
   refine qac (qac (qad (fun n k=>by simp -implicitDefEqProofs (disch:=omega) only[go_sem,reduceIte,Nat.reduceEqDiff,h8,dn];rfl) ?_))
   refine qaj sS (qax ?_)
   rw[if_pos rfl]
   obtain⟨r,hr,e,⟨⟨s2,rfl,hs2⟩,de,ce,he0⟩,ht⟩:=qa3 (va:=.slice none false 1 (nl .u32 [z])) (a:=[z]) (.inl ⟨false,rfl⟩) (fun x hx=>by rw[List.mem_singleton.1 hx];exact Nat.lt_trans hz hxB) (by simp) false ⟨h.rows,none,h.mods⟩
   have hl56:lg (lp s.loc 56 ((lg s.loc 56).1+1,.cells false (nl .u32 [z]))) 56=((lg s.loc 56).1+1,.cells false (nl .u32 [z])):=by rw[qbr,if_pos rfl]
   refine qac (qaf (hr) (fun n hn k=>by simp -implicitDefEqProofs (disch:=omega) only[go_sem,reduceIte,Nat.reduceEqDiff,h7,h6,hhp,qlu (show 1=[z].length from rfl) hl56 hn (Ex1.bool _),qrs];rfl) ?_)
   refine qai (hQ _ _ (qgT (d:=21) (li:=some a.length) (g:=1) (k:=.u32) (l:=O) sS hO.symm (sS1 hrow) sS hs2.ex hs2.Qao (fun x hx=>by cases hx)) ⟨_,_,O,e,rfl,.inl ⟨false,rfl⟩,hs2,dO,de,ce,?_,?_,hO⟩)
   ·rw[ht.vl,qdd,hvb,Nat.mul_comm]
    simpa using hv.symm
   ·rw[ht.vl,qdd,hvb];exact hz
  | succ i =>
   have h8':gt s.tm 8=.int .i64 (.ofNat i):=h8
   have hx:a.getD i 0<4294967296:=da.get (by decide) i
   have hq:=qkK hz (Nat.le_of_lt hxB) hx
   refine qac (qac (qad (fun n k=>by simp -implicitDefEqProofs (disch:=omega) only[go_sem,reduceIte,Nat.reduceEqDiff,h8',qaQ];rfl) ?_))
   refine qan sS (qag ?_)
   refine qac (qaq ?_)
   refine qac (qad (fun n k=>by simp -implicitDefEqProofs (disch:=omega) only[go_sem,reduceIte,Nat.reduceEqDiff,h7,g0,h8',qj0 ha,Nat.reducePow,qn1];rfl) ?_)
   refine qac (qad (fun n k=>by simp -implicitDefEqProofs (disch:=omega) only[go_sem,reduceIte,Nat.reduceEqDiff,g1,qj0 hb,h6,h8',hrow];rfl) ?_)
   refine qad (fun n k=>by simp -implicitDefEqProofs (disch:=omega) only[go_sem,reduceIte,Nat.reduceEqDiff,g1,qj0 hb];rfl) ?_
   refine qad (fun n k=>by simp -implicitDefEqProofs (disch:=omega) only[go_sem,reduceIte,Nat.reduceEqDiff,h8',qgG];rfl) ?_
   refine⟨i,by omega,(z*4294967296+a.getD i 0) % b.getD 0 0,O.set i ((z*4294967296+a.getD i 0) / b.getD 0 0),by omega,sS,sS,Nat.mod_lt _ (by omega),(sS1 g0),(sS1 g1),(sS1 h6),sS,by simpa using hO,dO.set _ hq,?_,hhp⟩
   rw[qa8 B a i (by omega),qa8 B _ i (by rw[List.length_set];omega),hv,qbc _ _ _ (by omega),qg4]
   have:=Nat.div_add_mod (z*4294967296+a.getD i 0) (b.getD 0 0)
   rw[Nat.mul_add,Nat.mul_add]
   have e1:B*(b.getD 0 0*vl B (O.drop (i+1)))=b.getD 0 0*(B*vl B (O.drop (i+1))):=by rw[←Nat.mul_assoc,←Nat.mul_assoc,Nat.mul_comm B]
   have e2:B*z=z*4294967296:=Nat.mul_comm _ _
   omega
 ·have hxB:b.getD (b.length - 1) 0<4294967296:=db.get (by decide) _
  obtain⟨_,hlz,up,rfl,hup,hlo,hhi⟩:=qob hxB (Nat.pos_of_ne_zero htop) ⟨h.rows,none,h.mods⟩
  refine qac (qac (qad (fun n k=>by simp -implicitDefEqProofs (disch:=omega) only[go_sem,reduceIte,Nat.reduceEqDiff,qae,List.getD_cons_zero,List.getD_cons_succ,qam hb,qaY];rfl) ?_))
  refine qaj sS (qag ?_)
  refine qac (qaf (hlz) (fun n hn k=>by simp -implicitDefEqProofs (disch:=omega) only[go_sem,reduceIte,Nat.reduceEqDiff,qae,List.getD_cons_zero,List.getD_cons_succ,qam hb,qj0 hb,qcG hn (Ex1.int _ _),qek];rfl) ?_)
  obtain⟨k1,Lb,hs1,lLb,dLb,vLb,rl1,rr1,rs1,rd1⟩:=qfx hb db (by omega) (show up≤32 by omega) ⟨h.rows,none,h.mods⟩
  have hN:=qtY hne db hup hlo hhi lLb dLb vLb
  refine qac (qaf (hs1) (fun n hn k=>by simp -implicitDefEqProofs (disch:=omega) only[go_sem,reduceIte,Nat.reduceEqDiff,qae,List.getD_cons_zero,List.getD_cons_succ,qam hb,qb5 hn hb.ex (Ex1.int _ _),qtF E24 L86];rfl) ?_)
  obtain⟨k2,L0,hs2,lL0,dL0,vL0,rl2,rr2,rs2,rd2⟩:=qfx ha da (by omega) (show up≤32 by omega) k1
  refine qac (qaf (hs2) (fun n hn k=>by simp -implicitDefEqProofs (disch:=omega) only[go_sem,reduceIte,Nat.reduceEqDiff,qae,List.getD_cons_zero,List.getD_cons_succ,qb5 hn ha.ex (Ex1.int _ _)];rfl) ?_)
  refine qac (qad (fun n k=>by simp -implicitDefEqProofs (disch:=omega) only[go_sem,reduceIte,Nat.reduceEqDiff,qae,List.getD_cons_zero,List.getD_cons_succ,qam ha];rfl) ?_)
  refine qac (qad (fun n k=>by simp -implicitDefEqProofs (disch:=omega) only[go_sem,reduceIte,Nat.reduceEqDiff,qae,List.getD_cons_zero,List.getD_cons_succ,qk6];rfl) ?_)
  refine qac (qac (qad (fun n k=>by simp -implicitDefEqProofs (disch:=omega) only[go_sem,reduceIte,Nat.reduceEqDiff,qae,List.getD_cons_zero,List.getD_cons_succ,qam ha,qk6];rfl) ?_))
  rw[rl1]at rl2 rr2 rs2
  have rl1':k1.rows.length=h.rows.length+1:=rl1
  have hlB:vl B b*2 ^ up<B ^ b.length:=by rw[←hN.v];exact qaV (by decide) (dLb.take _) (by simp;omega)
  have hDG:DG h.rows.length k2:=by intro x hx;rw[rd2,rd1]at hx;cases hx
  have hst:=qo7 da lL0 dL0 vL0 hup hb0 hle hN.high
  refine qaP (fun m s=>∃ L O,m≤a.length - b.length+1∧gt s.tm 13=.int .i64 (dn m)∧I78 va a b Lb up h.rows.length s m L O) (a.length - b.length+1) ⟨L0,List.replicate a.length 0,Nat.le_refl _,(by simp -implicitDefEqProofs (disch:=omega) only[go_sem,reduceIte,Nat.reduceEqDiff,dn]),⟨sSG,sS,sS,(sS1 rl1'),sS,sS,sS,by rw[rs2 _ (Nat.lt_succ_self _)];exact rr1,rr2,hDG,hst⟩⟩ ?_
  intro m s ⟨L,O,hm,h13,H⟩
  have H':=H
  obtain⟨g0,g1,g9,g10,g11,g12,row,rb,rl,dg,D⟩:=H'
  have hLl:=D.len
  have hOl:=D.olen
  cases m with
  | zero =>
   refine qac (qac (qad (fun n k=>by simp -implicitDefEqProofs (disch:=omega) only[go_sem,reduceIte,Nat.reduceEqDiff,h13,dn];rfl) ?_))
   refine qaj sS (qax ?_)
   rw[if_pos rfl]
   obtain⟨de1,de2⟩:=qwA (va:=vl B a) (vb:=vl B b) (up:=up) (lb:=b.length) (la:=a.length) D
   obtain⟨w,e,hbk,hse,dde,vee,lee⟩:=qpM (c:=a.length+1) rl D.dg (by omega) hup
   rw[hLl]at hbk
   obtain⟨r,hr,f,⟨⟨s2,rfl,hs2⟩,df,cf,hf0⟩,ht⟩:=qa3 hse dde (by omega) false s.hp
   refine qac (qaf (hbk.and hr) (fun n hn k=>by simp -implicitDefEqProofs (disch:=omega) only[go_sem,reduceIte,Nat.reduceEqDiff,g9,g10,g11,qb5 hn.1 (Ex1.glob _ _ _ _ _ _) (Ex1.int _ _),qb5 hn.2 hse.ex (Ex1.bool _),qrs];rfl) ?_)
   refine qai (hQ _ _ (qgT (d:=78) (li:=some a.length) (g:=1) (k:=.u32) (l:=O) sS hOl.symm (by simp -implicitDefEqProofs (disch:=omega) only[go_sem,reduceIte,Nat.reduceEqDiff,row]) sS hs2.ex hs2.Qao dg) ⟨_,_,O,f,rfl,.inl ⟨false,rfl⟩,hs2,D.odg,df,cf,?_,?_,hOl⟩)
   ·rw[ht.vl,vee];exact de1
   ·rw[ht.vl,vee];exact de2
  | succ i =>
   have h13':gt s.tm 13=.int .i64 (.ofNat i):=h13
   have hi:i+b.length≤a.length:=by omega
   have e1:i+(b.length - 1)+1=i+b.length:=by omega
   have e2:i+(b.length - 1)+2 - i=b.length+1:=by omega
   have x1:L.getD (i+b.length) 0<4294967296:=D.dg.get (by decide) _
   have x2:L.getD (i+(b.length - 1)) 0<4294967296:=D.dg.get (by decide) _
   have x3:Lb.getD (b.length - 1) 0<4294967296:=dLb.get (by decide) _
   have x4:=hN.top
   refine qac (qac (qad (fun n k=>by simp -implicitDefEqProofs (disch:=omega) only[go_sem,reduceIte,Nat.reduceEqDiff,h13',qaQ];rfl) ?_))
   refine qan sS (qag ?_)
   refine qac (qaq ?_)
   refine qac (qad (fun n k=>by simp -implicitDefEqProofs (disch:=omega) only[go_sem,reduceIte,Nat.reduceEqDiff,h13',g10,g12,e1,qbk rl,qde L86,qxP,qwz,Nat.reducePow,qn1];exact qav (by kernel_rfl)) ?_)
   have lLb':=hN.len
   have hw:F.QaO .u64 (.ofNat ((L.getD (i+b.length) 0*4294967296+L.getD (i+(b.length - 1)) 0) / Lb.getD (b.length - 1) 0))=.ofNat ((L.getD (i+b.length) 0*4294967296+L.getD (i+(b.length - 1)) 0) / Lb.getD (b.length - 1) 0):=qek (Nat.lt_of_le_of_lt (Nat.div_le_self _ _) (by omega))
   refine qac (qad (fun n k=>by simp -implicitDefEqProofs (disch:=omega) only[go_sem,reduceIte,Nat.reduceEqDiff,g1,g12,qbk rb,qde L86,hw,qyX];rfl) ?_)
   have hlt:=D.lt hi
   have hgs:=qre hN.top (D.two hlB hi hb0) hN.lead hlt
   refine qau (M:=fun s1=>∃ q c,gt s1.tm 15=.int .u64 (.ofNat q)∧q<4294967296∧gt s1.tm 13=.int .i64 (.ofNat i)∧gt s1.tm 0=va∧gt s1.tm 1=.arr (.glob h.rows.length) 0 b.length (some (b.length+1)) 1 false∧gt s1.tm 9=.int .u64 (.ofNat up)∧gt s1.tm 10=.arr (.glob (h.rows.length+1)) 0 (a.length+1) (some (a.length+1)) 1 false∧gt s1.tm 11=.arr (.loc 78 1) 0 a.length (some a.length) 1 false∧gt s1.tm 12=.int .i64 (.ofNat (b.length - 1))∧lg s1.loc 78=(1,.cells false (nl .u32 O))∧s1.hp.rows[h.rows.length]? = some (.cells false (nl .u32 Lb))∧s1.hp.rows[h.rows.length+1]? = some (.cells false (nl .u32 (put L i c)))∧DG h.rows.length s1.hp∧Div (vl B a*2 ^ up) (vl B b*2 ^ up) b.length a.length i (put L i c) (O.set i q)) ?_ ?_
   ·refine qaP (fun m s1=>gt s1.tm 15=.int .u64 (.ofNat m)∧m<4294967296∧vl B (L.drop i)<vl B b*2 ^ up*(m+1)∧gt s1.tm 13=.int .i64 (.ofNat i)∧I78 va a b Lb up h.rows.length s1 (i+1) L O) _ ⟨sS,Nat.lt_of_le_of_lt (Nat.min_le_right _ _) (by decide),hgs,(sS1 h13'),⟨(sS1 g0),(sS1 g1),(sS1 g9),(sS1 g10),(sS1 g11),(sS1 g12),(by simp -implicitDefEqProofs (disch:=omega) only[go_sem,reduceIte,Nat.reduceEqDiff,row]),rb,rl,dg,D⟩⟩ ?_
    intro q s1 ⟨j15,hq,hrv,j13,⟨i0,i1,i9,i10,i11,i12,irow,irb,irl,idg,_⟩⟩
    have hpt:=D.part hlB hi
    obtain⟨ok,hq',htk,tdg,tlen,tsame,tno,tyes⟩:=qmm (n:=h.rows.length) (r0:=h.rows.length+1) (r1:=h.rows.length) (i:=i) (m:=b.length+1) (q:=q) (lb:=b.length) (li:=some (a.length+1 - i)) (lj:=some (b.length+1)) irl irb D.dg dLb (by omega) (by omega) (by omega) (by omega) hb0 (by omega) (by omega) hq idg (Nat.le_succ _)
    rw[hpt,hN.v]at tno tyes
    have hNr:h.rows.length<s1.hp.rows.length:=by
     rcases Nat.lt_or_ge h.rows.length s1.hp.rows.length with h1 | h1
     ·exact h1
     ·rw[List.getElem?_eq_none h1]at irb;simp at irb
    cases ok with
    | true =>
     obtain⟨c,lc,dc,vc,rc⟩:=tyes rfl
     refine qac (qac (qaf (htk) (fun n hn k=>by simp -implicitDefEqProofs (disch:=omega) only[go_sem,reduceIte,Nat.reduceEqDiff,i1,i10,i12,j13,j15,e2,qnC E24 L86,qxQ hn (Ex1.glob _ _ _ _ _ _) (Ex1.glob _ _ _ _ _ _) (Ex1.int _ _)];rfl) ?_))
     refine qaj sS (qax ?_)
     rw[if_pos rfl]
     refine⟨q,c,(sS1 j15),hq,(sS1 j13),(sS1 i0),(sS1 i1),(sS1 i9),(sS1 i10),(sS1 i11),(sS1 i12),(by simp -implicitDefEqProofs (disch:=omega) only[go_sem,reduceIte,Nat.reduceEqDiff,irow]),by rw[tsame _ hNr (by omega)];exact irb,rc,tdg,D.next hlB hi hb0 lc dc vc ?_ hq⟩
     rw[Nat.mul_add,Nat.mul_one]at hrv
     omega
    | false =>
     obtain⟨tlt,rfl⟩:=tno rfl
     have hq0:0<q:=by
      rcases Nat.eq_zero_or_pos q with e | e
      ·subst e;simp at tlt
      ·exact e
     refine qac (qac (qaf (htk) (fun n hn k=>by simp -implicitDefEqProofs (disch:=omega) only[go_sem,reduceIte,Nat.reduceEqDiff,i1,i10,i12,j13,j15,e2,qnC E24 L86,qxQ hn (Ex1.glob _ _ _ _ _ _) (Ex1.glob _ _ _ _ _ _) (Ex1.int _ _)];rfl) ?_))
     refine qan sS (qag (qaq ?_))
     refine qad (fun n k=>by simp -implicitDefEqProofs (disch:=omega) only[go_sem,reduceIte,Nat.reduceEqDiff,j15,qek];rfl) ?_
     exact⟨q - 1,by omega,sS,by omega,by rw[Nat.sub_add_cancel hq0];exact tlt,(sS1 j13),⟨(sS1 i0),(sS1 i1),(sS1 i9),(sS1 i10),(sS1 i11),(sS1 i12),(by simp -implicitDefEqProofs (disch:=omega) only[go_sem,reduceIte,Nat.reduceEqDiff,irow]),irb,irl,idg,D⟩⟩
   ·intro s1 ⟨q,c,j15,hq,j13,i0,i1,i9,i10,i11,i12,irow,irb,irl,idg,iD⟩
    refine qad (fun n k=>by simp -implicitDefEqProofs (disch:=omega) only[go_sem,reduceIte,Nat.reduceEqDiff,j13,j15,i11,irow,qel];rfl) ?_
    refine qad (fun n k=>by simp -implicitDefEqProofs (disch:=omega) only[go_sem,reduceIte,Nat.reduceEqDiff,j13,qgG];rfl) ?_
    exact⟨i,by omega,put L i c,O.set i q,by omega,sS,⟨(sS1 i0),(sS1 i1),(sS1 i9),(sS1 i10),(sS1 i11),(sS1 i12),sS,irb,irl,idg,iD⟩⟩
theorem tbl70:tbl 70=some ⟨rc70,[.cell 2 31]⟩:=by kernel_rfl
theorem qmB{l:List Nat}(hd:Dg 256 l)(hl:l.length≤1000):Gives 70 [.str (sl l)] fun r=>IsR 252 r (zOf l):=by
 refine qak tbl70 fun h Q hQ=>?_
 obtain⟨_,hp,v,rfl,hI⟩:=qkZ hd hl ⟨h.rows,none,h.mods⟩
 obtain⟨s,b,rfl,ps,es,qs⟩:=hI.form
 unfold rc70
 refine sR ?_
 refine qac (qaf (hp) (fun n hn k=>by simp -implicitDefEqProofs (disch:=omega) only[go_sem,reduceIte,Nat.reduceEqDiff,qae,List.getD_cons_zero,List.getD_cons_succ,qcG hn (Ex1.str _),qaJ,qah N31 1 (.bool b) s (.bool false) .nils _ rfl ps.ok];rfl) ?_)
 refine qac (qad (fun n k=>by simp -implicitDefEqProofs (disch:=omega) only[go_sem,reduceIte,Nat.reduceEqDiff,qaz L31,qah N31 1 (.bool b) s (.bool false) .nils _ rfl ps.ok];rfl) ?_)
 exact qai (hQ _ _ (qaW (x:=.bool b) (y:=s) (f:=false) (d:=2) (g:=1) (by kernel_rfl) sS sS (Pl.bool _) ps rfl) hI)
theorem tbl30:tbl 30=some ⟨rc30,[.cell 4 31]⟩:=by kernel_rfl
theorem qwF{call:Qad}{f:FuncId}{d g:Nat}{li:Option Nat}{k:IntKind}{l:List Nat}{f0:Bool}{w:V}{tm:Tm}{loc:Lo}{hp h':Hp}{j:V→Lo→Hp→R}{r:V}{n:Nat}(hn:n=l.length)(h:lg loc d=(g,.cells f0 (nl k l)))
  (hc:call f [w,.slice none false 1 (nl k l)] hp=some (.val r h')) (hw:Ex1 w):cl call f [w,.arr (.loc d g) 0 n li 1 false] tm loc hp j=j r (lp loc d (g,.cells true (nl k l))) h':=by
 subst hn
 refine qme (st:=⟨.lf,lp loc d (g,.cells true (nl k l)),hp⟩) (l:=[w,.slice none false 1 (nl k l)]) ?_ hc
 unfold exps
 rw[hw]
 simp only[exps,qiT h]
structure Qeg(s u:V)(b c:Bool)(N:Nat)(h:Hp)(out:List Nat)(st:St):Prop where
 h2:gt st.tm 2=.ptr (.loc 2 1) 0
 h3:gt st.tm 3=.ptr (.loc 3 1) 0
 h4:gt st.tm 4=.ptr (.loc 4 1) 0
 h5:gt st.tm 5=.arr (.loc 17 1) 0 N (some N) 1 false
 l2:lg st.loc 2=(1,.cells false [.bool b,s])
 l3:lg st.loc 3=(1,.cells false [.bool c,u])
 l4:lg st.loc 4=(1,.cells false [.bool false,.nils])
 l17:lg st.loc 17=(1,.cells false (nl .i64 out))
 len:out.length=N
 dg:Dg 10000 out
 hp:st.hp=h
theorem qci{k l:Nat}{va vb:V}{x y:Int}(ha:IsR k va x)(hb:IsR l vb y)(hk:k≤1000000)(hl:l≤1000000):Gives 30 [va,vb] fun r=>IsR (k+l) r (x*y):=by
 obtain⟨d,b,⟨⟨s,rfl,hs⟩,dd,cd,h0⟩,rfl,hdl⟩:=ha
 obtain⟨e,c,⟨⟨u,rfl,hu⟩,de,ce,he0⟩,rfl,hel⟩:=hb
 refine qak tbl30 fun h Q hQ=>?_
 unfold rc30
 refine sRG ?_
 refine qac (qad (fun n k=>by simp -implicitDefEqProofs (disch:=omega) only[go_sem,reduceIte,Nat.reduceEqDiff,qae,List.getD_cons_zero,List.getD_cons_succ,qao L29,qam hs,qam hu];rfl) ?_)
 refine qau (M:=fun st=>∃ out,Qeg s u b c (d.length+e.length) ⟨h.rows,none,h.mods⟩ out st∧vl 10000 out=vl 10000 d*vl 10000 e) ?_ (fun st ⟨out,H,hv⟩=>?_)
 ·refine sR ?_
  refine qaP (fun m st=>∃ i out,m+i=d.length∧Qeg s u b c (d.length+e.length) ⟨h.rows,none,h.mods⟩ out st∧gt st.tm 6=.int .i64 (.ofNat i)∧vl 10000 out=vl 10000 (d.take i)*vl 10000 e∧∀ j,i+e.length≤j→out.getD j 0=0) d.length ⟨0,List.replicate (d.length+e.length) 0,rfl,⟨sS,sS,sS,sS,sS,sS,sS,sS,by simp,fun x hx=>by rw[List.eq_of_mem_replicate hx];decide,rfl⟩,sS,by rw[qh1];simp[vl],fun j _=>by rw[List.getD_eq_getElem?_getD,List.getElem?_replicate];split<;>rfl⟩ ?_
  intro m st ⟨i,out,hm,H,h6,hv,hz⟩
  obtain⟨h2,h3,h4,h5,l2,l3,l4,l17,hlen,hdg,hhp⟩:=H
  refine qac (qac (qad (fun n k=>by simp -implicitDefEqProofs (disch:=omega) only[go_sem,reduceIte,Nat.reduceEqDiff,h6,h2,l2,qao L29,qam hs];rfl) ?_))
  refine qaU (by simp only[qal,reduceIte];rfl) (fun hi=>qag ?_) (fun hi=>qax ?_)
  ·have hx:d.getD i 0<10000:=dd.get (by decide) i
   refine qac (qaq ?_)
   refine sR ?_
   refine sR ?_
   refine qaP (fun m2 s1=>∃ k o2 w,m2+k=e.length+1∧Qeg s u b c (d.length+e.length) ⟨h.rows,none,h.mods⟩ o2 s1∧gt s1.tm 6=.int .i64 (.ofNat i)∧gt s1.tm 7=.int .i64 (.ofNat w)∧gt s1.tm 8=.int .i64 (.ofNat k)∧w<10000∧vl 10000 o2+10000 ^ (i+k)*w=vl 10000 out+10000 ^ i*(d.getD i 0*vl 10000 (e.take k))∧(∀ j,i+1+e.length≤j→o2.getD j 0=0)∧((k≤e.length∧o2.getD (i+e.length) 0=0)∨(k=e.length+1∧w=0))) (e.length+1) ⟨0,out,0,rfl,⟨(sS1 h2),(sS1 h3),(sS1 h4),(sS1 h5),(sS1 l2),(sS1 l3),(sS1 l4),(sS1 l17),hlen,hdg,hhp⟩,(sS1 h6),sS,sS,by decide,by simp[vl],fun j hj=>hz j (by omega),.inl ⟨Nat.zero_le _,hz _ (Nat.le_refl _)⟩⟩ ?_
   intro m2 s1 ⟨k,o2,w,hm2,H2,j6,j7,j8,hw,hv2,hz2,hcase⟩
   obtain⟨i2,i3,i4,i5,k2,k3,k4,k17,hlen2,hdg2,hhp2⟩:=H2
   refine qac (qau (M:=fun s2=>gt s2.tm 33=.bool (decide (k<e.length∨0<w))∧Kp [2,3,4,5,6,7,8] s1.tm s2.tm∧s2.loc=s1.loc∧s2.hp=s1.hp) ?_ (fun s2 ⟨g33,gk,gl,gh⟩=>?_))
   ·by_cases c1:k<e.length
    ·refine qad (fun n k=>by simp -implicitDefEqProofs (disch:=omega) only[go_sem,reduceIte,Nat.reduceEqDiff,i3,k3,j8,qao L29,qam hu,decide_eq_true c1];rfl) ?_
     exact⟨by rw[decide_eq_true (.inl c1)];exact sS,(by(try dsimp only);repeat (first | with_reducible exact qaH _ _ | with_reducible refine qbh (by decide) ?_)),rfl,rfl⟩
    ·refine qad (fun n k=>by simp -implicitDefEqProofs (disch:=omega) only[go_sem,reduceIte,Nat.reduceEqDiff,i3,k3,j7,j8,qao L29,qam hu,decide_eq_false c1];rfl) ?_
     exact⟨by rw[show decide (k<e.length∨0<w)=decide (0<w)by congr 1;apply propext;omega];exact sS,(by(try dsimp only);repeat (first | with_reducible exact qaH _ _ | with_reducible refine qbh (by decide) ?_)),rfl,rfl⟩
   ·have p2:=(gk 2 (by decide)).trans i2;have p3:=(gk 3 (by decide)).trans i3;have p4:=(gk 4 (by decide)).trans i4;have p5:=(gk 5 (by decide)).trans i5
    have p6:=(gk 6 (by decide)).trans j6;have p7:=(gk 7 (by decide)).trans j7;have p8:=(gk 8 (by decide)).trans j8
    rw[←gl]at k2 k3 k4 k17
    refine qaU g33 (fun hcont=>qag ?_) (fun hcont=>qax ?_)
    ·have hy:e.getD k 0<10000:=de.get (by decide) k
     have ho:o2.getD (i+k) 0<10000:=hdg2.get (by decide) _
     have hxy:d.getD i 0*e.getD k 0≤9999*9999:=Nat.mul_le_mul (by omega) (by omega)
     have hik:i+k<d.length+e.length:=by omega
     refine qac (qaq ?_)
     refine qac (qad (fun n k=>by simp -implicitDefEqProofs (disch:=omega) only[go_sem,reduceIte,Nat.reduceEqDiff,p5,p6,p7,p8,k17,qb4 L3];rfl) ?_)
     refine qau (M:=fun s3=>gt s3.tm 9=.int .i64 (.ofNat (o2.getD (i+k) 0+w+d.getD i 0*e.getD k 0))∧Kp [2,3,4,5,6,7,8] s2.tm s3.tm∧s3.loc=s2.loc∧s3.hp=s2.hp) ?_ (fun s3 ⟨q9,qk,ql,qh⟩=>?_)
     ·refine qac (qad (fun n k=>by simp -implicitDefEqProofs (disch:=omega) only[go_sem,reduceIte,Nat.reduceEqDiff,p3,k3,p8,qao L29,qam hu];rfl) ?_)
      refine qaU (by simp only[qal,reduceIte];rfl) (fun c1=>?_) (fun c1=>qag ?_)
      ·refine qad (fun n k=>by simp -implicitDefEqProofs (disch:=omega) only[go_sem,reduceIte,Nat.reduceEqDiff,p2,p3,k2,k3,p6,p8,qao L29,qk9 hs,qk9 hu];rfl) ?_
       exact⟨sS,(by(try dsimp only);repeat (first | with_reducible exact qaH _ _ | with_reducible refine qbh (by decide) ?_)),rfl,rfl⟩
      ·exact⟨(by simp -implicitDefEqProofs (disch:=omega) only[go_sem,reduceIte,Nat.reduceEqDiff,qbR c1,Nat.mul_zero,Nat.add_zero]),(by(try dsimp only);repeat (first | with_reducible exact qaH _ _ | with_reducible refine qbh (by decide) ?_)),rfl,rfl⟩
     ·have r2:=(qk 2 (by decide)).trans p2;have r3:=(qk 3 (by decide)).trans p3;have r4:=(qk 4 (by decide)).trans p4;have r5:=(qk 5 (by decide)).trans p5
      have r6:=(qk 6 (by decide)).trans p6;have r8:=(qk 8 (by decide)).trans p8
      rw[←ql]at k2 k3 k4 k17
      refine qad (fun n k=>by simp -implicitDefEqProofs (disch:=omega) only[go_sem,reduceIte,Nat.reduceEqDiff,r5,r6,r8,q9,k17,qbV N3];rfl) ?_
      refine sE1 r8 ?_
      refine⟨m2 - 1,by omega,k+1,o2.set (i+k) ((o2.getD (i+k) 0+w+d.getD i 0*e.getD k 0) % 10000),(o2.getD (i+k) 0+w+d.getD i 0*e.getD k 0) / 10000,by omega,⟨(sS1 r2),(sS1 r3),(sS1 r4),(sS1 r5),(sS1 k2),(sS1 k3),(sS1 k4),sS,by simp[hlen2],hdg2.set _ (Nat.mod_lt _ (by decide)),by rw[←hhp2,←gh,←qh]⟩,(sS1 r6),sS,sS,by omega,?_,fun j hj=>by rw[qaG _ _ _ _ (by omega)];exact hz2 j hj,?_⟩
      ·rw[qaA]
       exact qlV (qfu 10000 o2 (i+k) _ (by omega)) (by omega) hv2
      ·by_cases c1:k<e.length
       ·left
        refine⟨by omega,?_⟩
        rw[qaG _ _ _ _ (by omega)]
        rcases hcase with q | q
        ·exact q.2
        ·omega
       ·right
        have hl2:k=e.length∧o2.getD (i+e.length) 0=0:=by
         rcases hcase with q | q
         ·exact⟨by omega,q.2⟩
         ·omega
        obtain⟨ek,ho0⟩:=hl2
        refine⟨by omega,?_⟩
        have e0:e.getD k 0=0:=qbR (by omega)
        have o0:o2.getD (i+k) 0=0:=by rw[ek];exact ho0
        rw[e0,Nat.mul_zero,o0]
        omega
    ·rw[if_pos rfl]
     have hw0:w=0∧e.length≤k:=by omega
     obtain⟨rfl,hke⟩:=hw0
     rw[Nat.mul_zero,Nat.add_zero,List.take_of_length_le hke]at hv2
     refine sE1 p6 ?_
     refine⟨m - 1,by omega,i+1,o2,by omega,⟨(sS1 p2),(sS1 p3),(sS1 p4),(sS1 p5),k2,k3,k4,k17,hlen2,hdg2,gh.trans hhp2⟩,sS,?_,fun j hj=>hz2 j (by omega)⟩
     rw[hv2,qaA,Nat.add_mul,←hv,Nat.mul_assoc]
  ·rw[if_pos rfl]
   have ei:i=d.length:=by omega
   subst ei
   rw[List.take_length]at hv
   exact⟨out,⟨(sS1 h2),(sS1 h3),(sS1 h4),(sS1 h5),(sS1 l2),(sS1 l3),(sS1 l4),(sS1 l17),hlen,hdg,hhp⟩,hv⟩
 ·obtain⟨h2,h3,h4,h5,l2,l3,l4,l17,hlen,hdg,hhp⟩:=H
  obtain⟨r,hr,f,⟨⟨s2,rfl,hs2⟩,df,cf,hf0⟩,ht⟩:=qbt (va:=.slice none false 1 (nl .i64 out)) (a:=out) (.inl ⟨false,rfl⟩) hdg (by omega) (!(b == c)) ⟨h.rows,none,h.mods⟩
  have hlen3:=ht.len
  refine qac (qaf (hr) (fun n hn k=>by simp -implicitDefEqProofs (disch:=omega) only[go_sem,reduceIte,Nat.reduceEqDiff,h2,h3,h4,h5,l2,l3,l4,hhp,qar L4,qdB 4 false b c U4,qwF hlen.symm l17 hn (Ex1.bool _),qah N31 1 (.bool (!(b == c) && !f.isEmpty)) s2 (.bool false) .nils _ rfl hs2.pl.ok];rfl) ?_)
  refine qai (hQ _ _ (qaW (x:=.bool (!(b == c) && !f.isEmpty)) (y:=s2) (f:=false) (d:=4) (g:=1) (by kernel_rfl) (sS1 h4) sS (Pl.bool _) hs2.pl rfl) ⟨f,_,⟨⟨s2,rfl,hs2⟩,df,cf,hf0⟩,?_,by omega⟩)
  have e3:=ht.vl 10000
  rw[hv]at e3
  have e4:(vl 10000 f:Int)=(vl 10000 d:Int)*(vl 10000 e:Int):=by rw[e3];simp
  cases f with
  | nil =>
   have e5:(vl 10000 d:Int)*(vl 10000 e:Int)=0:=by rw[←e4];rfl
   cases b<;>cases c<;>simp only[zr,vl,cond_true,cond_false,Int.neg_mul,Int.mul_neg,Int.neg_neg,e5]<;>rfl
  | cons x0 l0=>cases b<;>cases c<;>simp only[zr,cond_true,cond_false,Int.neg_mul,Int.mul_neg,Int.neg_neg,e4]<;>simp[e4]
section
variable {C:Cfg}{P:Program}{call:Qad}{gl:Nat→Bool}{o:Oper}{t' tm:Tm}{loc:Lo}{hp:Hp}
end
section
variable {P:Program}{C:Cfg}{call:Qad}{gl:Nat→Bool}{o:Oper}{loc:Lo}{hp:Hp}
end
theorem qfj{h:Hp}{a t d g a2 t2 d2 g2:Nat}{f f2:Bool}{s:St}{x y x2 y2:V}(hl:Qax Pg t=some (2,true))(hl2:Qax Pg t2=some (2,true))(hv:gt s.tm a=.ptr (.loc d g) 0)(hv2:gt s.tm a2=.ptr (.loc d2 g2) 0)(hr:lg s.loc d=(g,.cells f [x,y]))(hr2:lg s.loc d2=(g2,.cells f2 [x2,y2]))(hx:Pl x)(hy:Pl y)(hx2:Pl x2)(hy2:Pl y2)(hc:DG h.rows.length s.hp) :
  fin Pg h [.cell a t,.cell a2 t2] s=some (.val (.tuple [.agg [x,y],.agg [x2,y2]]) h):=by
 unfold fin
 have e1:Qbj Pg s [.cell a t,.cell a2 t2]=some [.agg [x,y],.agg [x2,y2]]:=by
  simp only[Qbj,qbI,hv,hv2,qap hr,qap hr2,QaV,hl,hl2,Option.map_some]
  rfl
 rw[e1]
 have e2:=qb3 [.agg [x,y],.agg [x2,y2]] s ⟨qda (cs:=[x,y]) (by intro v hv;simp at hv;rcases hv with rfl | rfl<;>assumption),qda (cs:=[x2,y2]) (by intro v hv;simp at hv;rcases hv with rfl | rfl<;>assumption),trivial⟩
 simp only[e2]
 unfold Qar
 rw[qdc hc]
 simp only[V.Qaf,V.Qao,hx.refs,hy.refs,hx2.refs,hy2.refs,Bool.and_self,cond_true]
section
variable {C:Cfg}{P:Program}{call:Qad}{gl:Nat→Bool}{o:Oper}{t' tm:Tm}{loc:Lo}{hp:Hp}
theorem qcm{d:Nat}{v:V}{J:JD}{X:XD}{t:TypeId}{l:Array (Nat × Operand)}(hd:o.dst=some d)(ho:o.op=.build t l)(hp1:Qal P C gl (⟨t',loc,hp⟩:St).ρ (⟨t',loc,hp⟩:St).lc o=some (v,none)) :
  qgN P C call gl o t' loc hp J X=J v ⟨[],[],false,false,false,false⟩ loc hp:=by
 have hf:Qaz P C gl (⟨t',loc,hp⟩:St).ρ (⟨t',loc,hp⟩:St).lc o=some ⟨[],[],false,false,false,false⟩:=by
  unfold Qaz
  rw[hp1]
  simp only[ho]
 have hs:Qah P C gl ⟨t',loc,hp⟩ o=some (.val v ⟨t',loc,hp⟩):=by
  unfold Qah
  rw[hp1];rfl
 unfold qgN
 rw[F.QbN,F.QbL,F.Qcg,F.Qcq,hf]
 show G.Qac (QaA P C call gl ⟨t',loc,hp⟩ o) _ none=_
 unfold QaA
 rw[hs]
 have e1:F.settle hp hp ⟨[],[],false,false,false,false⟩ = ⟨[],[],false,false,false,false⟩:=by
  unfold F.settle
  rw[Nat.beq_refl,Nat.beq_refl];rfl
 simp only[QaF,hd]
 show J (gt (aset t' d v) d) (F.settle hp hp ⟨[],[],false,false,false,false⟩) loc hp=_
 rw[qcN,qaI,if_pos rfl,e1]
end
theorem qss(c:Qad)(t:Tm)(l:Lo)(h:Hp)(J:JD)(X:XD):gD Try.f37 37 2 0 c t l h J X=J (.agg [.nils,.bool false]) ⟨[],[],false,false,false,false⟩ l h :=
 qcm (C:=Cg) (gl:=Cg.glob 37) (call:=c) (o:=opA Try.f37 2 0) (d:=15) (t:=26) (l:=#[]) (by kernel_rfl) (by kernel_rfl) (by kernel_rfl)
theorem IsI.shrink{k l:Nat}{v:V}{z:Int}(h:IsI k v z)(hz:z.natAbs<B ^ l):IsI l v z:=by
 obtain⟨d,b,⟨hv,dd,cd,h0⟩,rfl,hl⟩:=h
 refine⟨d,b,⟨hv,dd,cd,h0⟩,rfl,?_⟩
 rcases Nat.lt_or_ge l d.length with h1 | h1
 ·exfalso
  have h2:=qnq (B:=B) cd (by intro e;subst e;simp at h1)
  have h3:(zv d b).natAbs=vl B d:=by unfold zv;cases b<;>simp
  rw[h3]at hz
  have h4:B ^ l≤B ^ (d.length - 1):=Nat.pow_le_pow_right (by decide) (by omega)
  omega
 ·exact h1
theorem IsI.QdS{k:Nat}{v:V}{z:Int}(h:IsI k v z):z.natAbs<B ^ k:=by
 obtain⟨d,b,⟨hv,dd,cd,h0⟩,rfl,hl⟩:=h
 have h3:(zv d b).natAbs=vl B d:=by unfold zv;cases b<;>simp
 rw[h3]
 exact qaV (by decide) dd hl
theorem qrL{d e q r:Nat}(h:q*e+r=d)(hr:r<e):(d:Int) / (e:Int)=q∧(d:Int) % (e:Int)=r:=by
 rw[Int.ediv_emod_unique (by omega)]
 refine⟨?_,by omega,by omega⟩
 rw[←h,Int.natCast_add,Int.natCast_mul,Int.mul_comm,Int.add_comm]
theorem qrN{d e q:Nat}(h:q*e=d)(he:0<e):-(d:Int) / (e:Int) = -q∧-(d:Int) % (e:Int)=0:=by
 rw[Int.ediv_emod_unique (by omega)]
 refine⟨?_,by omega,by omega⟩
 rw[←h,Int.natCast_mul,Int.mul_comm,Int.neg_mul,Int.zero_add]
theorem qrM{d e q r:Nat}(h:q*e+r=d)(hr:r<e)(h0:0<r):-(d:Int) / (e:Int) = -q - 1∧-(d:Int) % (e:Int)=(e:Int) - r:=by
 rw[Int.ediv_emod_unique (by omega)]
 refine⟨?_,by omega,by omega⟩
 rw[←h,Int.natCast_add,Int.natCast_mul,Int.mul_sub,Int.mul_neg,Int.mul_one,Int.mul_comm (e:Int)]
 omega
theorem qnN{d e q r:Nat}(b c:Bool)(h:q*e+r=d)(hr:r<e) :
  ((bif b then -(d:Int)else d) / (bif c then -(e:Int)else e)=(bif b then (bif c then (q:Int)+(bif decide (0<r)then 1 else 0)else -(q:Int) - (bif decide (0<r)then 1 else 0))else (bif c then -(q:Int)else q))) ∧
  ((bif b then -(d:Int)else d) % (bif c then -(e:Int)else e)=bif b&&decide (0<r)then (e:Int) - r else r):=by
 cases b with
 | false =>
  obtain⟨h1,h2⟩:=qrL h hr
  cases c with
  | false=>exact⟨h1,h2⟩
  | true =>
   simp only[cond_false,cond_true,Bool.false_and,Int.ediv_neg,Int.emod_neg,h1,h2,and_self]
 | true =>
  rcases Nat.eq_zero_or_pos r with h0 | h0
  ·subst h0
   obtain⟨h1,h2⟩:=qrN (q:=q) (by omega) hr
   cases c with
   | false=>simp only[cond_false,cond_true,h1,h2];simp
   | true=>simp only[cond_false,cond_true,Int.ediv_neg,Int.emod_neg,h1,h2];simp
  ·obtain⟨h1,h2⟩:=qrM h hr h0
   have hd:decide (0<r)=true:=decide_eq_true h0
   cases c with
   | false=>simp only[cond_false,cond_true,h1,h2,hd,Bool.true_and,and_self]
   | true =>
    simp only[cond_false,cond_true,Int.ediv_neg,Int.emod_neg,h1,h2,hd,Bool.true_and,and_true]
    omega
theorem tbl37:tbl 37=some ⟨rc37,[.cell 4 26,.cell 5 26]⟩:=by kernel_rfl
structure I37(s u:V)(b c:Bool)(h:Hp)(st:St):Prop where
 h2:gt st.tm 2=.ptr (.loc 2 1) 0
 h3:gt st.tm 3=.ptr (.loc 3 1) 0
 h4:gt st.tm 4=.ptr (.loc 4 1) 0
 h5:gt st.tm 5=.ptr (.loc 5 1) 0
 h6:gt st.tm 6=.ptr (.loc 6 1) 0
 h7:gt st.tm 7=.ptr (.loc 7 1) 0
 l2:lg st.loc 2=(1,.cells false [s,.bool b])
 l3:lg st.loc 3=(1,.cells false [u,.bool c])
 l4:lg st.loc 4=(1,.cells false [.nils,.bool false])
 l5:lg st.loc 5=(1,.cells false [.nils,.bool false])
 hp:st.hp=h
theorem IsI.nn{k:Nat}{s:V}{b:Bool}{z:Int}(h:IsI k (.agg [s,.bool b]) z):Pl s∧Ex1 (.agg [s,.bool b])∧AM.quiet (.agg [s,.bool b])=true:=by
 obtain⟨s',b',e,p,x,q⟩:=h.form
 have e':s=s'∧b=b':=by simpa using e
 obtain⟨rfl,rfl⟩:=e'
 exact⟨p,x,q⟩
theorem qfR{k l:Nat}{va vb:V}{x y:Int}(ha:IsI k va x)(hb:IsI l vb y)(hk:k≤300000)(hl:l≤300000):Gives 37 [va,vb] fun r=>∃ v w,r=.tuple [v,w]∧IsI k v (x / y)∧IsI (if y=0 then k else l) w (x % y):=by
 have ha0:=ha
 have hb0:=hb
 obtain⟨d,b,⟨⟨s,rfl,hs⟩,dd,cd,h0⟩,hx,hdl⟩:=ha
 obtain⟨e,c,⟨⟨u,rfl,hu⟩,de,ce,he0⟩,hy,hel⟩:=hb
 refine qak tbl37 fun h Q hQ=>?_
 unfold rc37
 refine sRG ?_
 have fin:∀ (st:St) (v0 v1 w0 w1:V) ,IsI k (.agg [v0,v1]) (x / y)→IsI (if y=0 then k else l) (.agg [w0,w1]) (x % y)→gt st.tm 4=.ptr (.loc 4 1) 0→gt st.tm 5=.ptr (.loc 5 1) 0→lg st.loc 4=(1,.cells false [v0,v1])→lg st.loc 5=(1,.cells false [w0,w1])→st.hp=⟨h.rows,none,h.mods⟩→Q st:=by
  intro st v0 v1 w0 w1 hv hw h4 h5 l4 l5 hh
  obtain⟨sv,bv,e1,pv,_,_⟩:=hv.form
  obtain⟨sw,bw,e2,pw,_,_⟩:=hw.form
  obtain⟨rfl,rfl⟩:v0=sv∧v1=.bool bv:=by simpa using e1
  obtain⟨rfl,rfl⟩:w0=sw∧w1=.bool bw:=by simpa using e2
  exact hQ _ _ (qfj (x:=v0) (y:=.bool bv) (x2:=w0) (y2:=.bool bw) (d:=4) (g:=1) (d2:=5) (g2:=1) (f:=false) (f2:=false) (by kernel_rfl) (by kernel_rfl) h4 h5 l4 l5 pv (Pl.bool _) pw (Pl.bool _) (by rw[hh];exact fun x hx=>by cases hx)) ⟨_,_,rfl,hv,hw⟩
 rcases Nat.eq_zero_or_pos e.length with ee | ee
 ·
  have e0:e=[]:=List.length_eq_zero_iff.1 ee
  have hy0:y=0:=by rw[hy,e0,he0 e0];rfl
  refine qac (qac (qad (fun n k=>by simp -implicitDefEqProofs (disch:=omega) only[go_sem,reduceIte,Nat.reduceEqDiff,qae,List.getD_cons_zero,List.getD_cons_succ,qar L24,qam hu,ee,qaQ];rfl) ?_))
  refine qan sS ?_
  refine qac (qad (fun n k=>by simp -implicitDefEqProofs (disch:=omega) only[go_sem,reduceIte,Nat.reduceEqDiff,qae,List.getD_cons_zero,List.getD_cons_succ,qss,qaz L26,qah N26 1 .nils (.bool false) .nils (.bool false) _ rfl rfl,qah N26 1 s (.bool b) .nils (.bool false) _ hs.pl.ok rfl];exact qav (by kernel_rfl)) ?_)
  refine qai (fin _ .nils (.bool false) s (.bool b) ?_ ?_ sS sS sS sS rfl)
  ·rw[hy0,Int.ediv_zero];exact Qdr.mono (Nat.zero_le _)
  ·rw[hy0,Int.emod_zero,if_pos rfl];exact ha0
 have hne:e≠[]:=fun q=>by subst q;simp at ee
 have hE:0<vl B e:=Nat.pos_of_ne_zero fun q=>hne ((qeV ce).1 q)
 have hyn:y≠0:=by rw[hy];unfold zv;cases c<;>simp<;>omega
 refine qac (qac (qad (fun n k=>by simp -implicitDefEqProofs (disch:=omega) only[go_sem,reduceIte,Nat.reduceEqDiff,qae,List.getD_cons_zero,List.getD_cons_succ,qar L24,qam hu,qaY];rfl) ?_))
 refine qaj sS (qag ?_)
 obtain⟨r1,hr1,f1,⟨⟨s1,rfl,hs1⟩,df1,cf1,hf1⟩,ht1⟩:=qa3 hs dd (by omega) false ⟨h.rows,none,h.mods⟩
 refine qac (qaf (hr1) (fun n hn k=>by simp -implicitDefEqProofs (disch:=omega) only[go_sem,reduceIte,Nat.reduceEqDiff,qae,List.getD_cons_zero,List.getD_cons_succ,qar L24,qb5 hn hs.ex (Ex1.bool _),qah N26 1 .nils (.bool false) .nils (.bool false) _ rfl rfl,qah N26 1 s1 (.bool (false && !f1.isEmpty)) .nils (.bool false) _ hs1.pl.ok rfl];rfl) ?_)
 have hbc:∀ q:Nat,∀ f:List Nat,vl B f=q→zv f ((!(b == c)) && !f.isEmpty)=bif b == c then (q:Int)else -(q:Int):=by
  intro q f hf
  subst hf
  cases b == c with
  | true=>simp[zv]
  | false =>
   cases f with
   | nil=>rfl
   | cons x0 l0=>rfl
 refine qau (M:=fun st=>I37 s u b c ⟨h.rows,none,h.mods⟩ st∧∃ (sq:V) (bq:Bool) (q:Nat) (sr:V) (g:List Nat),lg st.loc 6=(1,.cells false [sq,.bool bq])∧lg st.loc 7=(1,.cells false [sr,.bool false])∧IsI k (.agg [sq,.bool bq]) (bif b == c then (q:Int)else -(q:Int))∧Sl .u32 sr g∧Dg B g∧Cn g∧q*vl B e+vl B g=vl B d∧vl B g<vl B e) ?_ ?_
 ·obtain⟨_,hcm,rfl⟩:=qbZ hs hu dd de cd ce (by omega) (by omega) ⟨h.rows,none,h.mods⟩
  rcases Nat.lt_or_ge (vl B d) (vl B e)with hlt | hge
  ·have hc:Qb9 (vl B d) (vl B e)=.negSucc 0:=by unfold Qb9;rw[if_pos hlt]
   rw[hc]at hcm
   refine qac (qaf (hcm) (fun n hn k=>by simp -implicitDefEqProofs (disch:=omega) only[go_sem,reduceIte,Nat.reduceEqDiff,qar L24,qb5 hn hs.ex hu.ex];rfl) ?_)
   refine qaj sS (qag ?_)
   refine⟨⟨sSG,sSG,sS,sS,sS,sS,sS,sS,sS,sS,rfl⟩,.nils,false,0,s1,f1,sS,(by simp -implicitDefEqProofs (disch:=omega) only[go_sem,reduceIte,Nat.reduceEqDiff,Bool.false_and]),by cases b == c<;>exact Qdr.mono (Nat.zero_le _),hs1,df1,cf1,by rw[ht1.vl];omega,by rw[ht1.vl];exact hlt⟩
  ·have hc:∃ z,Qb9 (vl B d) (vl B e)=.ofNat z:=by
    unfold Qb9
    rw[if_neg (by omega)]
    split
    ·exact⟨1,rfl⟩
    ·exact⟨0,rfl⟩
   obtain⟨z,hz⟩:=hc
   rw[hz]at hcm
   refine qac (qaf (hcm) (fun n hn k=>by simp -implicitDefEqProofs (disch:=omega) only[go_sem,reduceIte,Nat.reduceEqDiff,qar L24,qb5 hn hs.ex hu.ex,qaQ];rfl) ?_)
   refine qan sS ?_
   obtain⟨_,hdv,so,st,O,T,rfl,hso,hst,dO,dT,cT,hv,hlt,lO⟩:=qkt hs hu dd de ce hne (qgA (by decide) dd ce hge) (by omega) ⟨h.rows,none,h.mods⟩
   refine qac (qaf (hdv) (fun n hn k=>by simp -implicitDefEqProofs (disch:=omega) only[go_sem,reduceIte,Nat.reduceEqDiff,qar L24,qb5 hn hs.ex hu.ex,qaJ];rfl) ?_)
   obtain⟨r2,hr2,f2,hf2,ht2⟩:=qa3 hso dO (by omega) (!(b == c)) ⟨h.rows,none,h.mods⟩
   obtain⟨r3,hr3,f3,⟨⟨s3,rfl,hs3⟩,df3,cf3,hf3⟩,ht3⟩:=qa3 hst dT (by have:=qgA (B:=B) (by decide) de cT (by omega);omega) false ⟨h.rows,none,h.mods⟩
   have hf2':=hf2
   obtain⟨⟨s2,rfl,hs2⟩,df2,cf2,hf20⟩:=hf2
   have l2:=ht2.len
   refine qaf (hr2.and hr3) (fun n hn k=>by simp -implicitDefEqProofs (disch:=omega) only[go_sem,reduceIte,Nat.reduceEqDiff,qao L4,qdB 4 false b c U4,qb5 hn.1 hso.ex (Ex1.bool _),qb5 hn.2 hst.ex (Ex1.bool _),qah N26 1 s2 (.bool (!(b == c) && !f2.isEmpty)) .nils (.bool false) _ hs2.pl.ok rfl,qah N26 1 s3 (.bool (false && !f3.isEmpty)) s1 (.bool (false && !f1.isEmpty)) _ hs3.pl.ok rfl];rfl) ?_
   exact⟨⟨sSG,sSG,sS,sS,sS,sS,sS,sS,sS,sS,rfl⟩,s2,_,vl B O,s3,f3,sS,(by simp -implicitDefEqProofs (disch:=omega) only[go_sem,reduceIte,Nat.reduceEqDiff,Bool.false_and]),⟨f2,_,hf2',(hbc _ _ (ht2.vl B)).symm,by omega⟩,hs3,df3,cf3,by rw[ht3.vl];exact hv,by rw[ht3.vl];exact hlt⟩
 intro st ⟨⟨h2,h3,h4,h5,h6,h7,l2,l3,l4,l5,hhp⟩,sq,bq,q,sr,g,l6,l7,hq,hsr,dg,cg,hv,hlt⟩
 obtain⟨ql,qr⟩:=qnN b c hv hlt
 have ex:x=bif b then -(vl B d:Int)else (vl B d:Int):=hx
 have ey:y=bif c then -(vl B e:Int)else (vl B e:Int):=hy
 rw[←ex,←ey]at ql qr
 have hgz:(0<g.length)↔0<vl B g:=by
  constructor
  ·intro h1
   exact Nat.pos_of_ne_zero fun q=>by have:=(qeV cg).1 q;subst this;simp at h1
  ·intro h1
   rcases Nat.eq_zero_or_pos g.length with q | q
   ·have:g=[]:=List.length_eq_zero_iff.1 q
    subst this;simp[vl]at h1
   ·exact q
 have hgl:g.length≤l:=by have:=qgA (B:=B) (by decide) de cg (by omega);omega
 have hgI:IsI l (.agg [sr,.bool false]) ((vl B g:Nat):Int):=⟨g,false,⟨⟨sr,rfl,hsr⟩,dg,cg,fun _=>rfl⟩,rfl,hgl⟩
 have hlast:∀ (s2:St) (v0 v1 w0 w1:V),IsI k (.agg [v0,v1]) (x / y)→IsI l (.agg [w0,w1]) (x % y)→I37 s u b c ⟨h.rows,none,h.mods⟩ s2→lg s2.loc 6=(1,.cells false [v0,v1])→lg s2.loc 7=(1,.cells false [w0,w1])→WW Pg kn0 tbl (.seq (.reg fun c t l h k=>bO (ld Pg 26 (g6 t) l h) fun v0=>bO (ld Pg 26 (g7 t) l h) fun v1=>jE ((65,v1)::(64,v0)::[]) fun e2=>jF ((ldF (g7 t))::(ldF (g6 t))::[]) fun q2=>gD Try.f37 37 13 2 c (p64 (p4 t (g4 t)) v0) l h (fun v2 f2 l2 h2=>jF (f2::q2) fun q3=>gD Try.f37 37 13 3 c (p65 (p5 t (g5 t)) v1) l2 h2 (fun v3 f3 l3 h3=>Qbw (rgA Try.f37 13).toList [(1,2)] [(1,2)] (f3::q3) (k t l3 h3)) (sD Try.f37 37 13 c 3 none e2 q3 t l2 h2)) (sD Try.f37 37 13 c 2 none e2 q2 t l h)) .ret) s2 (fun _=>False) (fun _ _=>False) Q:=by
  intro s2 v0 v1 w0 w1 hv hw ⟨k2,k3,k4,k5,k6,k7,m2,m3,m4,m5,mh⟩ m6 m7
  obtain⟨sv,bv,e1,pv,_,_⟩:=hv.form
  obtain⟨sw,bw,e2,pw,_,_⟩:=hw.form
  obtain⟨rfl,rfl⟩:v0=sv∧v1=.bool bv:=by simpa using e1
  obtain⟨rfl,rfl⟩:w0=sw∧w1=.bool bw:=by simpa using e2
  refine qac (qad (fun n k=>by simp -implicitDefEqProofs (disch:=omega) only[go_sem,reduceIte,Nat.reduceEqDiff,k4,k5,k6,k7,m4,m5,m6,m7,qaz L26,qah N26 1 v0 (.bool bv) .nils (.bool false) _ pv.ok rfl,qah N26 1 w0 (.bool bw) .nils (.bool false) _ pw.ok rfl];exact qav (by kernel_rfl)) ?_)
  exact qai (fin _ _ _ _ _ hv (by rw[if_neg hyn];exact hw) (sS1 k4) (sS1 k5) sS sS mh)
 have hb01:b=true∧0<vl B g∨(b&&decide (0<vl B g))=false:=by
  cases b with
  | false=>exact .inr rfl
  | true =>
   rcases Nat.eq_zero_or_pos (vl B g)with q | q
   ·exact .inr (by rw[q];rfl)
   ·exact .inl ⟨rfl,q⟩
 rcases hb01 with ⟨rfl,hg0⟩ | hbf
 ·rw[decide_eq_true hg0,Bool.true_and,cond_true]at qr
  rw[decide_eq_true hg0]at ql
  simp only[cond_true]at ql
  have hgl0:=hgz.2 hg0
  refine qau (M:=fun s2=>∃ v0 v1 w0 w1,IsI k (.agg [v0,v1]) (x / y)∧IsI l (.agg [w0,w1]) (x % y)∧I37 s u true c ⟨h.rows,none,h.mods⟩ s2∧lg s2.loc 6=(1,.cells false [v0,v1])∧lg s2.loc 7=(1,.cells false [w0,w1])) ?_ (fun s2 ⟨v0,v1,w0,w1,a1,a2,a3,a4,a5⟩=>hlast s2 v0 v1 w0 w1 a1 a2 a3 a4 a5)
  refine qac (qad (fun n k=>by simp -implicitDefEqProofs (disch:=omega) only[go_sem,reduceIte,Nat.reduceEqDiff,h2,h7,l2,l7,qao L4,qar L24,qam hsr,decide_eq_true hgl0];rfl) ?_)
  refine qan sS ?_
  obtain⟨r4,hr4,f4,hf4,ht4⟩:=qa3 hu de (by omega) false ⟨h.rows,none,h.mods⟩
  have hI4:IsI l r4 ((vl B e:Nat):Int):=⟨f4,_,hf4,by rw[Bool.false_and];show((vl B e:Nat):Int)=((vl B f4:Nat):Int);rw[ht4.vl],by have:=ht4.len;omega⟩
  obtain⟨r5,hr5,hI5⟩:=qfO hI4 hgI (by omega) (by omega) ⟨h.rows,none,h.mods⟩
  have hEl:vl B e<B ^ l:=qaV (by decide) de hel
  have hI5':IsI l r5 (x % y):=by rw[qr];exact hI5.shrink (by omega)
  obtain⟨s5,b5,rfl,p5,x5,q5⟩:=hI5'.form
  obtain⟨s4,b4,rfl,p4,x4,q4⟩:=hI4.form
  obtain⟨p7,x7,q7⟩:=hgI.nn
  refine qac (qaf (hr4.and hr5) (fun n hn k=>by simp -implicitDefEqProofs (disch:=omega) only[go_sem,reduceIte,Nat.reduceEqDiff,h3,h7,hhp,l3,l7,qar L24,qaz L26,qbl hn.1 hu.ex (Ex1.bool _) hu.quiet rfl,qbl hn.2 x4 x7 q4 q7,qah N26 1 s5 (.bool b5) sr (.bool false) _ p5.ok rfl];exact qav (by kernel_rfl)) ?_)
  obtain⟨r8,hr8,hI8⟩:=qgs (z:=1) (by decide) (by decide) ⟨h.rows,none,h.mods⟩
  obtain⟨r9,hr9,hI9⟩:=qgs (z:=-1) (by decide) (by decide) ⟨h.rows,none,h.mods⟩
  obtain⟨s8,b8,rfl,p8,x8,q8⟩:=hI8.form
  obtain⟨s9,b9,rfl,p9,x9,q9⟩:=hI9.form
  have hr8':Runs Pg kn0 tbl 21 [.int .i64 (.ofNat 1)] ⟨h.rows,none,h.mods⟩ (.val (.agg [s8,.bool b8]) ⟨h.rows,none,h.mods⟩):=hr8
  have hr9':Runs Pg kn0 tbl 21 [.int .i64 (.negSucc 0)] ⟨h.rows,none,h.mods⟩ (.val (.agg [s9,.bool b9]) ⟨h.rows,none,h.mods⟩):=hr9
  refine qac (qaf (hr8') (fun n hn k=>by simp -implicitDefEqProofs (disch:=omega) only[go_sem,reduceIte,Nat.reduceEqDiff,hhp,qcG hn (Ex1.int _ _),qah N26 ((lg st.loc 10).1+1) s8 (.bool b8) .nils (.bool false) _ p8.ok rfl];rfl) ?_)
  obtain⟨pq,xq,qq⟩:=hq.nn
  have hone:∀ (s10:V) (b10:Bool) (st2:St),IsI 2 (.agg [s10,.bool b10]) (bif c then -1 else 1)→I37 s u true c ⟨h.rows,none,h.mods⟩ st2→gt st2.tm 10=.ptr (.loc 10 ((lg st.loc 10).1+1)) 0→lg st2.loc 10=((lg st.loc 10).1+1,.cells false [s10,.bool b10])→lg st2.loc 6=(1,.cells false [sq,.bool bq])→lg st2.loc 7=(1,.cells false [s5,.bool b5]) →
    WW Pg kn0 tbl (.reg fun c t l h k=>bO (ld Pg 26 (g6 t) l h) fun v0=>bO (ld Pg 26 (g10 t) l h) fun v1=>cl c 27 [v0,v1] t l h fun v2 l2 h2=>jn (fun v3 l3 h3=>k t l3 h3) fun j3=>sto 26 (g6 t) v2 l2 h2 j3 (gn Try.f37 37 12 3 c (p63 (p6 t (g6 t)) v2) t l2 h2 j3)) st2 (fun s2=>∃ v0 v1 w0 w1,IsI k (.agg [v0,v1]) (x / y)∧IsI l (.agg [w0,w1]) (x % y)∧I37 s u true c ⟨h.rows,none,h.mods⟩ s2∧lg s2.loc 6=(1,.cells false [v0,v1])∧lg s2.loc 7=(1,.cells false [w0,w1])) (fun _ _=>False) (fun _=>False):=by
   intro s10 b10 st2 hI10 ⟨k2,k3,k4,k5,k6,k7,m2,m3,m4,m5,mh⟩ m10 k10 n6 n7
   obtain⟨r11,hr11,hI11⟩:=qfO hq hI10 (by omega) (by omega) ⟨h.rows,none,h.mods⟩
   have hval:(bif true == c then (q:Int)else -(q:Int)) - (bif c then -1 else 1)=x / y:=by
    rw[ql]
    cases c with
    | false=>rfl
    | true=>show(q:Int) - (-1)=q+1;omega
   rw[hval]at hI11
   have hI12:=hI11.shrink (l:=k) (Nat.lt_of_le_of_lt (Int.natAbs_ediv_le_natAbs x y) ha0.QdS)
   obtain⟨s11,b11,rfl,p11,x11,q11⟩:=hI12.form
   obtain⟨_,x10,_⟩:=hI10.nn
   refine qaf (hr11) (fun n hn k=>by simp -implicitDefEqProofs (disch:=omega) only[go_sem,reduceIte,Nat.reduceEqDiff,k6,n6,m10,k10,mh,qaz L26,qb5 hn xq x10,qah N26 1 s11 (.bool b11) sq (.bool bq) _ p11.ok rfl];rfl) ?_
   exact⟨s11,.bool b11,s5,.bool b5,hI12,hI5',⟨(sS1 k2),(sS1 k3),(sS1 k4),(sS1 k5),(sS1 k6),(sS1 k7),(sS1 m2),(sS1 m3),(sS1 m4),(sS1 m5),rfl⟩,sS,(sS1 n7)⟩
  cases c with
  | false =>
   refine qac (qac (qad (fun n k=>by simp -implicitDefEqProofs (disch:=omega) only[go_sem,reduceIte,Nat.reduceEqDiff,h3,l3,qao L4];rfl) ?_))
   refine qaj sS (qag ?_)
   exact hone s8 b8 _ hI8 ⟨(sS1 h2),(sS1 h3),(sS1 h4),(sS1 h5),(sS1 h6),(sS1 h7),(sS1 l2),(sS1 l3),(sS1 l4),(sS1 l5),rfl⟩ sS sS (sS1 l6) sS
  | true =>
   refine qac (qac (qad (fun n k=>by simp -implicitDefEqProofs (disch:=omega) only[go_sem,reduceIte,Nat.reduceEqDiff,h3,l3,qao L4];rfl) ?_))
   refine qan sS ?_
   refine qaf (hr9') (fun n hn k=>by simp -implicitDefEqProofs (disch:=omega) only[go_sem,reduceIte,Nat.reduceEqDiff,qcG hn (Ex1.int _ _),qah N26 ((lg st.loc 10).1+1) s9 (.bool b9) s8 (.bool b8) _ p9.ok rfl];rfl) ?_
   exact hone s9 b9 _ hI9 ⟨(sS1 h2),(sS1 h3),(sS1 h4),(sS1 h5),(sS1 h6),(sS1 h7),(sS1 l2),(sS1 l3),(sS1 l4),(sS1 l5),rfl⟩ sS sS (sS1 l6) sS
 ·rw[hbf,cond_false]at qr
  have qf:x / y=bif b == c then (q:Int)else -(q:Int):=by
   rw[ql]
   cases b with
   | false=>cases c<;>rfl
   | true =>
    rw[Bool.true_and]at hbf
    rw[hbf]
    cases c<;>simp
  refine qau (M:=fun s2=>s2.loc=st.loc∧I37 s u b c ⟨h.rows,none,h.mods⟩ s2) ?_ (fun s2 ⟨hloc,hI⟩=>hlast s2 sq (.bool bq) sr (.bool false) (by rw[qf];exact hq) (by rw[qr];exact hgI) hI (by rw[hloc];exact l6) (by rw[hloc];exact l7))
  cases b with
  | false =>
   refine qac (qad (fun n k=>by simp -implicitDefEqProofs (disch:=omega) only[go_sem,reduceIte,Nat.reduceEqDiff,h2,l2,qao L4];rfl) ?_)
   exact qaj sS (qag ⟨rfl,⟨(sS1 h2),(sS1 h3),(sS1 h4),(sS1 h5),(sS1 h6),(sS1 h7),l2,l3,l4,l5,hhp⟩⟩)
  | true =>
   rw[Bool.true_and,decide_eq_false_iff_not,←hgz]at hbf
   refine qac (qad (fun n k=>by simp -implicitDefEqProofs (disch:=omega) only[go_sem,reduceIte,Nat.reduceEqDiff,h2,h7,l2,l7,qao L4,qar L24,qam hsr,decide_eq_false hbf];rfl) ?_)
   exact qaj sS (qag ⟨rfl,⟨(sS1 h2),(sS1 h3),(sS1 h4),(sS1 h5),(sS1 h6),(sS1 h7),l2,l3,l4,l5,hhp⟩⟩)
theorem tbl39:tbl 39=some ⟨rc39,[.cell 4 26]⟩:=by kernel_rfl
theorem qtp{v:V}{s:V}{d f:List Nat}{b:Bool}{k:Nat}(hf:NI v f (false && !f.isEmpty))(ht:Tr0 d f)(hl:d.length≤k):IsI k v ((vl B d:Nat):Int) :=
 ⟨f,_,hf,by rw[Bool.false_and];show((vl B d:Nat):Int)=((vl B f:Nat):Int);rw[ht.vl],by have:=ht.len;omega⟩
theorem qnn(d:List Nat)(b:Bool):(zv d b).natAbs=vl B d:=by unfold zv;cases b<;>simp
theorem qro{k l:Nat}{va vb:V}{x y:Int}(ha:IsI k va x)(hb:IsI l vb y)(hk:k≤300000)(hl:l≤300000):Gives 39 [va,vb] fun r=>IsI (max k l) r ((Nat.gcd x.natAbs y.natAbs:Nat):Int):=by
 obtain⟨d,b,⟨⟨s,rfl,hs⟩,dd,cd,h0⟩,rfl,hdl⟩:=ha
 obtain⟨e,c,⟨⟨u,rfl,hu⟩,de,ce,he0⟩,rfl,hel⟩:=hb
 rw[qnn,qnn]
 refine qak tbl39 fun h Q hQ=>?_
 unfold rc39
 refine sRG ?_
 obtain⟨r1,hr1,f1,hf1,ht1⟩:=qa3 hs dd (by omega) false ⟨h.rows,none,h.mods⟩
 obtain⟨r2,hr2,f2,hf2,ht2⟩:=qa3 hu de (by omega) false ⟨h.rows,none,h.mods⟩
 have hI1:IsI (max k l) r1 ((vl B d:Nat):Int):=qtp (s:=s) (b:=b) hf1 ht1 (by omega)
 have hI2:IsI (max k l) r2 ((vl B e:Nat):Int):=qtp (s:=s) (b:=b) hf2 ht2 (by omega)
 obtain⟨s1,b1,rfl,p1,x1,q1⟩:=hI1.form
 obtain⟨s2,b2,rfl,p2,x2,q2⟩:=hI2.form
 refine qac (qaf (hr1.and hr2) (fun n hn k=>by simp -implicitDefEqProofs (disch:=omega) only[go_sem,reduceIte,Nat.reduceEqDiff,qae,List.getD_cons_zero,List.getD_cons_succ,qar L24,qbl hn.1 hs.ex (Ex1.bool _) hs.quiet rfl,qbl hn.2 hu.ex (Ex1.bool _) hu.quiet rfl,qah N26 1 s1 (.bool b1) s (.bool b) _ p1.ok rfl,qah N26 1 s2 (.bool b2) u (.bool c) _ p2.ok rfl];exact qav (by kernel_rfl)) ?_)
 refine qac (qaP (fun m st=>∃ a sa ba sb bb,IsI (max k l) (.agg [sa,.bool ba]) ((a:Nat):Int)∧IsI (max k l) (.agg [sb,.bool bb]) ((m:Nat):Int)∧Nat.gcd a m=Nat.gcd (vl B d) (vl B e)∧gt st.tm 2=.ptr (.loc 2 1) 0∧gt st.tm 3=.ptr (.loc 3 1) 0∧gt st.tm 4=.ptr (.loc 4 1) 0∧lg st.loc 2=(1,.cells false [sa,.bool ba])∧lg st.loc 3=(1,.cells false [sb,.bool bb])∧lg st.loc 4=(1,.cells false [.nils,.bool false])∧st.hp=⟨h.rows,none,h.mods⟩) (vl B e) ⟨vl B d,s1,b1,s2,b2,hI1,hI2,rfl,sSG,sSG,sS,sS,sS,sS,rfl⟩ ?_)
 intro m st ⟨a,sa,ba,sb,bb,hA,hM,hg,h2,h3,h4,l2,l3,l4,hhp⟩
 obtain⟨pa,xa,qa⟩:=hA.nn
 obtain⟨pb,xb,qb⟩:=hM.nn
 have hM':=hM
 obtain⟨f,b',⟨⟨sb',eb,hsb⟩,df,cf,hf0⟩,hmv,hfl⟩:=hM'
 obtain⟨rfl,rfl⟩:sb=sb'∧bb=b':=by simpa using eb
 have hfm:vl B f=m:=by rw[←qnn f bb,←hmv];simp
 rcases Nat.eq_zero_or_pos f.length with e0 | e0
 ·have ef:f=[]:=List.length_eq_zero_iff.1 e0
  have hm0:m=0:=by rw[←hfm,ef];rfl
  refine qac (qac (qad (fun n k=>by simp -implicitDefEqProofs (disch:=omega) only[go_sem,reduceIte,Nat.reduceEqDiff,h3,l3,qar L24,qam hsb,e0,qaY];rfl) ?_))
  refine qaj sS (qax ?_)
  rw[if_pos rfl]
  refine qac (qad (fun n k=>by simp -implicitDefEqProofs (disch:=omega) only[go_sem,reduceIte,Nat.reduceEqDiff,h2,l2,h4,l4,qaz L26,qah N26 1 sa (.bool ba) .nils (.bool false) _ pa.ok rfl];rfl) ?_)
  refine qai (hQ _ _ (qaW (x:=sa) (y:=.bool ba) (f:=false) (d:=4) (g:=1) (by kernel_rfl) (sS1 h4) sS pa (Pl.bool _) (by rw[hhp])) ?_)
  rw[←hg,hm0,Nat.gcd_zero_right]
  exact hA
 ·have hm0:0<m:=by
   rw[←hfm]
   exact Nat.pos_of_ne_zero fun q=>by have:=(qeV cf).1 q;subst this;simp at e0
  refine qac (qac (qad (fun n k=>by simp -implicitDefEqProofs (disch:=omega) only[go_sem,reduceIte,Nat.reduceEqDiff,h3,l3,qar L24,qam hsb,qaQ];rfl) ?_))
  refine qan sS (qag (qaq ?_))
  obtain⟨_,hq,v,w,rfl,hv,hw⟩:=qfR hA hM (by omega) (by omega) ⟨h.rows,none,h.mods⟩
  rw[if_neg (by omega),←Int.natCast_emod]at hw
  obtain⟨sv,bv,rfl,pv,xv,_⟩:=hv.form
  obtain⟨sw,bw,rfl,pw,xw,_⟩:=hw.form
  refine qac (qaf (hq) (fun n hn k=>by simp -implicitDefEqProofs (disch:=omega) only[go_sem,reduceIte,Nat.reduceEqDiff,h2,h3,l2,l3,hhp,qaz L26,qb5 hn xa xb,qaJ,qah N26 ((lg st.loc 5).1+1) sv (.bool bv) .nils (.bool false) _ pv.ok rfl,qah N26 ((lg st.loc 6).1+1) sw (.bool bw) .nils (.bool false) _ pw.ok rfl];rfl) ?_)
  refine qad (fun n k=>by simp -implicitDefEqProofs (disch:=omega) only[go_sem,reduceIte,Nat.reduceEqDiff,h2,h3,l2,l3,qaz L26,qah N26 1 sb (.bool bb) sa (.bool ba) _ pb.ok rfl,qah N26 1 sw (.bool bw) sb (.bool bb) _ pw.ok rfl];exact qav (by kernel_rfl)) ?_
  exact⟨a % m,Nat.mod_lt _ hm0,m,sb,bb,sw,bw,hM,hw,by rw[←hg,Nat.gcd_comm a m,Nat.gcd_rec m a,Nat.gcd_comm],(sS1 h2),(sS1 h3),(sS1 h4),sS,sS,(sS1 l4),rfl⟩
section
variable {P:Program}{C:Cfg}{gl:Nat→Bool}{o:Oper}{loc:Lo}
structure Fr(v:V)(k:IntKind)(l:List Nat):Prop where
 out:∃ v',Sl k v' l∧∀ st,AM.exp false st v=some (v',st)
 items:∀ st,Qag st v=some (nl k l)
theorem Fr.nils(k:IntKind):Fr .nils k []:=⟨⟨.nils,.inr ⟨rfl,rfl⟩,Pl.nils.ex⟩,fun _=>rfl⟩
theorem Fr.lit(k:IntKind)(l:List Nat)(f:Bool):Fr (.slice none f 1 (nl k l)) k l:=⟨⟨_,.inl ⟨f,rfl⟩,fun _=>rfl⟩,fun _=>rfl⟩
theorem Fr.tok(k:IntKind)(l:List Nat)(d g:Nat):Fr (.slice (some (.loc d g)) false 1 (nl k l)) k l:=⟨⟨.slice none false 1 (nl k l),.inl ⟨false,rfl⟩,fun _=>rfl⟩,fun _=>rfl⟩
theorem Sl.fr{k:IntKind}{v:V}{l:List Nat}(h:Sl k v l):Fr v k l:=by
 rcases h with ⟨f,rfl⟩ | ⟨rfl,rfl⟩
 ·exact Fr.lit k l f
 ·exact Fr.nils k
theorem qj7{d x y t e b:Nat}(hi:ApI P o d x y t)(hA:C.QaN t=false)(hg:gl d=false)(he:QaB P t=some e)(hl:Qax P e=some (1,false))(hb:Qb1 P e=some b)(hxy:x≠y)
  {k:IntKind} {l ys:List Nat} {w:V} (hw:Fr w k ys) (hn:(l.length+ys.length)*b≤70368744177664) :
  ∃ v' loc',(∀ (call:Qad) (tm:Tm) (hp:Hp) (j:V→Lo→Hp→R),gen P C call gl o (pt (pt .lf x (.slice none true 1 (nl k l))) y w) tm loc hp j=j v' loc' hp)∧Fr v' k (l++ys)∧∀ i,i≠d→lg loc' i=lg loc i:=by
 obtain⟨hd,c,ho,hc,ha,hty,hni⟩:=hi
 have hx:gt (pt (pt .lf x (.slice none true 1 (nl k l))) y w) x=.slice none true 1 (nl k l):=by rw[qal,if_neg (Ne.symm hxy),qal,if_pos rfl]
 have hy:gt (pt (pt .lf x (.slice none true 1 (nl k l))) y w) y=w:=by rw[qal,if_pos rfl]
 have hp1:∀ (tm:Tm) hp,Qal P C gl (⟨tm,loc,hp⟩:St).ρ (⟨tm,loc,hp⟩:St).lc o=none:=by
  intro tm hp
  unfold Qal
  simp only[ho,Qam,hc,ha,Option.map_none]
 have hmb:∀ n,n≤70368744177664→Nat.ble n Qaj=true:=fun n h=>by rw[Nat.ble_eq];exact h
 cases ys with
 | nil =>
  refine⟨.slice none true 1 (nl k l),loc,fun call tm hp j=>qaL (st:=⟨pt (pt .lf x (.slice none true 1 (nl k l))) y w,loc,hp⟩) hd ?_,by rw[List.append_nil];exact Fr.lit k l true,fun i _=>rfl⟩
  unfold Qah
  rw[hp1]
  unfold stepG
  simp only[ho,QaP,hc,hty,hd,opds,ha,List.map_cons,List.map_nil,qaB,hx,hy,hni,cond_true,Qai,he,hl,hb,hw.items,qbS,Nat.beq_refl]
  rfl
 | cons y0 ys =>
  refine⟨.slice (some (.loc d ((lg loc d).1+1))) false 1 (nl k (l++y0::ys)),lp loc d ((lg loc d).1+1,.tok),fun call tm hp j=>qaL (st:=⟨pt (pt .lf x (.slice none true 1 (nl k l))) y w,lp loc d ((lg loc d).1+1,.tok),hp⟩) hd ?_,Fr.tok k _ _ _,fun i hi=>by rw[qbr,if_neg (Ne.symm hi)]⟩
  unfold Qah
  rw[hp1]
  unfold stepG
  simp only[ho,QaP,hc,hty,hd,opds,ha,List.map_cons,List.map_nil,qaB,hx,hy,hni,cond_true,Qai,he,hl,hb,hw.items,qbS,Nat.beq_refl]
  show(bif Nat.ble (((nl k l).length+(nl k (y0::ys)).length)*b) Qaj then _ else none)=_
  rw[qaD,qaD,hmb _ hn]
  simp only[cond_true,hA,cond_false,qcc,QaG,hg,Qaa,qdZ,qbs,qdp]
end
theorem qwc{loc:Lo}{n:Nat}{ys:List Nat}{w:V}(hw:Fr w .i64 ys)(hn:ys.length≤1000000):∃ v' loc',(∀ (c:Qad)(tm:Tm)(hp:Hp)(j:V→Lo→Hp→R),go2 Try.f79 79 5 6 23 24 (.slice none true 1 (nl .i64 [n])) w c tm loc hp j=j v' loc' hp)∧Fr v' .i64 (n::ys)∧∀ i,i≠25→lg loc' i=lg loc i :=
 qj7 (l:=[n]) qv2 (by kernel_rfl) (by kernel_rfl) (e:=3) (by kernel_rfl) (by kernel_rfl) (b:=8) (by kernel_rfl) (by decide) hw (by simp;omega)
theorem qrv{loc:Lo}{n:Nat}{ys:List Nat}{w:V}(hw:Fr w .i64 ys)(hn:ys.length≤1000000):∃ v' loc',(∀ (c:Qad)(tm:Tm)(hp:Hp)(j:V→Lo→Hp→R),go2 Try.f79 79 12 3 45 46 (.slice none true 1 (nl .i64 [n])) w c tm loc hp j=j v' loc' hp)∧Fr v' .i64 (n::ys)∧∀ i,i≠47→lg loc' i=lg loc i :=
 qj7 (l:=[n]) qq4 (by kernel_rfl) (by kernel_rfl) (e:=3) (by kernel_rfl) (by kernel_rfl) (b:=8) (by kernel_rfl) (by decide) hw (by simp;omega)
theorem tbl79:tbl 79=some ⟨rc79,[.tmp 4,.tmp 5]⟩:=by kernel_rfl
theorem qmX{h:Hp}{a b:Nat}{k:IntKind}{l:List Nat}{s:St}{v w:V}(hv:gt s.tm a=v)(fv:Fr v k l)(hw:gt s.tm b=w)(pw:Ex1 w)(rw':w.Qao=true)(hd:DG h.rows.length s.hp) :
  ∃ v',Sl k v' l∧fin Pg h [.tmp a,.tmp b] s=some (.val (.tuple [v',w]) h):=by
 obtain⟨v',hs,he⟩:=fv.out
 refine⟨v',hs,?_⟩
 unfold fin
 have e1:Qbj Pg s [.tmp a,.tmp b]=some [v,w]:=by simp only[Qbj,qbI,hv,hw,Option.map_some]
 rw[e1]
 have e2:exps false s [v,w]=some ([v',w],s):=by
  rw[show ∀ (st:St) (v:V) (r:List V),exps false st (v::r)=(match exp false st v with
   | none=>none
   | some (v',st')=>match exps false st' r with
    | none=>none
    | some (l',st'')=>some (v'::l',st'')) from fun _ _ _=>rfl]
  rw[he s]
  simp only[qb3 [w] _ ⟨pw,trivial⟩]
 simp only[e2]
 show some (Out.val (.tuple [v',w]) (Qar h s.hp [v',w]))=_
 unfold Qar
 rw[qdc hd]
 have hr:=hs.Qao
 simp only[V.Qaf,hr,rw',Bool.and_self,cond_true]
theorem qsM(x y:Nat):bin Pg .leq 3 true (.int .i64 (Qb9 x y)) (.int .i64 (.ofNat 0))=some (.bool (decide (x≤y))):=by
 unfold Qb9
 rcases Nat.lt_trichotomy x y with h | h | h
 ·rw[if_pos h,decide_eq_true (Nat.le_of_lt h)];rfl
 ·rw[if_neg (by omega),if_neg (by omega),decide_eq_true (Nat.le_of_eq h)];rfl
 ·rw[if_neg (by omega),if_pos h,decide_eq_false (by omega)];rfl
structure I79(va vb vq vr:V)(i:Int)(h:Hp)(s:St):Prop where
 h0:gt s.tm 0=va
 h1:gt s.tm 1=vb
 h6:gt s.tm 6=vq
 h7:gt s.tm 7=vr
 h8:gt s.tm 8=.int .i64 i
 hp:s.hp=h
theorem qn0{va vb:V}{a b:List Nat}(ha:Sl .i64 va a)(hb:Sl .i64 vb b)(da:Dg 10000 a)(db:Dg 10000 b)(cb:Cn b)(hne:b≠[])(la:a.length≤100000)(lb:b.length≤100000) :
  Gives 79 [va,vb] fun r=>∃ s t d e,r=.tuple [s,t]∧Sl .i64 s d∧Sl .i64 t e∧Dg 10000 d∧Dg 10000 e∧Cn e∧vl 10000 d*vl 10000 b+vl 10000 e=vl 10000 a∧vl 10000 e<vl 10000 b∧d.length=a.length:=by
 have hpos:=qdh (B:=10000) cb hne (by decide)
 refine qak tbl79 fun h Q hQ=>?_
 unfold rc79
 refine sR ?_
 refine sR ?_
 refine qac (qac (qad (fun n k=>by simp -implicitDefEqProofs (disch:=omega) only[go_sem,reduceIte,Nat.reduceEqDiff,qae,List.getD_cons_zero,List.getD_cons_succ,qam ha,qgG];rfl) ?_))
 refine qaP (fun m s=>∃ q r vq vr,m≤a.length∧I79 va vb vq vr (dn m) ⟨h.rows,none,h.mods⟩ s∧Fr vq .i64 q∧Sl .i64 vr r∧Dg 10000 q∧Dg 10000 r∧Cn r∧q.length+m=a.length∧vl 10000 (a.drop m)=vl 10000 b*vl 10000 q+vl 10000 r∧vl 10000 r<vl 10000 b) a.length ⟨[],[],.nils,.nils,Nat.le_refl _,⟨sSG,sSG,sS,sS,sS,rfl⟩,Fr.nils _,.inr ⟨rfl,rfl⟩,Dg.nil _,Dg.nil _,fun i hi=>by simp at hi,by simp,by rw[List.drop_length];simp[vl],by simpa[vl]using hpos⟩ ?_
 intro m s ⟨q,r,vq,vr,hm,⟨h0,h1,h6,h7,h8,hhp⟩,fq,sr,dq,dr,cr,hql,hv,hlt⟩
 have hrl:=qgA (B:=10000) (by decide) db cr (Nat.le_of_lt hlt)
 cases m with
 | zero =>
  refine qac (qac (qad (fun n k=>by simp -implicitDefEqProofs (disch:=omega) only[go_sem,reduceIte,Nat.reduceEqDiff,h8,dn];rfl) ?_))
  refine qaj sS (qax ?_)
  rw[if_pos rfl]
  refine sR2 h6 h7 ?_
  obtain⟨v',hs',hf⟩:=qmX (h:=h) (a:=4) (b:=5) (k:=.i64) (l:=q) (s:=⟨pt (pt (pt s.tm 16 (.bool false)) 4 vq) 5 vr,s.loc,s.hp⟩) (v:=vq) (w:=vr) sS fq sS sr.ex sr.Qao (by rw[hhp];exact fun x hx=>by cases hx)
  exact qai (hQ _ _ hf ⟨_,_,q,r,rfl,hs',sr,dq,dr,cr,by rw[Nat.mul_comm];simpa using hv.symm,hlt,by omega⟩)
 | succ i =>
  have h8':gt s.tm 8=.int .i64 (.ofNat i):=h8
  have hx:a.getD i 0<10000:=da.get (by decide) i
  refine qac (qac (qad (fun n k=>by simp -implicitDefEqProofs (disch:=omega) only[go_sem,reduceIte,Nat.reduceEqDiff,h8',qaQ];rfl) ?_))
  refine qan sS (qag ?_)
  refine qac (qaq ?_)
  obtain⟨v5,l5,happ,fv5,hfr5⟩:=qwc (loc:=s.loc) (n:=a.getD i 0) sr.fr (by omega)
  obtain⟨w5,sw5,ew5⟩:=fv5.out
  have d5:Dg 10000 (a.getD i 0::r):=fun x hx'=>by
   rcases List.mem_cons.1 hx' with e | e
   ·rw[e];exact hx
   ·exact dr x e
  obtain⟨_,ht,r2,⟨⟨vr2,rfl,sr2⟩,dr2,cr2,_⟩,tr2⟩:=qbt sw5 d5 (by simp;omega) false ⟨h.rows,none,h.mods⟩
  have vr2v:vl 10000 r2=a.getD i 0+10000*vl 10000 r:=tr2.vl 10000
  have hrl2:r2.length≤b.length+1:=by have:=tr2.len;simp at this;omega
  have hlt2:vl 10000 r2<vl 10000 b*10000:=by
   rw[vr2v]
   have:=Nat.mul_le_mul_left 10000 hlt
   rw[Nat.mul_succ]at this
   omega
  refine qac (qaf (ht) (fun n hn k=>by simp -implicitDefEqProofs (disch:=omega) only[go_sem,reduceIte,Nat.reduceEqDiff,h0,h7,h8',hhp,qk9 ha,qwL,happ,qyK (Ex1.bool _) ew5 hn,qwa];rfl) ?_)
  refine sR ?_
  refine qau (M:=fun s1=>∃ lo,lo<10000∧vl 10000 b*lo≤vl 10000 r2∧vl 10000 r2<vl 10000 b*(lo+1)∧gt s1.tm 9=.int .i64 (.ofNat lo)∧I79 va vb vq vr2 (.ofNat i) ⟨h.rows,none,h.mods⟩ s1) ?_ ?_
  ·refine qaP (fun m s1=>∃ lo hi,m+lo=hi∧lo<hi∧hi≤10000∧vl 10000 b*lo≤vl 10000 r2∧vl 10000 r2<vl 10000 b*hi∧gt s1.tm 9=.int .i64 (.ofNat lo)∧gt s1.tm 10=.int .i64 (.ofNat hi)∧I79 va vb vq vr2 (.ofNat i) ⟨h.rows,none,h.mods⟩ s1) 10000 ⟨0,10000,rfl,by decide,Nat.le_refl _,by simp,hlt2,sS,sS,⟨(sS1 h0),(sS1 h1),(sS1 h6),sS,(sS1 h8'),rfl⟩⟩ ?_
   intro m s1 ⟨lo,hi,hml,hlh,hhi,hle,hgt,g9,g10,⟨i0,i1,i6,i7,i8,ihp⟩⟩
   refine sQ2 g9 g10 ?_
   refine qaU (by simp only[qal,reduceIte];rfl) (fun hc=>qag ?_) (fun hc=>qax ?_)
   ·have hmid:(lo+hi) / 2<10000:=by omega
    refine qaq ?_
    refine sR2 g9 g10 ?_
    obtain⟨tv,htm,c,sc,dc,cc,vc,lc⟩:=qhs hb db (by omega) hmid ⟨h.rows,none,h.mods⟩
    obtain⟨_,hls,rfl⟩:=qhD sc sr2 dc dr2 cc cr2 (by omega) (by omega) ⟨h.rows,none,h.mods⟩
    refine qac (qaf (htm.and hls) (fun n hn k=>by simp -implicitDefEqProofs (disch:=omega) only[go_sem,reduceIte,Nat.reduceEqDiff,i1,i7,ihp,qb5 hn.1 hb.ex (Ex1.int _ _),qb5 hn.2 sc.ex sr2.ex,qsM];rfl) ?_)
    refine qaU (by simp only[qal,reduceIte];rfl) (fun hx=>?_) (fun hx=>?_)
    ·refine sE ?_
     exact⟨hi - (lo+hi) / 2,by omega,(lo+hi) / 2,hi,by omega,by omega,hhi,by rw[←vc];exact hx,hgt,sS,(sS1 g10),⟨(sS1 i0),(sS1 i1),(sS1 i6),(sS1 i7),(sS1 i8),rfl⟩⟩
    ·refine sE ?_
     exact⟨(lo+hi) / 2 - lo,by omega,lo,(lo+hi) / 2,by omega,by omega,by omega,hle,by rw[←vc];omega,(sS1 g9),sS,⟨(sS1 i0),(sS1 i1),(sS1 i6),(sS1 i7),(sS1 i8),rfl⟩⟩
   ·rw[if_pos rfl]
    have e1:hi=lo+1:=by omega
    subst e1
    exact⟨lo,by omega,hle,hgt,(sS1 g9),⟨(sS1 i0),(sS1 i1),(sS1 i6),(sS1 i7),(sS1 i8),ihp⟩⟩
  ·intro s1 ⟨lo,hlo,hle,hgt,g9,⟨i0,i1,i6,i7,i8,ihp⟩⟩
   obtain⟨v6,l6,happ6,fv6,hfr6⟩:=qrv (loc:=s1.loc) (n:=lo) fq (by omega)
   refine qac (qad (fun n k=>by simp -implicitDefEqProofs (disch:=omega) only[go_sem,reduceIte,Nat.reduceEqDiff,g9,i6,qwL,happ6];rfl) ?_)
   obtain⟨tv,htm,c,sc,dc,cc,vc,lc⟩:=qhs hb db (by omega) hlo ⟨h.rows,none,h.mods⟩
   have hcl:c.length≤r2.length:=qgA (B:=10000) (by decide) dr2 cc (by rw[vc];exact hle)
   obtain⟨mv,hmi,m2,sm,dm,vm,lm⟩:=qeb sr2 sc dr2 dc (by omega) hcl (by rw[vc];exact hle) ⟨h.rows,none,h.mods⟩
   obtain⟨_,ht3,r3,⟨⟨vr3,rfl,sr3⟩,dr3,cr3,_⟩,tr3⟩:=qbt sm dm (by omega) false ⟨h.rows,none,h.mods⟩
   refine qaf ((htm.and hmi).and ht3) (fun n hn k=>by simp -implicitDefEqProofs (disch:=omega) only[go_sem,reduceIte,Nat.reduceEqDiff,i1,i7,g9,ihp,qb5 hn.1.1 hb.ex (Ex1.int _ _),qb5 hn.1.2 sr2.ex sc.ex,qb5 hn.2 (Ex1.bool _) sm.ex,qwa];rfl) ?_
   refine qad (fun n k=>by simp -implicitDefEqProofs (disch:=omega) only[go_sem,reduceIte,Nat.reduceEqDiff,i8,qgG];rfl) ?_
   have v3:vl 10000 r3=vl 10000 m2:=tr3.vl 10000
   rw[vc]at vm
   refine⟨i,by omega,lo::q,r3,v6,vr3,by omega,⟨(sS1 i0),(sS1 i1),sS,sS,sS,rfl⟩,fv6,sr3,(fun x hx'=>by rcases List.mem_cons.1 hx' with e | e;rw[e];exact hlo;exact dq x e),dr3,cr3,by simp;omega,?_,?_⟩
   ·rw[qa8 10000 a i (by omega),hv,v3]
    simp only[vl,Nat.mul_add]
    have e1:10000*(vl 10000 b*vl 10000 q)=vl 10000 b*(10000*vl 10000 q):=by rw[←Nat.mul_assoc,←Nat.mul_assoc,Nat.mul_comm 10000]
    omega
   ·rw[v3]
    rw[Nat.mul_add,Nat.mul_one]at hgt
    omega
theorem ql2(k:IntKind)(x:Int):G.int2 .eql k x x=some (.bool true):=by
 show some (V.bool (F.eqI x x))=_
 rw[F.Qav]
 simp
theorem qcu{x:Int}(h:x=0):sgn x=.ofNat 0:=by rw[h];rfl
theorem qlM(w:Bool):wv (.tuple []) w=some false:=rfl
theorem qwZ{c:RC}{s:St}{N:St→Prop}{X:Nat→St→Prop}{Q:St→Prop}{hp:Hp}(M:Tm→Lo→Prop)(hh:s.hp=hp)(hs:M s.tm s.loc)(h:∀ tm loc,M tm loc→WW Pg kn0 tbl c ⟨tm,loc,hp⟩ N X Q):WW Pg kn0 tbl c s N X Q:=by
 subst hh;exact h s.tm s.loc hs
theorem qh6{x:Int}(h:0<x):sgn x=.ofNat 1:=by unfold sgn Qcy;rw[if_neg (by omega),if_pos h]
section
variable {C:Cfg}{P:Program}{call:Qad}{gl:Nat→Bool}{o:Oper}{t' tm:Tm}{loc:Lo}{hp:Hp}
theorem qbE{d n:Nat}{t:TypeId}{z:V}{J:JD}{X:XD}(hd:o.dst=some d)(ho:o.op=.alloc t)(hg:gl d=false)(hz:zeroV P t=some z)(hn:QbG P t=some n)(hl:z.live=true)(hc:z.cells.length=n) :
  qgN P C call gl o t' loc hp J X=J (.ptr (.loc d ((lg loc d).1+1)) 0) ⟨[d],[d],false,false,false,false⟩ (lp loc d ((lg loc d).1+1,.cells false z.cells)) hp:=by
 have hp1:Qal P C gl (⟨t',loc,hp⟩:St).ρ (⟨t',loc,hp⟩:St).lc o=some (.ptr (.loc d ((lg loc d).1+1)) 0,some (d,(lg loc d).1+1,.cells false z.cells)):=by
  unfold Qal
  simp only[ho,hd,hg,cond_false,hz,hn,hl,hc,Nat.beq_refl,Bool.and_self,cond_true,qdZ]
 have hf:Qaz P C gl (⟨t',loc,hp⟩:St).ρ (⟨t',loc,hp⟩:St).lc o=some ⟨[d],[d],false,false,false,false⟩:=by
  unfold Qaz
  rw[hp1]
 have hs:Qah P C gl ⟨t',loc,hp⟩ o=some (.val (.ptr (.loc d ((lg loc d).1+1)) 0) ⟨t',lp loc d ((lg loc d).1+1,.cells false z.cells),hp⟩):=by
  unfold Qah
  rw[hp1]
  simp only[Qa4,qbs]
 unfold qgN
 rw[F.QbN,F.QbL,F.Qcg,F.Qcq,hf]
 show G.Qac (QaA P C call gl ⟨t',loc,hp⟩ o) _ none=_
 unfold QaA
 rw[hs]
 have e1:F.settle hp hp ⟨[d],[d],false,false,false,false⟩ = ⟨[d],[d],false,false,false,false⟩:=by
  unfold F.settle
  rw[Nat.beq_refl,Nat.beq_refl];rfl
 simp only[QaF,hd]
 show J (gt (aset t' d (.ptr (.loc d ((lg loc d).1+1)) 0)) d) (F.settle hp hp ⟨[d],[d],false,false,false,false⟩) (lp loc d ((lg loc d).1+1,.cells false z.cells)) hp=_
 rw[qcN,qaI,if_pos rfl,e1]
end
section
variable {C:Cfg}{P:Program}{call:Qad}{gl:Nat→Bool}{o:Oper}{t' tm:Tm}{loc:Lo}{hp:Hp}
theorem qiH{t:TypeId}{a b:Operand}{z0 z1 v w:V}{ρ:Nat→V}{lc:Nat→Nat × Row}(ho:o.op=.build t #[(0,a),(1,b)])(h2:two P t=true)(hz:zeroV P t=some (.agg [z0,z1]))
  (ha:AM.opd ρ a=v) (hb:AM.opd ρ b=w) (hv:Pl v) (hw:Pl w):Qal P C gl ρ lc o=some (.agg [v,w],none):=by
 unfold two at h2
 split at h2
 ·rename_i fs hu
  split at h2
  ·rename_i f0 f1 hfs
   simp only[Bool.and_eq_true]at h2
   obtain⟨⟨a0,a1⟩,a2⟩:=h2
   have e:fs = #[f0,f1]:=by apply Array.toList_inj.1;rw[hfs]
   subst e
   split at a2
   ·rename_i na nb s0 s1
    simp only[Bool.and_eq_true]at a2
    have b1:na=1:=Nat.eq_of_beq_eq_true a2.1
    have b2:nb=1:=Nat.eq_of_beq_eq_true a2.2
    subst b1;subst b2
    have o0:=Nat.eq_of_beq_eq_true a0;have o1:=Nat.eq_of_beq_eq_true a1
    have i0:(P.info? f0.type).isSome=true:=by
     unfold QbG at s0
     cases h:P.info? f0.type with
     | none=>rw[h]at s0;simp at s0
     | some i=>rfl
    have i1:(P.info? f1.type).isSome=true:=by
     unfold QbG at s1
     cases h:P.info? f1.type with
     | none=>rw[h]at s1;simp at s1
     | some i=>rfl
    have e0:Qat P t 0=some f0:=by unfold Qat;rw[hu];rfl
    have e1:Qat P t 1=some f1:=by unfold Qat;rw[hu];rfl
    unfold Qal
    simp only[ho,Qam,hu,hz,V.live,Bool.true_and]
    have ea:(#[f0,f1]:Array Field).all (fun f=>(P.info? f.type).isSome)=true:=by simp[i0,i1]
    rw[ea]
    have c0:V.cells (.agg [z0,z1])=[z0,z1]:=rfl
    simp only[cond_true,Qbl,e0,e1,ha,hb,hv.weak,hw.weak,hv.plain,hw.plain,hv.cells,hw.cells,s0,s1,o0,o1,Option.getD_some,List.length_cons,List.length_nil,c0]
    rfl
   ·simp at a2
  ·simp at h2
 ·simp at h2
theorem qlf{d:Nat}{v:V}{j:V→Lo→Hp→R}(hd:o.dst=some d)(h:Qal P C gl (⟨t',loc,hp⟩:St).ρ (⟨t',loc,hp⟩:St).lc o=some (v,none)):gen P C call gl o t' tm loc hp j=j v loc hp:=by
 refine qaL (v:=v) (st:=⟨t',loc,hp⟩) hd ?_
 unfold Qah
 rw[h];rfl
end
theorem qsr(c:Qad)(t:Tm)(l:Lo)(h:Hp)(J:JD)(X:XD):gD Try.f38 38 2 0 c t l h J X=J (.agg [.bool false,.nils]) ⟨[],[],false,false,false,false⟩ l h :=
 qcm (C:=Cg) (gl:=Cg.glob 38) (call:=c) (o:=opA Try.f38 2 0) (d:=14) (t:=31) (l:=#[]) (by kernel_rfl) (by kernel_rfl) (by kernel_rfl)
theorem qps(c:Qad)(t:Tm)(l:Lo)(h:Hp)(J:JD)(X:XD):gD Try.f38 38 4 11 c t l h J X=J (.ptr (.loc 8 ((lg l 8).1+1)) 0) ⟨[8],[8],false,false,false,false⟩ (lp l 8 ((lg l 8).1+1,.cells false [.bool false,.nils])) h :=
 qbE (C:=Cg) (gl:=Cg.glob 38) (call:=c) (o:=opA Try.f38 4 11) (d:=8) (t:=31) (n:=2) (z:=.agg [.bool false,.nils]) (by kernel_rfl) (by kernel_rfl) (by kernel_rfl) (by kernel_rfl) (by kernel_rfl) rfl rfl
theorem qpr(c:Qad)(t:Tm)(l:Lo)(h:Hp)(J:JD)(X:XD):gD Try.f38 38 4 12 c t l h J X=J (.ptr (.loc 9 ((lg l 9).1+1)) 0) ⟨[9],[9],false,false,false,false⟩ (lp l 9 ((lg l 9).1+1,.cells false [.bool false,.nils])) h :=
 qbE (C:=Cg) (gl:=Cg.glob 38) (call:=c) (o:=opA Try.f38 4 12) (d:=9) (t:=31) (n:=2) (z:=.agg [.bool false,.nils]) (by kernel_rfl) (by kernel_rfl) (by kernel_rfl) (by kernel_rfl) (by kernel_rfl) rfl rfl
theorem qsL{v:V}(hv:Pl v)(c:Qad)(t' t:Tm)(l:Lo)(h:Hp)(j:V→Lo→Hp→R):gn Try.f38 38 6 3 c (pt t' 39 v) t l h j=j (.agg [.bool false,v]) l h :=
 qlf (C:=Cg) (gl:=Cg.glob 38) (call:=c) (o:=opA Try.f38 6 3) (d:=40) (by kernel_rfl) (qiH (a:=.const (.bool false)) (b:=.tmp 39) (by kernel_rfl) (by kernel_rfl) (show zeroV Pg 31=some (.agg [.bool false,.nils])by kernel_rfl) rfl (by rw[qaB,qal,if_pos rfl]) (Pl.bool _) hv)
theorem qsK{v:V}(hv:Pl v)(c:Qad)(t:Tm)(l:Lo)(h:Hp)(J:JD)(X:XD):gD Try.f40 40 1 2 c (pt t 10 v) l h J X=J (.agg [.bool false,v]) ⟨[],[],false,false,false,false⟩ l h :=
 qcm (C:=Cg) (gl:=Cg.glob 40) (call:=c) (o:=opA Try.f40 1 2) (d:=11) (t:=31) (l:=#[(0,.const (.bool false)),(1,.tmp 10)]) (by kernel_rfl) (by kernel_rfl) (qiH (a:=.const (.bool false)) (b:=.tmp 10) (by kernel_rfl) (by kernel_rfl) (show zeroV Pg 31=some (.agg [.bool false,.nils])by kernel_rfl) rfl (by rw[qaB,qal,if_pos rfl]) (Pl.bool _) hv)
theorem qsJ{v:V}(hv:Pl v)(c:Qad)(t:Tm)(l:Lo)(h:Hp)(J:JD)(X:XD):gD Try.f40 40 1 5 c (pt t 13 v) l h J X=J (.agg [.bool false,v]) ⟨[],[],false,false,false,false⟩ l h :=
 qcm (C:=Cg) (gl:=Cg.glob 40) (call:=c) (o:=opA Try.f40 1 5) (d:=14) (t:=31) (l:=#[(0,.const (.bool false)),(1,.tmp 13)]) (by kernel_rfl) (by kernel_rfl) (qiH (a:=.const (.bool false)) (b:=.tmp 13) (by kernel_rfl) (by kernel_rfl) (show zeroV Pg 31=some (.agg [.bool false,.nils])by kernel_rfl) rfl (by rw[qaB,qal,if_pos rfl]) (Pl.bool _) hv)
theorem qsw(c:Qad)(t:Tm)(l:Lo)(h:Hp)(J:JD)(X:XD):gD Try.f40 40 1 6 c t l h J X=J (.ptr (.loc 5 ((lg l 5).1+1)) 0) ⟨[5],[5],false,false,false,false⟩ (lp l 5 ((lg l 5).1+1,.cells false [.bool false,.nils])) h :=
 qbE (C:=Cg) (gl:=Cg.glob 40) (call:=c) (o:=opA Try.f40 1 6) (d:=5) (t:=31) (n:=2) (z:=.agg [.bool false,.nils]) (by kernel_rfl) (by kernel_rfl) (by kernel_rfl) (by kernel_rfl) (by kernel_rfl) rfl rfl
theorem qsv(c:Qad)(t:Tm)(l:Lo)(h:Hp)(J:JD)(X:XD):gD Try.f40 40 1 7 c t l h J X=J (.ptr (.loc 6 ((lg l 6).1+1)) 0) ⟨[6],[6],false,false,false,false⟩ (lp l 6 ((lg l 6).1+1,.cells false [.bool false,.nils])) h :=
 qbE (C:=Cg) (gl:=Cg.glob 40) (call:=c) (o:=opA Try.f40 1 7) (d:=6) (t:=31) (n:=2) (z:=.agg [.bool false,.nils]) (by kernel_rfl) (by kernel_rfl) (by kernel_rfl) (by kernel_rfl) (by kernel_rfl) rfl rfl
theorem IsR.shrink{k l:Nat}{v:V}{z:Int}(h:IsR k v z)(hz:z.natAbs<10000 ^ l):IsR l v z:=by
 obtain⟨d,b,⟨hv,dd,cd,h0⟩,rfl,hl⟩:=h
 refine⟨d,b,⟨hv,dd,cd,h0⟩,rfl,?_⟩
 rcases Nat.lt_or_ge l d.length with h1 | h1
 ·exfalso
  have h2:=qnq (B:=10000) cd (by intro e;subst e;simp at h1)
  have h3:(zr d b).natAbs=vl 10000 d:=by unfold zr;cases b<;>simp
  rw[h3]at hz
  have h4:10000 ^ l≤10000 ^ (d.length - 1):=Nat.pow_le_pow_right (by decide) (by omega)
  omega
 ·exact h1
theorem qlK(d:List Nat)(b:Bool):(zr d b).natAbs=vl 10000 d:=by unfold zr;cases b<;>simp
theorem IsR.QdS{k:Nat}{v:V}{z:Int}(h:IsR k v z):z.natAbs<10000 ^ k:=by
 obtain⟨d,b,⟨hv,dd,cd,h0⟩,rfl,hl⟩:=h
 rw[qlK]
 exact qaV (by decide) dd hl
theorem IsR.nn{k:Nat}{s:V}{b:Bool}{z:Int}(h:IsR k (.agg [.bool b,s]) z):Pl s∧Ex1 (.agg [.bool b,s])∧AM.quiet (.agg [.bool b,s])=true:=by
 obtain⟨s',b',e,p,x,q⟩:=h.form
 have e':b=b'∧s=s':=by simpa using e
 obtain⟨rfl,rfl⟩:=e'
 exact⟨p,x,q⟩
theorem tbl38:tbl 38=some ⟨rc38,[.cell 4 31,.cell 5 31]⟩:=by kernel_rfl
theorem qlj{h:Hp}{a d g a2 d2 g2:Nat}{f f2:Bool}{s:St}{x y x2 y2:V}(hv:gt s.tm a=.ptr (.loc d g) 0)(hv2:gt s.tm a2=.ptr (.loc d2 g2) 0)(hr:lg s.loc d=(g,.cells f [x,y]))(hr2:lg s.loc d2=(g2,.cells f2 [x2,y2]))(hx:Pl x)(hy:Pl y)(hx2:Pl x2)(hy2:Pl y2)(hc:DG h.rows.length s.hp) :
  fin Pg h [.cell a 31,.cell a2 31] s=some (.val (.tuple [.agg [x,y],.agg [x2,y2]]) h):=qfj (by kernel_rfl) (by kernel_rfl) hv hv2 hr hr2 hx hy hx2 hy2 hc
structure I38(s u:V)(b c:Bool)(h:Hp)(tm:Tm)(loc:Lo):Prop where
 h2:gt tm 2=.ptr (.loc 2 1) 0
 h3:gt tm 3=.ptr (.loc 3 1) 0
 h4:gt tm 4=.ptr (.loc 4 1) 0
 h5:gt tm 5=.ptr (.loc 5 1) 0
 h8:gt tm 8=.ptr (.loc 8 1) 0
 h9:gt tm 9=.ptr (.loc 9 1) 0
 l2:lg loc 2=(1,.cells false [.bool b,s])
 l3:lg loc 3=(1,.cells false [.bool c,u])
 l4:lg loc 4=(1,.cells false [.bool false,.nils])
 l5:lg loc 5=(1,.cells false [.bool false,.nils])
theorem qet{k l:Nat}{va vb:V}{x y:Int}(ha:IsR k va x)(hb:IsR l vb y)(hk:k≤90000)(hl:l≤90000):Gives 38 [va,vb] fun r=>∃ v w,r=.tuple [v,w]∧IsR k v (x / y)∧IsR (if y=0 then k else l) w (x % y):=by
 have ha0:=ha
 have hb0:=hb
 obtain⟨d,b,⟨⟨s,rfl,hs⟩,dd,cd,h0⟩,hx,hdl⟩:=ha
 obtain⟨e,c,⟨⟨u,rfl,hu⟩,de,ce,he0⟩,hy,hel⟩:=hb
 refine qak tbl38 fun h Q hQ=>?_
 unfold rc38
 refine sRG ?_
 have fin:∀ (st:St) (v0 v1 w0 w1:V) ,IsR k (.agg [v0,v1]) (x / y)→IsR (if y=0 then k else l) (.agg [w0,w1]) (x % y)→gt st.tm 4=.ptr (.loc 4 1) 0→gt st.tm 5=.ptr (.loc 5 1) 0→lg st.loc 4=(1,.cells false [v0,v1])→lg st.loc 5=(1,.cells false [w0,w1])→st.hp=⟨h.rows,none,h.mods⟩→Q st:=by
  intro st v0 v1 w0 w1 hv hw h4 h5 l4 l5 hh
  obtain⟨sv,bv,e1,pv,_,_⟩:=hv.form
  obtain⟨sw,bw,e2,pw,_,_⟩:=hw.form
  obtain⟨rfl,rfl⟩:v0=.bool bv∧v1=sv:=by simpa using e1
  obtain⟨rfl,rfl⟩:w0=.bool bw∧w1=sw:=by simpa using e2
  exact hQ _ _ (qlj (x:=.bool bv) (y:=v1) (x2:=.bool bw) (y2:=w1) (d:=4) (g:=1) (d2:=5) (g2:=1) (f:=false) (f2:=false) h4 h5 l4 l5 (Pl.bool _) pv (Pl.bool _) pw (by rw[hh];exact fun x hx=>by cases hx)) ⟨_,_,rfl,hv,hw⟩
 rcases Nat.eq_zero_or_pos e.length with ee | ee
 ·have e0:e=[]:=List.length_eq_zero_iff.1 ee
  have hy0:y=0:=by rw[hy,e0,he0 e0];rfl
  refine qac (qac (qad (fun n k=>by simp -implicitDefEqProofs (disch:=omega) only[go_sem,reduceIte,Nat.reduceEqDiff,qae,List.getD_cons_zero,List.getD_cons_succ,qao L29,qam hu,ee,qaQ];rfl) ?_))
  refine qan sS ?_
  refine qac (qad (fun n k=>by simp -implicitDefEqProofs (disch:=omega) only[go_sem,reduceIte,Nat.reduceEqDiff,qae,List.getD_cons_zero,List.getD_cons_succ,qsr,qaz L31,qah N31 1 (.bool false) .nils (.bool false) .nils _ rfl rfl,qah N31 1 (.bool b) s (.bool false) .nils _ rfl hs.pl.ok];exact qav (by kernel_rfl)) ?_)
  refine qai (fin _ (.bool false) .nils (.bool b) s ?_ ?_ sS sS sS sS rfl)
  ·rw[hy0,Int.ediv_zero];exact Qea.mono (Nat.zero_le _)
  ·rw[hy0,Int.emod_zero,if_pos rfl];exact ha0
 have hne:e≠[]:=fun q=>by subst q;simp at ee
 have hE:=qdh (B:=10000) ce hne (by decide)
 have hyn:y≠0:=by rw[hy];unfold zr;cases c<;>simp<;>omega
 refine qac (qac (qad (fun n k=>by simp -implicitDefEqProofs (disch:=omega) only[go_sem,reduceIte,Nat.reduceEqDiff,qae,List.getD_cons_zero,List.getD_cons_succ,qao L29,qam hu,qaY];rfl) ?_))
 refine qaj sS (qag ?_)
 obtain⟨_,hpt,sq,sr,q,r,rfl,hsq,hsr,dq,dr,cr,hv,hlt,hql⟩:=qn0 hs hu dd de ce hne (by omega) (by omega) ⟨h.rows,none,h.mods⟩
 have hrl:=qgA (B:=10000) (by decide) de cr (Nat.le_of_lt hlt)
 refine qac (qaf (hpt) (fun n hn k=>by simp -implicitDefEqProofs (disch:=omega) only[go_sem,reduceIte,Nat.reduceEqDiff,qae,List.getD_cons_zero,List.getD_cons_succ,qao L29,qb5 hn hs.ex hu.ex,qaJ];rfl) ?_)
 obtain⟨_,ht1,f1,⟨⟨s1,rfl,hs1⟩,df1,cf1,hf1⟩,tr1⟩:=qbt hsq dq (by omega) (!(b == c)) ⟨h.rows,none,h.mods⟩
 obtain⟨_,ht2,f2,⟨⟨s2,rfl,hs2⟩,df2,cf2,hf2⟩,tr2⟩:=qbt hsr dr (by omega) b ⟨h.rows,none,h.mods⟩
 have lf1:=tr1.len
 have lf2:=tr2.len
 obtain⟨ql,qr⟩:=qnN b c hv hlt
 have ex:x=bif b then -(vl 10000 d:Int)else (vl 10000 d:Int):=hx
 have ey:y=bif c then -(vl 10000 e:Int)else (vl 10000 e:Int):=hy
 rw[←ex,←ey]at ql qr
 have hI1:IsR k (.agg [.bool (!(b == c) && !f1.isEmpty),s1]) (bif b == c then ((vl 10000 q:Nat):Int)else -((vl 10000 q:Nat):Int)):=by
  refine⟨f1,_,⟨⟨s1,rfl,hs1⟩,df1,cf1,hf1⟩,?_,by omega⟩
  rw[←tr1.vl 10000]
  cases b == c with
  | true=>simp[zr]
  | false=>cases f1<;>rfl
 have hI2:IsR l (.agg [.bool (b && !f2.isEmpty),s2]) (bif b then -((vl 10000 r:Nat):Int)else ((vl 10000 r:Nat):Int)):=by
  refine⟨f2,_,⟨⟨s2,rfl,hs2⟩,df2,cf2,hf2⟩,?_,by omega⟩
  rw[←tr2.vl 10000]
  cases b with
  | false=>simp[zr]
  | true=>cases f2<;>rfl
 refine qac (qaf (ht1.and ht2) (fun n hn k=>by simp -implicitDefEqProofs (disch:=omega) only[go_sem,reduceIte,Nat.reduceEqDiff,qae,List.getD_cons_zero,List.getD_cons_succ,qar L4,qdB 4 false b c U4,qps,qpr,qbl hn.1 (Ex1.bool _) hsq.ex rfl hsq.quiet,qbl hn.2 (Ex1.bool _) hsr.ex rfl hsr.quiet,qah N31 1 (.bool (!(b == c) && !f1.isEmpty)) s1 (.bool false) .nils _ rfl hs1.pl.ok,qah N31 1 (.bool (b && !f2.isEmpty)) s2 (.bool false) .nils _ rfl hs2.pl.ok];exact qav (by kernel_rfl)) ?_)
 refine qau (M:=fun st=>∃ v0 v1 w0 w1,IsR k (.agg [v0,v1]) (x / y)∧IsR l (.agg [w0,w1]) (x % y)∧I38 s u b c ⟨h.rows,none,h.mods⟩ st.tm st.loc∧lg st.loc 8=(1,.cells false [v0,v1])∧lg st.loc 9=(1,.cells false [w0,w1])∧st.hp=⟨h.rows,none,h.mods⟩) ?_ ?_
 ·have hgz:(0<vl 10000 r)↔f2≠[]:=by
   rw[←tr2.vl 10000]
   constructor
   ·intro h1 e1;subst e1;simp[vl]at h1
   ·intro h1;exact qdh (B:=10000) cf2 h1 (by decide)
  refine qwZ (hp:=⟨h.rows,none,h.mods⟩) (M:=fun tm loc=>I38 s u b c ⟨h.rows,none,h.mods⟩ tm loc∧lg loc 8=(1,.cells false [.bool (!(b == c) && !f1.isEmpty),s1])∧lg loc 9=(1,.cells false [.bool (b && !f2.isEmpty),s2])) rfl ⟨⟨sSG,sSG,sS,sS,sS,sS,sS,sS,sS,sS⟩,sS,sS⟩ ?_
  intro tm loc ⟨⟨h2,h3,h4,h5,h8,h9,l2,l3,l4,l5⟩,l8,l9⟩
  have hb01:b=true∧0<vl 10000 r∨(b&&decide (0<vl 10000 r))=false:=by
   cases b with
   | false=>exact .inr rfl
   | true =>
    rcases Nat.eq_zero_or_pos (vl 10000 r)with q | q
    ·exact .inr (by rw[q];rfl)
    ·exact .inl ⟨rfl,q⟩
  rcases hb01 with ⟨rfl,hg0⟩ | hbf
  ·have hf2:(true && !f2.isEmpty)=true:=by
    have:=hgz.1 hg0
    cases f2 with
    | nil=>exact absurd rfl this
    | cons x0 l0=>rfl
   rw[hf2]at l9 hI2
   obtain⟨b1,hb1⟩:∃ b1,(!(true == c) && !f1.isEmpty)=b1:=⟨_,rfl⟩
   rw[hb1]at l8 hI1
   rw[decide_eq_true hg0,Bool.true_and,cond_true]at qr
   rw[decide_eq_true hg0]at ql
   simp only[cond_true]at ql
   have hIE:IsR l (.agg [.bool false,u]) ((vl 10000 e:Nat):Int):=⟨e,false,⟨⟨u,rfl,hu⟩,de,ce,fun _=>rfl⟩,rfl,hel⟩
   have hEl:vl 10000 e<10000 ^ l:=qaV (by decide) de hel
   obtain⟨r5,hr5,hI5⟩:=qeR hI2 hIE (by omega) (by omega) ⟨h.rows,none,h.mods⟩
   have hI5':IsR l r5 (x % y):=by
    have e1:(bif true then -((vl 10000 r:Nat):Int)else ((vl 10000 r:Nat):Int))+((vl 10000 e:Nat):Int)=x % y:=by rw[qr,cond_true];omega
    rw[e1]at hI5
    exact hI5.shrink (by rw[qr];omega)
   obtain⟨s5,b5,rfl,p5,x5,q5⟩:=hI5'.form
   obtain⟨p2,x2,q2⟩:=hI2.nn
   obtain⟨pE,xE,qE⟩:=hIE.nn
   obtain⟨p1,x1,q1⟩:=hI1.nn
   refine qac (qad (fun n k=>by simp -implicitDefEqProofs (disch:=omega) only[go_sem,reduceIte,Nat.reduceEqDiff,h9,l9,qar L4];rfl) ?_)
   refine qan sS ?_
   refine qac (qaf (hr5) (fun n hn k=>by simp -implicitDefEqProofs (disch:=omega) only[go_sem,reduceIte,Nat.reduceEqDiff,h3,h9,l3,l9,qao L29,qaz L31,qsL hu.pl,qb5 hn x2 xE,qah N31 1 (.bool b5) s5 (.bool true) s2 _ rfl p5.ok];rfl) ?_)
   obtain⟨r8,hr8,hI8⟩:=qfU (z:=1) (by decide) (by decide) ⟨h.rows,none,h.mods⟩
   obtain⟨s8,b8,rfl,p8,x8,q8⟩:=hI8.form
   have hr8':Runs Pg kn0 tbl 22 [.int .i64 (.ofNat 1)] ⟨h.rows,none,h.mods⟩ (.val (.agg [.bool b8,s8]) ⟨h.rows,none,h.mods⟩):=hr8
   have hbd:=Nat.lt_of_le_of_lt (Int.natAbs_ediv_le_natAbs x y) ha0.QdS
   cases c with
   | false =>
    obtain⟨r9,hr9,hI9⟩:=qi8 hI1 hI8 (by omega) (by omega) ⟨h.rows,none,h.mods⟩
    have hI9':IsR k r9 (x / y):=by
     have e1:(bif true == false then ((vl 10000 q:Nat):Int)else -((vl 10000 q:Nat):Int)) - 1=x / y:=by rw[ql];rfl
     rw[e1]at hI9
     exact hI9.shrink hbd
    obtain⟨s9,b9,rfl,p9,x9,q9⟩:=hI9'.form
    refine qac (qad (fun n k=>by simp -implicitDefEqProofs (disch:=omega) only[go_sem,reduceIte,Nat.reduceEqDiff,h3,l3,qar L4];rfl) ?_)
    refine qaj sS ?_
    refine qaf (hr8'.and hr9) (fun n hn k=>by
     simp -implicitDefEqProofs (disch:=omega) only[go_sem,reduceIte,Nat.reduceEqDiff,h8,l8,qaz L31,qb9 hn.1 (Ex1.int _ _) rfl,qbl hn.2 x1 x8 q1 q8,qah N31 1 (.bool b9) s9 (.bool b1) s1 _ rfl p9.ok]
     exact qav (by kernel_rfl)) ?_
    exact⟨.bool b9,s9,.bool b5,s5,hI9',hI5',⟨(sS1 h2),(sS1 h3),(sS1 h4),(sS1 h5),(sS1 h8),(sS1 h9),(sS1 l2),(sS1 l3),(sS1 l4),(sS1 l5)⟩,sS,sS,rfl⟩
   | true =>
    obtain⟨r9,hr9,hI9⟩:=qeR hI1 hI8 (by omega) (by omega) ⟨h.rows,none,h.mods⟩
    have hI9':IsR k r9 (x / y):=by
     have e1:(bif true == true then ((vl 10000 q:Nat):Int)else -((vl 10000 q:Nat):Int))+1=x / y:=by rw[ql];rfl
     rw[e1]at hI9
     exact hI9.shrink hbd
    obtain⟨s9,b9,rfl,p9,x9,q9⟩:=hI9'.form
    refine qac (qad (fun n k=>by simp -implicitDefEqProofs (disch:=omega) only[go_sem,reduceIte,Nat.reduceEqDiff,h3,l3,qar L4];rfl) ?_)
    refine qan sS ?_
    refine qaf (hr8'.and hr9) (fun n hn k=>by
     simp -implicitDefEqProofs (disch:=omega) only[go_sem,reduceIte,Nat.reduceEqDiff,h8,l8,qaz L31,qb9 hn.1 (Ex1.int _ _) rfl,qbl hn.2 x1 x8 q1 q8,qah N31 1 (.bool b9) s9 (.bool b1) s1 _ rfl p9.ok]
     exact qav (by kernel_rfl)) ?_
    exact⟨.bool b9,s9,.bool b5,s5,hI9',hI5',⟨(sS1 h2),(sS1 h3),(sS1 h4),(sS1 h5),(sS1 h8),(sS1 h9),(sS1 l2),(sS1 l3),(sS1 l4),(sS1 l5)⟩,sS,sS,rfl⟩
  ·have hneg:(b && !f2.isEmpty)=false:=by
    cases b with
    | false=>rfl
    | true =>
     rw[Bool.true_and,decide_eq_false_iff_not,hgz]at hbf
     cases f2 with
     | nil=>rfl
     | cons x0 l0=>exact absurd (by simp) hbf
   rw[hneg]at l9 hI2
   have qf:x / y=bif b == c then ((vl 10000 q:Nat):Int)else -((vl 10000 q:Nat):Int):=by
    rw[ql]
    cases b with
    | false=>cases c<;>rfl
    | true =>
     rw[Bool.true_and]at hbf
     rw[hbf]
     cases c<;>simp
   have rf:x % y=bif b then -((vl 10000 r:Nat):Int)else ((vl 10000 r:Nat):Int):=by
    rw[qr,hbf]
    cases b with
    | false=>rfl
    | true =>
     rw[Bool.true_and,decide_eq_false_iff_not]at hbf
     have:vl 10000 r=0:=by omega
     rw[this];rfl
   refine qac (qad (fun n k=>by simp -implicitDefEqProofs (disch:=omega) only[go_sem,reduceIte,Nat.reduceEqDiff,h9,l9,qar L4];rfl) ?_)
   refine qaj sS (qag ?_)
   exact⟨_,s1,_,s2,by rw[qf];exact hI1,by rw[rf];exact hI2,⟨(sS1 h2),(sS1 h3),(sS1 h4),(sS1 h5),(sS1 h8),(sS1 h9),(sS1 l2),(sS1 l3),(sS1 l4),(sS1 l5)⟩,(sS1 l8),(sS1 l9),rfl⟩
 ·intro st ⟨v0,v1,w0,w1,hv0,hw0,⟨h2,h3,h4,h5,h8,h9,l2,l3,l4,l5⟩,l8,l9,hhp⟩
  obtain⟨sv,bv,e1,pv,_,_⟩:=hv0.form
  obtain⟨sw,bw,e2,pw,_,_⟩:=hw0.form
  obtain⟨rfl,rfl⟩:v0=.bool bv∧v1=sv:=by simpa using e1
  obtain⟨rfl,rfl⟩:w0=.bool bw∧w1=sw:=by simpa using e2
  refine qac (qad (fun n k=>by simp -implicitDefEqProofs (disch:=omega) only[go_sem,reduceIte,Nat.reduceEqDiff,h4,h5,h8,h9,l4,l5,l8,l9,qaz L31,qah N31 1 (.bool bv) v1 (.bool false) .nils _ rfl pv.ok,qah N31 1 (.bool bw) w1 (.bool false) .nils _ rfl pw.ok];exact qav (by kernel_rfl)) ?_)
  exact qai (fin _ _ _ _ _ hv0 (by rw[if_neg hyn];exact hw0) (sS1 h4) (sS1 h5) sS sS hhp)
theorem tbl40:tbl 40=some ⟨rc40,[.cell 4 31]⟩:=by kernel_rfl
theorem qoI{k l:Nat}{va vb:V}{x y:Int}(ha:IsR k va x)(hb:IsR l vb y)(hk:k≤90000)(hl:l≤90000):Gives 40 [va,vb] fun r=>IsR (max k l) r ((Nat.gcd x.natAbs y.natAbs:Nat):Int):=by
 obtain⟨d,b,⟨⟨s,rfl,hs⟩,dd,cd,h0⟩,rfl,hdl⟩:=ha
 obtain⟨e,c,⟨⟨u,rfl,hu⟩,de,ce,he0⟩,rfl,hel⟩:=hb
 rw[qlK,qlK]
 refine qak tbl40 fun h Q hQ=>?_
 unfold rc40
 refine sRG ?_
 have hI1:IsR (max k l) (.agg [.bool false,s]) ((vl 10000 d:Nat):Int):=⟨d,false,⟨⟨s,rfl,hs⟩,dd,cd,fun _=>rfl⟩,rfl,by omega⟩
 have hI2:IsR (max k l) (.agg [.bool false,u]) ((vl 10000 e:Nat):Int):=⟨e,false,⟨⟨u,rfl,hu⟩,de,ce,fun _=>rfl⟩,rfl,by omega⟩
 refine qac (qad (fun n k=>by simp -implicitDefEqProofs (disch:=omega) only[go_sem,reduceIte,Nat.reduceEqDiff,qae,List.getD_cons_zero,List.getD_cons_succ,qao L29,qsK hs.pl,qsJ hu.pl,qsw,qsv,qah N31 1 (.bool false) s (.bool false) .nils _ rfl hs.pl.ok,qah N31 1 (.bool false) u (.bool false) .nils _ rfl hu.pl.ok];exact qav (by kernel_rfl)) ?_)
 refine qac (qaP (fun m st=>∃ a sa ba sb bb,IsR (max k l) (.agg [.bool ba,sa]) ((a:Nat):Int)∧IsR (max k l) (.agg [.bool bb,sb]) ((m:Nat):Int)∧Nat.gcd a m=Nat.gcd (vl 10000 d) (vl 10000 e)∧gt st.tm 5=.ptr (.loc 5 1) 0∧gt st.tm 6=.ptr (.loc 6 1) 0∧gt st.tm 4=.ptr (.loc 4 1) 0∧lg st.loc 5=(1,.cells false [.bool ba,sa])∧lg st.loc 6=(1,.cells false [.bool bb,sb])∧lg st.loc 4=(1,.cells false [.bool false,.nils])∧st.hp=⟨h.rows,none,h.mods⟩) (vl 10000 e) ⟨vl 10000 d,s,false,u,false,hI1,hI2,rfl,sS,sS,sS,sS,sS,sS,rfl⟩ ?_)
 intro m st ⟨a,sa,ba,sb,bb,hA,hM,hg,h5,h6,h4,l5,l6,l4,hhp⟩
 obtain⟨pa,xa,qa⟩:=hA.nn
 obtain⟨pb,xb,qb⟩:=hM.nn
 have hM':=hM
 obtain⟨f,b',⟨⟨sb',eb,hsb⟩,df,cf,hf0⟩,hmv,hfl⟩:=hM'
 obtain⟨rfl,rfl⟩:bb=b'∧sb=sb':=by simpa using eb
 have hfm:vl 10000 f=m:=by rw[←qlK f bb,←hmv];simp
 rcases Nat.eq_zero_or_pos f.length with e0 | e0
 ·have ef:f=[]:=List.length_eq_zero_iff.1 e0
  have hm0:m=0:=by rw[←hfm,ef];rfl
  refine qac (qac (qad (fun n k=>by simp -implicitDefEqProofs (disch:=omega) only[go_sem,reduceIte,Nat.reduceEqDiff,h6,l6,qao L29,qam hsb,e0,qaY];rfl) ?_))
  refine qaj sS (qax ?_)
  rw[if_pos rfl]
  refine qac (qad (fun n k=>by simp -implicitDefEqProofs (disch:=omega) only[go_sem,reduceIte,Nat.reduceEqDiff,h5,l5,h4,l4,qaz L31,qah N31 1 (.bool ba) sa (.bool false) .nils _ rfl pa.ok];rfl) ?_)
  refine qai (hQ _ _ (qaW (x:=.bool ba) (y:=sa) (f:=false) (d:=4) (g:=1) (by kernel_rfl) (sS1 h4) sS (Pl.bool _) pa (by rw[hhp])) ?_)
  rw[←hg,hm0,Nat.gcd_zero_right]
  exact hA
 ·have hm0:0<m:=by
   rw[←hfm]
   exact qdh (B:=10000) cf (fun q=>by subst q;simp at e0) (by decide)
  refine qac (qac (qad (fun n k=>by simp -implicitDefEqProofs (disch:=omega) only[go_sem,reduceIte,Nat.reduceEqDiff,h6,l6,qao L29,qam hsb,qaQ];rfl) ?_))
  refine qan sS (qag (qaq ?_))
  obtain⟨_,hq,v,w,rfl,hv,hw⟩:=qet hA hM (by omega) (by omega) ⟨h.rows,none,h.mods⟩
  rw[if_neg (by omega),←Int.natCast_emod]at hw
  obtain⟨sv,bv,rfl,pv,xv,_⟩:=hv.form
  obtain⟨sw,bw,rfl,pw,xw,_⟩:=hw.form
  refine qac (qaf (hq) (fun n hn k=>by simp -implicitDefEqProofs (disch:=omega) only[go_sem,reduceIte,Nat.reduceEqDiff,h5,h6,l5,l6,hhp,qaz L31,qb5 hn xa xb,qaJ,qah N31 ((lg st.loc 7).1+1) (.bool bv) sv (.bool false) .nils _ rfl pv.ok,qah N31 ((lg st.loc 8).1+1) (.bool bw) sw (.bool false) .nils _ rfl pw.ok];rfl) ?_)
  refine qad (fun n k=>by simp -implicitDefEqProofs (disch:=omega) only[go_sem,reduceIte,Nat.reduceEqDiff,h5,h6,l5,l6,qaz L31,qah N31 1 (.bool bb) sb (.bool ba) sa _ rfl pb.ok,qah N31 1 (.bool bw) sw (.bool bb) sb _ rfl pw.ok];exact qav (by kernel_rfl)) ?_
  exact⟨a % m,Nat.mod_lt _ hm0,m,sb,bb,sw,bw,hM,hw,by rw[←hg,Nat.gcd_comm a m,Nat.gcd_rec m a,Nat.gcd_comm],(sS1 h5),(sS1 h6),(sS1 h4),sS,sS,(sS1 l4),rfl⟩
section
variable {C:Cfg}{P:Program}{call:Qad}{gl:Nat→Bool}{o:Oper}{t' tm:Tm}{loc:Lo}{hp:Hp}
theorem qbK{t:TypeId}(hl:F.Qax P t=some (2,true))(g:Nat)(frz:Bool)(a b c d:V):ldc P t g 0 (g,.cells frz [a,b,c,d])=some (.agg [a,b]):=by
 show(bif Nat.beq g g then G.part (F.Qax P t) [a,b,c,d] 0 else none)=_
 rw[Nat.beq_refl,hl];rfl
theorem qd3{t:TypeId}(hl:F.Qax P t=some (2,true))(g:Nat)(frz:Bool)(a b c d:V):ldc P t g 2 (g,.cells frz [a,b,c,d])=some (.agg [c,d]):=by
 show(bif Nat.beq g g then G.part (F.Qax P t) [a,b,c,d] 2 else none)=_
 rw[Nat.beq_refl,hl];rfl
theorem qaO{t:TypeId}(hl:F.Qax P t=some (4,true))(g:Nat)(frz:Bool)(a b c d:V):ldc P t g 0 (g,.cells frz [a,b,c,d])=some (.agg [a,b,c,d]):=by
 show(bif Nat.beq g g then G.part (F.Qax P t) [a,b,c,d] 0 else none)=_
 rw[Nat.beq_refl,hl];rfl
theorem qaM{t:TypeId}(hl:F.QaR P t 4=true)(g:Nat)(a b c d x y z w:V)(f:Nat × Row→R)(ha:a.Qaw=true)(hb:b.Qaw=true)(hc:c.Qaw=true)(hd:d.Qaw=true) :
  stc P t g 0 (.agg [a,b,c,d]) (g,.cells false [x,y,z,w]) f=f (g,.cells false [a,b,c,d]):=by
 show(bif Nat.beq g g&&F.QcN V.Qaw [a,b,c,d]&&F.QaR P t 4 then G.Qac (F.setAt [x,y,z,w] 0 [a,b,c,d]) _ none else none)=_
 rw[Nat.beq_refl,show F.QcN V.Qaw [a,b,c,d]=true from by rw[F.Qbm];simp[ha,hb,hc,hd],hl,F.QbD]
 rfl
def qya(P:Program)(t:TypeId):Bool:=match P.underlying t with
 | some (.struct fs)=>(match fs.toList with
  | [f0,f1]=>Nat.beq f0.offset 0&&Nat.beq f1.offset 2&&(match QbG P f0.type,QbG P f1.type with | some a,some b=>Nat.beq a 2&&Nat.beq b 2 | _,_=>false)
  | _=>false)
 | _=>false
theorem Pl.weak1{x:V}(h:Pl x):x.weak1=x:=by
 have h1:=h.weak
 cases x with
 | agg cs=>exact absurd rfl (h.Qdk cs)
 | _=>exact h1
theorem Pl.Qap{x:V}(h:Pl x):x.Qap=true:=by
 have h1:=h.plain
 cases x with
 | agg cs=>exact absurd rfl (h.Qdk cs)
 | arr=>simp[V.plain]at h1
 | dead=>simp[V.plain]at h1
 | _=>exact h1
theorem agg2{x y:V}(hx:Pl x)(hy:Pl y):(V.agg [x,y]).QbM=.agg [x,y]∧(V.agg [x,y]).plain=true∧(V.agg [x,y]).cells=[x,y]:=by
 refine⟨?_,?_,rfl⟩
 ·simp only[V.QbM,List.map_cons,List.map_nil,hx.weak1,hy.weak1]
 ·simp only[V.plain,V.Qap,V.Qak,hx.Qap,hy.Qap,Bool.and_self]
theorem qex{t:TypeId}{a b:Operand}{x y u v z0 z1 z2 z3:V}{ρ:Nat→V}{lc:Nat→Nat × Row}(ho:o.op=.build t #[(0,a),(1,b)])(h2:qya P t=true)(hz:zeroV P t=some (.agg [z0,z1,z2,z3]))
  (ha:AM.opd ρ a=.agg [x,y]) (hb:AM.opd ρ b=.agg [u,v]) (px:Pl x) (py:Pl y) (pu:Pl u) (pv:Pl v):Qal P C gl ρ lc o=some (.agg [x,y,u,v],none):=by
 unfold qya at h2
 split at h2
 ·rename_i fs hu
  split at h2
  ·rename_i f0 f1 hfs
   simp only[Bool.and_eq_true]at h2
   obtain⟨⟨a0,a1⟩,a2⟩:=h2
   have e:fs = #[f0,f1]:=by apply Array.toList_inj.1;rw[hfs]
   subst e
   split at a2
   ·rename_i na nb s0 s1
    simp only[Bool.and_eq_true]at a2
    have b1:na=2:=Nat.eq_of_beq_eq_true a2.1
    have b2:nb=2:=Nat.eq_of_beq_eq_true a2.2
    subst b1;subst b2
    have o0:=Nat.eq_of_beq_eq_true a0;have o1:=Nat.eq_of_beq_eq_true a1
    have i0:(P.info? f0.type).isSome=true:=by
     unfold QbG at s0
     cases h:P.info? f0.type with
     | none=>rw[h]at s0;simp at s0
     | some i=>rfl
    have i1:(P.info? f1.type).isSome=true:=by
     unfold QbG at s1
     cases h:P.info? f1.type with
     | none=>rw[h]at s1;simp at s1
     | some i=>rfl
    have e0:Qat P t 0=some f0:=by unfold Qat;rw[hu];rfl
    have e1:Qat P t 1=some f1:=by unfold Qat;rw[hu];rfl
    obtain⟨w1,w2,w3⟩:=agg2 px py
    obtain⟨w4,w5,w6⟩:=agg2 pu pv
    unfold Qal
    simp only[ho,Qam,hu,hz,V.live,Bool.true_and]
    have ea:(#[f0,f1]:Array Field).all (fun f=>(P.info? f.type).isSome)=true:=by simp[i0,i1]
    rw[ea]
    have c0:V.cells (.agg [z0,z1,z2,z3])=[z0,z1,z2,z3]:=rfl
    simp only[cond_true,Qbl,e0,e1,ha,hb,w1,w2,w3,w4,w5,w6,s0,s1,o0,o1,Option.getD_some,List.length_cons,List.length_nil,c0]
    rfl
   ·simp at a2
  ·simp at h2
 ·simp at h2
def qAh:List V→V
 | [v]=>v
 | vs=>.tuple vs
theorem qgS{h:Hp}{res:List ResultVar}{s:St}{vs:List V}(hr:Qbj P s res=some vs)(he:ExL vs)(hn:V.Qaf vs=true)(hd:DG h.rows.length s.hp) :
  fin P h res s=some (.val (qAh vs) h):=by
 unfold fin
 rw[hr]
 simp only[qb3 vs s he]
 have hb:Qar h s.hp vs=h:=by unfold Qar;rw[qdc hd,hn];rfl
 match vs,hb with
 | [],hb=>show some (Out.val (.tuple []) _)=_;rw[hb];rfl
 | [v],hb=>show some (Out.val v _)=_;rw[hb];rfl
 | v::w::l,hb=>show some (Out.val (.tuple (v::w::l)) _)=_;rw[hb];rfl
theorem qcA{a b c d:V}(ha:Pl a)(hb:Pl b)(hc:Pl c)(hd:Pl d):Ex1 (.agg [a,b,c,d]):=fun st=>qda (by intro v hv;simp at hv;rcases hv with rfl | rfl | rfl | rfl<;>assumption) st
end
theorem tbl48:tbl 48=some ⟨rc48,[.cell 2 26]⟩:=by kernel_rfl
theorem tbl49:tbl 49=some ⟨rc49,[.cell 2 26]⟩:=by kernel_rfl
theorem tbl63:tbl 63=some ⟨rc63,[.tmp 2]⟩:=by kernel_rfl
def IsQ(k:Nat)(v:V)(q:Rat):Prop:=∃ s b u c,v=.agg [s,.bool b,u,.bool c]∧IsI k (.agg [s,.bool b]) q.num∧IsI k (.agg [u,.bool c]) ((q.den:Int) - 1)
theorem IsQ.mono{k l:Nat}{v:V}{q:Rat}(h:IsQ k v q)(hl:k≤l):IsQ l v q:=by
 obtain⟨s,b,u,c,e,h1,h2⟩:=h
 exact⟨s,b,u,c,e,h1.mono hl,h2.mono hl⟩
theorem qs6{a b c d:V}(ha:Pl a)(hb:Pl b)(hc:Pl c)(hd:Pl d)(qa:AM.quiet (.agg [a,b])=true)(qc:AM.quiet (.agg [c,d])=true):AM.quiet (.agg [a,b,c,d])=true:=by
 simp only[AM.quiet,List.all_cons,List.all_nil,Bool.and_true]at qa qc ⊢
 simp_all
theorem IsQ.facts{k:Nat}{s u:V}{b c:Bool}(h1:∃ z,IsI k (.agg [s,.bool b]) z)(h2:∃ z,IsI k (.agg [u,.bool c]) z):Pl s∧Pl u∧Ex1 (.agg [s,.bool b,u,.bool c])∧AM.quiet (.agg [s,.bool b,u,.bool c])=true:=by
 obtain⟨_,h1⟩:=h1;obtain⟨_,h2⟩:=h2
 obtain⟨p1,_,q1⟩:=h1.nn
 obtain⟨p2,_,q2⟩:=h2.nn
 exact⟨p1,p2,qcA p1 (Pl.bool _) p2 (Pl.bool _),qs6 p1 (Pl.bool _) p2 (Pl.bool _) q1 q2⟩
theorem qa7{k:Nat}{va:V}{q:Rat}(ha:IsQ k va q)(hk:k≤250000):Gives 48 [va] fun r=>IsI (max k 2+1) r (q.den:Int):=by
 obtain⟨s,b,u,c,rfl,h1,h2⟩:=ha
 refine qak tbl48 fun h Q hQ=>?_
 unfold rc48
 refine sRG ?_
 obtain⟨pu,xu,qu⟩:=h2.nn
 obtain⟨r1,A1,I1⟩:=qgs (z:=.ofNat 1) (by decide) (by decide) ⟨h.rows,none,h.mods⟩
 obtain⟨r2,A2,I2⟩:=qi2 h2 I1 (by omega) (by omega) ⟨h.rows,none,h.mods⟩
 rw[show(q.den:Int) - 1+.ofNat 1=(q.den:Int) from by show(q.den:Int) - 1+1=_;omega]at I2
 obtain⟨s2,b2,rfl,p2,_,_⟩:=I2.form
 refine qac (qaf (A1.and A2) (fun n hn k=>by simp -implicitDefEqProofs (disch:=omega) only[go_sem,reduceIte,Nat.reduceEqDiff,qd3 L26,qb9 hn.1 (Ex1.int _ _) rfl,qbl hn.2 xu I1.ex qu I1.quiet,qah N26 1 s2 (.bool b2) .nils (.bool false) _ p2.ok rfl];exact qav (by kernel_rfl)) ?_)
 exact qai (hQ _ _ (qaW (x:=s2) (y:=.bool b2) (f:=false) (d:=2) (g:=1) (by kernel_rfl) sS sS p2 (Pl.bool _) rfl) I2)
theorem qlP{k:Nat}{va:V}{q:Rat}(ha:IsQ k va q):Gives 49 [va] fun r=>IsI k r q.num:=by
 obtain⟨s,b,u,c,rfl,h1,h2⟩:=ha
 refine qak tbl49 fun h Q hQ=>?_
 unfold rc49
 refine sRG ?_
 obtain⟨ps,xs,qs⟩:=h1.nn
 refine qac (qad (fun n k=>by simp -implicitDefEqProofs (disch:=omega) only[go_sem,reduceIte,Nat.reduceEqDiff,qbK L26,qah N26 1 s (.bool b) .nils (.bool false) _ ps.ok rfl];rfl) ?_)
 exact qai (hQ _ _ (qaW (x:=s) (y:=.bool b) (f:=false) (d:=2) (g:=1) (by kernel_rfl) sS sS ps (Pl.bool _) rfl) h1)
theorem qfA{k:Nat}{va:V}{q:Rat}(ha:IsQ k va q)(hk:k≤250000):Gives 63 [va] fun r=>r=.bool (decide (q.den=1)):=by
 obtain⟨s,b,u,c,rfl,h1,h2⟩:=ha
 refine qak tbl63 fun h Q hQ=>?_
 unfold rc63
 refine sRG ?_
 obtain⟨pu,xu,qu⟩:=h2.nn
 obtain⟨_,A1,rfl⟩:=qdk h2 (by omega) ⟨h.rows,none,h.mods⟩
 have hd:0<q.den:=q.den_pos
 have hs:∃ n,sgn ((q.den:Int) - 1)=.ofNat n∧(n=0↔q.den=1):=by
  by_cases e:q.den=1
  ·exact⟨0,qcu (by omega),by simp[e]⟩
  ·exact⟨1,qh6 (by omega),by simp[e]⟩
 obtain⟨n,hs,hn1⟩:=hs
 rw[hs]at A1
 refine qac (qaf (A1) (fun n hn k=>by simp -implicitDefEqProofs (disch:=omega) only[go_sem,reduceIte,Nat.reduceEqDiff,qd3 L26,qcG hn xu,qxA];rfl) ?_)
 exact qai (hQ _ _ (qaX (v:=.bool (decide (n=0))) sS (Ex1.bool _ _) rfl rfl) (by simp only[hn1]))
theorem tbl44:tbl 44=some ⟨rc44,[.cell 4 59,.tmp 5]⟩:=by kernel_rfl
theorem qsI{x y u v:V}(px:Pl x)(py:Pl y)(pu:Pl u)(pv:Pl v)(c:Qad)(t:Tm)(l:Lo)(h:Hp)(J:JD)(X:XD):gD Try.f44 44 8 4 c (pt (pt t 33 (.agg [x,y])) 36 (.agg [u,v])) l h J X=J (.agg [x,y,u,v]) ⟨[],[],false,false,false,false⟩ l h :=
 qcm (C:=Cg) (gl:=Cg.glob 44) (call:=c) (o:=opA Try.f44 8 4) (d:=37) (t:=59) (l:=#[(0,.tmp 33),(1,.tmp 36)]) (by kernel_rfl) (by kernel_rfl) (qex (a:=.tmp 33) (b:=.tmp 36) (by kernel_rfl) (by kernel_rfl) (show zeroV Pg 59=some (.agg [.nils,.bool false,.nils,.bool false])by kernel_rfl) (by rw[qaB,qal,if_neg (by decide),qal,if_pos rfl]) (by rw[qaB,qal,if_pos rfl]) px py pu pv)
theorem qc8{h:Hp}{a b d g:Nat}{f:Bool}{s:St}{x y z u w:V}(hv:gt s.tm a=.ptr (.loc d g) 0)(hr:lg s.loc d=(g,.cells f [x,y,z,u]))(hx:Pl x)(hy:Pl y)(hz:Pl z)(hu:Pl u)(hb:gt s.tm b=w)(hw:Pl w)(hc:DG h.rows.length s.hp) :
  fin Pg h [.cell a 59,.tmp b] s=some (.val (.tuple [.agg [x,y,z,u],w]) h):=by
 have e1:Qbj Pg s [.cell a 59,.tmp b]=some [.agg [x,y,z,u],w]:=by
  simp only[Qbj,qbI,hv,hb,qap hr,QaV,show Qax Pg 59=some (4,true)by kernel_rfl,Option.map_some]
  rfl
 exact qgS e1 ⟨qcA hx hy hz hu,hw.ex,trivial⟩ (by simp only[V.Qaf,V.Qao,hx.refs,hy.refs,hz.refs,hu.refs,hw.refs,Bool.and_self]) hc
theorem qcP{h:Hp}{a d g:Nat}{f:Bool}{s:St}{x y z u:V}(hv:gt s.tm a=.ptr (.loc d g) 0)(hr:lg s.loc d=(g,.cells f [x,y,z,u]))(hx:Pl x)(hy:Pl y)(hz:Pl z)(hu:Pl u)(hc:DG h.rows.length s.hp) :
  fin Pg h [.cell a 59] s=some (.val (.agg [x,y,z,u]) h):=by
 have e1:Qbj Pg s [.cell a 59]=some [.agg [x,y,z,u]]:=by
  simp only[Qbj,qbI,hv,qap hr,QaV,show Qax Pg 59=some (4,true)by kernel_rfl]
  rfl
 exact qgS e1 ⟨qcA hx hy hz hu,trivial⟩ (by simp only[V.Qaf,V.Qao,hx.refs,hy.refs,hz.refs,hu.refs,Bool.and_self]) hc
theorem qfD{x y:Int}(hy:y≠0):(Rat.divInt x y).num=(y.sign*x) / ((Nat.gcd (y.sign*x).natAbs y.natAbs:Nat):Int)∧((Rat.divInt x y).den:Int)=((y.natAbs:Nat):Int) / ((Nat.gcd (y.sign*x).natAbs y.natAbs:Nat):Int):=by
 have e:Nat.gcd (y.sign*x).natAbs y.natAbs=Int.gcd y x:=by
  rw[Int.natAbs_mul,Int.natAbs_sign_of_ne_zero hy,Nat.one_mul,Nat.gcd_comm];rfl
 rw[e,Rat.num_divInt,Rat.den_divInt,if_neg hy]
 exact⟨rfl,Int.natCast_ediv _ _⟩
theorem qfw{x y:Int}(h:y<0):y.sign*x = -x:=by rw[Int.sign_eq_neg_one_of_neg h,Int.neg_mul,Int.one_mul]
theorem qfv{x y:Int}(h:0<y):y.sign*x=x:=by rw[Int.sign_eq_one_of_pos h,Int.one_mul]
theorem qdG{k l:Nat}{va vb:V}{x y:Int}(ha:IsI k va x)(hb:IsI l vb y)(hk:k≤250000)(hl:l≤250000):Gives 44 [va,vb] fun r=>∃ v,r=.tuple [v,.bool (decide (y≠0))]∧IsQ (max k l+3) v (Rat.divInt x y):=by
 obtain⟨s,b,rfl,ps,xs,qs⟩:=ha.form
 obtain⟨u,c,rfl,pu,xu,qu⟩:=hb.form
 refine qak tbl44 fun h Q hQ=>?_
 unfold rc44
 refine sRG ?_
 obtain⟨_,Ps,rfl⟩:=qdk hb (by omega) ⟨h.rows,none,h.mods⟩
 by_cases hy:y=0
 ·rw[qcu hy]at Ps
  refine qac (qac (qaf (Ps) (fun n hn k=>by simp -implicitDefEqProofs (disch:=omega) only[go_sem,reduceIte,Nat.reduceEqDiff,qae,List.getD_cons_zero,List.getD_cons_succ,qaz L26,qcG hn xu,ql2];rfl) ?_))
  refine qan sS ?_
  refine qac (qad (fun n k=>by simp -implicitDefEqProofs (disch:=omega) only[go_sem,reduceIte,Nat.reduceEqDiff,qaM N59 1 .nils (.bool false) .nils (.bool false) .nils (.bool false) .nils (.bool false) _ rfl rfl rfl rfl];rfl) ?_)
  refine qai (hQ _ _ (qc8 (x:=.nils) (y:=.bool false) (z:=.nils) (u:=.bool false) (w:=.bool false) (f:=false) (d:=4) (g:=1) sS sS Pl.nils (Pl.bool _) Pl.nils (Pl.bool _) sS (Pl.bool _) (fun x hx=>by cases hx)) ⟨_,by rw[decide_eq_false (by omega)],?_⟩)
  rw[hy,Rat.divInt_zero]
  exact⟨_,_,_,_,rfl,Qdr.mono (Nat.zero_le _),Qdr.mono (Nat.zero_le _)⟩
 ·have hs:∃ z,sgn y=z∧bin Pg .eql 3 true (.int .i64 z) (.int .i64 (.ofNat 0))=some (.bool false)∧bin Pg .lss 3 true (.int .i64 z) (.int .i64 (.ofNat 0))=some (.bool (decide (y<0))):=by
   rcases Int.lt_or_lt_of_ne hy with e | e
   ·exact⟨.negSucc 0,by unfold sgn Qcy;rw[if_pos e],rfl,by rw[decide_eq_true e];rfl⟩
   ·exact⟨.ofNat 1,qh6 e,rfl,by rw[decide_eq_false (by omega)];rfl⟩
  obtain⟨z,hz,hz1,hz2⟩:=hs
  rw[hz]at Ps
  refine qac (qac (qaf (Ps) (fun n hn k=>by simp -implicitDefEqProofs (disch:=omega) only[go_sem,reduceIte,Nat.reduceEqDiff,qae,List.getD_cons_zero,List.getD_cons_succ,qaz L26,qcG hn xu,hz1];rfl) ?_))
  refine qaj sS (qag ?_)
  refine qau (M:=fun st=>∃ s2 b2 u2 c2,IsI k (.agg [s2,.bool b2]) (y.sign*x)∧IsI l (.agg [u2,.bool c2]) ((y.natAbs:Nat):Int)∧gt st.tm 2=.ptr (.loc 2 1) 0∧gt st.tm 3=.ptr (.loc 3 1) 0∧gt st.tm 4=.ptr (.loc 4 1) 0∧lg st.loc 2=(1,.cells false [s2,.bool b2])∧lg st.loc 3=(1,.cells false [u2,.bool c2])∧lg st.loc 4=(1,.cells false [.nils,.bool false,.nils,.bool false])∧lg st.loc 6=(0,.gone)∧st.hp=⟨h.rows,none,h.mods⟩) ?_ ?_
  ·refine qac (qaf (Ps) (fun n hn k=>by simp -implicitDefEqProofs (disch:=omega) only[go_sem,reduceIte,Nat.reduceEqDiff,qae,List.getD_cons_zero,List.getD_cons_succ,qaz L26,qcG hn xu,hz2];rfl) ?_)
   refine qaU (by simp only[qal,reduceIte];rfl) (fun hneg=>?_) (fun hpos=>qag ?_)
   ·obtain⟨r1,A1,I1⟩:=qfV ha (by omega) ⟨h.rows,none,h.mods⟩
    obtain⟨r2,A2,I2⟩:=qfV hb (by omega) ⟨h.rows,none,h.mods⟩
    obtain⟨s1,b1,rfl,p1,_,_⟩:=I1.form
    obtain⟨s2,b2,rfl,p2,_,_⟩:=I2.form
    refine qaf (A1.and A2) (fun n hn k=>by
     simp -implicitDefEqProofs (disch:=omega) only[go_sem,reduceIte,Nat.reduceEqDiff,qae,List.getD_cons_zero,List.getD_cons_succ,qaz L26,qb9 hn.1 xs qs,qb9 hn.2 xu qu,qah N26 1 s1 (.bool b1) s (.bool b) _ p1.ok rfl,qah N26 1 s2 (.bool b2) u (.bool c) _ p2.ok rfl]
     exact qav (by kernel_rfl)) ?_
    refine⟨s1,b1,s2,b2,by rw[qfw hneg];exact I1,?_,sSG,sSG,sS,sS,sS,sS,(by simp -implicitDefEqProofs (disch:=omega) only[go_sem,reduceIte,Nat.reduceEqDiff,qcL]),rfl⟩
    rw[show((y.natAbs:Nat):Int) = -y by omega];exact I2
   ·have hp:0<y:=by omega
    refine⟨s,b,u,c,by rw[qfv hp];exact ha,?_,sSG,sSG,sS,sS,sS,sS,(by simp -implicitDefEqProofs (disch:=omega) only[go_sem,reduceIte,Nat.reduceEqDiff,qcL]),rfl⟩
    rw[show((y.natAbs:Nat):Int)=y by omega];exact hb
  ·intro st ⟨s2,b2,u2,c2,I1,I2,h2,h3,h4,l2,l3,l4,l6,hhp⟩
   obtain⟨p1,x1,q1⟩:=I1.nn
   obtain⟨p2,x2,q2⟩:=I2.nn
   obtain⟨r3,A3,I3⟩:=qro I1 I2 (by omega) (by omega) ⟨h.rows,none,h.mods⟩
   rw[Int.natAbs_natCast]at I3
   obtain⟨s3,b3,rfl,p3,x3,q3⟩:=I3.form
   have hg:0<Nat.gcd (y.sign*x).natAbs y.natAbs:=Nat.gcd_pos_of_pos_right _ (by omega)
   refine qac (qaf (A3) (fun n hn k=>by simp -implicitDefEqProofs (disch:=omega) only[go_sem,reduceIte,Nat.reduceEqDiff,h2,h3,l2,l3,l6,hhp,qaz L26,qb5 hn x1 x2,qah N26 1 s3 (.bool b3) .nils (.bool false) _ p3.ok rfl];rfl) ?_)
   obtain⟨_,A4,v4,w4,rfl,I4,_⟩:=qfR I1 I3 (by omega) (by omega) ⟨h.rows,none,h.mods⟩
   obtain⟨s4,b4,rfl,p4,x4,q4⟩:=I4.form
   refine qac (qaf (A4) (fun n hn k=>by simp -implicitDefEqProofs (disch:=omega) only[go_sem,reduceIte,Nat.reduceEqDiff,h2,l2,qaz L26,qb5 hn x1 x3,qaJ,qah N26 1 s4 (.bool b4) s2 (.bool b2) _ p4.ok rfl];rfl) ?_)
   obtain⟨_,A5,v5,w5,rfl,I5,_⟩:=qfR I2 I3 (by omega) (by omega) ⟨h.rows,none,h.mods⟩
   obtain⟨s5,b5,rfl,p5,x5,q5⟩:=I5.form
   refine qac (qaf (A5) (fun n hn k=>by simp -implicitDefEqProofs (disch:=omega) only[go_sem,reduceIte,Nat.reduceEqDiff,h3,l3,qaz L26,qb5 hn x2 x3,qaJ,qah N26 1 s5 (.bool b5) u2 (.bool c2) _ p5.ok rfl];rfl) ?_)
   obtain⟨r6,A6,I6⟩:=qgs (z:=.ofNat 1) (by decide) (by decide) ⟨h.rows,none,h.mods⟩
   obtain⟨r7,A7,I7⟩:=qfO I5 I6 (by omega) (by omega) ⟨h.rows,none,h.mods⟩
   obtain⟨s7,b7,rfl,p7,x7,q7⟩:=I7.form
   obtain⟨e1,e2⟩:=qfD (x:=x) hy
   refine qac (qaf (A6.and A7) (fun n hn k=>by simp -implicitDefEqProofs (disch:=omega) only[go_sem,reduceIte,Nat.reduceEqDiff,h2,h3,h4,l2,l3,l4,qaz L26,qb9 hn.1 (Ex1.int _ _) rfl,qbl hn.2 x5 I6.ex q5 I6.quiet,qsI p4 (Pl.bool _) p7 (Pl.bool _),qaM N59 1 s4 (.bool b4) s7 (.bool b7) .nils (.bool false) .nils (.bool false) _ p4.ok rfl p7.ok rfl];exact qav (by kernel_rfl)) ?_)
   refine qai (hQ _ _ (qc8 (x:=s4) (y:=.bool b4) (z:=s7) (u:=.bool b7) (w:=.bool true) (f:=false) (d:=4) (g:=1) (sS1 h4) sS p4 (Pl.bool _) p7 (Pl.bool _) sS (Pl.bool _) (fun x hx=>by cases hx)) ⟨_,by rw[decide_eq_true hy],s4,b4,s7,b7,rfl,?_,?_⟩)
   ·rw[e1];exact I4.mono (by omega)
   ·rw[e2];exact I7.mono (by omega)
section
variable {C:Cfg}{P:Program}{call:Qad}{gl:Nat→Bool}{o:Oper}{t' tm:Tm}{loc:Lo}{hp:Hp}{j:V→Lo→Hp→R}{J:JD}{X:XD}
theorem qnH(h:Hp)(ft:Foot)(e:ft.hp=false):F.settle h h ft=ft:=by
 unfold F.settle
 rw[Nat.beq_refl,Nat.beq_refl]
 cases ft;simp only at e;subst e;rfl
theorem qrn{d:Nat}{v:V}{ft:Foot}(hd:o.dst=some d)(hp1:Qal P C gl (⟨t',loc,hp⟩:St).ρ (⟨t',loc,hp⟩:St).lc o=some (v,none))
  (hf:Qaz P C gl (⟨t',loc,hp⟩:St).ρ (⟨t',loc,hp⟩:St).lc o=some ft) (he:ft.hp=false) :
  qgN P C call gl o t' loc hp J X=J v ft loc hp:=by
 have hs:Qah P C gl ⟨t',loc,hp⟩ o=some (.val v ⟨t',loc,hp⟩):=by
  unfold Qah
  rw[hp1];rfl
 unfold qgN
 rw[F.QbN,F.QbL,F.Qcg,F.Qcq,hf]
 show G.Qac (QaA P C call gl ⟨t',loc,hp⟩ o) _ none=_
 unfold QaA
 rw[hs]
 simp only[QaF,hd]
 show J (gt (aset t' d v) d) (F.settle hp hp ft) loc hp=_
 rw[qnH _ _ he,qcN,qaI,if_pos rfl]
theorem qoG{d x:Nat}{f:Fn}{v:V}(hd:o.dst=some d)(ho:o.op=.makeFunc f #[.tmp x] #[])(hx:gt t' x=v) :
  qgN P C call gl o t' loc hp J X=J (.fn f [v] []) ⟨[],[],false,false,false,false⟩ loc hp:=by
 have e:Qal P C gl (⟨t',loc,hp⟩:St).ρ (⟨t',loc,hp⟩:St).lc o=some (.fn f [v] [],none):=by
  unfold Qal
  simp only[ho,Qam,List.map_cons,List.map_nil,qaB,hx]
  rfl
 refine qrn hd e ?_ rfl
 unfold Qaz
 rw[e]
 simp only[ho]
def qom(o:Oper)(x y:Nat):Bool:=match o.op with
 | .call c=>(match c.callee,c.args.toList with
  | .value (.tmp a),[.tmp b]=>Nat.beq a x&&Nat.beq b y
  | _,_=>false)
 | _=>false
theorem qmU{d x y:Nat}{f:FuncId}{a b r:V}(hd:o.dst=some d)(ho:qom o x y=true)
  (hx:gt t' x=.fn (.func f) [a] []) (hy:gt t' y=b) (hr:call f [a,b] hp=some (.val r hp)) (ea:Ex1 a) (eb:Ex1 b) (qa:AM.quiet a=true) (qb:AM.quiet b=true) :
  qgN P C call gl o t' loc hp J X=J r ⟨[],[],true,false,false,false⟩ loc hp:=by
 obtain⟨c,ho,hc,hb⟩:∃ c,o.op=.call c∧c.callee=.value (.tmp x)∧c.args.toList=[.tmp y]:=by
  unfold qom at ho
  split at ho
  ·rename_i c hc
   split at ho
   ·rename_i a b e1 e2
    simp only[Bool.and_eq_true]at ho
    obtain rfl:=Nat.eq_of_beq_eq_true ho.1
    obtain rfl:=Nat.eq_of_beq_eq_true ho.2
    exact⟨c,hc,e1,e2⟩
   ·simp at ho
  ·simp at ho
 have e:Qal P C gl (⟨t',loc,hp⟩:St).ρ (⟨t',loc,hp⟩:St).lc o=none:=by
  unfold Qal
  simp only[ho,Qam,hc];rfl
 have hf:Qaz P C gl (⟨t',loc,hp⟩:St).ρ (⟨t',loc,hp⟩:St).lc o=some ⟨[],[],true,true,false,false⟩:=by
  unfold Qaz
  rw[e]
  simp only[ho,hc,hb,qaB,hx,hy,opds,List.map_cons,List.map_nil,List.all_cons,List.all_nil,qa,qb,Bool.and_self,cond_true]
 have hs:Qah P C gl ⟨t',loc,hp⟩ o=some (.enter f [a,b] ⟨t',loc,hp⟩):=by
  unfold Qah
  rw[e]
  simp only[stepG,ho,QaP,hc,hb,qaB,hx,hy,opds,List.map_cons,List.map_nil,List.append_nil,List.cons_append,List.nil_append]
  rw[qb3 [a,b] _ ⟨ea,eb,trivial⟩]
 unfold qgN
 rw[F.QbN,F.QbL,F.Qcg,F.Qcq,hf]
 show G.Qac (QaA P C call gl ⟨t',loc,hp⟩ o) _ none=_
 unfold QaA
 rw[hs]
 simp only[hr,QaF,hd]
 show J (gt (aset t' d r) d) (F.settle hp hp ⟨[],[],true,true,false,false⟩) loc hp=_
 rw[qcN,qaI,if_pos rfl,qf5]
theorem Gives.mono{f:FuncId}{args:List V}{p p':V→Prop}(h:Gives f args p)(hp:∀ v,p v→p' v):Gives f args p':=fun st=>by
 obtain⟨v,h1,h2⟩:=h st
 exact⟨v,h1,hp v h2⟩
end
theorem tbl82:tbl 82=some ⟨rc82,[.cell 4 59]⟩:=by kernel_rfl
theorem tbl61:tbl 61=some ⟨rc61,[.cell 2 59]⟩:=by kernel_rfl
theorem tbl55:tbl 55=some ⟨rc55,[.cell 4 59]⟩:=by kernel_rfl
theorem tbl57:tbl 57=some ⟨rc57,[.cell 2 59,.tmp 3]⟩:=by kernel_rfl
theorem tbl54:tbl 54=some ⟨rc54,[.tmp 4]⟩:=by kernel_rfl
theorem IsQ.plain{k:Nat}{s u:V}{b c:Bool}{q:Rat}(h1:IsI k (.agg [s,.bool b]) q.num)(h2:IsI k (.agg [u,.bool c]) ((q.den:Int) - 1)):Pl s∧Pl u∧Ex1 (.agg [s,.bool b,u,.bool c])∧AM.quiet (.agg [s,.bool b,u,.bool c])=true:=IsQ.facts (k:=k) ⟨_,h1⟩ ⟨_,h2⟩
theorem qhv{k l:Nat}{va vb:V}{x y:Int}(ha:IsI k va x)(hb:IsI l vb y)(hk:k≤250000)(hl:l≤250000):Gives 82 [va,vb] fun r=>IsQ (max k l+3) r (Rat.divInt x y):=by
 obtain⟨_,A1,v,rfl,I1⟩:=qdG ha hb hk hl ⟨[],none,0⟩
 obtain⟨s,b,rfl,ps,xs,qs⟩:=ha.form
 obtain⟨u,c,rfl,pu,xu,qu⟩:=hb.form
 refine qak tbl82 fun h Q hQ=>?_
 unfold rc82
 refine sRG ?_
 obtain⟨_,A1,v,rfl,I1⟩:=qdG ha hb hk hl ⟨h.rows,none,h.mods⟩
 obtain⟨s1,b1,u1,c1,rfl,J1,J2⟩:=I1
 obtain⟨p1,p2,x12,q12⟩:=IsQ.plain J1 J2
 refine qac (qaf (A1) (fun n hn k=>by simp -implicitDefEqProofs (disch:=omega) only[go_sem,reduceIte,Nat.reduceEqDiff,qaz L26,qb5 hn xs xu,qaJ,qaM N59 1 s1 (.bool b1) u1 (.bool c1) .nils (.bool false) .nils (.bool false) _ p1.ok rfl p2.ok rfl];rfl) ?_)
 refine qac (qad (fun n k=>by simp -implicitDefEqProofs (disch:=omega) only[go_sem,reduceIte,Nat.reduceEqDiff,qaO L59,qaM N59 1 s1 (.bool b1) u1 (.bool c1) .nils (.bool false) .nils (.bool false) _ p1.ok rfl p2.ok rfl];rfl) ?_)
 exact qai (hQ _ _ (qcP (x:=s1) (y:=.bool b1) (z:=u1) (u:=.bool c1) (f:=false) (d:=4) (g:=1) sS sS p1 (Pl.bool _) p2 (Pl.bool _) (fun x hx=>by cases hx)) ⟨s1,b1,u1,c1,rfl,J1,J2⟩)
theorem qsG{x y u v:V}(px:Pl x)(py:Pl y)(pu:Pl u)(pv:Pl v)(c:Qad)(t:Tm)(l:Lo)(h:Hp)(J:JD)(X:XD):gD Try.f61 61 1 5 c (pt (pt t 5 (.agg [x,y])) 7 (.agg [u,v])) l h J X=J (.agg [x,y,u,v]) ⟨[],[],false,false,false,false⟩ l h :=
 qcm (C:=Cg) (gl:=Cg.glob 61) (call:=c) (o:=opA Try.f61 1 5) (d:=8) (t:=59) (l:=#[(0,.tmp 5),(1,.tmp 7)]) (by kernel_rfl) (by kernel_rfl) (qex (a:=.tmp 5) (b:=.tmp 7) (by kernel_rfl) (by kernel_rfl) (show zeroV Pg 59=some (.agg [.nils,.bool false,.nils,.bool false])by kernel_rfl) (by rw[qaB,qal,if_neg (by decide),qal,if_pos rfl]) (by rw[qaB,qal,if_pos rfl]) px py pu pv)
theorem qnP{k:Nat}{va:V}{q:Rat}(ha:IsQ k va q)(hk:k≤250000):Gives 61 [va] fun r=>IsQ k r (-q):=by
 obtain⟨s,b,u,c,rfl,h1,h2⟩:=ha
 refine qak tbl61 fun h Q hQ=>?_
 unfold rc61
 refine sRG ?_
 obtain⟨p1,x1,q1⟩:=h1.nn
 obtain⟨p2,x2,q2⟩:=h2.nn
 obtain⟨_,A1,I1⟩:=qfV h1 (by omega) ⟨h.rows,none,h.mods⟩
 obtain⟨s1,b1,rfl,p3,x3,q3⟩:=I1.form
 refine qac (qaf (A1) (fun n hn k=>by simp -implicitDefEqProofs (disch:=omega) only[go_sem,reduceIte,Nat.reduceEqDiff,qbK L26,qd3 L26,qb9 hn x1 q1,qsG p3 (Pl.bool _) p2 (Pl.bool _),qaM N59 1 s1 (.bool b1) u (.bool c) .nils (.bool false) .nils (.bool false) _ p3.ok rfl p2.ok rfl];exact qav (by kernel_rfl)) ?_)
 exact qai (hQ _ _ (qcP (x:=s1) (y:=.bool b1) (z:=u) (u:=.bool c) (f:=false) (d:=2) (g:=1) sS sS p3 (Pl.bool _) p2 (Pl.bool _) (fun x hx=>by cases hx)) ⟨s1,b1,u,c,rfl,by rw[Rat.neg_num];exact I1,by rw[Rat.neg_den];exact h2⟩)
theorem qjM{k l:Nat}{va vb:V}{q p:Rat}(ha:IsQ k va q)(hb:IsQ l vb p)(hk:k≤50000)(hl:l≤50000):Gives 55 [va,vb] fun r=>IsQ (k+l+13) r (q*p):=by
 have ha0:=ha;have hb0:=hb
 obtain⟨s,b,u,c,rfl,h1,h2⟩:=ha
 obtain⟨s',b',u',c',rfl,h3,h4⟩:=hb
 refine qak tbl55 fun h Q hQ=>?_
 unfold rc55
 refine sRG ?_
 obtain⟨_,_,x0,q0⟩:=IsQ.plain h1 h2
 obtain⟨_,_,x0',q0'⟩:=IsQ.plain h3 h4
 obtain⟨p1,x1,q1⟩:=h1.nn
 obtain⟨p3,x3,q3⟩:=h3.nn
 obtain⟨_,A1,I1⟩:=qcv h1 h3 (by omega) (by omega) ⟨h.rows,none,h.mods⟩
 obtain⟨_,A2,I2⟩:=qa7 ha0 (by omega) ⟨h.rows,none,h.mods⟩
 obtain⟨_,A3,I3⟩:=qa7 hb0 (by omega) ⟨h.rows,none,h.mods⟩
 obtain⟨_,A4,I4⟩:=qcv I2 I3 (by omega) (by omega) ⟨h.rows,none,h.mods⟩
 obtain⟨_,A5,I5⟩:=qhv I1 I4 (by omega) (by omega) ⟨h.rows,none,h.mods⟩
 rw[←Rat.divInt_mul_divInt,Rat.num_divInt_den,Rat.num_divInt_den]at I5
 obtain⟨s5,b5,u5,c5,rfl,J1,J2⟩:=I5
 obtain⟨p5,p6,x5,q5⟩:=IsQ.plain J1 J2
 refine qac (qaf ((A1.and A2).and ((A3.and A4).and A5)) (fun n hn k=>by simp -implicitDefEqProofs (disch:=omega) only[go_sem,reduceIte,Nat.reduceEqDiff,qbK L26,qaO L59,qbl hn.1.1 x1 x3 q1 q3,qb9 hn.1.2 x0 q0,qb9 hn.2.1.1 x0' q0',qbl hn.2.1.2 I2.ex I3.ex I2.quiet I3.quiet,qbl hn.2.2 I1.ex I4.ex I1.quiet I4.quiet,qaM N59 1 s5 (.bool b5) u5 (.bool c5) .nils (.bool false) .nils (.bool false) _ p5.ok rfl p6.ok rfl];exact qav (by kernel_rfl)) ?_)
 refine qai (hQ _ _ (qcP (x:=s5) (y:=.bool b5) (z:=u5) (u:=.bool c5) (f:=false) (d:=4) (g:=1) sS sS p5 (Pl.bool _) p6 (Pl.bool _) (fun x hx=>by cases hx)) ?_)
 exact IsQ.mono ⟨s5,b5,u5,c5,rfl,J1,J2⟩ (by omega)
theorem qnQ{k:Nat}{va:V}{q:Rat}(ha:IsQ k va q)(hk:k≤50000):Gives 57 [va] fun r=>∃ v,r=.tuple [v,.bool (decide (q≠0))]∧IsQ (k+6) v q⁻¹:=by
 have ha0:=ha
 obtain⟨s,b,u,c,rfl,h1,h2⟩:=ha
 refine qak tbl57 fun h Q hQ=>?_
 unfold rc57
 refine sRG ?_
 obtain⟨_,_,x0,q0⟩:=IsQ.plain h1 h2
 obtain⟨p1,x1,q1⟩:=h1.nn
 obtain⟨_,A2,I2⟩:=qa7 ha0 (by omega) ⟨h.rows,none,h.mods⟩
 obtain⟨_,A5,v,rfl,I5⟩:=qdG I2 h1 (by omega) (by omega) ⟨h.rows,none,h.mods⟩
 rw[←Rat.inv_def]at I5
 obtain⟨s5,b5,u5,c5,rfl,J1,J2⟩:=I5
 obtain⟨p5,p6,x5,q5⟩:=IsQ.plain J1 J2
 refine qac (qaf (A2.and A5) (fun n hn k=>by simp -implicitDefEqProofs (disch:=omega) only[go_sem,reduceIte,Nat.reduceEqDiff,qbK L26,qaO L59,qb9 hn.1 x0 q0,qbl hn.2 I2.ex x1 I2.quiet q1,qaJ,qaM N59 1 s5 (.bool b5) u5 (.bool c5) .nils (.bool false) .nils (.bool false) _ p5.ok rfl p6.ok rfl];exact qav (by kernel_rfl)) ?_)
 refine qai (hQ _ _ (qc8 (x:=s5) (y:=.bool b5) (z:=u5) (u:=.bool c5) (w:=.bool (decide (q.num≠0))) (f:=false) (d:=2) (g:=1) sS sS p5 (Pl.bool _) p6 (Pl.bool _) sS (Pl.bool _) (fun x hx=>by cases hx)) ⟨_,by rw[show decide (q.num≠0)=decide (q≠0)by simp only[ne_eq,Rat.num_eq_zero]],?_⟩)
 exact IsQ.mono ⟨s5,b5,u5,c5,rfl,J1,J2⟩ (by omega)
def cmpR(q p:Rat):Int:=Qcy (q.num*(p.den:Int)) (p.num*(q.den:Int))
theorem qnR{k l:Nat}{va vb:V}{q p:Rat}(ha:IsQ k va q)(hb:IsQ l vb p)(hk:k≤50000)(hl:l≤50000):Gives 54 [va,vb] fun r=>r=.int .i64 (cmpR q p):=by
 have ha0:=ha;have hb0:=hb
 obtain⟨s,b,u,c,rfl,h1,h2⟩:=ha
 obtain⟨s',b',u',c',rfl,h3,h4⟩:=hb
 refine qak tbl54 fun h Q hQ=>?_
 unfold rc54
 refine sRG ?_
 obtain⟨_,_,x0,q0⟩:=IsQ.plain h1 h2
 obtain⟨_,_,x0',q0'⟩:=IsQ.plain h3 h4
 obtain⟨p1,x1,q1⟩:=h1.nn
 obtain⟨p3,x3,q3⟩:=h3.nn
 obtain⟨_,A2,I2⟩:=qa7 ha0 (by omega) ⟨h.rows,none,h.mods⟩
 obtain⟨_,A3,I3⟩:=qa7 hb0 (by omega) ⟨h.rows,none,h.mods⟩
 obtain⟨_,A1,I1⟩:=qcv h1 I3 (by omega) (by omega) ⟨h.rows,none,h.mods⟩
 obtain⟨_,A4,I4⟩:=qcv h3 I2 (by omega) (by omega) ⟨h.rows,none,h.mods⟩
 obtain⟨_,A5,rfl⟩:=qmc I1 I4 (by omega) (by omega) ⟨h.rows,none,h.mods⟩
 refine qac (qaf ((A1.and A2).and ((A3.and A4).and A5)) (fun n hn k=>by simp -implicitDefEqProofs (disch:=omega) only[go_sem,reduceIte,Nat.reduceEqDiff,qbK L26,qaO L59,qbl hn.1.1 x1 I3.ex q1 I3.quiet,qb9 hn.1.2 x0 q0,qb9 hn.2.1.1 x0' q0',qbl hn.2.1.2 x3 I2.ex q3 I2.quiet,qbl hn.2.2 I1.ex I4.ex I1.quiet I4.quiet];exact qav (by kernel_rfl)) ?_)
 exact qai (hQ _ _ (qaX (v:=.int .i64 (Qcy (q.num*(p.den:Int)) (p.num*(q.den:Int)))) sS (Ex1.int _ _ _) rfl rfl) rfl)
theorem tbl81:tbl 81=some ⟨rc81,[.cell 6 59]⟩:=by kernel_rfl
theorem tbl53:tbl 53=some ⟨rc53,[.cell 4 59]⟩:=by kernel_rfl
theorem tbl56:tbl 56=some ⟨rc56,[.cell 4 59]⟩:=by kernel_rfl
theorem tbl52:tbl 52=some ⟨rc52,[.cell 2 26]⟩:=by kernel_rfl
theorem qsu(c:Qad)(t:Tm)(l:Lo)(h:Hp)(J:JD)(X:XD):gD Try.f52 52 1 8 c t l h J X=J (.ptr (.loc 3 ((lg l 3).1+1)) 0) ⟨[3],[3],false,false,false,false⟩ (lp l 3 ((lg l 3).1+1,.cells false [.nils,.bool false])) h :=
 qbE (C:=Cg) (gl:=Cg.glob 52) (call:=c) (o:=opA Try.f52 1 8) (d:=3) (t:=26) (n:=2) (z:=.agg [.nils,.bool false]) (by kernel_rfl) (by kernel_rfl) (by kernel_rfl) (by kernel_rfl) (by kernel_rfl) rfl rfl
theorem qst(c:Qad)(t:Tm)(l:Lo)(h:Hp)(J:JD)(X:XD):gD Try.f52 52 1 9 c t l h J X=J (.ptr (.loc 4 ((lg l 4).1+1)) 0) ⟨[4],[4],false,false,false,false⟩ (lp l 4 ((lg l 4).1+1,.cells false [.nils,.bool false])) h :=
 qbE (C:=Cg) (gl:=Cg.glob 52) (call:=c) (o:=opA Try.f52 1 9) (d:=4) (t:=26) (n:=2) (z:=.agg [.nils,.bool false]) (by kernel_rfl) (by kernel_rfl) (by kernel_rfl) (by kernel_rfl) (by kernel_rfl) rfl rfl
theorem qmW{k:Nat}{va:V}{q:Rat}(ha:IsQ k va q)(hk:k≤50000):Gives 52 [va] fun r=>IsI k r q.floor:=by
 have ha0:=ha
 obtain⟨s,b,u,c,rfl,h1,h2⟩:=ha
 refine qak tbl52 fun h Q hQ=>?_
 unfold rc52
 refine sRG ?_
 obtain⟨_,_,x0,q0⟩:=IsQ.plain h1 h2
 obtain⟨p1,x1,q1⟩:=h1.nn
 obtain⟨_,A2,I2⟩:=qa7 ha0 (by omega) ⟨h.rows,none,h.mods⟩
 obtain⟨_,A5,v,w,rfl,I5,I6⟩:=qfR h1 I2 (by omega) (by omega) ⟨h.rows,none,h.mods⟩
 rw[←Rat.floor_def]at I5
 obtain⟨s5,b5,rfl,p5,x5,q5⟩:=I5.form
 obtain⟨s6,b6,rfl,p6,x6,q6⟩:=I6.form
 refine qac (qaf (A2.and A5) (fun n hn k=>by simp -implicitDefEqProofs (disch:=omega) only[go_sem,reduceIte,Nat.reduceEqDiff,qbK L26,qaO L59,qb9 hn.1 x0 q0,qbl hn.2 x1 I2.ex q1 I2.quiet,qaJ,qsu,qst,qcL,qah N26 1 s5 (.bool b5) .nils (.bool false) _ p5.ok rfl,qah N26 1 s6 (.bool b6) .nils (.bool false) _ p6.ok rfl];exact qav (by kernel_rfl)) ?_)
 refine qac (qad (fun n k=>by simp -implicitDefEqProofs (disch:=omega) only[go_sem,reduceIte,Nat.reduceEqDiff,qaz L26,qah N26 1 s5 (.bool b5) .nils (.bool false) _ p5.ok rfl];rfl) ?_)
 exact qai (hQ _ _ (qaW (x:=s5) (y:=.bool b5) (f:=false) (d:=2) (g:=1) (by kernel_rfl) sS sS p5 (Pl.bool _) rfl) I5)
theorem qrr(v:V)(c:Qad)(t:Tm)(l:Lo)(h:Hp)(J:JD)(X:XD):gD Try.f53 53 1 7 c (pt t 11 v) l h J X=J (.fn (.func 25) [v] []) ⟨[],[],false,false,false,false⟩ l h :=
 qoG (C:=Cg) (gl:=Cg.glob 53) (call:=c) (o:=opA Try.f53 1 7) (d:=12) (x:=11) (by kernel_rfl) (by kernel_rfl) (by rw[qal,if_pos rfl])
theorem qrq(v:V)(c:Qad)(t:Tm)(l:Lo)(h:Hp)(J:JD)(X:XD):gD Try.f56 56 1 7 c (pt t 11 v) l h J X=J (.fn (.func 27) [v] []) ⟨[],[],false,false,false,false⟩ l h :=
 qoG (C:=Cg) (gl:=Cg.glob 56) (call:=c) (o:=opA Try.f56 1 7) (d:=12) (x:=11) (by kernel_rfl) (by kernel_rfl) (by rw[qal,if_pos rfl])
theorem qsx{f:FuncId}{a b r:V}{c:Qad}{h:Hp}(hr:c f [a,b] h=some (.val r h))(ea:Ex1 a)(eb:Ex1 b)(qa:AM.quiet a=true)(qb:AM.quiet b=true)(t:Tm)(l:Lo)(J:JD)(X:XD):gD Try.f81 81 1 6 c (pt (pt t 7 (.fn (.func f) [a] [])) 12 b) l h J X=J r ⟨[],[],true,false,false,false⟩ l h :=
 qmU (C:=Cg) (gl:=Cg.glob 81) (call:=c) (o:=opA Try.f81 1 6) (d:=13) (x:=7) (y:=12) (by kernel_rfl) (by kernel_rfl) (by rw[qal,if_neg (by decide),qal,if_pos rfl]) (by rw[qal,if_pos rfl]) hr ea eb qa qb
theorem qxH{f:FuncId}{x y:V}(hx:Pl x)(hy:Pl y):Ex1 (.fn (.func f) [.agg [x,y]] []):=fun st=>by
 have e:(V.fn (.func f) [.agg [x,y]] []).Qap=true:=by simp only[V.Qap,V.Qak,hx.Qap,hy.Qap,Bool.and_self]
 show(bif (V.fn (.func f) [.agg [x,y]] []).live&&(V.fn (.func f) [.agg [x,y]] []).Qap then _ else none)=_
 rw[e];rfl
theorem qyY{f:FuncId}{v w u:V}{call:Qad}{loc:Lo}{hp:Hp}{j:JD}{x:XD}{r:V}(hc:call f [v,w,u] hp=some (.val r hp))(h1:Ex1 v)(h2:Ex1 w)(h3:Ex1 u)(q1:AM.quiet v=true)(q2:AM.quiet w=true)(q3:AM.quiet u=true):clD call f [v,w,u] loc hp j x=j r ⟨[],[],true,false,false,false⟩ loc hp:=qiY hc ⟨h1,h2,h3,trivial⟩ (by simp[q1,q2,q3])
theorem qfE{k l m n:Nat}{va vb w:V}{q p:Rat}{f:FuncId}{x z:Int}(ha:IsQ k va q)(hb:IsQ l vb p)(hw:IsI m w x)(hk:k≤50000)(hl:l≤50000)(hn0:n≤250000)
  (hf:∀ v,IsI (l+(max k 2+1)) v (p.num*q.den)→Gives f [w,v] fun r=>IsI n r z) :
  Gives 81 [va,vb,.fn (.func f) [w] []] fun r=>IsQ (max n (k+l+8)+3) r (Rat.divInt z (q.den*p.den)):=by
 have ha0:=ha;have hb0:=hb
 obtain⟨s,b,u,c,rfl,h1,h2⟩:=ha
 obtain⟨s',b',u',c',rfl,h3,h4⟩:=hb
 refine qak tbl81 fun h Q hQ=>?_
 unfold rc81
 refine sRG ?_
 obtain⟨_,_,x0,q0⟩:=IsQ.plain h1 h2
 obtain⟨_,_,x0',q0'⟩:=IsQ.plain h3 h4
 obtain⟨p3,x3,q3⟩:=h3.nn
 obtain⟨_,A2,I2⟩:=qa7 ha0 (by omega) ⟨h.rows,none,h.mods⟩
 obtain⟨_,A3,I3⟩:=qa7 hb0 (by omega) ⟨h.rows,none,h.mods⟩
 obtain⟨_,A1,I1⟩:=qcv h3 I2 (by omega) (by omega) ⟨h.rows,none,h.mods⟩
 obtain⟨_,A6,I6⟩:=hf _ I1 ⟨h.rows,none,h.mods⟩
 obtain⟨_,A4,I4⟩:=qcv I2 I3 (by omega) (by omega) ⟨h.rows,none,h.mods⟩
 obtain⟨_,A5,I5⟩:=qhv I6 (I4.mono (l:=k+l+8) (by omega)) (by omega) (by omega) ⟨h.rows,none,h.mods⟩
 obtain⟨s5,b5,u5,c5,rfl,J1,J2⟩:=I5
 obtain⟨p5,p6,x5,q5⟩:=IsQ.plain J1 J2
 refine qac (qaf (((A1.and A2).and A6).and ((A3.and A4).and A5)) (fun n hn k=>by simp -implicitDefEqProofs (disch:=omega) only[go_sem,reduceIte,Nat.reduceEqDiff,qae,List.getD_cons_zero,List.getD_cons_succ,qbK L26,qaO L59,qbl hn.1.1.1 x3 I2.ex q3 I2.quiet,qb9 hn.1.1.2 x0 q0,qsx hn.1.2 hw.ex I1.ex hw.quiet I1.quiet,qb9 hn.2.1.1 x0' q0',qbl hn.2.1.2 I2.ex I3.ex I2.quiet I3.quiet,qbl hn.2.2 I6.ex I4.ex I6.quiet I4.quiet,qaM N59 1 s5 (.bool b5) u5 (.bool c5) .nils (.bool false) .nils (.bool false) _ p5.ok rfl p6.ok rfl];exact qav (by kernel_rfl)) ?_)
 exact qai (hQ _ _ (qcP (x:=s5) (y:=.bool b5) (z:=u5) (u:=.bool c5) (f:=false) (d:=6) (g:=1) sS sS p5 (Pl.bool _) p6 (Pl.bool _) (fun x hx=>by cases hx)) ⟨s5,b5,u5,c5,rfl,J1,J2⟩)
theorem qhT(q:Rat):((q.den:Nat):Int)≠0:=by have:=q.den_pos;omega
theorem qnS{k l:Nat}{va vb:V}{q p:Rat}(ha:IsQ k va q)(hb:IsQ l vb p)(hk:k≤50000)(hl:l≤50000):Gives 53 [va,vb] fun r=>IsQ (k+l+12) r (q+p):=by
 have ha0:=ha;have hb0:=hb
 obtain⟨s,b,u,c,rfl,h1,h2⟩:=ha
 obtain⟨s',b',u',c',rfl,h3,h4⟩:=hb
 refine qak tbl53 fun h Q hQ=>?_
 unfold rc53
 refine sRG ?_
 obtain⟨_,_,x0,q0⟩:=IsQ.plain h1 h2
 obtain⟨_,_,x0',q0'⟩:=IsQ.plain h3 h4
 obtain⟨p1,x1,q1⟩:=h1.nn
 obtain⟨_,A3,I3⟩:=qa7 hb0 (by omega) ⟨h.rows,none,h.mods⟩
 obtain⟨_,A1,I1⟩:=qcv h1 I3 (by omega) (by omega) ⟨h.rows,none,h.mods⟩
 obtain⟨s4,b4,rfl,p4,x4,q4⟩:=I1.form
 obtain⟨_,A5,I5⟩:=qfE (n:=k+l+5) ha0 hb0 I1 hk hl (by omega) (fun v hv=>(qi2 I1 hv (by omega) (by omega)).mono fun _ hr=>hr.mono (by omega)) ⟨h.rows,none,h.mods⟩
 rw[←Rat.divInt_add_divInt _ _ (qhT q) (qhT p),Rat.num_divInt_den,Rat.num_divInt_den]at I5
 obtain⟨s5,b5,u5,c5,rfl,J1,J2⟩:=I5
 obtain⟨p5,p6,x5,q5⟩:=IsQ.plain J1 J2
 refine qac (qaf ((A3.and A1).and A5) (fun n hn k=>by simp -implicitDefEqProofs (disch:=omega) only[go_sem,reduceIte,Nat.reduceEqDiff,qbK L26,qaO L59,qb9 hn.1.1 x0' q0',qbl hn.1.2 x1 I3.ex q1 I3.quiet,qrr,qyY hn.2 x0 x0' (qxH p4 (Pl.bool _)) q0 q0' rfl,qaM N59 1 s5 (.bool b5) u5 (.bool c5) .nils (.bool false) .nils (.bool false) _ p5.ok rfl p6.ok rfl];exact qav (by kernel_rfl)) ?_)
 exact qai (hQ _ _ (qcP (x:=s5) (y:=.bool b5) (z:=u5) (u:=.bool c5) (f:=false) (d:=4) (g:=1) sS sS p5 (Pl.bool _) p6 (Pl.bool _) (fun x hx=>by cases hx)) (IsQ.mono ⟨s5,b5,u5,c5,rfl,J1,J2⟩ (by omega)))
theorem qnO{k l:Nat}{va vb:V}{q p:Rat}(ha:IsQ k va q)(hb:IsQ l vb p)(hk:k≤50000)(hl:l≤50000):Gives 56 [va,vb] fun r=>IsQ (k+l+12) r (q - p):=by
 have ha0:=ha;have hb0:=hb
 obtain⟨s,b,u,c,rfl,h1,h2⟩:=ha
 obtain⟨s',b',u',c',rfl,h3,h4⟩:=hb
 refine qak tbl56 fun h Q hQ=>?_
 unfold rc56
 refine sRG ?_
 obtain⟨_,_,x0,q0⟩:=IsQ.plain h1 h2
 obtain⟨_,_,x0',q0'⟩:=IsQ.plain h3 h4
 obtain⟨p1,x1,q1⟩:=h1.nn
 obtain⟨_,A3,I3⟩:=qa7 hb0 (by omega) ⟨h.rows,none,h.mods⟩
 obtain⟨_,A1,I1⟩:=qcv h1 I3 (by omega) (by omega) ⟨h.rows,none,h.mods⟩
 obtain⟨s4,b4,rfl,p4,x4,q4⟩:=I1.form
 obtain⟨_,A5,I5⟩:=qfE (n:=k+l+5) ha0 hb0 I1 hk hl (by omega) (fun v hv=>(qfO I1 hv (by omega) (by omega)).mono fun _ hr=>hr.mono (by omega)) ⟨h.rows,none,h.mods⟩
 rw[←Rat.divInt_sub_divInt _ _ (qhT q) (qhT p),Rat.num_divInt_den,Rat.num_divInt_den]at I5
 obtain⟨s5,b5,u5,c5,rfl,J1,J2⟩:=I5
 obtain⟨p5,p6,x5,q5⟩:=IsQ.plain J1 J2
 refine qac (qaf ((A3.and A1).and A5) (fun n hn k=>by simp -implicitDefEqProofs (disch:=omega) only[go_sem,reduceIte,Nat.reduceEqDiff,qbK L26,qaO L59,qb9 hn.1.1 x0' q0',qbl hn.1.2 x1 I3.ex q1 I3.quiet,qrq,qyY hn.2 x0 x0' (qxH p4 (Pl.bool _)) q0 q0' rfl,qaM N59 1 s5 (.bool b5) u5 (.bool c5) .nils (.bool false) .nils (.bool false) _ p5.ok rfl p6.ok rfl];exact qav (by kernel_rfl)) ?_)
 exact qai (hQ _ _ (qcP (x:=s5) (y:=.bool b5) (z:=u5) (u:=.bool c5) (f:=false) (d:=4) (g:=1) sS sS p5 (Pl.bool _) p6 (Pl.bool _) (fun x hx=>by cases hx)) (IsQ.mono ⟨s5,b5,u5,c5,rfl,J1,J2⟩ (by omega)))
theorem tbl46:tbl 46=some ⟨rc46,[.tmp 2]⟩:=by kernel_rfl
def QT(t:List Nat)(q:Rat):Prop:=Dg 256 t∧((q.den=1∧Qa8 t=true∧zOf t=q.num)∨(q.den≠1∧∃ a b,t=a++47::b∧Qa8 a=true∧zOf a=q.num∧Qa8 b=true∧zOf b=(q.den:Int)))
theorem qkF{a:List Nat}(m:Bool)(ha:Dg 256 a)(hl:a.length≤3000000):bin Pg .add 9 m (.str (sl a)) (.str ⟨1,47⟩)=some (.str (sl (a++[47]))):=qlJ 9 m (b:=[47]) ha (by show a.length+1≤_;omega)
theorem qdT{a:List Nat}(h:Qa8 a=true):47 ∉ a:=by
 obtain⟨h1,h2,h3,_⟩:=qgK h
 intro hm
 rw[h3]at hm
 have hb:47 ∉ Qan a:=fun hm=>by have:=h1 47 hm;omega
 cases hn:ng a with
 | true=>rw[hn]at hm;simp only[cond_true,List.mem_cons]at hm;rcases hm with hm | hm;omega;exact hb hm
 | false=>rw[hn]at hm;exact hb hm
theorem qf4:∀ {a b a' b':List Nat},47 ∉ a→47 ∉ a'→a++47::b=a'++47::b'→a=a'∧b=b'
 | [],b,[],b',_,_,h=>by simp at h;exact⟨rfl,h⟩
 | [],b,x::a',b',_,h2,h=>by simp at h;exact absurd (by simp[h.1]) h2
 | x::a,b,[],b',h1,_,h=>by simp at h;exact absurd (by simp[h.1]) h1
 | x::a,b,y::a',b',h1,h2,h=>by
  simp only[List.cons_append,List.cons.injEq]at h
  obtain⟨e1,e2⟩:=qf4 (fun m=>h1 (List.mem_cons_of_mem _ m)) (fun m=>h2 (List.mem_cons_of_mem _ m)) h.2
  exact⟨by rw[h.1,e1],e2⟩
theorem QT.eq{t t':List Nat}{q p:Rat}(h:QT t q)(h':QT t' p):t=t'↔q=p:=by
 obtain⟨_,h⟩:=h
 obtain⟨_,h'⟩:=h'
 rcases h with ⟨d1,g1,z1⟩ | ⟨d1,a,b,rfl,g1,z1,g2,z2⟩<;>rcases h' with ⟨d2,g3,z3⟩ | ⟨d2,a',b',rfl,g3,z3,g4,z4⟩
 ·constructor
  ·intro e;subst e;exact Rat.ext (by rw[←z1,←z3]) (by rw[d1,d2])
  ·intro e;subst e;exact qfZ g1 g3 (by rw[z1,z3])
 ·constructor
  ·intro e;subst e;exact absurd (by simp) (qdT g1)
  ·intro e;subst e;exact absurd d1 d2
 ·constructor
  ·intro e;subst e;exact absurd (by simp) (qdT g3)
  ·intro e;subst e;exact absurd d2 d1
 ·constructor
  ·intro e
   obtain⟨e1,e2⟩:=qf4 (qdT g1) (qdT g3) e
   subst e1;subst e2
   exact Rat.ext (by rw[←z1,←z3]) (by omega)
  ·intro e;subst e
   rw[qfZ g1 g3 (by rw[z1,z3]),qfZ g2 g4 (by rw[z2,z4])]
theorem qfy{k:Nat}{va:V}{q:Rat}(ha:IsQ k va q)(hk:k≤50000):Gives 46 [va] fun r=>∃ t,r=.str (sl t)∧QT t q:=by
 have ha0:=ha
 obtain⟨s,b,u,c,rfl,h1,h2⟩:=ha
 refine qak tbl46 fun h Q hQ=>?_
 unfold rc46
 refine sRG ?_
 obtain⟨_,_,x0,q0⟩:=IsQ.plain h1 h2
 obtain⟨p1,x1,q1⟩:=h1.nn
 obtain⟨_,A1,rfl⟩:=qfA ha0 (by omega) ⟨h.rows,none,h.mods⟩
 refine qac (qac (qaf (A1) (fun n hn k=>by simp -implicitDefEqProofs (disch:=omega) only[go_sem,reduceIte,Nat.reduceEqDiff,qae,List.getD_cons_zero,List.getD_cons_succ,qaO L59,qcG hn x0];rfl) ?_))
 obtain⟨_,A2,t,rfl,d1,g1,z1,l1⟩:=qcT h1 (by omega) ⟨h.rows,none,h.mods⟩
 refine qaU (by simp only[qal,reduceIte];rfl) (fun hw=>?_) (fun hw=>qag ?_)
 ·refine qac (qaf (A2) (fun n hn k=>by simp -implicitDefEqProofs (disch:=omega) only[go_sem,reduceIte,Nat.reduceEqDiff,qbK L26,qcG hn x1];rfl) ?_)
  exact qai (hQ _ _ (qaX (v:=.str (sl t)) sS (Ex1.str _ _) rfl rfl) ⟨t,rfl,d1,.inl ⟨by simpa using hw,g1,z1⟩⟩)
 ·obtain⟨_,A3,I3⟩:=qa7 ha0 (by omega) ⟨h.rows,none,h.mods⟩
  obtain⟨_,A4,w,rfl,d2,g2,z2,l2⟩:=qcT I3 (by omega) ⟨h.rows,none,h.mods⟩
  have d3:Dg 256 (t++[47]):=by
   intro x hx
   rcases List.mem_append.1 hx with e | e
   ·exact d1 x e
   ·simp at e;omega
  refine qac (qaf ((A2.and A3).and A4) (fun n hn k=>by simp -implicitDefEqProofs (disch:=omega) only[go_sem,reduceIte,Nat.reduceEqDiff,qbK L26,qaO L59,qb9 hn.1.1 x1 q1,qb9 hn.1.2 x0 q0,qb9 hn.2 I3.ex I3.quiet,qkF true d1 (by omega),qlJ 9 false (b:=w) d3 (by simp;omega)];exact qav (by kernel_rfl)) ?_)
  refine qai (hQ _ _ (qaX (v:=.str (sl (t++[47]++w))) sS (Ex1.str _ _) rfl rfl) ⟨_,rfl,?_,.inr ⟨by simpa using hw,t,w,by simp,g1,z1,g2,z2⟩⟩)
  intro x hx
  rcases List.mem_append.1 hx with e | e
  ·exact d3 x e
  ·exact d2 x e
theorem tbl45:tbl 45=some ⟨rc45,[.cell 4 63,.tmp 5]⟩:=by kernel_rfl
def IsF(k:Nat)(v:V)(q:Rat):Prop:=∃ b s c u,v=.agg [.bool b,s,.bool c,u]∧IsR k (.agg [.bool b,s]) q.num∧IsR k (.agg [.bool c,u]) (q.den:Int)
theorem IsF.mono{k l:Nat}{v:V}{q:Rat}(h:IsF k v q)(hl:k≤l):IsF l v q:=by
 obtain⟨s,b,u,c,e,h1,h2⟩:=h
 exact⟨s,b,u,c,e,h1.mono hl,h2.mono hl⟩
theorem IsF.plain{k:Nat}{s u:V}{b c:Bool}{x y:Int}(h1:IsR k (.agg [.bool b,s]) x)(h2:IsR k (.agg [.bool c,u]) y):Pl s∧Pl u∧Ex1 (.agg [.bool b,s,.bool c,u])∧AM.quiet (.agg [.bool b,s,.bool c,u])=true:=by
 obtain⟨p1,_,q1⟩:=h1.nn
 obtain⟨p2,_,q2⟩:=h2.nn
 exact⟨p1,p2,qcA (Pl.bool _) p1 (Pl.bool _) p2,qs6 (Pl.bool _) p1 (Pl.bool _) p2 q1 q2⟩
theorem qmH{P:Program}{C:Cfg}{gl:Nat→Bool}{o:Oper}{t:TypeId}{a:Operand}{x y z0 z1 z2 z3:V}{ρ:Nat→V}{lc:Nat→Nat × Row}(ho:o.op=.build t #[(1,a)])(h2:qya P t=true)(hz:zeroV P t=some (.agg [z0,z1,z2,z3]))
  (ha:AM.opd ρ a=.agg [x,y]) (px:Pl x) (py:Pl y):Qal P C gl ρ lc o=some (.agg [z0,z1,x,y],none):=by
 unfold qya at h2
 split at h2
 ·rename_i fs hu
  split at h2
  ·rename_i f0 f1 hfs
   simp only[Bool.and_eq_true]at h2
   obtain⟨⟨a0,a1⟩,a2⟩:=h2
   have e:fs = #[f0,f1]:=by apply Array.toList_inj.1;rw[hfs]
   subst e
   split at a2
   ·rename_i na nb s0 s1
    simp only[Bool.and_eq_true]at a2
    have b1:na=2:=Nat.eq_of_beq_eq_true a2.1
    have b2:nb=2:=Nat.eq_of_beq_eq_true a2.2
    subst b1;subst b2
    have o1:=Nat.eq_of_beq_eq_true a1
    have i0:(P.info? f0.type).isSome=true:=by
     unfold QbG at s0
     cases h:P.info? f0.type with
     | none=>rw[h]at s0;simp at s0
     | some i=>rfl
    have i1:(P.info? f1.type).isSome=true:=by
     unfold QbG at s1
     cases h:P.info? f1.type with
     | none=>rw[h]at s1;simp at s1
     | some i=>rfl
    have e1:Qat P t 1=some f1:=by unfold Qat;rw[hu];rfl
    obtain⟨w1,w2,w3⟩:=agg2 px py
    unfold Qal
    simp only[ho,Qam,hu,hz,V.live,Bool.true_and]
    have ea:(#[f0,f1]:Array Field).all (fun f=>(P.info? f.type).isSome)=true:=by simp[i0,i1]
    rw[ea]
    have c0:V.cells (.agg [z0,z1,z2,z3])=[z0,z1,z2,z3]:=rfl
    simp only[cond_true,Qbl,e1,ha,w1,w2,w3,s1,o1,Option.getD_some,List.length_cons,List.length_nil,c0]
    rfl
   ·simp at a2
  ·simp at h2
 ·simp at h2
theorem qwT{x y:V}(px:Pl x)(py:Pl y)(c:Qad)(t:Tm)(l:Lo)(h:Hp)(j:V→Lo→Hp→R):go1 Try.f45 45 2 1 14 (.agg [x,y]) c t l h j=j (.agg [.bool false,.nils,x,y]) l h :=
 qlf (C:=Cg) (gl:=Cg.glob 45) (call:=c) (o:=opA Try.f45 2 1) (d:=15) (by kernel_rfl) (qmH (t:=63) (a:=.tmp 14) (by kernel_rfl) (by kernel_rfl) (show zeroV Pg 63=some (.agg [.bool false,.nils,.bool false,.nils])by kernel_rfl) (by rw[qaB,qal,if_pos rfl]) px py)
theorem qwS{x y u v:V}(px:Pl x)(py:Pl y)(pu:Pl u)(pv:Pl v)(c:Qad)(t:Tm)(l:Lo)(h:Hp)(j:V→Lo→Hp→R):go2 Try.f45 45 8 2 38 39 (.agg [x,y]) (.agg [u,v]) c t l h j=j (.agg [x,y,u,v]) l h :=
 qlf (C:=Cg) (gl:=Cg.glob 45) (call:=c) (o:=opA Try.f45 8 2) (d:=40) (by kernel_rfl) (qex (a:=.tmp 38) (b:=.tmp 39) (by kernel_rfl) (by kernel_rfl) (show zeroV Pg 63=some (.agg [.bool false,.nils,.bool false,.nils])by kernel_rfl) (by rw[qaB,qal,if_neg (by decide),qal,if_pos rfl]) (by rw[qaB,qal,if_pos rfl]) px py pu pv)
theorem qd7{h:Hp}{a b d g:Nat}{f:Bool}{s:St}{x y z u w:V}(hv:gt s.tm a=.ptr (.loc d g) 0)(hr:lg s.loc d=(g,.cells f [x,y,z,u]))(hx:Pl x)(hy:Pl y)(hz:Pl z)(hu:Pl u)(hb:gt s.tm b=w)(hw:Pl w)(hc:DG h.rows.length s.hp) :
  fin Pg h [.cell a 63,.tmp b] s=some (.val (.tuple [.agg [x,y,z,u],w]) h):=by
 have e1:Qbj Pg s [.cell a 63,.tmp b]=some [.agg [x,y,z,u],w]:=by
  simp only[Qbj,qbI,hv,hb,qap hr,QaV,show Qax Pg 63=some (4,true)by kernel_rfl,Option.map_some]
  rfl
 exact qgS e1 ⟨qcA hx hy hz hu,hw.ex,trivial⟩ (by simp only[V.Qaf,V.Qao,hx.refs,hy.refs,hz.refs,hu.refs,hw.refs,Bool.and_self]) hc
theorem qfk{h:Hp}{a d g:Nat}{f:Bool}{s:St}{x y z u:V}(hv:gt s.tm a=.ptr (.loc d g) 0)(hr:lg s.loc d=(g,.cells f [x,y,z,u]))(hx:Pl x)(hy:Pl y)(hz:Pl z)(hu:Pl u)(hc:DG h.rows.length s.hp) :
  fin Pg h [.cell a 63] s=some (.val (.agg [x,y,z,u]) h):=by
 have e1:Qbj Pg s [.cell a 63]=some [.agg [x,y,z,u]]:=by
  simp only[Qbj,qbI,hv,qap hr,QaV,show Qax Pg 63=some (4,true)by kernel_rfl]
  rfl
 exact qgS e1 ⟨qcA hx hy hz hu,trivial⟩ (by simp only[V.Qaf,V.Qao,hx.refs,hy.refs,hz.refs,hu.refs,Bool.and_self]) hc
theorem qgO{k l:Nat}{va vb:V}{x y:Int}(ha:IsR k va x)(hb:IsR l vb y)(hk:k≤90000)(hl:l≤90000):Gives 45 [va,vb] fun r=>∃ v,r=.tuple [v,.bool (decide (y≠0))]∧IsF (max k l+5) v (Rat.divInt x y):=by
 obtain⟨s,b,rfl,ps,xs,qs⟩:=ha.form
 obtain⟨u,c,rfl,pu,xu,qu⟩:=hb.form
 refine qak tbl45 fun h Q hQ=>?_
 unfold rc45
 refine sRG ?_
 obtain⟨_,Ps,rfl⟩:=qht hb (by omega) ⟨h.rows,none,h.mods⟩
 by_cases hy:y=0
 ·rw[qcu hy]at Ps
  refine qac (qac (qaf (Ps) (fun n hn k=>by simp -implicitDefEqProofs (disch:=omega) only[go_sem,reduceIte,Nat.reduceEqDiff,qae,List.getD_cons_zero,List.getD_cons_succ,qaz L31,qcG hn xu,ql2];rfl) ?_))
  obtain⟨_,A1,I1⟩:=qfU (z:=.ofNat 1) (by decide) (by decide) ⟨h.rows,none,h.mods⟩
  obtain⟨s1,b1,rfl,p1,_,_⟩:=I1.form
  refine qan sS ?_
  refine qac (qaf (A1) (fun n hn k=>by simp -implicitDefEqProofs (disch:=omega) only[go_sem,reduceIte,Nat.reduceEqDiff,qcG hn (Ex1.int _ _),qwT (Pl.bool _) p1,qaM N63 1 (.bool false) .nils (.bool b1) s1 (.bool false) .nils (.bool false) .nils _ rfl rfl rfl p1.ok];rfl) ?_)
  refine qai (hQ _ _ (qd7 (x:=.bool false) (y:=.nils) (z:=.bool b1) (u:=s1) (w:=.bool false) (f:=false) (d:=4) (g:=1) sS sS (Pl.bool _) Pl.nils (Pl.bool _) p1 sS (Pl.bool _) (fun x hx=>by cases hx)) ⟨_,by rw[decide_eq_false (by omega)],?_⟩)
  rw[hy,Rat.divInt_zero]
  exact⟨_,_,_,_,rfl,Qea.mono (Nat.zero_le _),I1.mono (by omega)⟩
 ·have hs:∃ z,sgn y=z∧bin Pg .eql 3 true (.int .i64 z) (.int .i64 (.ofNat 0))=some (.bool false)∧bin Pg .lss 3 true (.int .i64 z) (.int .i64 (.ofNat 0))=some (.bool (decide (y<0))):=by
   rcases Int.lt_or_lt_of_ne hy with e | e
   ·exact⟨.negSucc 0,by unfold sgn Qcy;rw[if_pos e],rfl,by rw[decide_eq_true e];rfl⟩
   ·exact⟨.ofNat 1,qh6 e,rfl,by rw[decide_eq_false (by omega)];rfl⟩
  obtain⟨z,hz,hz1,hz2⟩:=hs
  rw[hz]at Ps
  refine qac (qac (qaf (Ps) (fun n hn k=>by simp -implicitDefEqProofs (disch:=omega) only[go_sem,reduceIte,Nat.reduceEqDiff,qae,List.getD_cons_zero,List.getD_cons_succ,qaz L31,qcG hn xu,hz1];rfl) ?_))
  refine qaj sS (qag ?_)
  refine qau (M:=fun st=>∃ s2 b2 u2 c2,IsR k (.agg [.bool b2,s2]) (y.sign*x)∧IsR l (.agg [.bool c2,u2]) ((y.natAbs:Nat):Int)∧gt st.tm 2=.ptr (.loc 2 1) 0∧gt st.tm 3=.ptr (.loc 3 1) 0∧gt st.tm 4=.ptr (.loc 4 1) 0∧lg st.loc 2=(1,.cells false [.bool b2,s2])∧lg st.loc 3=(1,.cells false [.bool c2,u2])∧lg st.loc 4=(1,.cells false [.bool false,.nils,.bool false,.nils])∧lg st.loc 6=(0,.gone)∧lg st.loc 7=(0,.gone)∧lg st.loc 8=(0,.gone)∧lg st.loc 9=(0,.gone)∧lg st.loc 10=(0,.gone)∧st.hp=⟨h.rows,none,h.mods⟩) ?_ ?_
  ·refine qac (qaf (Ps) (fun n hn k=>by simp -implicitDefEqProofs (disch:=omega) only[go_sem,reduceIte,Nat.reduceEqDiff,qae,List.getD_cons_zero,List.getD_cons_succ,qaz L31,qcG hn xu,hz2];rfl) ?_)
   refine qaU (by simp only[qal,reduceIte];rfl) (fun hneg=>?_) (fun hpos=>qag ?_)
   ·obtain⟨r1,A1,I1⟩:=qew ha (by omega) ⟨h.rows,none,h.mods⟩
    obtain⟨r2,A2,I2⟩:=qew hb (by omega) ⟨h.rows,none,h.mods⟩
    obtain⟨s1,b1,rfl,p1,_,_⟩:=I1.form
    obtain⟨s2,b2,rfl,p2,_,_⟩:=I2.form
    refine qaf (A1.and A2) (fun n hn k=>by
     simp -implicitDefEqProofs (disch:=omega) only[go_sem,reduceIte,Nat.reduceEqDiff,qae,List.getD_cons_zero,List.getD_cons_succ,qaz L31,qb9 hn.1 xs qs,qb9 hn.2 xu qu,qah N31 1 (.bool b1) s1 (.bool b) s _ rfl p1.ok,qah N31 1 (.bool b2) s2 (.bool c) u _ rfl p2.ok]
     exact qav (by kernel_rfl)) ?_
    refine⟨s1,b1,s2,b2,by rw[qfw hneg];exact I1,?_,sSG,sSG,sS,sS,sS,sS,(by simp -implicitDefEqProofs (disch:=omega) only[go_sem,reduceIte,Nat.reduceEqDiff,qcL]),(by simp -implicitDefEqProofs (disch:=omega) only[go_sem,reduceIte,Nat.reduceEqDiff,qcL]),(by simp -implicitDefEqProofs (disch:=omega) only[go_sem,reduceIte,Nat.reduceEqDiff,qcL]),(by simp -implicitDefEqProofs (disch:=omega) only[go_sem,reduceIte,Nat.reduceEqDiff,qcL]),(by simp -implicitDefEqProofs (disch:=omega) only[go_sem,reduceIte,Nat.reduceEqDiff,qcL]),rfl⟩
    rw[show((y.natAbs:Nat):Int) = -y by omega];exact I2
   ·have hp:0<y:=by omega
    refine⟨s,b,u,c,by rw[qfv hp];exact ha,?_,sSG,sSG,sS,sS,sS,sS,(by simp -implicitDefEqProofs (disch:=omega) only[go_sem,reduceIte,Nat.reduceEqDiff,qcL]),(by simp -implicitDefEqProofs (disch:=omega) only[go_sem,reduceIte,Nat.reduceEqDiff,qcL]),(by simp -implicitDefEqProofs (disch:=omega) only[go_sem,reduceIte,Nat.reduceEqDiff,qcL]),(by simp -implicitDefEqProofs (disch:=omega) only[go_sem,reduceIte,Nat.reduceEqDiff,qcL]),(by simp -implicitDefEqProofs (disch:=omega) only[go_sem,reduceIte,Nat.reduceEqDiff,qcL]),rfl⟩
    rw[show((y.natAbs:Nat):Int)=y by omega];exact hb
  ·intro st ⟨s2,b2,u2,c2,I1,I2,h2,h3,h4,l2,l3,l4,l6,l7,l8,l9,l10,hhp⟩
   obtain⟨p1,x1,q1⟩:=I1.nn
   obtain⟨p2,x2,q2⟩:=I2.nn
   obtain⟨r3,A3,I3⟩:=qoI I1 I2 (by omega) (by omega) ⟨h.rows,none,h.mods⟩
   rw[Int.natAbs_natCast]at I3
   obtain⟨s3,b3,rfl,p3,x3,q3⟩:=I3.form
   refine qac (qaf (A3) (fun n hn k=>by simp -implicitDefEqProofs (disch:=omega) only[go_sem,reduceIte,Nat.reduceEqDiff,h2,h3,l2,l3,l6,hhp,qaz L31,qb5 hn x1 x2,qah N31 1 (.bool b3) s3 (.bool false) .nils _ rfl p3.ok];rfl) ?_)
   obtain⟨_,A4,v4,w4,rfl,I4,J4⟩:=qet I1 I3 (by omega) (by omega) ⟨h.rows,none,h.mods⟩
   obtain⟨s4,b4,rfl,p4,x4,q4⟩:=I4.form
   obtain⟨s4',b4',rfl,p4',_,_⟩:=J4.form
   refine qac (qaf (A4) (fun n hn k=>by simp -implicitDefEqProofs (disch:=omega) only[go_sem,reduceIte,Nat.reduceEqDiff,h2,l2,l7,l8,qaz L31,qb5 hn x1 x3,qaJ,qah N31 1 (.bool b4) s4 (.bool false) .nils _ rfl p4.ok,qah N31 1 (.bool b4') s4' (.bool false) .nils _ rfl p4'.ok];rfl) ?_)
   obtain⟨_,A5,v5,w5,rfl,I5,J5⟩:=qet I2 I3 (by omega) (by omega) ⟨h.rows,none,h.mods⟩
   obtain⟨s5,b5,rfl,p5,x5,q5⟩:=I5.form
   obtain⟨s5',b5',rfl,p5',_,_⟩:=J5.form
   refine qac (qaf (A5) (fun n hn k=>by simp -implicitDefEqProofs (disch:=omega) only[go_sem,reduceIte,Nat.reduceEqDiff,h3,l3,l9,l10,qaz L31,qb5 hn x2 x3,qaJ,qah N31 1 (.bool b5) s5 (.bool false) .nils _ rfl p5.ok,qah N31 1 (.bool b5') s5' (.bool false) .nils _ rfl p5'.ok];rfl) ?_)
   obtain⟨e1,e2⟩:=qfD (x:=x) hy
   refine qac (qad (fun n k=>by simp -implicitDefEqProofs (disch:=omega) only[go_sem,reduceIte,Nat.reduceEqDiff,h4,l4,qaz L31,qwS (Pl.bool _) p4 (Pl.bool _) p5,qaM N63 1 (.bool b4) s4 (.bool b5) s5 (.bool false) .nils (.bool false) .nils _ rfl p4.ok rfl p5.ok];rfl) ?_)
   refine qai (hQ _ _ (qd7 (x:=.bool b4) (y:=s4) (z:=.bool b5) (u:=s5) (w:=.bool true) (f:=false) (d:=4) (g:=1) (sS1 h4) sS (Pl.bool _) p4 (Pl.bool _) p5 sS (Pl.bool _) (fun x hx=>by cases hx)) ⟨_,by rw[decide_eq_true hy],b4,s4,b5,s5,rfl,?_,?_⟩)
   ·rw[e1];exact I4.mono (by omega)
   ·rw[e2];exact I5.mono (by omega)
theorem tbl80:tbl 80=some ⟨rc80,[.tmp 2]⟩:=by kernel_rfl
theorem tbl58:tbl 58=some ⟨rc58,[.cell 4 63]⟩:=by kernel_rfl
theorem tbl59:tbl 59=some ⟨rc59,[.cell 2 63]⟩:=by kernel_rfl
theorem tbl60:tbl 60=some ⟨rc60,[.cell 4 63]⟩:=by kernel_rfl
theorem tbl62:tbl 62=some ⟨rc62,[.tmp 4]⟩:=by kernel_rfl
theorem qpq(c:Qad)(t:Tm)(l:Lo)(h:Hp)(J:JD)(X:XD):gD Try.f58 58 1 20 c t l h J X=J (.ptr (.loc 5 ((lg l 5).1+1)) 0) ⟨[5],[5],false,false,false,false⟩ (lp l 5 ((lg l 5).1+1,.cells false [.bool false,.nils,.bool false,.nils])) h :=
 qbE (C:=Cg) (gl:=Cg.glob 58) (call:=c) (o:=opA Try.f58 1 20) (d:=5) (t:=63) (n:=4) (z:=.agg [.bool false,.nils,.bool false,.nils]) (by kernel_rfl) (by kernel_rfl) (by kernel_rfl) (by kernel_rfl) (by kernel_rfl) rfl rfl
theorem qpp(c:Qad)(t:Tm)(l:Lo)(h:Hp)(J:JD)(X:XD):gD Try.f60 60 1 14 c t l h J X=J (.ptr (.loc 5 ((lg l 5).1+1)) 0) ⟨[5],[5],false,false,false,false⟩ (lp l 5 ((lg l 5).1+1,.cells false [.bool false,.nils,.bool false,.nils])) h :=
 qbE (C:=Cg) (gl:=Cg.glob 60) (call:=c) (o:=opA Try.f60 1 14) (d:=5) (t:=63) (n:=4) (z:=.agg [.bool false,.nils,.bool false,.nils]) (by kernel_rfl) (by kernel_rfl) (by kernel_rfl) (by kernel_rfl) (by kernel_rfl) rfl rfl
theorem qsH{x y u v:V}(px:Pl x)(py:Pl y)(pu:Pl u)(pv:Pl v)(c:Qad)(t:Tm)(l:Lo)(h:Hp)(J:JD)(X:XD):gD Try.f59 59 1 5 c (pt (pt t 5 (.agg [x,y])) 7 (.agg [u,v])) l h J X=J (.agg [x,y,u,v]) ⟨[],[],false,false,false,false⟩ l h :=
 qcm (C:=Cg) (gl:=Cg.glob 59) (call:=c) (o:=opA Try.f59 1 5) (d:=8) (t:=63) (l:=#[(0,.tmp 5),(1,.tmp 7)]) (by kernel_rfl) (by kernel_rfl) (qex (a:=.tmp 5) (b:=.tmp 7) (by kernel_rfl) (by kernel_rfl) (show zeroV Pg 63=some (.agg [.bool false,.nils,.bool false,.nils])by kernel_rfl) (by rw[qaB,qal,if_neg (by decide),qal,if_pos rfl]) (by rw[qaB,qal,if_pos rfl]) px py pu pv)
theorem qka{k:Nat}{va:V}{q:Rat}(ha:IsF k va q)(hk:k≤50000):Gives 59 [va] fun r=>IsF k r (-q):=by
 obtain⟨b,s,c,u,rfl,h1,h2⟩:=ha
 refine qak tbl59 fun h Q hQ=>?_
 unfold rc59
 refine sRG ?_
 obtain⟨p1,x1,q1⟩:=h1.nn
 obtain⟨p2,x2,q2⟩:=h2.nn
 obtain⟨_,A1,I1⟩:=qew h1 (by omega) ⟨h.rows,none,h.mods⟩
 obtain⟨s1,b1,rfl,p3,x3,q3⟩:=I1.form
 refine qac (qaf (A1) (fun n hn k=>by simp -implicitDefEqProofs (disch:=omega) only[go_sem,reduceIte,Nat.reduceEqDiff,qbK L31,qd3 L31,qb9 hn x1 q1,qsH (Pl.bool _) p3 (Pl.bool _) p2,qaM N63 1 (.bool b1) s1 (.bool c) u (.bool false) .nils (.bool false) .nils _ rfl p3.ok rfl p2.ok];exact qav (by kernel_rfl)) ?_)
 exact qai (hQ _ _ (qfk (x:=.bool b1) (y:=s1) (z:=.bool c) (u:=u) (f:=false) (d:=2) (g:=1) sS sS (Pl.bool _) p3 (Pl.bool _) p2 (fun x hx=>by cases hx)) ⟨b1,s1,c,u,rfl,by rw[Rat.neg_num];exact I1,by rw[Rat.neg_den];exact h2⟩)
theorem qoQ{k l:Nat}{va vb:V}{q p:Rat}(ha:IsF k va q)(hb:IsF l vb p)(hk:k≤40000)(hl:l≤40000):Gives 62 [va,vb] fun r=>r=.int .i64 (cmpR q p):=by
 obtain⟨b,s,c,u,rfl,h1,h2⟩:=ha
 obtain⟨b',s',c',u',rfl,h3,h4⟩:=hb
 refine qak tbl62 fun h Q hQ=>?_
 unfold rc62
 refine sRG ?_
 obtain⟨p1,x1,q1⟩:=h1.nn
 obtain⟨p2,x2,q2⟩:=h2.nn
 obtain⟨p3,x3,q3⟩:=h3.nn
 obtain⟨p4,x4,q4⟩:=h4.nn
 obtain⟨_,A1,I1⟩:=qci h1 h4 (by omega) (by omega) ⟨h.rows,none,h.mods⟩
 obtain⟨_,A2,I2⟩:=qci h3 h2 (by omega) (by omega) ⟨h.rows,none,h.mods⟩
 obtain⟨_,A3,rfl⟩:=qku I1 I2 (by omega) (by omega) ⟨h.rows,none,h.mods⟩
 refine qac (qaf ((A1.and A2).and A3) (fun n hn k=>by simp -implicitDefEqProofs (disch:=omega) only[go_sem,reduceIte,Nat.reduceEqDiff,qbK L31,qd3 L31,qbl hn.1.1 x1 x4 q1 q4,qbl hn.1.2 x3 x2 q3 q2,qbl hn.2 I1.ex I2.ex I1.quiet I2.quiet];exact qav (by kernel_rfl)) ?_)
 exact qai (hQ _ _ (qaX (v:=.int .i64 (Qcy (q.num*(p.den:Int)) (p.num*(q.den:Int)))) sS (Ex1.int _ _ _) rfl rfl) rfl)
theorem qoM{k l:Nat}{va vb:V}{q p:Rat}(ha:IsF k va q)(hb:IsF l vb p)(hk:k≤40000)(hl:l≤40000):Gives 60 [va,vb] fun r=>IsF (k+l+5) r (q*p):=by
 obtain⟨b,s,c,u,rfl,h1,h2⟩:=ha
 obtain⟨b',s',c',u',rfl,h3,h4⟩:=hb
 refine qak tbl60 fun h Q hQ=>?_
 unfold rc60
 refine sRG ?_
 obtain⟨p1,x1,q1⟩:=h1.nn
 obtain⟨p2,x2,q2⟩:=h2.nn
 obtain⟨p3,x3,q3⟩:=h3.nn
 obtain⟨p4,x4,q4⟩:=h4.nn
 obtain⟨_,A1,I1⟩:=qci h1 h3 (by omega) (by omega) ⟨h.rows,none,h.mods⟩
 obtain⟨_,A2,I2⟩:=qci h2 h4 (by omega) (by omega) ⟨h.rows,none,h.mods⟩
 obtain⟨_,A3,v,rfl,I3⟩:=qgO I1 I2 (by omega) (by omega) ⟨h.rows,none,h.mods⟩
 rw[←Rat.divInt_mul_divInt,Rat.num_divInt_den,Rat.num_divInt_den]at I3
 obtain⟨b5,s5,c5,u5,rfl,J1,J2⟩:=I3
 obtain⟨p5,p6,x5,q5⟩:=IsF.plain J1 J2
 refine qac (qaf ((A1.and A2).and A3) (fun n hn k=>by simp -implicitDefEqProofs (disch:=omega) only[go_sem,reduceIte,Nat.reduceEqDiff,qbK L31,qd3 L31,qbl hn.1.1 x1 x3 q1 q3,qbl hn.1.2 x2 x4 q2 q4,qbl hn.2 I1.ex I2.ex I1.quiet I2.quiet,qaJ,qpp,qcL,qaM N63 1 (.bool b5) s5 (.bool c5) u5 (.bool false) .nils (.bool false) .nils _ rfl p5.ok rfl p6.ok];exact qav (by kernel_rfl)) ?_)
 refine qac (qad (fun n k=>by simp -implicitDefEqProofs (disch:=omega) only[go_sem,reduceIte,Nat.reduceEqDiff,qaO L63,qaM N63 1 (.bool b5) s5 (.bool c5) u5 (.bool false) .nils (.bool false) .nils _ rfl p5.ok rfl p6.ok];rfl) ?_)
 exact qai (hQ _ _ (qfk (x:=.bool b5) (y:=s5) (z:=.bool c5) (u:=u5) (f:=false) (d:=4) (g:=1) sS sS (Pl.bool _) p5 (Pl.bool _) p6 (fun x hx=>by cases hx)) (IsF.mono ⟨b5,s5,c5,u5,rfl,J1,J2⟩ (by omega)))
theorem qkg{k l:Nat}{va vb:V}{q p:Rat}(ha:IsF k va q)(hb:IsF l vb p)(hk:k≤40000)(hl:l≤40000):Gives 58 [va,vb] fun r=>IsF (k+l+6) r (q+p):=by
 obtain⟨b,s,c,u,rfl,h1,h2⟩:=ha
 obtain⟨b',s',c',u',rfl,h3,h4⟩:=hb
 refine qak tbl58 fun h Q hQ=>?_
 unfold rc58
 refine sRG ?_
 obtain⟨p1,x1,q1⟩:=h1.nn
 obtain⟨p2,x2,q2⟩:=h2.nn
 obtain⟨p3,x3,q3⟩:=h3.nn
 obtain⟨p4,x4,q4⟩:=h4.nn
 obtain⟨_,A1,I1⟩:=qci h1 h4 (by omega) (by omega) ⟨h.rows,none,h.mods⟩
 obtain⟨_,A2,I2⟩:=qci h3 h2 (by omega) (by omega) ⟨h.rows,none,h.mods⟩
 obtain⟨_,A4,I4⟩:=qeR I1 I2 (by omega) (by omega) ⟨h.rows,none,h.mods⟩
 obtain⟨_,A5,I5⟩:=qci h2 h4 (by omega) (by omega) ⟨h.rows,none,h.mods⟩
 obtain⟨_,A3,v,rfl,I3⟩:=qgO I4 I5 (by omega) (by omega) ⟨h.rows,none,h.mods⟩
 rw[←Rat.divInt_add_divInt _ _ (qhT q) (qhT p),Rat.num_divInt_den,Rat.num_divInt_den]at I3
 obtain⟨b5,s5,c5,u5,rfl,J1,J2⟩:=I3
 obtain⟨p5,p6,x5,q5⟩:=IsF.plain J1 J2
 refine qac (qaf (((A1.and A2).and A4).and (A5.and A3)) (fun n hn k=>by simp -implicitDefEqProofs (disch:=omega) only[go_sem,reduceIte,Nat.reduceEqDiff,qbK L31,qd3 L31,qbl hn.1.1.1 x1 x4 q1 q4,qbl hn.1.1.2 x3 x2 q3 q2,qbl hn.1.2 I1.ex I2.ex I1.quiet I2.quiet,qbl hn.2.1 x2 x4 q2 q4,qbl hn.2.2 I4.ex I5.ex I4.quiet I5.quiet,qaJ,qpq,qcL,qaM N63 1 (.bool b5) s5 (.bool c5) u5 (.bool false) .nils (.bool false) .nils _ rfl p5.ok rfl p6.ok];exact qav (by kernel_rfl)) ?_)
 refine qac (qad (fun n k=>by simp -implicitDefEqProofs (disch:=omega) only[go_sem,reduceIte,Nat.reduceEqDiff,qaO L63,qaM N63 1 (.bool b5) s5 (.bool c5) u5 (.bool false) .nils (.bool false) .nils _ rfl p5.ok rfl p6.ok];rfl) ?_)
 exact qai (hQ _ _ (qfk (x:=.bool b5) (y:=s5) (z:=.bool c5) (u:=u5) (f:=false) (d:=4) (g:=1) sS sS (Pl.bool _) p5 (Pl.bool _) p6 (fun x hx=>by cases hx)) (IsF.mono ⟨b5,s5,c5,u5,rfl,J1,J2⟩ (by omega)))
theorem qmV{k:Nat}{va:V}{q:Rat}(ha:IsF k va q)(hk:k≤50000):Gives 80 [va] fun r=>∃ t,r=.str (sl t)∧QT t q:=by
 obtain⟨b,s,c,u,rfl,h1,h2⟩:=ha
 refine qak tbl80 fun h Q hQ=>?_
 unfold rc80
 refine sRG ?_
 obtain⟨p1,x1,q1⟩:=h1.nn
 obtain⟨p2,x2,q2⟩:=h2.nn
 obtain⟨_,A1,I1⟩:=qfU (z:=.ofNat 1) (by decide) (by decide) ⟨h.rows,none,h.mods⟩
 obtain⟨_,A2,rfl⟩:=qku h2 I1 (by omega) (by omega) ⟨h.rows,none,h.mods⟩
 have hz:bin Pg .eql 3 true (.int .i64 (Qcy (q.den:Int) (.ofNat 1))) (.int .i64 (.ofNat 0))=some (.bool (decide (q.den=1))):=by
  by_cases e:q.den=1
  ·rw[e];rfl
  ·have hd:(1:Int)<(q.den:Int):=by have:=q.den_pos;omega
   rw[decide_eq_false e,show Qcy (q.den:Int) (.ofNat 1)=.ofNat 1 by unfold Qcy;rw[if_neg (by show ¬(q.den:Int)<1;omega),if_pos (by exact hd)]];rfl
 refine qac (qac (qaf (A1.and A2) (fun n hn k=>by simp -implicitDefEqProofs (disch:=omega) only[go_sem,reduceIte,Nat.reduceEqDiff,qd3 L31,qb9 hn.1 (Ex1.int _ _) rfl,qbl hn.2 x2 I1.ex q2 I1.quiet,hz];exact qav (by kernel_rfl)) ?_))
 obtain⟨_,A3,t,rfl,d1,g1,z1,l1⟩:=qeW h1 (by omega) ⟨h.rows,none,h.mods⟩
 refine qaU (by simp only[qal,reduceIte];rfl) (fun hw=>?_) (fun hw=>qag ?_)
 ·refine qac (qaf (A3) (fun n hn k=>by simp -implicitDefEqProofs (disch:=omega) only[go_sem,reduceIte,Nat.reduceEqDiff,qbK L31,qcG hn x1];rfl) ?_)
  exact qai (hQ _ _ (qaX (v:=.str (sl t)) sS (Ex1.str _ _) rfl rfl) ⟨t,rfl,d1,.inl ⟨by simpa using hw,g1,z1⟩⟩)
 ·obtain⟨_,A4,w,rfl,d2,g2,z2,l2⟩:=qeW h2 (by omega) ⟨h.rows,none,h.mods⟩
  have d3:Dg 256 (t++[47]):=by
   intro x hx
   rcases List.mem_append.1 hx with e | e
   ·exact d1 x e
   ·simp at e;omega
  refine qac (qaf (A3.and A4) (fun n hn k=>by simp -implicitDefEqProofs (disch:=omega) only[go_sem,reduceIte,Nat.reduceEqDiff,qbK L31,qd3 L31,qb9 hn.1 x1 q1,qb9 hn.2 x2 q2,qkF true d1 (by omega),qlJ 9 false (b:=w) d3 (by simp;omega)];exact qav (by kernel_rfl)) ?_)
  refine qai (hQ _ _ (qaX (v:=.str (sl (t++[47]++w))) sS (Ex1.str _ _) rfl rfl) ⟨_,rfl,?_,.inr ⟨by simpa using hw,t,w,by simp,g1,z1,g2,z2⟩⟩)
  intro x hx
  rcases List.mem_append.1 hx with e | e
  ·exact d3 x e
  ·exact d2 x e
theorem tbl42:tbl 42=some ⟨rc42,[.tmp 2]⟩:=by kernel_rfl
theorem tbl43:tbl 43=some ⟨rc43,[.cell 2 26,.cell 3 31]⟩:=by kernel_rfl
theorem tbl47:tbl 47=some ⟨rc47,[.tmp 4]⟩:=by kernel_rfl
theorem tbl51:tbl 51=some ⟨rc51,[.cell 4 59,.cell 5 63]⟩:=by kernel_rfl
theorem qmM(n:Nat):fn Pg kn0 tbl (n+40) 41 [] Qbb=some (.val (.bool true) Qbb):=by kernel_rfl
theorem qk7:Runs Pg kn0 tbl 41 [] Qbb (.val (.bool true) Qbb):=⟨40,fun n hn=>by
 obtain⟨m,rfl⟩:=Nat.exists_eq_add_of_le hn
 rw[Nat.add_comm];exact qmM m⟩
theorem qk5(f:Bool)(l:List Str)(hl:l.length≤1000000):Gives 42 [.slice none f 1 (l.map .str)] fun r=>r=.bool (l.all fun s=>decide (s.n≤120)):=by
 refine qak tbl42 fun h Q hQ=>?_
 have done:∀ (st:St) (b:Bool),b=(l.all fun s=>decide (s.n≤120))→gt st.tm 2=.bool b→st.hp=⟨h.rows,none,h.mods⟩→Q st:=by
  intro st b e h2 hh
  exact hQ st _ (qbJ h2 (Ex1.bool _) (by rw[hh];exact fun x hx=>by cases hx) rfl) (by rw[e])
 unfold rc42
 refine sR ?_
 refine qcS (fun s=>(∀ s ∈ l,s.n≤120)∧s.hp=⟨h.rows,none,h.mods⟩) ?_ (fun s ⟨a,ah⟩=>?_)
 ·refine sR ?_
  refine qaP (fun m s=>∃ i,m+i=l.length∧gt s.tm 0=.slice none f 1 (l.map .str)∧gt s.tm 3=.int .i64 (.ofNat i)∧(∀ x ∈ l.take i,x.n≤120)∧s.hp=⟨h.rows,none,h.mods⟩) l.length ⟨0,rfl,sSG,sS,(fun x hx=>by simp at hx),rfl⟩ ?_
  intro m s ⟨i,hm,h0,h3,hle,hh⟩
  refine qac (qac (qad (fun n k=>by simp -implicitDefEqProofs (disch:=omega) only[go_sem,reduceIte,Nat.reduceEqDiff,h0,h3,qgz,List.length_map];rfl) ?_))
  refine qaU (by simp only[qal,reduceIte];rfl) (fun hi=>qag ?_) (fun hi=>qax ?_)
  ·have hx:(l.map V.str)[i]? = some (.str l[i]):=by simp[hi]
   have hmem:l[i] ∈ l:=List.getElem_mem _
   refine qac (qaq ?_)
   refine qac (qad (fun n k=>by simp -implicitDefEqProofs (disch:=omega) only[go_sem,reduceIte,Nat.reduceEqDiff,h0,h3,qxw E79 L9 none f .i64 (l.map .str) i (.str l[i]) hx rfl];rfl) ?_)
   refine qaU (by simp only[qal,reduceIte];rfl) (fun hbig=>?_) (fun hbig=>qag ?_)
   ·refine sR ?_
    refine qai (done _ false ?_ sS hh)
    symm
    rw[List.all_eq_false]
    exact⟨l[i],hmem,by simp;omega⟩
   ·refine sE1 h3 ?_
    refine⟨m - 1,by omega,i+1,by omega,(sS1 h0),sS,?_,hh⟩
    intro x hx
    rw[List.take_add_one]at hx
    rcases List.mem_append.1 hx with hx | hx
    ·exact hle x hx
    ·simp[hi]at hx
     subst hx
     omega
  ·rw[if_pos rfl]
   refine⟨?_,hh⟩
   rw[List.take_of_length_le (by omega)]at hle
   exact hle
 ·refine sR ?_
  refine qai (done _ true ?_ sS ah)
  symm
  rw[List.all_eq_true]
  exact fun s hs=>decide_eq_true (a s hs)
theorem qjR{l:List Nat}(hd:Dg 256 l)(hl:l.length≤300):Gives 43 [.str (sl l)] fun r=>∃ v w z,r=.tuple [v,w]∧IsI 1002 v z∧IsR 252 w z:=by
 refine qak tbl43 fun h Q hQ=>?_
 unfold rc43
 refine sR ?_
 obtain⟨_,hp1,v,rfl,hvI⟩:=qmz hd (by omega) ⟨h.rows,none,h.mods⟩
 obtain⟨w,hp2,hwR⟩:=qmB hd (by omega) ⟨h.rows,none,h.mods⟩
 obtain⟨sv,bv,rfl,pv,ev,qv⟩:=hvI.form
 obtain⟨sw,bw,rfl,pw,ew,qw⟩:=hwR.form
 refine qac (qaf (hp1) (fun n hn k=>by simp -implicitDefEqProofs (disch:=omega) only[go_sem,reduceIte,Nat.reduceEqDiff,qae,List.getD_cons_zero,List.getD_cons_succ,qcG hn (Ex1.str _),qaJ,qah N26 1 sv (.bool bv) .nils (.bool false) _ pv.ok rfl];rfl) ?_)
 refine qac (qaf (hp2) (fun n hn k=>by simp -implicitDefEqProofs (disch:=omega) only[go_sem,reduceIte,Nat.reduceEqDiff,qae,List.getD_cons_zero,List.getD_cons_succ,qaz L26,qb9 hn (Ex1.str _) rfl,qah N26 1 sv (.bool bv) .nils (.bool false) _ pv.ok rfl,qah N31 1 (.bool bw) sw (.bool false) .nils _ rfl pw.ok];exact qav (by kernel_rfl)) ?_)
 exact qai (hQ _ _ (qfj (x:=sv) (y:=.bool bv) (x2:=.bool bw) (y2:=sw) (d:=2) (g:=1) (d2:=3) (g2:=1) (f:=false) (f2:=false) (by kernel_rfl) (by kernel_rfl) sS sS sS sS pv (Pl.bool _) (Pl.bool _) pw (fun x hx=>by cases hx)) ⟨_,_,zOf l,rfl,hvI,hwR⟩)
theorem IsQ.ex{k:Nat}{v:V}{q:Rat}(h:IsQ k v q):Ex1 v∧AM.quiet v=true:=by
 obtain⟨s,b,u,c,rfl,h1,h2⟩:=h
 exact(IsQ.plain h1 h2).2.2
theorem IsF.ex{k:Nat}{v:V}{q:Rat}(h:IsF k v q):Ex1 v∧AM.quiet v=true:=by
 obtain⟨s,b,u,c,rfl,h1,h2⟩:=h
 exact(IsF.plain h1 h2).2.2
theorem qdH{k l:Nat}{v w:V}{q p:Rat}(ha:IsQ k v q)(hb:IsF l w p)(hk:k≤50000)(hl:l≤50000):Gives 47 [v,w] fun r=>r=.bool (decide (q=p)):=by
 have ha0:=ha;have hb0:=hb
 obtain⟨s,b,u,c,rfl,h1,h2⟩:=ha
 obtain⟨b',s',c',u',rfl,h3,h4⟩:=hb
 refine qak tbl47 fun h Q hQ=>?_
 unfold rc47
 refine sRG ?_
 obtain⟨_,hr1,t1,rfl,g1⟩:=qfy ha0 hk ⟨h.rows,none,h.mods⟩
 obtain⟨_,hr2,t2,rfl,g2⟩:=qmV hb0 hl ⟨h.rows,none,h.mods⟩
 refine qac (qaf (hr1.and hr2) (fun n hn k=>by simp -implicitDefEqProofs (disch:=omega) only[go_sem,reduceIte,Nat.reduceEqDiff,qaO L59,qaO L63,qb9 hn.1 ha0.ex.1 ha0.ex.2,qb9 hn.2 hb0.ex.1 hb0.ex.2,ql9 9 false g1.1 g2.1];exact qav (by kernel_rfl)) ?_)
 refine qai (hQ _ _ (qbJ (v:=.bool (decide (t1=t2))) sS (Ex1.bool _) (fun x hx=>by cases hx) rfl) ?_)
 simp only[g1.eq g2]
theorem qmY{h:Hp}{a d g a2 d2 g2:Nat}{f f2:Bool}{s:St}{x y z u x2 y2 z2 u2:V}(hv:gt s.tm a=.ptr (.loc d g) 0)(hv2:gt s.tm a2=.ptr (.loc d2 g2) 0)(hr:lg s.loc d=(g,.cells f [x,y,z,u]))(hr2:lg s.loc d2=(g2,.cells f2 [x2,y2,z2,u2]))(hx:Pl x)(hy:Pl y)(hz:Pl z)(hu:Pl u)(hx2:Pl x2)(hy2:Pl y2)(hz2:Pl z2)(hu2:Pl u2)(hc:DG h.rows.length s.hp) :
  fin Pg h [.cell a 59,.cell a2 63] s=some (.val (.tuple [.agg [x,y,z,u],.agg [x2,y2,z2,u2]]) h):=by
 have e1:Qbj Pg s [.cell a 59,.cell a2 63]=some [.agg [x,y,z,u],.agg [x2,y2,z2,u2]]:=by
  simp only[Qbj,qbI,hv,hv2,qap hr,qap hr2,QaV,show Qax Pg 59=some (4,true)by kernel_rfl,show Qax Pg 63=some (4,true)by kernel_rfl,Option.map_some]
  rfl
 exact qgS e1 ⟨qcA hx hy hz hu,qcA hx2 hy2 hz2 hu2,trivial⟩ (by simp only[V.Qaf,V.Qao,hx.refs,hy.refs,hz.refs,hu.refs,hx2.refs,hy2.refs,hz2.refs,hu2.refs,Bool.and_self]) hc
theorem qgP{l m:List Nat}(hdl:Dg 256 l)(hl:l.length≤300)(hdm:Dg 256 m)(hm:m.length≤300):Gives 51 [.str (sl l),.str (sl m)] fun r=>∃ v w q,r=.tuple [v,w]∧IsQ 1005 v q∧IsF 257 w q:=by
 refine qak tbl51 fun h Q hQ=>?_
 unfold rc51
 obtain⟨_,Pa,va,wa,x,rfl,Ia,Ja⟩:=qjR hdl hl ⟨h.rows,none,h.mods⟩
 obtain⟨_,Pb,vb,wb,y,rfl,Ib,Jb⟩:=qjR hdm hm ⟨h.rows,none,h.mods⟩
 obtain⟨sa,ba,rfl,pa,ea,ua⟩:=Ia.form
 obtain⟨ta,da,rfl,qa,fa,ga⟩:=Ja.form
 obtain⟨sb,bb,rfl,pb,eb,ub⟩:=Ib.form
 obtain⟨tb,db,rfl,qb,fb,gb⟩:=Jb.form
 refine sR ?_
 refine qac (qaf (Pa) (fun n hn k=>by simp -implicitDefEqProofs (disch:=omega) only[go_sem,reduceIte,Nat.reduceEqDiff,qae,List.getD_cons_zero,List.getD_cons_succ,qcG hn (Ex1.str _),qaJ,qah N26 1 sa (.bool ba) .nils (.bool false) _ pa.ok rfl,qah N31 1 (.bool da) ta (.bool false) .nils _ rfl qa.ok];rfl) ?_)
 refine qac (qaf (Pb) (fun n hn k=>by simp -implicitDefEqProofs (disch:=omega) only[go_sem,reduceIte,Nat.reduceEqDiff,qae,List.getD_cons_zero,List.getD_cons_succ,qcG hn (Ex1.str _),qaJ,qah N26 1 sb (.bool bb) .nils (.bool false) _ pb.ok rfl,qah N31 1 (.bool db) tb (.bool false) .nils _ rfl qb.ok];rfl) ?_)
 obtain⟨_,Ps,rfl⟩:=qdk Ib (by omega) ⟨h.rows,none,h.mods⟩
 refine qau (M:=fun st=>∃ s2 b2 t2 d2 z,IsI 1002 (.agg [s2,.bool b2]) z∧IsR 252 (.agg [.bool d2,t2]) z∧gt st.tm 4=.ptr (.loc 4 1) 0∧gt st.tm 5=.ptr (.loc 5 1) 0∧gt st.tm 6=.ptr (.loc 6 1) 0∧gt st.tm 7=.ptr (.loc 7 1) 0∧gt st.tm 8=.ptr (.loc 8 1) 0∧gt st.tm 9=.ptr (.loc 9 1) 0∧lg st.loc 4=(1,.cells false [.nils,.bool false,.nils,.bool false])∧lg st.loc 5=(1,.cells false [.bool false,.nils,.bool false,.nils])∧lg st.loc 6=(1,.cells false [sa,.bool ba])∧lg st.loc 7=(1,.cells false [.bool da,ta])∧lg st.loc 8=(1,.cells false [s2,.bool b2])∧lg st.loc 9=(1,.cells false [.bool d2,t2])∧lg st.loc 10=(0,.gone)∧lg st.loc 12=(0,.gone)∧st.hp=⟨h.rows,none,h.mods⟩) ?_ ?_
 ·have hs:bin Pg .eql 3 true (.int .i64 (sgn y)) (.int .i64 (.ofNat 0))=some (.bool (decide (y=0))):=by
   rcases Int.lt_trichotomy y 0 with e | e | e
   ·rw[show sgn y=.negSucc 0 by unfold sgn Qcy;rw[if_pos e],decide_eq_false (by omega)];rfl
   ·rw[qcu e,decide_eq_true e];rfl
   ·rw[qh6 e,decide_eq_false (by omega)];rfl
  refine qac (qaf (Ps) (fun n hn k=>by simp -implicitDefEqProofs (disch:=omega) only[go_sem,reduceIte,Nat.reduceEqDiff,qaz L26,qcG hn eb,hs];rfl) ?_)
  refine qaU (by simp only[qal,reduceIte];rfl) (fun hz=>?_) (fun hz=>qag ?_)
  ·obtain⟨_,A1,I1⟩:=qgs (z:=.ofNat 1) (by decide) (by decide) ⟨h.rows,none,h.mods⟩
   obtain⟨_,A2,I2⟩:=qfU (z:=.ofNat 1) (by decide) (by decide) ⟨h.rows,none,h.mods⟩
   obtain⟨s1,b1,rfl,p1,_,_⟩:=I1.form
   obtain⟨t1,d1,rfl,q1,_,_⟩:=I2.form
   refine qaf (A1.and A2) (fun n hn k=>by simp -implicitDefEqProofs (disch:=omega) only[go_sem,reduceIte,Nat.reduceEqDiff,qcG hn.1 (Ex1.int _ _),qcG hn.2 (Ex1.int _ _),qah N26 1 s1 (.bool b1) sb (.bool bb) _ p1.ok rfl,qah N31 1 (.bool d1) t1 (.bool db) tb _ rfl q1.ok];rfl) ?_
   exact⟨s1,b1,t1,d1,_,I1.mono (by omega),I2.mono (by omega),sS,sS,sS,sS,sS,sS,sS,sS,sS,sS,sS,sS,(by simp -implicitDefEqProofs (disch:=omega) only[go_sem,reduceIte,Nat.reduceEqDiff,qcL]),(by simp -implicitDefEqProofs (disch:=omega) only[go_sem,reduceIte,Nat.reduceEqDiff,qcL]),rfl⟩
  ·exact⟨sb,bb,tb,db,y,Ib,Jb,sS,sS,sS,sS,sS,sS,sS,sS,sS,sS,sS,sS,(by simp -implicitDefEqProofs (disch:=omega) only[go_sem,reduceIte,Nat.reduceEqDiff,qcL]),(by simp -implicitDefEqProofs (disch:=omega) only[go_sem,reduceIte,Nat.reduceEqDiff,qcL]),rfl⟩
 ·intro st ⟨s2,b2,t2,d2,z,I2,J2,h4,h5,h6,h7,h8,h9,l4,l5,l6,l7,l8,l9,l10,l12,hhp⟩
  obtain⟨p2,e2,u2⟩:=I2.nn
  obtain⟨q2,f2,g2⟩:=J2.nn
  obtain⟨_,A1,v,rfl,Q1⟩:=qdG Ia I2 (by omega) (by omega) ⟨h.rows,none,h.mods⟩
  obtain⟨_,A2,w,rfl,F1⟩:=qgO Ja J2 (by omega) (by omega) ⟨h.rows,none,h.mods⟩
  have Q1':=Q1;have F1':=F1
  obtain⟨s3,b3,u3,c3,rfl,K1,K2⟩:=Q1
  obtain⟨b4,s4,c4,u4,rfl,K3,K4⟩:=F1
  obtain⟨p3,p3',_,_⟩:=IsQ.plain K1 K2
  obtain⟨p4,p4',_,_⟩:=IsF.plain K3 K4
  refine qac (qaf (A1) (fun n hn k=>by simp -implicitDefEqProofs (disch:=omega) only[go_sem,reduceIte,Nat.reduceEqDiff,h6,h8,l6,l8,l10,hhp,qaz L26,qb5 hn ea e2,qaJ,qaM N59 1 s3 (.bool b3) u3 (.bool c3) .nils (.bool false) .nils (.bool false) _ p3.ok rfl p3'.ok rfl];rfl) ?_)
  refine qac (qaf (A2) (fun n hn k=>by simp -implicitDefEqProofs (disch:=omega) only[go_sem,reduceIte,Nat.reduceEqDiff,h7,h9,l7,l9,l12,qaz L31,qb5 hn fa f2,qaJ,qaM N63 1 (.bool b4) s4 (.bool c4) u4 (.bool false) .nils (.bool false) .nils _ rfl p4.ok rfl p4'.ok];rfl) ?_)
  refine qac (qad (fun n k=>by simp -implicitDefEqProofs (disch:=omega) only[go_sem,reduceIte,Nat.reduceEqDiff,h4,h5,l4,l5,qaO L59,qaO L63,qaM N59 1 s3 (.bool b3) u3 (.bool c3) .nils (.bool false) .nils (.bool false) _ p3.ok rfl p3'.ok rfl,qaM N63 1 (.bool b4) s4 (.bool c4) u4 (.bool false) .nils (.bool false) .nils _ rfl p4.ok rfl p4'.ok];exact qav (by kernel_rfl)) ?_)
  exact qai (hQ _ _ (qmY (x:=s3) (y:=.bool b3) (z:=u3) (u:=.bool c3) (x2:=.bool b4) (y2:=s4) (z2:=.bool c4) (u2:=u4) (d:=4) (g:=1) (d2:=5) (g2:=1) (f:=false) (f2:=false) (sS1 h4) (sS1 h5) sS sS p3 (Pl.bool _) p3' (Pl.bool _) (Pl.bool _) p4 (Pl.bool _) p4' (fun x hx=>by cases hx)) ⟨_,_,_,rfl,Q1'.mono (by omega),F1'.mono (by omega)⟩)
theorem IsQ.form{k:Nat}{v:V}{q:Rat}(h:IsQ k v q):∃ s b u c,v=.agg [s,.bool b,u,.bool c]∧Pl s∧Pl u:=by
 obtain⟨s,b,u,c,rfl,h1,h2⟩:=h
 exact⟨s,b,u,c,rfl,h1.nn.1,h2.nn.1⟩
theorem IsF.form{k:Nat}{v:V}{q:Rat}(h:IsF k v q):∃ b s c u,v=.agg [.bool b,s,.bool c,u]∧Pl s∧Pl u:=by
 obtain⟨s,b,u,c,rfl,h1,h2⟩:=h
 exact⟨s,b,u,c,rfl,h1.nn.1,h2.nn.1⟩
theorem qxU(s t u v:Str):bs Pg 79 4 [(0,.str s),(1,.str t),(2,.str u),(3,.str v)]=some (.slice none true 1 [.str s,.str t,.str u,.str v]):=by
 unfold bs
 rw[E79]
 change G.Qac (F.Qax Pg 9) (fun p=>G.Qac (F.zeroV Pg 9) (fun z=>bif (Nat.mul 4 p.fst).ble 16777216&&F.Qbk z&&z.live&&(F.QaZ z.cells).beq p.fst then G.Qac (Qed p.fst [(0,V.str s),(1,V.str t),(2,V.str u),(3,V.str v)] (F.QdU 4 z)) (fun l=>some (V.slice none true p.fst l)) none else none) none) none=_
 rw[L9]
 change G.Qac (F.zeroV Pg 9) (fun z=>bif (Nat.mul 4 1).ble 16777216&&F.Qbk z&&z.live&&(F.QaZ z.cells).beq 1 then G.Qac (Qed 1 [(0,V.str s),(1,V.str t),(2,V.str u),(3,V.str v)] (F.QdU 4 z)) (fun l=>some (V.slice none true 1 l)) none else none) none=_
 rw[Z9]
 rfl
theorem qnv{t:List Nat}(m:Bool)(d:Dg 256 t){w:List Nat}{s:Str}(hs:s=sl w)(dw:Dg 256 w)(h:t=w):bin Pg .eql 9 m (.str (sl t)) (.str s)=some (.bool true):=by
 subst h;subst hs;rw[ql9 9 m d d,decide_eq_true rfl]
theorem qtb(k:IntKind)(x:Int):G.int2 .neq k x x=some (.bool false):=by
 show some (V.bool (!(F.eqI x x)))=_
 rw[F.Qav]
 simp
theorem qty{t w:List Nat}(m:Bool)(h:t=w)(d:Dg 256 t):bin Pg .neq 9 m (.str (sl t)) (.str (sl w))=some (.bool false):=by
 subst h
 show some (V.bool (!(sl t).same (sl t)))=_
 rw[qnD d d,decide_eq_true rfl];rfl
theorem tbl12:tbl 12=some ⟨rc12,[.tmp 8]⟩:=by kernel_rfl
theorem law12{l m o p:List Nat}(hdl:Dg 256 l)(hdm:Dg 256 m)(hdo:Dg 256 o)(hdp:Dg 256 p):Runs Pg kn0 tbl 12 [.str (sl l),.str (sl m),.str (sl o),.str (sl p)] Qbb (.val (.bool true) Qbb):=by
 suffices hw:WW Pg kn0 tbl rc12 ⟨QaE [.str (sl l),.str (sl m),.str (sl o),.str (sl p)],.lf,⟨Qbb.rows,none,Qbb.mods⟩⟩ (fun _=>False) (fun _ _=>False) (fun s=>∃ o,fin Pg Qbb [.tmp 8] s=some o∧o=.val (.bool true) Qbb)by
  obtain⟨o,h1,h2⟩:=qcV (kn:=kn0) (h:=Qbb) rfl tbl12 (qeU hw (fun s hs=>hs.elim) (fun _ _ h=>h) (fun s h=>h))
  subst h2
  exact h1
 have done:∀ (st:St),gt st.tm 8=.bool true→st.hp=Qbb→∃ o,fin Pg Qbb [.tmp 8] st=some o∧o=.val (.bool true) Qbb:=by
  intro st h4 hh
  exact⟨_,qbJ h4 (Ex1.bool _) (by rw[hh];exact fun x hx=>by cases hx) rfl,rfl⟩
 have ehp:(⟨Qbb.rows,none,Qbb.mods⟩:Hp)=Qbb:=rfl
 rw[ehp]
 unfold rc12
 refine sR ?_
 refine qac (qac (qaf (qk7) (fun n hn k=>by simp -implicitDefEqProofs (disch:=omega) only[go_sem,reduceIte,Nat.reduceEqDiff,qBQ hn];rfl) ?_))
 refine qaj sS (qag ?_)
 obtain⟨_,hlt0,rfl⟩:=qk5 true [sl l,sl m,sl o,sl p] (by simp) Qbb
 have eall:([sl l,sl m,sl o,sl p].all fun s=>decide (s.n≤120))=decide (l.length≤120∧m.length≤120∧o.length≤120∧p.length≤120):=by
  show(decide (l.length≤120)&&(decide (m.length≤120)&&(decide (o.length≤120)&&(decide (p.length≤120)&&true))))=_
  simp only[Bool.and_true,Bool.decide_and]
 rw[eall]at hlt0
 have hlt:Runs Pg kn0 tbl 42 [.slice none true 1 [.str (sl l),.str (sl m),.str (sl o),.str (sl p)]] Qbb (.val (.bool (decide (l.length≤120∧m.length≤120∧o.length≤120∧p.length≤120))) Qbb):=hlt0
 refine qac (qac (qaf (hlt) (fun n hn k=>by simp -implicitDefEqProofs (disch:=omega) only[go_sem,reduceIte,Nat.reduceEqDiff,qae,List.getD_cons_zero,List.getD_cons_succ,qxU,qcG hn (fun _=>rfl)];rfl) ?_))
 by_cases hl:l.length≤120∧m.length≤120∧o.length≤120∧p.length≤120
 rotate_left
 ·rw[decide_eq_false hl]
  refine qan sS ?_
  refine sR ?_
  exact qai (done _ sS rfl)
 rw[decide_eq_true hl]
 refine qaj sS (qag ?_)
 obtain⟨_,Pa,va,wa,x,rfl,Ia,Ja⟩:=qgP hdl (show l.length≤300 by have:=hl.1;omega) hdm (show m.length≤300 by have:=hl.2.1;omega) Qbb
 have ea:=Ia.ex.1;have ua:=Ia.ex.2;have fea:=Ja.ex.1;have fua:=Ja.ex.2
 obtain⟨_,Pb,vb,wb,y,rfl,Ib,Jb⟩:=qgP hdo (show o.length≤300 by have:=hl.2.2.1;omega) hdp (show p.length≤300 by have:=hl.2.2.2;omega) Qbb
 have eb:=Ib.ex.1;have ub:=Ib.ex.2;have feb:=Jb.ex.1;have fub:=Jb.ex.2
 obtain⟨da,ta,ga,ya,rfl,Ka1,Ka2⟩:=id Ja
 obtain⟨qaa,fa1,_⟩:=Ka1.nn
 obtain⟨qba,fa2,_⟩:=Ka2.nn
 obtain⟨_,Pk,vk,vl,rfl,Jk,Jl⟩:=qet Ka1 Ka2 (by omega) (by omega) Qbb
 rw[←Rat.floor_def]at Jk
 have fek:=Jk.ex;have fuk:=Jk.quiet
 obtain⟨_,Pi,vi,rfl,Ii⟩:=qnQ Ia (by omega) Qbb
 have ei:=Ii.ex.1;have ui:=Ii.ex.2
 obtain⟨r1,A1,I1⟩:=qnS Ia Ib (by omega) (by omega) Qbb
 have e1:=I1.ex.1;have u1:=I1.ex.2
 obtain⟨r2,A2,I2⟩:=qkg Ja Jb (by omega) (by omega) Qbb
 have e2:=I2.ex.1;have u2:=I2.ex.2
 obtain⟨_,A3,rfl⟩:=qdH I1 I2 (by omega) (by omega) Qbb
 obtain⟨r4,A4,I4⟩:=qnO Ia Ib (by omega) (by omega) Qbb
 have e4:=I4.ex.1;have u4:=I4.ex.2
 obtain⟨r5,A5,I5⟩:=qka Jb (by omega) Qbb
 have e5:=I5.ex.1;have u5:=I5.ex.2
 obtain⟨r6,A6,I6⟩:=qkg Ja I5 (by omega) (by omega) Qbb
 have e6:=I6.ex.1;have u6:=I6.ex.2
 obtain⟨_,A7,rfl⟩:=qdH I4 I6 (by omega) (by omega) Qbb
 obtain⟨r8,A8,I8⟩:=qjM Ia Ib (by omega) (by omega) Qbb
 have e8:=I8.ex.1;have u8:=I8.ex.2
 obtain⟨r9,A9,I9⟩:=qoM Ja Jb (by omega) (by omega) Qbb
 have e9:=I9.ex.1;have u9:=I9.ex.2
 obtain⟨_,A10,rfl⟩:=qdH I8 I9 (by omega) (by omega) Qbb
 obtain⟨r11,A11,I11⟩:=qnP Ia (by omega) Qbb
 have e11:=I11.ex.1;have u11:=I11.ex.2
 obtain⟨r12,A12,I12⟩:=qka Ja (by omega) Qbb
 have e12:=I12.ex.1;have u12:=I12.ex.2
 obtain⟨_,A13,rfl⟩:=qdH I11 I12 (by omega) (by omega) Qbb
 obtain⟨_,A14,rfl⟩:=qnR Ia Ib (by omega) (by omega) Qbb
 obtain⟨_,A15,rfl⟩:=qoQ Ja Jb (by omega) (by omega) Qbb
 obtain⟨r16,A16,I16⟩:=qmW Ia (by omega) Qbb
 have e16:=I16.ex;have u16:=I16.quiet
 obtain⟨_,A17,t17,rfl,d17,g17,z17,l17⟩:=qcT I16 (by omega) Qbb
 obtain⟨_,A18,t18,rfl,d18,g18,z18,l18⟩:=qeW Jk (by omega) Qbb
 obtain⟨_,A19,rfl⟩:=qfA Ia (by omega) Qbb
 obtain⟨r20,A20,I20⟩:=qa7 Ia (by omega) Qbb
 have e20:=I20.ex;have u20:=I20.quiet
 obtain⟨_,A21,t21,rfl,d21,g21,z21,l21⟩:=qcT I20 (by omega) Qbb
 rw[decide_eq_true rfl]at A3
 rw[decide_eq_true rfl]at A10
 rw[decide_eq_true rfl]at A13
 rw[decide_eq_true (show x - y=x + -y by grind)]at A7
 have x1:bin Pg .neq 9 false (.str (sl t17)) (.str (sl t18))=some (.bool false):=qty false (qfZ g17 g18 (by rw[z17,z18])) d17
 have x2:bin Pg .eql 9 true (.str (sl t21)) (.str ⟨1,49⟩)=some (.bool (decide (x.den=1))):=by
  have e:=ql9 9 true (b:=[49]) d21 (by intro x hx;simp at hx;omega)
  refine e.trans ?_
  congr 2
  by_cases hd:x.den=1
  ·rw[decide_eq_true hd,decide_eq_true (qfZ g21 (by decide) (by rw[z21,hd];rfl))]
  ·rw[decide_eq_false hd,decide_eq_false (fun e=>hd (by rw[e,show zOf [49]=1 by decide]at z21;omega))]
 obtain⟨rt,Pt,It⟩:=qlP Ia Qbb
 obtain⟨ru,Pu,Iu⟩:=qlP Ii Qbb
 have et:=It.ex;have eu:=Iu.ex
 obtain⟨_,Pst,rfl⟩:=qdk It (by omega) Qbb
 obtain⟨_,Psu,rfl⟩:=qdk Iu (by omega) Qbb
 obtain⟨rm,Pm,Im⟩:=qjM Ia Ii (by omega) (by omega) Qbb
 have em:=Im.ex.1
 obtain⟨_,Pz,tz,rfl,gz⟩:=qfy Im (by omega) Qbb
 obtain⟨sa,ba,ra,ca,rfl,paa,pba⟩:=Ia.form
 obtain⟨sb,bb,rb,cb,rfl,pab,pbb⟩:=Ib.form
 obtain⟨db,tb,gb,yb,rfl,qab,qbb⟩:=Jb.form
 obtain⟨si,bi,ri,ci,rfl,pai,pbi⟩:=Ii.form
 obtain⟨tk,dk,rfl,pk,_,_⟩:=Jk.form
 obtain⟨tl,dl,rfl,pl,_,_⟩:=Jl.form
 refine qac (qaf (Pa) (fun n hn k=>by simp -implicitDefEqProofs (disch:=omega) only[go_sem,reduceIte,Nat.reduceEqDiff,qae,List.getD_cons_zero,List.getD_cons_succ,qb5 hn (Ex1.str _) (Ex1.str _),qaJ,qaM N59 1 sa (.bool ba) ra (.bool ca) .nils (.bool false) .nils (.bool false) _ paa.ok rfl pba.ok rfl,qaM N63 1 (.bool da) ta (.bool ga) ya (.bool false) .nils (.bool false) .nils _ rfl qaa.ok rfl qba.ok];rfl) ?_)
 refine qac (qaf (Pb) (fun n hn k=>by simp -implicitDefEqProofs (disch:=omega) only[go_sem,reduceIte,Nat.reduceEqDiff,qae,List.getD_cons_zero,List.getD_cons_succ,qb5 hn (Ex1.str _) (Ex1.str _),qaJ,qaM N59 1 sb (.bool bb) rb (.bool cb) .nils (.bool false) .nils (.bool false) _ pab.ok rfl pbb.ok rfl,qaM N63 1 (.bool db) tb (.bool gb) yb (.bool false) .nils (.bool false) .nils _ rfl qab.ok rfl qbb.ok];rfl) ?_)
 refine qac (qaf (Pi) (fun n hn k=>by simp -implicitDefEqProofs (disch:=omega) only[go_sem,reduceIte,Nat.reduceEqDiff,qaO L59,qcG hn ea,qaJ,qaM N59 1 si (.bool bi) ri (.bool ci) .nils (.bool false) .nils (.bool false) _ pai.ok rfl pbi.ok rfl];rfl) ?_)
 refine qac (qaf (Pk) (fun n hn k=>by simp -implicitDefEqProofs (disch:=omega) only[go_sem,reduceIte,Nat.reduceEqDiff,qbK L31,qd3 L31,qb5 hn fa1 fa2,qaJ,qah N31 1 (.bool dk) tk (.bool false) .nils _ rfl pk.ok,qah N31 1 (.bool dl) tl (.bool false) .nils _ rfl pl.ok];rfl) ?_)
 refine qwZ (M:=fun tm loc=>gt tm 9=.ptr (.loc 9 1) 0∧gt tm 10=.ptr (.loc 10 1) 0∧gt tm 11=.ptr (.loc 11 1) 0∧gt tm 12=.ptr (.loc 12 1) 0∧gt tm 13=.ptr (.loc 13 1) 0∧gt tm 15=.ptr (.loc 15 1) 0∧lg loc 9=(1,.cells false [sa,.bool ba,ra,.bool ca])∧lg loc 10=(1,.cells false [.bool da,ta,.bool ga,ya])∧lg loc 11=(1,.cells false [sb,.bool bb,rb,.bool cb])∧lg loc 12=(1,.cells false [.bool db,tb,.bool gb,yb])∧lg loc 13=(1,.cells false [si,.bool bi,ri,.bool ci])∧lg loc 15=(1,.cells false [.bool dk,tk])∧gt tm 14=.bool (decide (x≠0))) rfl ⟨sS,sS,sS,sS,sS,sS,sS,sS,sS,sS,sS,sS,sS⟩ ?_
 intro tm loc ⟨h9,h10,h11,h12,h13,h15,l9,l10,l11,l12,l13,l15,h14⟩
 by_cases hd:x.den=1
 ·rw[decide_eq_true hd]at x2 A19
  refine qac (qac (qaf (((((A1).and (A2)).and ((A3).and ((A4).and (A5)))).and (((A6).and (A7)).and ((A8).and ((A9).and (A10))))).and ((((A11).and (A12)).and ((A13).and ((A14).and (A15)))).and (((A16).and ((A17).and (A18))).and ((A19).and ((A20).and (A21)))))) (fun n hn k=>by simp -implicitDefEqProofs (disch:=omega) only[go_sem,reduceIte,Nat.reduceEqDiff,h9,h10,h11,h12,h15,l9,l10,l11,l12,l15,qaO L59,qaO L63,qaz L31,qlM,qq3,qtb,qaY,x1,x2,↓qbl hn.1.1.1.1 ea eb ua ub,↓qbl hn.1.1.1.2 fea feb fua fub,↓qbl hn.1.1.2.1 e1 e2 u1 u2,↓qbl hn.1.1.2.2.1 ea eb ua ub,↓qb9 hn.1.1.2.2.2 feb fub,↓qbl hn.1.2.1.1 fea e5 fua u5,↓qbl hn.1.2.1.2 e4 e6 u4 u6,↓qbl hn.1.2.2.1 ea eb ua ub,↓qbl hn.1.2.2.2.1 fea feb fua fub,↓qbl hn.1.2.2.2.2 e8 e9 u8 u9,↓qb9 hn.2.1.1.1 ea ua,↓qb9 hn.2.1.1.2 fea fua,↓qbl hn.2.1.2.1 e11 e12 u11 u12,↓qbl hn.2.1.2.2.1 ea eb ua ub,↓qbl hn.2.1.2.2.2 fea feb fua fub,↓qb9 hn.2.2.1.1 ea ua,↓qb9 hn.2.2.1.2.1 e16 u16,↓qb9 hn.2.2.1.2.2 fek fuk,↓qb9 hn.2.2.2.1 ea ua,↓qb9 hn.2.2.2.2.1 ea ua,↓qb9 hn.2.2.2.2.2 e20 u20];exact qav (by kernel_rfl)) ?_))
  refine qaj sS (qag ?_)
  by_cases hx:x=0
  ·rw[decide_eq_false (by simpa using hx)]at h14
   rw[qcu (show x.num=0 by rw[hx];rfl)]at Pst
   rw[qcu (show x⁻¹.num=0 by rw[hx,Rat.inv_zero];rfl)]at Psu
   refine sQ1 h14 ?_
   refine qan sS ?_
   refine qac (qaf ((Pt.and Pst).and (Pu.and Psu)) (fun n hn k=>by simp -implicitDefEqProofs (disch:=omega) only[go_sem,reduceIte,Nat.reduceEqDiff,h9,h13,l9,l13,qaO L59,↓qcG hn.1.1 ea,↓qcG hn.1.2 et,↓qcG hn.2.1 ei,↓qcG hn.2.2 eu,qlM,ql2];rfl) ?_)
   exact qai (done _ sS rfl)
  ·rw[decide_eq_true hx]at h14
   have x3:bin Pg .eql 9 true (.str (sl tz)) (.str ⟨1,49⟩)=some (.bool true):=qnv (w:=[49]) true gz.1 rfl (by intro x hx;simp at hx;omega) ((QT.eq gz (show QT [49] (x*x⁻¹)by rw[Rat.mul_inv_cancel x hx];exact⟨by intro x hx;simp at hx;omega,.inl ⟨rfl,by decide,by decide⟩⟩)).2 rfl)
   refine sQ1 h14 ?_
   refine qaj sS (qag ?_)
   refine qac (qaf (Pm.and Pz) (fun n hn k=>by simp -implicitDefEqProofs (disch:=omega) only[go_sem,reduceIte,Nat.reduceEqDiff,h9,h13,l9,l13,qaO L59,↓qb5 hn.1 ea ei,↓qcG hn.2 em,x3];rfl) ?_)
   exact qai (done _ sS rfl)
 ·rw[decide_eq_false hd]at x2 A19
  refine qac (qac (qaf (((((A1).and (A2)).and ((A3).and ((A4).and (A5)))).and (((A6).and (A7)).and ((A8).and ((A9).and (A10))))).and ((((A11).and (A12)).and ((A13).and ((A14).and (A15)))).and (((A16).and ((A17).and (A18))).and ((A19).and ((A20).and (A21)))))) (fun n hn k=>by simp -implicitDefEqProofs (disch:=omega) only[go_sem,reduceIte,Nat.reduceEqDiff,h9,h10,h11,h12,h15,l9,l10,l11,l12,l15,qaO L59,qaO L63,qaz L31,qlM,qq3,qtb,qaY,x1,x2,↓qbl hn.1.1.1.1 ea eb ua ub,↓qbl hn.1.1.1.2 fea feb fua fub,↓qbl hn.1.1.2.1 e1 e2 u1 u2,↓qbl hn.1.1.2.2.1 ea eb ua ub,↓qb9 hn.1.1.2.2.2 feb fub,↓qbl hn.1.2.1.1 fea e5 fua u5,↓qbl hn.1.2.1.2 e4 e6 u4 u6,↓qbl hn.1.2.2.1 ea eb ua ub,↓qbl hn.1.2.2.2.1 fea feb fua fub,↓qbl hn.1.2.2.2.2 e8 e9 u8 u9,↓qb9 hn.2.1.1.1 ea ua,↓qb9 hn.2.1.1.2 fea fua,↓qbl hn.2.1.2.1 e11 e12 u11 u12,↓qbl hn.2.1.2.2.1 ea eb ua ub,↓qbl hn.2.1.2.2.2 fea feb fua fub,↓qb9 hn.2.2.1.1 ea ua,↓qb9 hn.2.2.1.2.1 e16 u16,↓qb9 hn.2.2.1.2.2 fek fuk,↓qb9 hn.2.2.2.1 ea ua,↓qb9 hn.2.2.2.2.1 ea ua,↓qb9 hn.2.2.2.2.2 e20 u20];exact qav (by kernel_rfl)) ?_))
  refine qaj sS (qag ?_)
  by_cases hx:x=0
  ·rw[decide_eq_false (by simpa using hx)]at h14
   rw[qcu (show x.num=0 by rw[hx];rfl)]at Pst
   rw[qcu (show x⁻¹.num=0 by rw[hx,Rat.inv_zero];rfl)]at Psu
   refine sQ1 h14 ?_
   refine qan sS ?_
   refine qac (qaf ((Pt.and Pst).and (Pu.and Psu)) (fun n hn k=>by simp -implicitDefEqProofs (disch:=omega) only[go_sem,reduceIte,Nat.reduceEqDiff,h9,h13,l9,l13,qaO L59,↓qcG hn.1.1 ea,↓qcG hn.1.2 et,↓qcG hn.2.1 ei,↓qcG hn.2.2 eu,qlM,ql2];rfl) ?_)
   exact qai (done _ sS rfl)
  ·rw[decide_eq_true hx]at h14
   have x3:bin Pg .eql 9 true (.str (sl tz)) (.str ⟨1,49⟩)=some (.bool true):=qnv (w:=[49]) true gz.1 rfl (by intro x hx;simp at hx;omega) ((QT.eq gz (show QT [49] (x*x⁻¹)by rw[Rat.mul_inv_cancel x hx];exact⟨by intro x hx;simp at hx;omega,.inl ⟨rfl,by decide,by decide⟩⟩)).2 rfl)
   refine sQ1 h14 ?_
   refine qaj sS (qag ?_)
   refine qac (qaf (Pm.and Pz) (fun n hn k=>by simp -implicitDefEqProofs (disch:=omega) only[go_sem,reduceIte,Nat.reduceEqDiff,h9,h13,l9,l13,qaO L59,↓qb5 hn.1 ea ei,↓qcG hn.2 em,x3];rfl) ?_)
   exact qai (done _ sS rfl)
end Go.AM.S
end
section
namespace Go.AM.S
open Go Go.AM Go.Proofs
set_option maxRecDepth 100000
theorem qBs:FOk Pg Cg 12 ⟨rc12,Try.f12.results.toList⟩:=fok (kp:=kp12) rfl Try.func12 (by kernel_rfl) (by kernel_rfl) (by kernel_rfl)
theorem qBo:FOk Pg Cg 21 ⟨rc21,Try.f21.results.toList⟩:=fok (kp:=kp21) rfl Try.func21 (by kernel_rfl) (by kernel_rfl) (by kernel_rfl)
theorem qBk:FOk Pg Cg 26 ⟨rc26,Try.f26.results.toList⟩:=fok (kp:=kp26) rfl Try.func26 (by kernel_rfl) (by kernel_rfl) (by kernel_rfl)
theorem qBg:FOk Pg Cg 30 ⟨rc30,Try.f30.results.toList⟩:=fok (kp:=kp30) rfl Try.func30 (by kernel_rfl) (by kernel_rfl) (by kernel_rfl)
theorem qBc:FOk Pg Cg 34 ⟨rc34,Try.f34.results.toList⟩:=fok (kp:=kp34) rfl Try.func34 (by kernel_rfl) (by kernel_rfl) (by kernel_rfl)
theorem qA8:FOk Pg Cg 38 ⟨rc38,Try.f38.results.toList⟩:=fok (kp:=kp38) rfl Try.func38 (by kernel_rfl) (by kernel_rfl) (by kernel_rfl)
theorem qA4:FOk Pg Cg 42 ⟨rc42,Try.f42.results.toList⟩:=fok (kp:=kp42) rfl Try.func42 (by kernel_rfl) (by kernel_rfl) (by kernel_rfl)
theorem qA0:FOk Pg Cg 46 ⟨rc46,Try.f46.results.toList⟩:=fok (kp:=kp46) rfl Try.func46 (by kernel_rfl) (by kernel_rfl) (by kernel_rfl)
theorem qAW:FOk Pg Cg 50 ⟨rc50,Try.f50.results.toList⟩:=fok (kp:=kp50) rfl Try.func50 (by kernel_rfl) (by kernel_rfl) (by kernel_rfl)
theorem qAS:FOk Pg Cg 54 ⟨rc54,Try.f54.results.toList⟩:=fok (kp:=kp54) rfl Try.func54 (by kernel_rfl) (by kernel_rfl) (by kernel_rfl)
theorem qAO:FOk Pg Cg 58 ⟨rc58,Try.f58.results.toList⟩:=fok (kp:=kp58) rfl Try.func58 (by kernel_rfl) (by kernel_rfl) (by kernel_rfl)
theorem qAK:FOk Pg Cg 62 ⟨rc62,Try.f62.results.toList⟩:=fok (kp:=kp62) rfl Try.func62 (by kernel_rfl) (by kernel_rfl) (by kernel_rfl)
theorem qAG:FOk Pg Cg 66 ⟨rc66,Try.f66.results.toList⟩:=fok (kp:=kp66) rfl Try.func66 (by kernel_rfl) (by kernel_rfl) (by kernel_rfl)
theorem qAC:FOk Pg Cg 70 ⟨rc70,Try.f70.results.toList⟩:=fok (kp:=kp70) rfl Try.func70 (by kernel_rfl) (by kernel_rfl) (by kernel_rfl)
theorem qAy:FOk Pg Cg 74 ⟨rc74,Try.f74.results.toList⟩:=fok (kp:=kp74) rfl Try.func74 (by kernel_rfl) (by kernel_rfl) (by kernel_rfl)
theorem qAu:FOk Pg Cg 78 ⟨rc78,Try.f78.results.toList⟩:=fok (kp:=kp78) rfl Try.func78 (by kernel_rfl) (by kernel_rfl) (by kernel_rfl)
theorem qAq:FOk Pg Cg 82 ⟨rc82,Try.f82.results.toList⟩:=fok (kp:=kp82) rfl Try.func82 (by kernel_rfl) (by kernel_rfl) (by kernel_rfl)
theorem qAm:FOk Pg Cg 86 ⟨rc86,Try.f86.results.toList⟩:=fok (kp:=kp86) rfl Try.func86 (by kernel_rfl) (by kernel_rfl) (by kernel_rfl)
theorem qBr:FOk Pg Cg 15 ⟨rc15,Try.f15.results.toList⟩:=fok (kp:=kp15) rfl Try.func15 (by kernel_rfl) (by kernel_rfl) (by kernel_rfl)
theorem qBn:FOk Pg Cg 22 ⟨rc22,Try.f22.results.toList⟩:=fok (kp:=kp22) rfl Try.func22 (by kernel_rfl) (by kernel_rfl) (by kernel_rfl)
theorem qBj:FOk Pg Cg 27 ⟨rc27,Try.f27.results.toList⟩:=fok (kp:=kp27) rfl Try.func27 (by kernel_rfl) (by kernel_rfl) (by kernel_rfl)
theorem qBf:FOk Pg Cg 31 ⟨rc31,Try.f31.results.toList⟩:=fok (kp:=kp31) rfl Try.func31 (by kernel_rfl) (by kernel_rfl) (by kernel_rfl)
theorem qBb:FOk Pg Cg 35 ⟨rc35,Try.f35.results.toList⟩:=fok (kp:=kp35) rfl Try.func35 (by kernel_rfl) (by kernel_rfl) (by kernel_rfl)
theorem qA7:FOk Pg Cg 39 ⟨rc39,Try.f39.results.toList⟩:=fok (kp:=kp39) rfl Try.func39 (by kernel_rfl) (by kernel_rfl) (by kernel_rfl)
theorem qA3:FOk Pg Cg 43 ⟨rc43,Try.f43.results.toList⟩:=fok (kp:=kp43) rfl Try.func43 (by kernel_rfl) (by kernel_rfl) (by kernel_rfl)
theorem qAZ:FOk Pg Cg 47 ⟨rc47,Try.f47.results.toList⟩:=fok (kp:=kp47) rfl Try.func47 (by kernel_rfl) (by kernel_rfl) (by kernel_rfl)
theorem qAV:FOk Pg Cg 51 ⟨rc51,Try.f51.results.toList⟩:=fok (kp:=kp51) rfl Try.func51 (by kernel_rfl) (by kernel_rfl) (by kernel_rfl)
theorem qAR:FOk Pg Cg 55 ⟨rc55,Try.f55.results.toList⟩:=fok (kp:=kp55) rfl Try.func55 (by kernel_rfl) (by kernel_rfl) (by kernel_rfl)
theorem qAN:FOk Pg Cg 59 ⟨rc59,Try.f59.results.toList⟩:=fok (kp:=kp59) rfl Try.func59 (by kernel_rfl) (by kernel_rfl) (by kernel_rfl)
theorem qAJ:FOk Pg Cg 63 ⟨rc63,Try.f63.results.toList⟩:=fok (kp:=kp63) rfl Try.func63 (by kernel_rfl) (by kernel_rfl) (by kernel_rfl)
theorem qAF:FOk Pg Cg 67 ⟨rc67,Try.f67.results.toList⟩:=fok (kp:=kp67) rfl Try.func67 (by kernel_rfl) (by kernel_rfl) (by kernel_rfl)
theorem qAB:FOk Pg Cg 71 ⟨rc71,Try.f71.results.toList⟩:=fok (kp:=kp71) rfl Try.func71 (by kernel_rfl) (by kernel_rfl) (by kernel_rfl)
theorem qAx:FOk Pg Cg 75 ⟨rc75,Try.f75.results.toList⟩:=fok (kp:=kp75) rfl Try.func75 (by kernel_rfl) (by kernel_rfl) (by kernel_rfl)
theorem qAt:FOk Pg Cg 79 ⟨rc79,Try.f79.results.toList⟩:=fok (kp:=kp79) rfl Try.func79 (by kernel_rfl) (by kernel_rfl) (by kernel_rfl)
theorem qAp:FOk Pg Cg 83 ⟨rc83,Try.f83.results.toList⟩:=fok (kp:=kp83) rfl Try.func83 (by kernel_rfl) (by kernel_rfl) (by kernel_rfl)
theorem qAl:FOk Pg Cg 87 ⟨rc87,Try.f87.results.toList⟩:=fok (kp:=kp87) rfl Try.func87 (by kernel_rfl) (by kernel_rfl) (by kernel_rfl)
theorem qBq:FOk Pg Cg 16 ⟨rc16,Try.f16.results.toList⟩:=fok (kp:=kp16) rfl Try.func16 (by kernel_rfl) (by kernel_rfl) (by kernel_rfl)
theorem qBm:FOk Pg Cg 23 ⟨rc23,Try.f23.results.toList⟩:=fok (kp:=kp23) rfl Try.func23 (by kernel_rfl) (by kernel_rfl) (by kernel_rfl)
theorem qBi:FOk Pg Cg 28 ⟨rc28,Try.f28.results.toList⟩:=fok (kp:=kp28) rfl Try.func28 (by kernel_rfl) (by kernel_rfl) (by kernel_rfl)
theorem qBe:FOk Pg Cg 32 ⟨rc32,Try.f32.results.toList⟩:=fok (kp:=kp32) rfl Try.func32 (by kernel_rfl) (by kernel_rfl) (by kernel_rfl)
theorem qBa:FOk Pg Cg 36 ⟨rc36,Try.f36.results.toList⟩:=fok (kp:=kp36) rfl Try.func36 (by kernel_rfl) (by kernel_rfl) (by kernel_rfl)
theorem qA6:FOk Pg Cg 40 ⟨rc40,Try.f40.results.toList⟩:=fok (kp:=kp40) rfl Try.func40 (by kernel_rfl) (by kernel_rfl) (by kernel_rfl)
theorem qA2:FOk Pg Cg 44 ⟨rc44,Try.f44.results.toList⟩:=fok (kp:=kp44) rfl Try.func44 (by kernel_rfl) (by kernel_rfl) (by kernel_rfl)
theorem qAY:FOk Pg Cg 48 ⟨rc48,Try.f48.results.toList⟩:=fok (kp:=kp48) rfl Try.func48 (by kernel_rfl) (by kernel_rfl) (by kernel_rfl)
theorem qAU:FOk Pg Cg 52 ⟨rc52,Try.f52.results.toList⟩:=fok (kp:=kp52) rfl Try.func52 (by kernel_rfl) (by kernel_rfl) (by kernel_rfl)
theorem qAQ:FOk Pg Cg 56 ⟨rc56,Try.f56.results.toList⟩:=fok (kp:=kp56) rfl Try.func56 (by kernel_rfl) (by kernel_rfl) (by kernel_rfl)
theorem qAM:FOk Pg Cg 60 ⟨rc60,Try.f60.results.toList⟩:=fok (kp:=kp60) rfl Try.func60 (by kernel_rfl) (by kernel_rfl) (by kernel_rfl)
theorem qAI:FOk Pg Cg 64 ⟨rc64,Try.f64.results.toList⟩:=fok (kp:=kp64) rfl Try.func64 (by kernel_rfl) (by kernel_rfl) (by kernel_rfl)
theorem qAE:FOk Pg Cg 68 ⟨rc68,Try.f68.results.toList⟩:=fok (kp:=kp68) rfl Try.func68 (by kernel_rfl) (by kernel_rfl) (by kernel_rfl)
theorem qAA:FOk Pg Cg 72 ⟨rc72,Try.f72.results.toList⟩:=fok (kp:=kp72) rfl Try.func72 (by kernel_rfl) (by kernel_rfl) (by kernel_rfl)
theorem qAw:FOk Pg Cg 76 ⟨rc76,Try.f76.results.toList⟩:=fok (kp:=kp76) rfl Try.func76 (by kernel_rfl) (by kernel_rfl) (by kernel_rfl)
theorem qAs:FOk Pg Cg 80 ⟨rc80,Try.f80.results.toList⟩:=fok (kp:=kp80) rfl Try.func80 (by kernel_rfl) (by kernel_rfl) (by kernel_rfl)
theorem qAo:FOk Pg Cg 84 ⟨rc84,Try.f84.results.toList⟩:=fok (kp:=kp84) rfl Try.func84 (by kernel_rfl) (by kernel_rfl) (by kernel_rfl)
theorem qAk:FOk Pg Cg 88 ⟨rc88,Try.f88.results.toList⟩:=fok (kp:=kp88) rfl Try.func88 (by kernel_rfl) (by kernel_rfl) (by kernel_rfl)
theorem qBp:FOk Pg Cg 18 ⟨rc18,Try.f18.results.toList⟩:=fok (kp:=kp18) rfl Try.func18 (by kernel_rfl) (by kernel_rfl) (by kernel_rfl)
theorem qBl:FOk Pg Cg 25 ⟨rc25,Try.f25.results.toList⟩:=fok (kp:=kp25) rfl Try.func25 (by kernel_rfl) (by kernel_rfl) (by kernel_rfl)
theorem qBh:FOk Pg Cg 29 ⟨rc29,Try.f29.results.toList⟩:=fok (kp:=kp29) rfl Try.func29 (by kernel_rfl) (by kernel_rfl) (by kernel_rfl)
theorem qBd:FOk Pg Cg 33 ⟨rc33,Try.f33.results.toList⟩:=fok (kp:=kp33) rfl Try.func33 (by kernel_rfl) (by kernel_rfl) (by kernel_rfl)
theorem qA9:FOk Pg Cg 37 ⟨rc37,Try.f37.results.toList⟩:=fok (kp:=kp37) rfl Try.func37 (by kernel_rfl) (by kernel_rfl) (by kernel_rfl)
theorem qA5:FOk Pg Cg 41 ⟨rc41,Try.f41.results.toList⟩:=fok (kp:=kp41) rfl Try.func41 (by kernel_rfl) (by kernel_rfl) (by kernel_rfl)
theorem qA1:FOk Pg Cg 45 ⟨rc45,Try.f45.results.toList⟩:=fok (kp:=kp45) rfl Try.func45 (by kernel_rfl) (by kernel_rfl) (by kernel_rfl)
theorem qAX:FOk Pg Cg 49 ⟨rc49,Try.f49.results.toList⟩:=fok (kp:=kp49) rfl Try.func49 (by kernel_rfl) (by kernel_rfl) (by kernel_rfl)
theorem qAT:FOk Pg Cg 53 ⟨rc53,Try.f53.results.toList⟩:=fok (kp:=kp53) rfl Try.func53 (by kernel_rfl) (by kernel_rfl) (by kernel_rfl)
theorem qAP:FOk Pg Cg 57 ⟨rc57,Try.f57.results.toList⟩:=fok (kp:=kp57) rfl Try.func57 (by kernel_rfl) (by kernel_rfl) (by kernel_rfl)
theorem qAL:FOk Pg Cg 61 ⟨rc61,Try.f61.results.toList⟩:=fok (kp:=kp61) rfl Try.func61 (by kernel_rfl) (by kernel_rfl) (by kernel_rfl)
theorem qAH:FOk Pg Cg 65 ⟨rc65,Try.f65.results.toList⟩:=fok (kp:=kp65) rfl Try.func65 (by kernel_rfl) (by kernel_rfl) (by kernel_rfl)
theorem qAD:FOk Pg Cg 69 ⟨rc69,Try.f69.results.toList⟩:=fok (kp:=kp69) rfl Try.func69 (by kernel_rfl) (by kernel_rfl) (by kernel_rfl)
theorem qAz:FOk Pg Cg 73 ⟨rc73,Try.f73.results.toList⟩:=fok (kp:=kp73) rfl Try.func73 (by kernel_rfl) (by kernel_rfl) (by kernel_rfl)
theorem qAv:FOk Pg Cg 77 ⟨rc77,Try.f77.results.toList⟩:=fok (kp:=kp77) rfl Try.func77 (by kernel_rfl) (by kernel_rfl) (by kernel_rfl)
theorem qAr:FOk Pg Cg 81 ⟨rc81,Try.f81.results.toList⟩:=fok (kp:=kp81) rfl Try.func81 (by kernel_rfl) (by kernel_rfl) (by kernel_rfl)
theorem qAn:FOk Pg Cg 85 ⟨rc85,Try.f85.results.toList⟩:=fok (kp:=kp85) rfl Try.func85 (by kernel_rfl) (by kernel_rfl) (by kernel_rfl)
theorem qAj:FOk Pg Cg 89 ⟨rc89,Try.f89.results.toList⟩:=fok (kp:=kp89) rfl Try.func89 (by kernel_rfl) (by kernel_rfl) (by kernel_rfl)
theorem qw7:∀ p ∈ Qej,FOk Pg Cg p.1 p.2:=by
 unfold Qej
 simp only[List.forall_mem_cons,List.not_mem_nil,false_imp_iff,implies_true,and_true]
 exact⟨qBs,qBr,qBq,qBp,qBo,qBn,qBm,qBl,qBk,qBj,qBi,qBh,qBg,qBf,qBe,qBd,qBc,qBb,qBa,qA9,qA8,qA7,qA6,qA5,qA4,qA3,qA2,qA1,qA0,qAZ,qAY,qAX,qAW,qAV,qAU,qAT,qAS,qAR,qAQ,qAP,qAO,qAN,qAM,qAL,qAK,qAJ,qAI,qAH,qAG,qAF,qAE,qAD,qAC,qAB,qAA,qAz,qAy,qAx,qAw,qAv,qAu,qAt,qAs,qAr,qAq,qAp,qAo,qAn,qAm,qAl,qAk,qAj⟩
theorem qs3:Qej.map (·.1)=Qer:=rfl
theorem qtG(kn:Kn)(n:Nat):S.fn Pg kn tbl n=fnV Pg Cg kn n:=by
 refine qxE (fun f fc h=>⟨?_,?_⟩) (fun f h=>?_) n
 ·have:=qk4 h
  show Qer.contains f=true
  rw[←qs3,List.contains_iff_mem]
  exact List.mem_map.2 ⟨(f,fc),this,rfl⟩
 ·exact qw7 _ (qk4 h)
 ·have:=qlW h
  show Qer.contains f=false
  rw[←qs3]
  cases hb:(Qej.map (·.1)).contains f with
  | false=>rfl
  | true=>exact absurd (List.contains_iff_mem.1 hb) this
theorem prog_ok:qeu Pg Cg=true:=by kernel_rfl
end Go.AM.S
end
