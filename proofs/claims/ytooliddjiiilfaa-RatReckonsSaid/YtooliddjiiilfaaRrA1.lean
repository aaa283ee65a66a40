/- Part 1 of the proof: what it says stands at its theorems. -/
import Derived.Test.YtooliddjiiilfaaRrA0
import Derived.Orders
set_option linter.unusedVariables false
set_option linter.unusedSimpArgs false
set_option linter.unusedSectionVars false
section
namespace Go.AM
open Go
def Qbu(h:Hp):Prop:=∀ (r:Nat) frz cs,h.rows[r]? = some (.cells frz cs)→V.Qak cs=true
theorem qaK{l:List V}:V.Qak l=true↔∀ v ∈ l,v.Qap=true:=by
 induction l with
 | nil=>simp[V.Qak]
 | cons v l ih=>simp[V.Qak,ih]
theorem qc4{v:V}(h:v.Qap=true):V.Qak v.cells=true:=by
 cases v<;>simp[V.cells,V.Qak,V.Qap]at h ⊢<;>first | exact h | skip
 all_goals first | (rename_i r _ ;cases r<;>simp_all [V.Qap]) | skip
theorem qe9{l:List V}(h:V.Qak l=true):V.Qak (flat l)=true:=by
 rw[qaK]at h ⊢
 intro v hv
 simp only[flat,List.mem_flatMap]at hv
 obtain⟨u,hu,hv⟩:=hv
 exact qaK.1 (qc4 (h u hu)) v hv
theorem qhZ(x:Value):(qwY x).Qap=true:=by unfold qwY;split<;>rfl
theorem qnl(x:Value):(QdT x).Qap=true:=by
 unfold QdT
 split
 ·simp only[V.Qap]
  rw[qaK]
  intro v hv
  simp only[List.mem_map]at hv
  obtain⟨y,_,rfl⟩:=hv
  exact qhZ y
 ·exact qhZ _
section
variable {P:Program}{C:Cfg}{st st':St}{gl:Nat→Bool}
theorem qcR{t:TypeId}{z:V}(h:zeroV P t=some z):z.Qap=true:=by
 obtain⟨i,zz,_,_,rfl⟩:=qeT h
 exact qnl zz
theorem qd4(h:Qbu st.hp){r:Ref}{row:Row}(hr:∀ frz cs,row=.cells frz cs→Qa3 r=false→V.Qak cs=true):Qbu (setRow st r row).hp:=by
 cases r with
 | loc s g=>exact h
 | glob r =>
  intro i frz cs hi
  simp only[setRow]at hi
  rw[List.getElem?_set]at hi
  split at hi
  ·split at hi
   ·exact hr frz cs (by simpa using hi) rfl
   ·simp at hi
  ·exact h i frz cs hi
theorem qfB(h:Qbu st.hp){g:Bool}{d:Nat}{row:Row}(hr:∀ frz cs,row=.cells frz cs→g=true→V.Qak cs=true):Qbu (Qaa st g d row).2.hp:=by
 cases g with
 | false=>exact h
 | true =>
  intro i frz cs hi
  simp only[Qaa,cond_true]at hi
  rw[List.getElem?_append]at hi
  split at hi
  ·exact h i frz cs hi
  ·rw[List.getElem?_singleton]at hi
   split at hi
   ·exact hr frz cs (by simpa using hi) rfl
   ·simp at hi
theorem ql3(h:Qbu st.hp){r:Ref}{frz:Bool}{cs:List V}(hr:Qab st r=some (.cells frz cs))(hl:Qa3 r=false):V.Qak cs=true:=by
 cases r with
 | loc s g=>simp[Qa3]at hl
 | glob r=>exact h r frz cs hr
theorem qcU{cs vs cs':List V}{off:Nat}(h:setAt cs off vs=some cs')(h1:V.Qak cs=true)(h2:V.Qak vs=true):V.Qak cs'=true:=by
 obtain⟨_,rfl⟩:=qbp h
 rw[qaK]at *
 intro v hv
 simp only[List.mem_append]at hv
 rcases hv with (hv | hv) | hv
 ·exact h1 v (List.mem_of_mem_take hv)
 ·exact h2 v hv
 ·exact h1 v (List.mem_of_mem_drop hv)
theorem qoJ(h:Qbu st.hp){v v':V}(hf:freeze st v=some (v',st')):Qbu st'.hp∧v'.Qap=true:=by
 unfold freeze at hf
 split at hf
 ·rename_i r off len lim sz ag
  split at hf
  ·rename_i frz cs hrow
   split at hf
   ·rename_i l hi
    cases hn:V.Qaf l with
    | false=>simp[hn]at hf
    | true =>
     simp[hn]at hf
     obtain⟨rfl,rfl⟩:=hf
     exact⟨qd4 h (fun f c e hl=>by simp at e;obtain⟨_,rfl⟩:=e;exact ql3 h hrow hl),rfl⟩
   ·simp at hf
  ·simp at hf
 ·simp at hf
theorem qoT(h:Qbu st.hp){fz:Bool}{v v':V}(hf:exp1 fz st v=some (v',st')):Qbu st'.hp∧v'.Qap=true:=by
 unfold exp1 at hf
 split at hf
 ·rename_i r off len lim sz ag
  cases hb:(fz || Qa3 r)with
  | true=>simp only[hb,cond_true]at hf;exact qoJ h hf
  | false =>
   simp[hb]at hf
   obtain⟨rfl,rfl⟩:=hf
   simp at hb
   refine⟨h,?_⟩
   cases r with
   | loc s g=>simp[Qa3]at hb
   | glob r=>rfl
 ·split at hf
  ·cases fz<;>simp at hf<;>obtain⟨rfl,rfl⟩:=hf<;>exact⟨h,rfl⟩
  ·simp at hf;obtain⟨rfl,rfl⟩:=hf;exact⟨h,rfl⟩
 ·cases hb:(v.live&&v.Qap)with
  | false=>simp[hb]at hf
  | true =>
   simp[hb]at hf
   obtain⟨rfl,rfl⟩:=hf
   simp only[Bool.and_eq_true]at hb
   exact⟨h,hb.2⟩
theorem qoR{fz:Bool}:∀ (vs:List V)(st st':St)(vs':List V),Qbu st.hp→Qcm fz st vs=some (vs',st')→Qbu st'.hp∧V.Qak vs'=true
 | [],st,st',vs',h,he=>by simp[Qcm]at he;obtain⟨rfl,rfl⟩:=he;exact⟨h,rfl⟩
 | v::vs,st,st',vs',h,he=>by
  simp only[Qcm]at he
  split at he
  ·simp at he
  ·rename_i v1 st1 he1
   split at he
   ·simp at he
   ·rename_i l2 st2 he2
    simp at he
    obtain⟨rfl,rfl⟩:=he
    obtain⟨h1,n1⟩:=qoT h he1
    obtain⟨h2,n2⟩:=qoR vs st1 st2 l2 h1 he2
    exact⟨h2,by simp[V.Qak,n1,n2]⟩
theorem ql7(h:Qbu st.hp){fz:Bool}{v v':V}(hf:exp fz st v=some (v',st')):Qbu st'.hp∧v'.Qap=true:=by
 unfold exp at hf
 split at hf
 ·simp only[Option.map_eq_some_iff]at hf
  obtain⟨⟨l,s⟩,h1,h2⟩:=hf
  simp at h2
  obtain⟨rfl,rfl⟩:=h2
  obtain⟨k1,k2⟩:=qoR _ _ _ _ h h1
  exact⟨k1,k2⟩
 ·exact qoT h hf
theorem qg1{fz:Bool}:∀ (vs:List V)(st st':St)(vs':List V),Qbu st.hp→exps fz st vs=some (vs',st')→Qbu st'.hp∧V.Qak vs'=true
 | [],st,st',vs',h,he=>by simp[exps]at he;obtain⟨rfl,rfl⟩:=he;exact⟨h,rfl⟩
 | v::vs,st,st',vs',h,he=>by
  simp only[exps]at he
  split at he
  ·simp at he
  ·rename_i v1 st1 he1
   split at he
   ·simp at he
   ·rename_i l2 st2 he2
    simp at he
    obtain⟨rfl,rfl⟩:=he
    obtain⟨h1,n1⟩:=ql7 h he1
    obtain⟨h2,n2⟩:=qg1 vs st1 st2 l2 h1 he2
    exact⟨h2,by simp[V.Qak,n1,n2]⟩
theorem qg0{sz:Nat}:∀ (is:List Nat)(vs l l':List V),Qb0 sz is vs l=some l'→V.Qak vs=true→V.Qak l=true→V.Qak l'=true
 | [],[],l,l',h,_,hl=>by simp[Qb0]at h;subst h;exact hl
 | [],v::vs,l,l',h,_,_=>by simp[Qb0]at h
 | i::is,[],l,l',h,_,_=>by simp[Qb0]at h
 | i::is,v::vs,l,l',h,hv,hl=>by
  simp only[Qb0]at h
  generalize hb:(Nat.beq v.cells.length sz&&Nat.blt i l.length)=b at h
  cases b with
  | false=>simp at h
  | true =>
   simp only[cond_true]at h
   simp only[V.Qak,Bool.and_eq_true]at hv
   refine qg0 is vs _ l' h hv.2 ?_
   rw[qaK]at hl ⊢
   intro u hu
   rcases List.mem_or_eq_of_mem_set hu with h' | rfl
   ·exact hl u h'
   ·exact hv.1
def Res.state:Res→St
 | .val _ s=>s
 | .enter _ _ s=>s
 | .panic _ s=>s
theorem qdR(h:Qbu st.hp){d:Nat}{cs:List V}{len sz:Nat}{ag:Bool}{res:Res}(hr:Qay gl st d cs len sz ag=some res):Qbu res.state.hp:=by
 unfold Qay at hr
 obtain⟨h1,h2⟩:=qcp hr
 simp only[Option.some.injEq]at h2
 subst h2
 refine qfB h (fun frz cs' e hg=>?_)
 simp at e
 obtain⟨_,rfl⟩:=e
 rw[hg]at h1
 simpa using h1
theorem qfg(h:Qbu st.hp){d:Nat}{sz:Nat}{l:List V}{res:Res}(hr:QaG gl st d sz l=some res):Qbu res.state.hp:=by
 unfold QaG at hr
 simp only[Option.some.injEq]at hr
 subst hr
 exact qfB h (fun frz cs' e hg=>by simp at e)
theorem qpS(h:Qbu st.hp){x y:V}{t:TypeId}{d:Nat}{res:Res}(hr:Qai P C gl st d t x y=some res):Qbu res.state.hp:=by
 unfold Qai at hr
 split at hr
 ·simp at hr
 ·split at hr
  ·rename_i sz ag bytes ys hlay hby hi
   generalize (ys.all (fun v=>Nat.beq v.cells.length sz&&v.cells.all V.Qaw))=q at hr
   cases q with
   | false=>simp at hr
   | true =>
    simp only[cond_true]at hr
    split at hr
    ·split at hr
     ·simp only[Option.some.injEq]at hr;subst hr;exact h
     ·cases hb:Nat.ble (ys.length*bytes) Qaj with
      | false=>simp[hb]at hr
      | true =>
       simp only[hb,cond_true]at hr
       cases hA:C.QaN t with
       | true=>simp only[hA,cond_true]at hr;exact qdR h hr
       | false =>
        simp only[hA,cond_false]at hr
        cases hN:V.Qaf ys with
        | false=>simp[hN]at hr
        | true=>simp only[hN,cond_true]at hr;exact qfg h hr
    ·rename_i tok full sz' l
     cases hb0:Nat.beq sz sz' with
     | false=>simp[hb0]at hr
     | true =>
      simp only[hb0,cond_true]at hr
      split at hr
      ·simp only[Option.some.injEq]at hr;subst hr;exact h
      ·cases hb:Nat.ble ((l.length+ys.length)*bytes) Qaj with
       | false=>simp[hb]at hr
       | true =>
        simp only[hb,cond_true]at hr
        cases hA:C.QaN t with
        | true =>
         simp only[hA,cond_true]at hr
         cases full with
         | false=>simp at hr
         | true=>simp only[cond_true]at hr;exact qdR h hr
        | false =>
         simp only[hA,cond_false]at hr
         cases hN:V.Qaf ys with
         | false=>simp[hN]at hr
         | true =>
          simp only[hN,cond_true]at hr
          cases full with
          | true=>simp only[cond_true]at hr;exact qfg h hr
          | false =>
           simp only[cond_false]at hr
           split at hr
           ·split at hr
            ·exact qfg (qd4 h (fun f c e _=>by simp at e)) hr
            ·simp at hr
           ·simp at hr
    ·rename_i r off len lim sz' ag'
     cases hb0:(Nat.beq sz sz'&&(ag == ag'))with
     | false=>simp[hb0]at hr
     | true =>
      simp only[hb0,cond_true]at hr
      split at hr
      ·rename_i frz cs hrow
       cases hb:(Nat.ble (off+len*sz) cs.length&&Nat.ble ((len+ys.length)*bytes) Qaj)with
       | false=>simp[hb]at hr
       | true =>
        simp only[hb,cond_true]at hr
        split at hr
        ·simp only[Option.some.injEq]at hr;subst hr;exact h
        ·obtain⟨hl,hr⟩:=qcp hr
         have wr:∀ cs' f,setAt cs (off+len*sz) (flat ys)=some cs'→Qbu (setRow st r (.cells f cs')).hp:=fun cs' f hset =>
          qd4 h (fun f2 c e hloc=>by
           simp at e
           obtain⟨_,rfl⟩:=e
           rw[hloc]at hl
           exact qcU hset (ql3 h hrow hloc) (by simpa using hl))
         split at hr
         ·generalize Nat.ble (len+ys.length) _=q at hr
          cases q with
          | true =>
           simp only[cond_true]at hr
           cases frz with
           | true=>simp at hr
           | false =>
            simp only[cond_false]at hr
            split at hr
            ·rename_i cs' hset
             simp only[Option.some.injEq]at hr
             subst hr
             exact wr cs' _ hset
            ·simp at hr
          | false=>simp only[cond_false]at hr;exact qdR h hr
         ·cases frz with
          | true=>simp at hr
          | false =>
           simp only[cond_false]at hr
           cases hc:Nat.ble (off+(len+ys.length)*sz) cs.length with
           | true =>
            simp only[hc,cond_true]at hr
            split at hr
            ·rename_i cs' hset
             simp only[Option.some.injEq]at hr
             subst hr
             exact wr cs' _ hset
            ·simp at hr
           | false =>
            simp only[hc,cond_false]at hr
            cases hc2:(Nat.beq off 0&&Nat.beq (len*sz) cs.length)with
            | false=>simp[hc2]at hr
            | true=>simp only[hc2,cond_true]at hr;exact qdR (qd4 h (fun f c e _=>by simp at e)) hr
      ·simp at hr
    ·simp at hr
  ·simp at hr
theorem qpt(h:Qbu st.hp){x y:V}{t:TypeId}{res:Res}(hr:copyV P st t x y=some res):Qbu res.state.hp:=by
 unfold copyV at hr
 split at hr
 ·simp at hr
 ·split at hr
  ·rename_i sz ag ys r off len lim sz' ag' hlay hi
   generalize hg:(Nat.beq sz sz'&&(Qa3 r || V.Qak (flat ys))&&ys.all (fun v=>Nat.beq v.cells.length sz&&v.cells.all V.Qaw))=q at hr
   cases q with
   | false=>simp at hr
   | true =>
    simp only[cond_true]at hr
    simp only[Bool.and_eq_true]at hg
    split at hr
    ·rename_i cs hrow
     split at hr
     ·rename_i cs' hset
      cases hb:Nat.ble (off+len*sz) cs.length with
      | false=>simp[hb]at hr
      | true =>
       simp only[hb,cond_true,Option.some.injEq]at hr
       subst hr
       refine qd4 h (fun f2 c e hloc=>?_)
       simp at e
       obtain⟨_,rfl⟩:=e
       refine qcU hset (ql3 h hrow hloc) ?_
       have h2:=hg.1.2
       rw[hloc]at h2
       have h3:V.Qak (flat ys)=true:=by simpa using h2
       rw[qaK]at h3 ⊢
       intro v hv
       refine h3 v ?_
       simp only[flat,List.mem_flatMap]at hv ⊢
       obtain⟨u,hu,hv⟩:=hv
       exact⟨u,List.mem_of_mem_take hu,hv⟩
     ·simp at hr
    ·simp at hr
  ·simp at hr
theorem qb1{z:V}(h:z.Qap=true)(n:Nat):V.Qak (List.replicate n z)=true:=by
 rw[qaK]
 intro v hv
 rw[List.eq_of_mem_replicate hv];exact h
theorem qsD(h:Qbu st.hp){x:V}{t:TypeId}{res:Res}(hr:Qbi P st t x=some res):Qbu res.state.hp:=by
 unfold Qbi at hr
 split at hr
 ·simp at hr
 ·split at hr
  ·rename_i sz ag z r off len lim sz' ag' hlay hz
   generalize hg:(Nat.beq sz sz'&&Nat.blt 0 len&&z.live&&Nat.beq z.cells.length sz&&z.cells.all V.Qaw&&(Qa3 r || z.Qap))=q at hr
   cases q with
   | false=>simp at hr
   | true =>
    simp only[cond_true]at hr
    split at hr
    ·rename_i cs hrow
     split at hr
     ·rename_i cs' hset
      simp only[Option.some.injEq]at hr
      subst hr
      refine qd4 h (fun f2 c e hloc=>?_)
      simp at e
      obtain⟨_,rfl⟩:=e
      exact qcU hset (ql3 h hrow hloc) (qe9 (qb1 (qcR hz) _))
     ·simp at hr
    ·simp at hr
  ·simp at hr
theorem qvs(h:Qbu st.hp){d:Nat}{t:TypeId}{l m:V}{res:Res}(hr:QbZ P gl st d t l m=some res):Qbu res.state.hp:=by
 unfold QbZ at hr
 split at hr
 ·split at hr
  ·rename_i sz ag bytes z hlay hby hz
   simp only[]at hr
   generalize (Nat.ble _ _&&Nat.ble _ Qaj&&Nat.ble _ Qaj&&Nat.beq z.cells.length sz&&z.live)=q at hr
   cases q with
   | false=>simp at hr
   | true =>
    simp only[cond_true,Option.some.injEq]at hr
    subst hr
    refine qfB h (fun f c e _=>?_)
    simp at e
    obtain⟨_,rfl⟩:=e
    exact qe9 (qb1 (qcR hz) _)
  ·simp at hr
 ·simp at hr
theorem qwD(h:Qbu st.hp){d:Nat}{s t:TypeId}{x:V}{res:Res}(hr:QbS P C gl st d s t x=some res):Qbu res.state.hp:=by
 unfold QbS at hr
 split at hr
 ·split at hr
  ·split at hr
   ·split at hr
    ·simp at hr
    ·simp only[Option.map_eq_some_iff]at hr
     obtain⟨b,hb,rfl⟩:=hr
     exact h
   ·simp at hr
  ·simp at hr
 ·split at hr
  ·generalize (C.QaN t&&Nat.ble _ Qaj)=q at hr
   cases q with
   | false=>simp at hr
   | true =>
    simp only[cond_true,Option.some.injEq]at hr
    subst hr
    refine qfB h (fun f c e _=>?_)
    simp at e
    obtain⟨_,rfl⟩:=e
    rw[qaK]
    intro v hv
    simp only[List.mem_map]at hv
    obtain⟨b,_,rfl⟩:=hv
    rfl
  ·simp at hr
 ·simp at hr
theorem qwG(h:Qbu st.hp){dst:Option Nat}{cl:Call}{res:Res}(hr:QaP P C gl st dst cl=some res):Qbu res.state.hp:=by
 unfold QaP at hr
 dsimp only at hr
 split at hr
 ·split at hr
  ·split at hr
   ·rename_i l st1 hexp
    simp only[Option.some.injEq]at hr
    subst hr
    exact(qg1 _ _ _ _ h hexp).1
   ·simp at hr
  ·simp at hr
 ·split at hr
  ·split at hr
   ·cases hn:Qbv P cl.argTypes[1]? with
    | false=>simp[hn]at hr
    | true=>simp only[hn,cond_true]at hr;exact qpS h hr
   ·exact qpt h hr
   ·simp at hr
  ·split at hr
   ·exact qpt h hr
   ·exact qsD h hr
   ·simp at hr
  ·simp at hr
 ·simp at hr
theorem qoj(h:Qbu st.hp){t:TypeId}{x k v:V}{res:Res}(hr:Qcu P t st x k v=some res):Qbu res.state.hp:=by
 unfold Qcu at hr
 split at hr
 ·rename_i r v' st1 hexp
  obtain⟨h1,n1⟩:=ql7 h hexp
  split at hr
  ·generalize Qbc P _ k=q at hr
   cases q with
   | false=>simp at hr
   | true =>
    simp only[cond_true]at hr
    split at hr
    ·simp only[Option.some.injEq]at hr
     subst hr
     simp only[Res.state]
     exact qd4 h1 (fun f c e _=>by cases e)
    ·simp only[Option.some.injEq]at hr
     subst hr
     simp only[Res.state]
     exact qd4 h1 (fun f c e _=>by cases e)
    ·simp at hr
  ·simp at hr
 ·simp at hr
theorem qp2(h:Qbu st.hp){o:Oper}{res:Res}(hr:stepG P C gl st o=some res):Qbu res.state.hp:=by
 unfold stepG at hr
 split at hr
 ·split at hr
  ·split at hr
   ·simp only[Option.map_eq_some_iff]at hr
    obtain⟨v,hv,rfl⟩:=hr
    exact h
   ·simp at hr
  ·simp at hr
 ·split at hr
  ·split at hr
   ·rename_i cs0 v st1 hrow0 hexp
    obtain⟨h1,n1⟩:=ql7 h hexp
    split at hr
    ·rename_i cs hrow
     generalize (v.cells.all V.Qaw&&QaR P _ v.cells.length)=q at hr
     cases q with
     | false=>simp at hr
     | true =>
      simp only[cond_true]at hr
      split at hr
      ·rename_i cs' hset
       simp only[Option.some.injEq]at hr
       subst hr
       simp only[Res.state]
       refine qd4 h1 (fun f c e _=>?_)
       simp at e
       obtain⟨_,rfl⟩:=e
       exact qcU hset (h1 _ _ _ hrow) (qc4 n1)
      ·simp at hr
    ·simp at hr
   ·simp at hr
  ·simp at hr
 ·split at hr
  ·simp at hr
  ·split at hr
   ·rename_i z n hz hn
    generalize (gl _&&z.live&&Nat.beq z.cells.length n)=q at hr
    cases q with
    | false=>simp at hr
    | true =>
     simp only[cond_true,Option.some.injEq]at hr
     subst hr
     refine qfB h (fun f c e _=>?_)
     simp at e
     obtain⟨_,rfl⟩:=e
     exact qc4 (qcR hz)
   ·simp at hr
 ·split at hr
  ·simp at hr
  ·split at hr
   ·rename_i v st1 hexp
    obtain⟨h1,n1⟩:=ql7 h hexp
    generalize gl _=q at hr
    cases q with
    | false=>simp at hr
    | true =>
     simp only[cond_true,Option.some.injEq]at hr
     subst hr
     refine qfB h1 (fun f c e _=>?_)
     simp at e
     obtain⟨_,rfl⟩:=e
     exact qc4 n1
   ·simp at hr
 ·split at hr
  ·rename_i fs z l st1 hu hz hexp
   obtain⟨h1,n1⟩:=qg1 _ _ _ _ h hexp
   generalize (!(z.live&&fs.all (fun f=>(P.info? f.type).isSome)))=q at hr
   cases q with
   | true=>simp at hr
   | false =>
    simp only[cond_false]at hr
    split at hr
    ·simp only[Option.some.injEq]at hr
     subst hr
     exact h1
    ·simp at hr
  ·simp at hr
 ·split at hr
  ·split at hr
   ·rename_i e d he hd n ag z l st1 hl hz hexp
    obtain⟨h1,n1⟩:=qg1 _ _ _ _ h hexp
    generalize (C.QaN _&&Nat.ble _ 16777216&&z.live&&Nat.beq z.cells.length n&&(ag || Nat.beq n 1))=q at hr
    cases q with
    | false=>simp at hr
    | true =>
     simp only[cond_true]at hr
     split at hr
     ·rename_i items hf
      simp only[Option.some.injEq]at hr
      subst hr
      refine qfB h1 (fun f c e _=>?_)
      simp at e
      obtain⟨_,rfl⟩:=e
      exact qe9 (qg0 _ _ _ _ hf n1 (qb1 (qcR hz) _))
     ·simp at hr
   ·simp at hr
  ·simp at hr
 ·split at hr
  ·exact qvs h hr
  ·simp at hr
 ·split at hr
  ·exact qwD h hr
  ·simp at hr
 ·split at hr
  ·split at hr
   ·generalize Nat.blt _ _=q at hr
    cases q with
    | true =>
     simp only[cond_true,Option.some.injEq]at hr
     subst hr
     exact qd4 h (fun f c e _=>by simp at e)
    | false =>
     simp only[cond_false,Option.some.injEq]at hr
     subst hr
     exact h
   ·simp at hr
  ·simp at hr
 ·exact qwG h hr
 ·split at hr
  ·generalize V.Qap _=q at hr
   cases q with
   | false=>simp at hr
   | true =>
    simp only[cond_true,Option.some.injEq]at hr
    subst hr
    exact h
  ·simp at hr
 ·split at hr
  ·simp only[Option.some.injEq]at hr
   subst hr
   simp only[Res.state]
   exact qfB h (fun f c e _=>by cases e)
  ·simp at hr
 ·simp only[Option.map_eq_some_iff]at hr
  obtain⟨v,_,rfl⟩:=hr
  exact h
 ·exact qoj h hr
 ·exact qoj h hr
 ·simp at hr
theorem qlR(h:Qbu st.hp){o:Oper}{res:Res}(hr:Qah P C gl st o=some res):Qbu res.state.hp:=by
 unfold Qah at hr
 split at hr
 ·rename_i v u hl
  simp only[Option.some.injEq]at hr
  subst hr
  show Qbu (Qa4 st u).hp
  rw[(qef st u).1];exact h
 ·exact qp2 h hr
end
mutual
theorem qcf:∀ v:V,v.Qao=true→v.Qap=true
 | .dead,_=>rfl
 | .int _ _,_=>rfl
 | .bool _,_=>rfl
 | .sym _,_=>rfl
 | .str _,_=>rfl
 | .nilp,_=>rfl
 | .ptr _ _,h=>by simp[V.Qao]at h
 | .iptr cs,h=>by simp only[V.Qao]at h;simp only[V.Qap];exact qa2 cs h
 | .nils,_=>rfl
 | .slice tok _ _ _,h=>by
  cases tok with
  | none=>rfl
  | some r=>simp[V.Qao]at h
 | .arr ..,h=>by simp[V.Qao]at h
 | .mref _,h=>by simp[V.Qao]at h
 | .nilm,_=>rfl
 | .fn _ a b,h=>by
  simp only[V.Qao,Bool.and_eq_true]at h
  simp only[V.Qap,Bool.and_eq_true]
  exact⟨qa2 a h.1,qa2 b h.2⟩
 | .nilf,_=>rfl
 | .iface _ v,h=>by simp only[V.Qao]at h;simp only[V.Qap];exact qcf v h
 | .nili,_=>rfl
 | .agg cs,h=>by simp only[V.Qao]at h;simp only[V.Qap];exact qa2 cs h
 | .tuple cs,h=>by simp only[V.Qao]at h;simp only[V.Qap];exact qa2 cs h
theorem qa2:∀ l:List V,V.Qaf l=true→V.Qak l=true
 | [],_=>rfl
 | v::l,h=>by
  simp only[V.Qaf,Bool.and_eq_true]at h
  simp only[V.Qak,Bool.and_eq_true]
  exact⟨qcf v h.1,qa2 l h.2⟩
end
section
variable {c d e:Ctx}{st:St}{w w':World}
theorem Rel.bare[Laid](hsh:∀ b o x,c.shut b o=some x→d.shut b o=some x){v:V}{x:Value}(h:Rel c v x):v.Qao=true→Rel d v x:=by
 induction h with
 | dead x=>intro _;exact .dead x
 | int k n=>intro _;exact .int k n
 | bool b=>intro _;exact .bool b
 | sym i=>intro _;exact .sym i
 | mref r b hb=>intro hn;simp[V.Qao]at hn
 | nilm=>intro _;exact .nilm
 | str s=>intro _;exact .str s
 | nilp=>intro _;exact .nilp
 | ptr r off b hb=>intro hn;simp[V.Qao]at hn
 | iptr cs b off xs hl hs hr ih =>
  intro hn
  simp only[V.Qao]at hn
  exact .iptr cs b off xs hl (fun i x hx=>hsh _ _ _ (hs i x hx)) (fun i v x hv hx=>ih i v x hv hx (qaR.1 hn v (List.mem_of_getElem? hv)))
 | nils=>intro _;exact .nils
 | slice tok full sz l b off cap xs hsz hl hs hr hn0 hc hf ht ih =>
  intro hn
  cases tok with
  | some r=>simp[V.Qao]at hn
  | none =>
   exact .slice none full sz l b off cap xs hsz hl (fun i x hx=>hsh _ _ _ (hs i x hx)) (fun i v x hv hx=>ih i v x hv hx (qaR.1 hn0 v (List.mem_of_getElem? hv))) hn0 hc hf (fun r hr=>by simp at hr)
 | arr=>intro hn;simp[V.Qao]at hn
 | fn f a b xa xb ha hb hra hrb iha ihb =>
  intro hn
  simp only[V.Qao,Bool.and_eq_true]at hn
  exact .fn f a b xa xb ha hb (fun i v x hv hx=>iha i v x hv hx (qaR.1 hn.1 v (List.mem_of_getElem? hv))) (fun i v x hv hx=>ihb i v x hv hx (qaR.1 hn.2 v (List.mem_of_getElem? hv)))
 | nilf=>intro _;exact .nilf
 | iface t v x hx ih=>intro hn;simp only[V.Qao]at hn;exact .iface t v x (ih hn)
 | nili=>intro _;exact .nili
 | agg cs xs hl hr ih=>intro hn;simp only[V.Qao]at hn;exact .agg cs xs hl (fun i v x hv hx=>ih i v x hv hx (qaR.1 hn v (List.mem_of_getElem? hv)))
 | tuple cs xs hl hr ih=>intro hn;simp only[V.Qao]at hn;exact .tuple cs xs hl (fun i v x hv hx=>ih i v x hv hx (qaR.1 hn v (List.mem_of_getElem? hv)))
structure Ctx.leG(c d:Ctx):Prop where
 gl:∀ r b,c.gl r=some b→d.gl r=some b
 shut:∀ b o x,c.shut b o=some x→d.shut b o=some x
 ext:∀ b n,c.ext b=some n→d.ext b=some n
 text:∀ r n,c.text (.glob r)=some n→d.text (.glob r)=some n
theorem Rel.away[Laid](hd:c.leG d){v:V}{x:Value}(h:Rel c v x):v.Qap=true→Rel d v x:=by
 induction h with
 | dead x=>intro _;exact .dead x
 | int k n=>intro _;exact .int k n
 | bool b=>intro _;exact .bool b
 | sym i=>intro _;exact .sym i
 | mref r b hb =>
  intro hn
  cases r with
  | loc s g=>simp[V.Qap]at hn
  | glob r=>exact .mref _ b (hd.gl r b hb)
 | nilm=>intro _;exact .nilm
 | str s=>intro _;exact .str s
 | nilp=>intro _;exact .nilp
 | ptr r off b hb =>
  intro hn
  cases r with
  | loc s g=>simp[V.Qap]at hn
  | glob r=>exact .ptr _ off b (hd.gl r b hb)
 | iptr cs b off xs hl hs hr ih =>
  intro hn
  simp only[V.Qap]at hn
  exact .iptr cs b off xs hl (fun i x hx=>hd.shut _ _ _ (hs i x hx)) (fun i v x hv hx=>ih i v x hv hx (qaK.1 hn v (List.mem_of_getElem? hv)))
 | nils=>intro _;exact .nils
 | slice tok full sz l b off cap xs hsz hl hs hr hn0 hc hf ht ih =>
  intro hn
  refine .slice tok full sz l b off cap xs hsz hl (fun i x hx=>hd.shut _ _ _ (hs i x hx)) (fun i v x hv hx=>ih i v x hv hx (qcf v (qaR.1 hn0 v (List.mem_of_getElem? hv)))) hn0 hc hf (fun r hr=>?_)
  subst hr
  cases r with
  | loc s g=>simp[V.Qap]at hn
  | glob r =>
   obtain⟨h1,h2,h3,h4,h5⟩:=ht _ rfl
   exact⟨hd.gl r b h1,h2,h3,hd.ext _ _ h4,hd.text _ _ h5⟩
 | arr r off len lim sz ag b cap n hb hc he hz hk hu =>
  intro hn
  cases r with
  | loc s g=>simp[V.Qap]at hn
  | glob r=>exact .arr _ off len lim sz ag b cap n (hd.gl r b hb) hc (hd.ext _ _ he) hz hk hu
 | fn f a b xa xb ha hb hra hrb iha ihb =>
  intro hn
  simp only[V.Qap,Bool.and_eq_true]at hn
  exact .fn f a b xa xb ha hb (fun i v x hv hx=>iha i v x hv hx (qaK.1 hn.1 v (List.mem_of_getElem? hv))) (fun i v x hv hx=>ihb i v x hv hx (qaK.1 hn.2 v (List.mem_of_getElem? hv)))
 | nilf=>intro _;exact .nilf
 | iface t v x hx ih=>intro hn;simp only[V.Qap]at hn;exact .iface t v x (ih hn)
 | nili=>intro _;exact .nili
 | agg cs xs hl hr ih=>intro hn;simp only[V.Qap]at hn;exact .agg cs xs hl (fun i v x hv hx=>ih i v x hv hx (qaK.1 hn v (List.mem_of_getElem? hv)))
 | tuple cs xs hl hr ih=>intro hn;simp only[V.Qap]at hn;exact .tuple cs xs hl (fun i v x hv hx=>ih i v x hv hx (qaK.1 hn v (List.mem_of_getElem? hv)))
theorem QaC.away[Laid](hd:c.leG d){vs:List V}{xs:List Value}(h:QaC c vs xs)(hn:V.Qak vs=true):QaC d vs xs :=
 ⟨h.1,fun i v x hv hx=>(h.2 i v x hv hx).away hd (qaK.1 hn v (List.mem_of_getElem? hv))⟩
def Ctx.with(c e:Ctx):Ctx:={ c with shut:=e.shut,ext:=e.ext }
theorem Rel.merge[Laid](hce:c.leG e){v:V}{x:Value}(h:Rel c v x):∀ y,Rel e v y→v.Qap=true→Rel (c.with e) v y:=by
 induction h with
 | dead x=>intro y _ _;exact .dead y
 | int k n=>intro y hy _;obtain rfl:=hy.QbC;exact .int k n
 | bool b=>intro y hy _;obtain rfl:=hy.Qbz;exact .bool b
 | sym i=>intro y hy _;cases hy;exact .sym i
 | mref r b hb =>
  intro y hy hn
  cases r with
  | loc s g=>simp[V.Qap]at hn
  | glob r =>
   obtain⟨b',rfl,hb'⟩:=hy.QcU
   have h1:=hce.gl r b hb
   have h2:e.gl r=some b':=hb'
   rw[h1]at h2
   obtain rfl:=Option.some.inj h2
   exact .mref _ b hb
 | nilm=>intro y hy _;cases hy;exact .nilm
 | str s=>intro y hy _;obtain rfl:=hy.QbA;exact .str s
 | nilp=>intro y hy _;cases hy;exact .nilp
 | ptr r off b hb =>
  intro y hy hn
  cases r with
  | loc s g=>simp[V.Qap]at hn
  | glob r =>
   obtain⟨b',rfl,hb'⟩:=hy.QbU
   have h1:=hce.gl r b hb
   have h2:e.gl r=some b':=hb'
   rw[h1]at h2
   obtain rfl:=Option.some.inj h2
   exact .ptr _ off b hb
 | iptr cs b off xs hl hs hr ih =>
  intro y hy hn
  simp only[V.Qap]at hn
  cases hy with
  | iptr _ b2 off2 ys hl2 hs2 hr2 =>
   refine .iptr cs b2 off2 ys hl2 hs2 (fun i v y hv hy=>?_)
   have hi:i<xs.length:=by
    rw[hl]
    rcases Nat.lt_or_ge i cs.length with h' | h'
    ·exact h'
    ·rw[List.getElem?_eq_none h']at hv;simp at hv
   exact ih i v _ hv (List.getElem?_eq_getElem hi) y (hr2 i v y hv hy) (qaK.1 hn v (List.mem_of_getElem? hv))
 | nils=>intro y hy _;obtain rfl:=hy.Qbp;exact .nils
 | slice tok full sz l b off cap xs hsz hl hs hr hn0 hc hf ht ih =>
  intro y hy hn
  cases hy with
  | slice _ _ _ _ b2 off2 cap2 ys hsz2 hl2 hs2 hr2 hn2 hc2 hf2 ht2 =>
   refine .slice tok full sz l b2 off2 cap2 ys hsz2 hl2 hs2 (fun i v y hv hy=>?_) hn2 hc2 hf2 (fun r hr'=>?_)
   ·exact Rel.bare (c:=e) (d:=c.with e) (fun _ _ _ h=>h) (hr2 i v y hv hy) (qaR.1 hn0 v (List.mem_of_getElem? hv))
   ·subst hr'
    cases r with
    | loc s g=>simp[V.Qap]at hn
    | glob r =>
     obtain⟨h1,h2,h3,h4,h5⟩:=ht _ rfl
     obtain⟨k1,k2,k3,k4,k5⟩:=ht2 _ rfl
     have h6:=hce.gl r b h1
     have h7:e.gl r=some b2:=k1
     rw[h6]at h7
     obtain rfl:=Option.some.inj h7
     have h8:=hce.text r _ h5
     exact⟨h1,k2,k3,k4,h5⟩
 | arr r off len lim sz ag b cap n hb hc he hz hk hu =>
  intro y hy hn
  cases r with
  | loc s g=>simp[V.Qap]at hn
  | glob r =>
   obtain⟨b',cap',n',rfl,hb',hc',he',hz',hk',hu'⟩:=hy.QbW
   have h1:=hce.gl r b hb
   have h2:e.gl r=some b':=hb'
   rw[h1]at h2
   obtain rfl:=Option.some.inj h2
   exact .arr _ off len lim sz ag b cap' n' hb hc' he' hz' hk' hu'
 | fn f a b xa xb ha hb hra hrb iha ihb =>
  intro y hy hn
  simp only[V.Qap,Bool.and_eq_true]at hn
  cases hy with
  | fn _ _ _ ya yb ha2 hb2 hra2 hrb2 =>
   refine .fn f a b ya yb ha2 hb2 (fun i v y hv hy=>?_) (fun i v y hv hy=>?_)
   ·have hi:i<xa.size:=by
     rw[ha]
     rcases Nat.lt_or_ge i a.length with h' | h'
     ·exact h'
     ·rw[List.getElem?_eq_none h']at hv;simp at hv
    exact iha i v _ hv (Array.getElem?_eq_getElem hi) y (hra2 i v y hv hy) (qaK.1 hn.1 v (List.mem_of_getElem? hv))
   ·have hi:i<xb.size:=by
     rw[hb]
     rcases Nat.lt_or_ge i b.length with h' | h'
     ·exact h'
     ·rw[List.getElem?_eq_none h']at hv;simp at hv
    exact ihb i v _ hv (Array.getElem?_eq_getElem hi) y (hrb2 i v y hv hy) (qaK.1 hn.2 v (List.mem_of_getElem? hv))
 | nilf=>intro y hy _;cases hy;exact .nilf
 | iface t v x hx ih =>
  intro y hy hn
  simp only[V.Qap]at hn
  cases hy with
  | iface _ _ y' hy'=>exact .iface t v y' (ih y' hy' hn)
 | nili=>intro y hy _;cases hy;exact .nili
 | agg cs xs hl hr ih =>
  intro y hy hn
  simp only[V.Qap]at hn
  cases hy with
  | agg _ ys hl2 hr2 =>
   refine .agg cs ys hl2 (fun i v y hv hy=>?_)
   have hi:i<xs.size:=by
    rw[hl]
    rcases Nat.lt_or_ge i cs.length with h' | h'
    ·exact h'
    ·rw[List.getElem?_eq_none h']at hv;simp at hv
   exact ih i v _ hv (Array.getElem?_eq_getElem hi) y (hr2 i v y hv hy) (qaK.1 hn v (List.mem_of_getElem? hv))
 | tuple cs xs hl hr ih =>
  intro y hy hn
  simp only[V.Qap]at hn
  cases hy with
  | tuple _ ys hl2 hr2 =>
   refine .tuple cs ys hl2 (fun i v y hv hy=>?_)
   have hi:i<xs.size:=by
    rw[hl]
    rcases Nat.lt_or_ge i cs.length with h' | h'
    ·exact h'
    ·rw[List.getElem?_eq_none h']at hv;simp at hv
   exact ih i v _ hv (Array.getElem?_eq_getElem hi) y (hr2 i v y hv hy) (qaK.1 hn v (List.mem_of_getElem? hv))
theorem QaC.merge[Laid](hce:c.leG e){vs:List V}{xs ys:List Value}(h:QaC c vs xs)(k:QaC e vs ys)(hn:V.Qak vs=true):QaC (c.with e) vs ys :=
 ⟨k.1,fun i v y hv hy=>by
  obtain⟨x,hx,hrel⟩:=h.get hv
  exact hrel.merge hce y (k.2 i v y hv hy) (qaK.1 hn v (List.mem_of_getElem? hv))⟩
end
theorem WRel.tm[Laid]{c:Ctx}{st:St}{w:World}(h:WRel c st w)(tm:Tr V):WRel c { st with tm:=tm } w :=
 ⟨h.shut,h.rows,h.inj,h.glb,h.lcb,h.lt,h.tlt,h.elt⟩
theorem Keep.tm{c c':Ctx}{st st':St}{w w':World}(h:Keep c c' st st' w w')(tm:Tr V):Keep c c' st { st' with tm:=tm } w w' :=
 ⟨h.os,h.tape,h.output,h.size,h.block,h.shut,h.own⟩
structure Ret[Laid](c:Ctx)(st:St)(w:World)(v:V)(h:Hp)(c':Ctx)(x:Value)(w':World):Prop where
 le:c.le c'
 rel:Rel c' v x
 wrel:WRel c' { st with hp:=h } w'
 keep:Keep c c' st { st with hp:=h } w w'
 dirt:Dirt st.hp h
 hp:Qbu h
def qsY[Laid](c:Ctx)(st:St)(w:World):Out→Ending→World→Prop
 | .val v h,.returned x,w'=>∃ c',Ret c st w v h c' x w'
 | .panic v h,.panicked ch,w'=>v.Qap=true∧∃ c' x,ch=[{ v:=x,recovered:=false }]∧Ret c st w v h c' x w'
 | _,_,_=>False
def QbE[Laid](P:Program)(call:Qad):Prop:=∀ (f:FuncId) (args:List V) (h:Hp) (out:Out),call f args h=some out →
 ∀ (c:Ctx) (w:World) (st:St) (xs:List Value),st.hp=h→WRel c st w→Qbu h→QaC c args xs→V.Qak args=true→(∀ b o x,Laid.cells b o=some x→c.shut b o=some x) →
  (∃ fn cd,P.funcs[f]? = some fn∧fn.body=some cd)∧Calls P f xs.toArray w (qsY c st w out)
structure Sim[Laid](D:List Deferred)(n:Nat)(c0:Ctx)(st0:St)(w0:World)(st:St)(a:Act)(w:World)(c:Ctx):Prop where
 le:c0.le c
 wrel:WRel c st w
 slots:QaT c st.ρ a
 size:n≤a.tmps.size
 defers:a.defers=D
 keep:Keep c0 c st0 st w0 w
 dirt:Dirt st0.hp st.hp
 hp:Qbu st.hp
 laid:∀ b o x,Laid.cells b o=some x→c.shut b o=some x
section
variable {D:List Deferred}{P:Program}{C:Cfg}{c0 c c':Ctx}{st0 st st':St}{w0 w w':World}{a:Act}{n:Nat}{gl:Nat→Bool}
def Qc1(n:Nat)(o:Oper):Bool:=match o.dst with
 | none=>true
 | some d=>Nat.blt d n
theorem qnU(st:St)(i:Nat)(v:V)(j:Nat):(QaF st (some i) v).ρ j=if i=j then v else st.ρ j:=qaI _ _ _ _ _
theorem qnT[Laid](hs:QaT c st.ρ a)(hn:n≤a.tmps.size){d:Option Nat}(hd:∀ i,d=some i→i<n){v:V}{x:Value}(hv:Rel c v x):QaT c (QaF st d v).ρ (a.put d x):=by
 cases d with
 | none=>exact hs
 | some i =>
  intro j
  rw[qnU]
  have hi:=hd i rfl
  simp only[Act.put]
  by_cases e:i=j
  ·subst e
   rw[if_pos rfl]
   have:(a.tmps.setIfInBounds i x).getD i undef=x:=by
    have h2:i<a.tmps.size:=by omega
    simp[Array.getD_eq_getD_getElem?,h2]
   rw[this];exact hv
  ·rw[if_neg e]
   have:(a.tmps.setIfInBounds i x).getD j undef=a.tmps.getD j undef:=by
    simp[Array.getD_eq_getD_getElem?,Array.getElem?_setIfInBounds,e]
   rw[this];exact hs j
theorem qlT(a:Act)(d:Option Nat)(x:Value):(a.put d x).tmps.size=a.tmps.size∧(a.put d x).defers=a.defers:=by
 cases d<;>simp[Act.put]
theorem qnV(st:St)(d:Option Nat)(v:V):∃ tm,QaF st d v={ st with tm:=tm }:=by
 cases d with
 | none=>exact⟨st.tm,rfl⟩
 | some i=>exact⟨aset st.tm i v,rfl⟩
theorem Sim.put[Laid](h:Sim D n c0 st0 w0 st a w c)(hle:c.le c')(hW:WRel c' st' w')(hK:Keep c c' st st' w w')(hD:Dirt st.hp st'.hp)(hH:Qbu st'.hp)(ht:st'.tm=st.tm){d:Option Nat}(hd:∀ i,d=some i→i<n){v:V}{x:Value}(hv:Rel c' v x) :
  Sim D n c0 st0 w0 (QaF st' d v) (a.put d x) w' c':=by
 have hs:QaT c' st'.ρ a:=by
  have:=h.slots.mono hle
  unfold St.ρ at this ⊢
  rw[ht];exact this
 obtain⟨tm,e⟩:=qnV st' d v
 refine⟨h.le.trans hle,by rw[e];exact hW.tm tm,qnT hs h.size hd hv,by rw[(qlT a d x).1];exact h.size,by rw[(qlT a d x).2];exact h.defers,?_,?_,?_,fun b o y hy=>hle.shut _ _ _ (h.laid b o y hy)⟩
 ·rw[e];exact(h.keep.trans hK).tm tm
 ·rw[e];exact h.dirt.trans hD
 ·rw[e];exact hH
def QdV[Laid](c:Ctx):Ex→Exit→Prop
 | .normal,.normal=>True
 | .exit i,.exit j=>i=j
 | .ret,.ret=>True
 | .panic v,.panic ch=>v.Qap=true∧∃ x,ch=[{ v:=x,recovered:=false }]∧Rel c v x
 | _,_=>False
theorem qdN[Laid](hN:qhp P){call:Qad}(hC:QbE P call)(h:Sim D n c0 st0 w0 st a w c){o:Oper}(hd:Qc1 n o=true){ex:Ex}(hr:QaA P C call gl st o=some (ex,st')) :
  ∀ (K:Act→World→Prop) (Q:Exit→Act→World→Prop),(ex=.normal→∀ a' w' c',Sim D n c0 st0 w0 st' a' w' c'→K a' w') →
   (∀ e a' w' c',ex≠.normal→QdV c' ex e→Sim D n c0 st0 w0 st' a' w' c'→Q e a' w')→o.wp P a w K Q:=by
 have hdst:∀ i,o.dst=some i→i<n:=fun i hi=>by
  unfold Qc1 at hd;rw[hi]at hd;simpa[Nat.blt_eq]using hd
 unfold QaA at hr
 split at hr
 ·rename_i v st1 hst
  simp at hr
  obtain⟨rfl,rfl⟩:=hr
  intro K Q hK _
  obtain⟨c1,x,w1,k⟩:=qd9 (P:=P) hN h.wrel h.slots hst
  have hH:=qlR h.hp hst
  have hsim:=h.put (d:=o.dst) k.le k.wrel k.keep k.dirt hH k.tm hdst k.rel
  rcases k.steps with hrun | ⟨hrun,rfl⟩
  ·unfold Oper.wp;rw[hrun];exact hK rfl _ _ _ hsim
  ·unfold Oper.wp;rw[hrun];exact hK rfl _ _ _ hsim
 ·rename_i f args st1 hst
  obtain⟨c1,xs,k⟩:=qd9 (P:=P) hN h.wrel h.slots hst
  have hH:=qlR h.hp hst
  split at hr
  ·rename_i v hp hcall
   simp at hr
   obtain⟨rfl,rfl⟩:=hr
   obtain⟨⟨fn,cd,hf1,hf2⟩,hcalls⟩:=hC f args st1.hp _ hcall c1 w st1 xs rfl k.wrel hH k.rel k.Qap (fun b o y hy=>k.le.shut _ _ _ (h.laid b o y hy))
   intro K Q hK _
   unfold Oper.wp
   rw[k.steps fn cd hf1 hf2]
   refine hcalls.mono (fun e w' he=>?_)
   cases e with
   | returned x =>
    obtain⟨c2,r⟩:=he
    exact hK rfl _ _ _ (h.put (d:=o.dst) (st':={ st1 with hp:=hp }) (k.le.trans r.le) r.wrel (k.keep.trans r.keep) (k.dirt.trans r.dirt) r.hp k.tm hdst r.rel)
   | panicked ch=>exact he.elim
   | outgrown=>exact he.elim
  ·rename_i v hp hcall
   simp at hr
   obtain⟨rfl,rfl⟩:=hr
   obtain⟨⟨fn,cd,hf1,hf2⟩,hcalls⟩:=hC f args st1.hp _ hcall c1 w st1 xs rfl k.wrel hH k.rel k.Qap (fun b o y hy=>k.le.shut _ _ _ (h.laid b o y hy))
   intro K Q _ hQ
   unfold Oper.wp
   rw[k.steps fn cd hf1 hf2]
   refine hcalls.mono (fun e w' he=>?_)
   cases e with
   | returned x=>exact he.elim
   | panicked ch =>
    obtain⟨hv,c2,x,rfl,r⟩:=he
    refine hQ _ _ _ c2 (by simp) ⟨hv,x,rfl,r.rel⟩ (h.put (d:=none) (v:=.dead) (x:=undef) (st':={ st1 with hp:=hp }) (k.le.trans r.le) r.wrel (k.keep.trans r.keep) (k.dirt.trans r.dirt) r.hp k.tm (fun i hi=>by simp at hi) (.dead _))
   | outgrown=>exact he.elim
  ·simp at hr
 ·rename_i v st1 hst
  simp at hr
  obtain⟨rfl,rfl⟩:=hr
  obtain⟨rfl,hv,x,hrun,hrel⟩:=qd9 (P:=P) hN h.wrel h.slots hst
  intro K Q _ hQ
  unfold Oper.wp
  rw[hrun]
  exact hQ _ _ _ c (by simp) ⟨hv,x,rfl,hrel⟩ h
 ·simp at hr
theorem qdg[Laid](hs:QaT c st.ρ a){ops:Array Oper}{o:Oper}{b:Bool}(hw:QaD ops o st.ρ = some b):Region.wanted o (yielded ops a.tmps)=b:=by
 unfold QaD at hw
 unfold Region.wanted
 split at hw
 ·rename_i hg
  simp at hw;subst hw
  rw[hg]
 ·rename_i j wt hg
  rw[hg]
  simp only[]
  unfold yielded
  split at hw
  ·simp at hw
  ·rename_i d hd
   rw[hd]
   have hrel:=hs d
   have hget:∀ bb:Bool,a.tmps.getD d undef=.bool bb→a.tmps[d]? = some (.bool bb):=by
    intro bb hb
    rw[Array.getD_eq_getD_getElem?]at hb
    cases hq:a.tmps[d]? with
    | none=>rw[hq]at hb;simp[undef]at hb
    | some y=>rw[hq]at hb;simp at hb;rw[hb]
   simp only[Option.bind_some]
   split at hw
   ·rename_i bb hv
    rw[hv]at hrel
    rw[hget bb hrel.Qbz]
    simp at hw
    subst hw
    simp
   ·simp at hw
   ·rename_i h1 h2
    simp at hw
    subst hw
    cases hq:a.tmps[d]? with
    | none=>rfl
    | some y =>
     have h3:a.tmps.getD d undef=y:=by rw[Array.getD_eq_getD_getElem?,hq];rfl
     rw[h3]at hrel
     cases y with
     | bool bb =>
      exfalso
      cases hv:st.ρ d with
      | dead=>exact h2 hv
      | bool b2=>exact h1 b2 hv
      | _=>rw[hv]at hrel;cases hrel
     | _=>rfl
theorem qdK[Laid](hN:qhp P){call:Qad}(hC:QbE P call){ops:Array Oper}(hd:∀ o ∈ ops.toList,Qc1 n o=true) :
  ∀ (l:List Nat) (st:St) (a:Act) (w:World) (c:Ctx) (ex:Ex) (st':St),Sim D n c0 st0 w0 st a w c→opsV P C call gl ops (l.filterMap (ops[·]?)) st=some (ex,st') →
   ∀ (Q:Exit→Act→World→Prop),(∀ e a' w' c',QdV c' ex e→Sim D n c0 st0 w0 st' a' w' c'→Q e a' w')→wpOps P ops Q l a w
 | [],st,a,w,c,ex,st',h,hr,Q,hQ=>by
  simp[opsV]at hr
  obtain⟨rfl,rfl⟩:=hr
  exact hQ _ _ _ _ trivial h
 | i::l,st,a,w,c,ex,st',h,hr,Q,hQ=>by
  cases hi:ops[i]? with
  | none =>
   simp only[List.filterMap_cons,hi]at hr
   simp only[wpOps,hi]
   exact qdK hN hC hd l st a w c ex st' h hr Q hQ
  | some o =>
   simp only[List.filterMap_cons,hi,opsV]at hr
   have hmem:o ∈ ops.toList:=by
    rw[List.mem_iff_getElem?]
    exact⟨i,by simpa using hi⟩
   have hdo:=hd o hmem
   have hdst:∀ i,o.dst=some i→i<n:=fun i hi=>by
    unfold Qc1 at hdo;rw[hi]at hdo;simpa[Nat.blt_eq]using hdo
   split at hr
   ·simp at hr
   ·rename_i hw
    have hw':=qdg h.slots hw
    have hsim:=h.put (d:=o.dst) (Ctx.le.refl c) h.wrel (Keep.refl c st w) (.refl _) h.hp rfl hdst (v:=.tuple []) (x:=undef) (Rel.Qbe (QaC.nil c))
    simp only[wpOps,hi,hw',if_false,Bool.false_eq_true]
    exact qdK hN hC hd l _ _ w c ex st' hsim hr Q hQ
   ·rename_i hw
    have hw':=qdg h.slots hw
    simp only[wpOps,hi,hw',if_true]
    split at hr
    ·rename_i st1 hone
     have k:=qdN hN hC h hdo hone
     exact .inl (k _ Q (fun _ a' w' c' hs=>qdK hN hC hd l st1 a' w' c' ex st' hs hr Q hQ) (fun e a' w' c' hne=>absurd rfl hne))
    ·rename_i r hne
     have k:=qdN hN hC h hdo hr
     have hex:ex≠.normal:=fun e=>by subst e;exact hne st' hr
     exact .inl (k _ Q (fun e=>absurd e hex) (fun e a' w' c' _ he hs=>hQ e a' w' c' he hs))
theorem qdf{α:Type}:∀ (l pre:List α),(List.range' pre.length l.length).filterMap (fun j=>(pre++l)[j]?)=l
 | [],pre=>rfl
 | x::l,pre=>by
  have ih:=qdf l (pre++[x])
  rw[List.length_cons,List.range'_succ,List.filterMap_cons]
  have h1:(pre++x::l)[pre.length]? = some x:=by simp
  rw[h1]
  simp only[]
  rw[List.length_append,List.append_assoc]at ih
  simp only[List.length_singleton,List.singleton_append]at ih
  rw[ih]
theorem qnM(ops:Array Oper):(List.range ops.size).filterMap (ops[·]?)=ops.toList:=by
 have:=qdf ops.toList []
 simp only[List.length_nil,Array.length_toList,List.nil_append]at this
 rw[List.range_eq_range']
 rw[←this]
 congr 1
 funext j
 simp
def Qby[Laid](P:Program)(D:List Deferred)(n:Nat)(c0:Ctx)(st0:St)(w0:World)(code:Code)(run:St→Option (Ex × St)):Prop :=
 ∀ (st:St) (a:Act) (w:World) (c:Ctx) (ex:Ex) (st':St),Sim D n c0 st0 w0 st a w c→run st=some (ex,st') →
  code.wp P (fun e a' w'=>∃ c',QdV c' ex e∧Sim D n c0 st0 w0 st' a' w' c') a w
theorem qpv[Laid]:Qby P D n c0 st0 w0 .skip (fun st=>some (.normal,st)):=by
 intro st a w c ex st' h hr
 simp at hr
 obtain⟨rfl,rfl⟩:=hr
 exact wp_skip ⟨c,trivial,h⟩
theorem qpx[Laid](i:Nat):Qby P D n c0 st0 w0 (.exit i) (fun st=>some (.exit i,st)):=by
 intro st a w c ex st' h hr
 simp at hr
 obtain⟨rfl,rfl⟩:=hr
 exact wp_exit ⟨c,rfl,h⟩
theorem qsB[Laid]:Qby P D n c0 st0 w0 .ret (fun st=>some (.ret,st)):=by
 intro st a w c ex st' h hr
 simp at hr
 obtain⟨rfl,rfl⟩:=hr
 exact wp_ret ⟨c,trivial,h⟩
theorem qsA[Laid]{x y:Code}{f g:St→Option (Ex × St)}(hx:Qby P D n c0 st0 w0 x f)(hy:Qby P D n c0 st0 w0 y g) :
  Qby P D n c0 st0 w0 (.seq x y) (fun st=>match f st with | some (.normal,st')=>g st' | r=>r):=by
 intro st a w c ex st' h hr
 dsimp only at hr
 split at hr
 ·rename_i st1 hf
  refine wp_seq (wp_mono (hx st a w c .normal st1 h hf) (fun e a' w' k=>?_))
  obtain⟨c1,k1,k2⟩:=k
  cases e with
  | normal=>exact hy st1 a' w' c1 ex st' k2 hr
  | _=>exact k1.elim
 ·rename_i r hne
  refine wp_seq (wp_mono (hx st a w c ex st' h hr) (fun e a' w' k=>?_))
  obtain⟨c1,k1,k2⟩:=k
  cases e with
  | normal =>
   cases ex with
   | normal=>exact absurd hr (hne st')
   | _=>exact k1.elim
  | _=>exact⟨c1,k1,k2⟩
theorem qpz[Laid]{b:Operand}{x y:Code}{f g:St→Option (Ex × St)}(hx:Qby P D n c0 st0 w0 x f)(hy:Qby P D n c0 st0 w0 y g) :
  Qby P D n c0 st0 w0 (.cond b x y) (fun st=>match opd st.ρ b with | .bool true=>f st | .bool false=>g st | _=>none):=by
 intro st a w c ex st' h hr
 dsimp only at hr
 split at hr
 ·rename_i hb
  exact wp_cond_true (qfS h.slots hb) (hx st a w c ex st' h hr)
 ·rename_i hb
  exact wp_cond_false (qfS h.slots hb) (hy st a w c ex st' h hr)
 ·simp at hr
theorem qna[Laid]{id:Nat}{x:Code}{f:St→Option (Ex × St)}(hx:Qby P D n c0 st0 w0 x f) :
  Qby P D n c0 st0 w0 (.block id x) (fun st=>match f st with | some (.exit i,st')=>bif Nat.beq i id then some (.normal,st')else some (.exit i,st') | r=>r):=by
 intro st a w c ex st' h hr
 dsimp only at hr
 split at hr
 ·rename_i i st1 hf
  refine wp_block (wp_mono (hx st a w c (.exit i) st1 h hf) (fun e a' w' k=>?_))
  obtain⟨c1,k1,k2⟩:=k
  cases e with
  | exit j =>
   have e1:i=j:=k1
   subst e1
   simp only[Exit.inBlock]
   cases hb:Nat.beq i id with
   | true =>
    have:i=id:=by simpa using hb
    simp[hb]at hr
    obtain⟨rfl,rfl⟩:=hr
    rw[if_pos this]
    exact⟨c1,trivial,k2⟩
   | false =>
    have:i≠id:=by intro e;subst e;simp at hb
    simp[hb]at hr
    obtain⟨rfl,rfl⟩:=hr
    rw[if_neg this]
    exact⟨c1,rfl,k2⟩
  | _=>exact k1.elim
 ·rename_i r hne
  refine wp_block (wp_mono (hx st a w c ex st' h hr) (fun e a' w' k=>?_))
  obtain⟨c1,k1,k2⟩:=k
  cases e with
  | exit j =>
   cases ex with
   | exit i=>exact absurd hr (hne i st')
   | _=>exact k1.elim
  | _=>exact⟨c1,k1,k2⟩
theorem qpw[Laid]{x:Code}{f:St→Option (Ex × St)}(hx:Qby P D n c0 st0 w0 x f)(m:Nat):Qby P D n c0 st0 w0 (.loop x) (fun st=>Qcd f m st):=by
 intro st a w c ex st' h hr b k cs
 have key:∀ m st a w c,Sim D n c0 st0 w0 st a w c→Qcd f m st=some (ex,st') →
   ∃ e a' w',(∃ c',QdV c' ex e∧Sim D n c0 st0 w0 st' a' w' c')∧Arrives P (lone (b.at a (.code x::.inLoop x::k)) cs w) b k cs e a' w':=by
  intro m
  induction m with
  | zero=>intro st a w c h hr;simp[Qcd]at hr
  | succ m ih =>
   intro st a w c h hr
   simp only[Qcd]at hr
   split at hr
   ·rename_i st1 hf
    obtain⟨e,a₁,w₁,⟨c1,q1,q2⟩,harr⟩:=hx st a w c .normal st1 h hf b (.inLoop x::k) cs
    cases e with
    | normal =>
     obtain⟨e₂,a₂,w₂,hq₂,harr₂⟩:=ih st1 a₁ w₁ c1 q2 hr
     exact⟨e₂,a₂,w₂,hq₂,.of_steps (Steps.trans harr (.one step_inLoop)) harr₂⟩
    | _=>exact q1.elim
   ·rename_i r hne
    obtain⟨e,a₁,w₁,hq,harr⟩:=hx st a w c ex st' h hr b (.inLoop x::k) cs
    cases e with
    | normal =>
     cases ex with
     | normal=>exact absurd hr (hne st')
     | _=>obtain⟨_,hq1,_⟩:=hq;exact hq1.elim
    | exit id=>exact⟨_,a₁,w₁,hq,.pass (x:=.inLoop x) rfl (fun _ _=>.inl (by simp)) harr⟩
    | goto l=>exact⟨_,a₁,w₁,hq,.pass (x:=.inLoop x) rfl (fun _ _=>.inl (by simp)) harr⟩
    | ret=>exact⟨_,a₁,w₁,hq,.pass (x:=.inLoop x) rfl (fun _ _=>.inl (by simp)) harr⟩
    | panic ch=>exact⟨_,a₁,w₁,hq,.pass (x:=.inLoop x) rfl (fun _ _=>.inl (by simp)) harr⟩
    | outgrown=>exact⟨_,a₁,w₁,hq,.pass (x:=.inLoop x) rfl (fun _ _=>.inl (by simp)) harr⟩
 obtain⟨e,a',w',hq,harr⟩:=key m st a w c h hr
 exact⟨e,a',w',hq,.of_steps (.one step_loop) harr⟩
theorem qlr[Laid](hN:qhp P){call:Qad}(hC:QbE P call){f id:Nat}{ops:Array Oper}(hd:∀ o ∈ ops.toList,Qc1 n o=true) :
  Qby P D n c0 st0 w0 (.region id ops false) (qbN P C call f id ops false):=by
 intro st a w c ex st' h hr
 unfold qbN at hr
 dsimp only at hr
 rw[←qnM ops]at hr
 exact wp_region (qdK hN hC hd _ st a w c ex st' h hr _ (fun e a' w' c' he hs=>⟨c',he,hs⟩))
end
def Ctx.called(c:Ctx):Ctx:={ c with lc:=fun _ _=>none,text:=fun r=>match r with | .glob i=>c.text (.glob i) | .loc _ _=>none }
def Ctx.back(c e:Ctx):Ctx:={ gl:=e.gl,lc:=c.lc,shut:=e.shut,ext:=e.ext,text:=fun r=>match r with | .glob i=>e.text (.glob i) | .loc s g=>c.text (.loc s g) }
section
variable {P:Program}{C:Cfg}{c e:Ctx}{st st':St}{w w':World}
theorem qhV(c:Ctx):c.leG c.called:=⟨fun _ _ h=>h,fun _ _ _ h=>h,fun _ _ h=>h,fun _ _ h=>h⟩
theorem Qcs.away[Laid](hd:c.leG e){r:Nat}{row:Row}(h:Qcs c w (.glob r) row)(hn:∀ frz cs,row=.cells frz cs→V.Qak cs=true)(hsh:∀ b o,c.gl r=some b→e.shut b o=c.shut b o):Qcs e w (.glob r) row:=by
 cases row with
 | gone=>trivial
 | cells frz cs =>
  obtain⟨b,xs,t,fz,h1,h2,h3,h4,h5,h6,h7,h8⟩:=h
  exact⟨b,xs,t,fz,hd.gl _ _ h1,h2,h3,hd.ext _ _ h4,h5,h6.away hd (hn _ _ rfl),fun hf o=>by rw[hsh b o h1];exact h7 hf o,fun hf o x hx=>by rw[hsh b o h1];exact h8 hf o x hx⟩
 | tok =>
  obtain⟨b,xs,t,fz,n,h1,h2,h3,h4,h5,h6,h7⟩:=h
  exact⟨b,xs,t,fz,n,hd.gl _ _ h1,h2,h3,hd.ext _ _ h4,hd.text _ _ h5,h6,fun o ho=>by rw[hsh b o h1];exact h7 o ho⟩
 | iter s pos =>
  obtain⟨b,h1,h2⟩:=h
  exact⟨b,hd.gl _ _ h1,h2⟩
 | mp ks vs =>
  obtain⟨b,es,clk,h1,h2,h0,h3,h4,h5,h6⟩:=h
  exact⟨b,es,clk,hd.gl _ _ h1,h2,h0,h3.away hd h5,h4.away hd h6,h5,h6⟩
def St.called(st:St)(tm:Tr V):St:={ tm:=tm,loc:=.lf,hp:={ st.hp with dirty:=none } }
theorem qdX(st:St)(tm:Tr V)(s g:Nat)(row:Row)(h:Qab (st.called tm) (.loc s g)=some row):row=.gone:=by
 rw[qap]at h
 have:(st.called tm).lc s=(0,.gone):=qhd _ _
 rw[this]at h
 split at h
 ·simpa using h.symm
 ·simp at h
theorem qft{tm:Tr V}{b:Nat}(h:Own c.called (st.called tm) b):∃ r row,Qab st (.glob r)=some row∧row≠.gone∧c.gl r=some b:=by
 obtain⟨r,row,h1,h2,h3⟩:=h
 cases r with
 | loc s g=>exact absurd (qdX st tm s g row h1) h2
 | glob r=>exact⟨r,row,h1,h2,h3⟩
theorem qlx[Laid](h:WRel c st w)(hH:Qbu st.hp)(tm:Tr V):WRel c.called (st.called tm) w:=by
 refine⟨h.shut,fun r row hr=>?_,fun r1 r2 row1 row2 b g1 g2 n1 n2 b1 b2=>?_,h.glb,fun s g hg=>rfl,fun r b hb=>?_,fun r n hn=>?_,h.elt⟩
 ·cases r with
  | loc s g=>rw[qdX st tm s g row hr];trivial
  | glob r=>exact Qcs.away (qhV c) (h.rows (.glob r) row hr) (fun frz cs e=>by subst e;exact hH r frz cs hr) (fun _ _ _=>rfl)
 ·cases r1 with
  | loc s g=>exact absurd (qdX st tm s g row1 g1) n1
  | glob r1 =>
   cases r2 with
   | loc s g=>exact absurd (qdX st tm s g row2 g2) n2
   | glob r2=>exact h.inj (.glob r1) (.glob r2) row1 row2 b g1 g2 n1 n2 b1 b2
 ·cases r with
  | loc s g=>simp[Ctx.called,Ctx.blk]at hb
  | glob r=>exact h.lt (.glob r) b hb
 ·cases r with
  | loc s g=>simp[Ctx.called]at hn
  | glob r=>obtain⟨b,hb⟩:=h.tlt (.glob r) n hn;exact⟨b,hb⟩
theorem qeP[Laid](h:WRel c st w){tm:Tr V}{s g:Nat}{row:Row}{b:Nat}(hr:Qab st (.loc s g)=some row)(hg:row≠.gone)(hb:c.lc s g=some b):¬Own c.called (st.called tm) b:=by
 intro ho
 obtain⟨r,row2,h1,h2,h3⟩:=qft ho
 have:=h.inj (.loc s g) (.glob r) row row2 b hr h1 hg h2 hb h3
 simp at this
theorem qdJ{tm:Tr V}{b:Nat}(hn:¬Own c st b):¬Own c.called (st.called tm) b:=fun ho=>by
 obtain⟨r,row,h1,h2,h3⟩:=qft ho
 exact hn ⟨.glob r,row,h1,h2,h3⟩
theorem qjY[Laid](h:WRel c st w){tm:Tr V}(hK:Keep c.called e (st.called tm) st' w w'){d:Ctx}(hle:c.le d)(hsh:∀ b o,d.shut b o=e.shut b o){s g:Nat}{row:Row}(hr:Qab st (.loc s g)=some row):Qcs d w' (.loc s g) row:=by
 by_cases hg:row=.gone
 ·subst hg;trivial
 ·refine(h.rows _ row hr).keep hle (fun b hb=>?_)
  have hno:=qeP (tm:=tm) h hr hg hb
  have hlt:=h.lt _ b hb
  exact⟨hK.block b hlt hno,fun o=>by rw[hsh];exact hK.shut b hlt hno o⟩
theorem qlG[Laid]{tm:Tr V}(h:WRel c st w)(hle:c.called.le e):c.le (c.back e) :=
 ⟨fun r b hb=>hle.gl r b hb,fun _ _ _ h=>h,fun b o x hx=>hle.shut b o x hx,fun b n hb=>hle.ext b n hb,fun r n hn=>by
  cases r with
  | loc s g=>exact hn
  | glob r=>exact hle.text (.glob r) n hn⟩
theorem qkA[Laid](h:WRel c st w){tm:Tr V}(hle:c.called.le e)(hW:WRel e st' w')(hK:Keep c.called e (st.called tm) st' w w')(hH:Qbu st'.hp)(dd:Option Nat)(mm:Nat) :
  WRel (c.back e) { st with hp:={ st'.hp with dirty:=dd,mods:=mm } } w'∧Keep c (c.back e) st { st with hp:={ st'.hp with dirty:=dd,mods:=mm } } w w':=by
 have hbl:=qlG (tm:=tm) h hle
 refine⟨⟨hW.shut,fun r row hr=>?_,fun r1 r2 row1 row2 b g1 g2 n1 n2 b1 b2=>?_,fun r hr=>hW.glb r hr,fun s g hg=>h.lcb s g hg,fun r b hb=>?_,fun r n hn=>?_,hW.elt⟩,⟨hK.os,hK.tape,hK.output,hK.size,fun b hb hn=>hK.block b hb (qdJ hn),fun b hb hn o=>hK.shut b hb (qdJ hn) o,fun b hb ho=>?_⟩⟩
 ·cases r with
  | loc s g=>exact qjY h hK hbl (fun _ _=>rfl) hr
  | glob r=>exact Qcs.away (c:=e) (e:=c.back e) ⟨fun _ _ h=>h,fun _ _ _ h=>h,fun _ _ h=>h,fun _ _ h=>h⟩ (hW.rows (.glob r) row hr) (fun frz cs e=>by subst e;exact hH r frz cs hr) (fun _ _ _=>rfl)
 ·have mixed:∀ (s g r:Nat) (rowa rowb:Row),Qab st (.loc s g)=some rowa→rowa≠.gone→c.lc s g=some b→Qab st' (.glob r)=some rowb→rowb≠.gone→e.gl r=some b→False:=by
   intro s g r rowa rowb ha na ba hb nb bb
   exact qeP (tm:=tm) h ha na ba (hK.own b (h.lt (.loc s g) b ba) ⟨.glob r,rowb,hb,nb,bb⟩)
  cases r1 with
  | loc s1 g1' =>
   cases r2 with
   | loc s2 g2'=>exact h.inj (.loc s1 g1') (.loc s2 g2') row1 row2 b g1 g2 n1 n2 b1 b2
   | glob r2=>exact(mixed s1 g1' r2 row1 row2 g1 n1 b1 g2 n2 b2).elim
  | glob r1 =>
   cases r2 with
   | loc s2 g2'=>exact(mixed s2 g2' r1 row2 row1 g2 n2 b2 g1 n1 b1).elim
   | glob r2=>exact hW.inj (.glob r1) (.glob r2) row1 row2 b g1 g2 n1 n2 b1 b2
 ·cases r with
  | loc s g=>exact Nat.lt_of_lt_of_le (h.lt (.loc s g) b hb) hK.size
  | glob r=>exact hW.lt (.glob r) b hb
 ·cases r with
  | loc s g=>exact h.tlt (.loc s g) n hn
  | glob r=>exact hW.tlt (.glob r) n hn
 ·obtain⟨r,row,h1,h2,h3⟩:=ho
  cases r with
  | loc s g=>exact⟨.loc s g,row,h1,h2,h3⟩
  | glob r =>
   have ho2:Own e st' b:=⟨.glob r,row,h1,h2,h3⟩
   obtain⟨r2,row2,k1,k2,k3⟩:=qft (hK.own b hb ho2)
   exact⟨.glob r2,row2,k1,k2,k3⟩
theorem qnJ[Laid](h:WRel c st w)(hH:Qbu st.hp){tm:Tr V}(hle:c.called.le e)(hW:WRel e st' w')(hK:Keep c.called e (st.called tm) st' w w')(hD:Dirt (st.called tm).hp st'.hp)
  (hnd:∀ d,st'.hp.dirty=some d→st.hp.rows.length≤d) :
  c.le (c.with e)∧WRel (c.with e) st w'∧Keep c (c.with e) st st w w':=by
 have hwl:c.le (c.with e):=⟨fun _ _ h=>h,fun _ _ _ h=>h,fun b o x hx=>hle.shut b o x hx,fun b n hb=>hle.ext b n hb,fun _ _ h=>h⟩
 have hce:c.leG e:=⟨fun r b hb=>hle.gl r b hb,fun b o x hx=>hle.shut b o x hx,fun b n hb=>hle.ext b n hb,fun r n hn=>hle.text (.glob r) n hn⟩
 refine⟨hwl,⟨hW.shut,fun r row hr=>?_,h.inj,h.glb,h.lcb,fun r b hb=>Nat.lt_of_lt_of_le (h.lt r b hb) hK.size,h.tlt,hW.elt⟩,⟨hK.os,hK.tape,hK.output,hK.size,fun b hb hn=>hK.block b hb (qdJ hn),fun b hb hn o=>hK.shut b hb (qdJ hn) o,fun _ _ ho=>ho⟩⟩
 cases r with
 | loc s g=>exact qjY h hK hwl (fun _ _=>rfl) hr
 | glob r =>
  have hlt:r<st.hp.rows.length:=by
   rcases Nat.lt_or_ge r st.hp.rows.length with h' | h'
   ·exact h'
   ·simp only[Qab]at hr;rw[List.getElem?_eq_none h']at hr;simp at hr
  have hsame:Qab st' (.glob r)=some row:=by
   have:=hD.same r hlt (fun d hd=>Nat.lt_of_lt_of_le hlt (hnd d hd))
   simp only[Qab]at hr ⊢
   rw[this];exact hr
  have hnew:=hW.rows (.glob r) row hsame
  have hold:=h.rows (.glob r) row hr
  cases row with
  | gone=>trivial
  | cells frz cs =>
   obtain⟨b,xs,t,fz,h1,h2,h3,h4,h5,h6,h7,h8⟩:=hold
   obtain⟨b',ys,t',fz',k1,k2,k3,k4,k5,k6,k7,k8⟩:=hnew
   have h9:e.gl r=some b:=hce.gl r b h1
   have h10:e.gl r=some b':=k1
   rw[h9]at h10
   obtain rfl:=Option.some.inj h10
   exact⟨b,ys,t',fz',h1,k2,k3,k4,k5,h6.merge hce k6 (hH r frz cs hr),k7,k8⟩
  | tok =>
   obtain⟨b,xs,t,fz,n,h1,h2,h3,h4,h5,h6,h7⟩:=hold
   obtain⟨b',ys,t',fz',n',k1,k2,k3,k4,k5,k6,k7⟩:=hnew
   have h9:e.gl r=some b:=hce.gl r b h1
   have h10:e.gl r=some b':=k1
   rw[h9]at h10
   obtain rfl:=Option.some.inj h10
   have h11:=hce.text r n h5
   rw[k5]at h11
   obtain rfl:=Option.some.inj h11
   exact⟨b,ys,t',fz',n',h1,k2,k3,k4,h5,k6,k7⟩
  | iter s pos =>
   obtain⟨b,h1,h2⟩:=hold
   obtain⟨b',k1,k2⟩:=hnew
   have h9:e.gl r=some b:=hce.gl r b h1
   have h10:e.gl r=some b':=k1
   rw[h9]at h10
   obtain rfl:=Option.some.inj h10
   exact⟨b,h1,k2⟩
  | mp ks vs =>
   obtain⟨b,es,clk,h1,h2,h0,h3,h4,h5,h6⟩:=hold
   obtain⟨b',es',clk',k1,k2,k0,k3,k4,k5,k6⟩:=hnew
   have h9:e.gl r=some b:=hce.gl r b h1
   have h10:e.gl r=some b':=k1
   rw[h9]at h10
   obtain rfl:=Option.some.inj h10
   exact⟨b,es',clk',h1,k2,k0,h3.merge hce k3 h5,h4.merge hce k4 h6,h5,h6⟩
end
section
variable {P:Program}{C:Cfg}{gl:Nat→Bool}
def Agree(ρ σ:Nat→V)(o:Oper):Prop:=∀ x ∈ o.op.operands.toList,opd ρ x=opd σ x
theorem qdn{ρ σ:Nat→V}{x:Option Operand}(h:∀ y,x=some y→opd ρ y=opd σ y):QaK ρ x=QaK σ x:=by
 cases x with
 | none=>rfl
 | some y=>simp only[QaK,h y rfl]
theorem qgW{ρ σ:Nat→V}{t:TypeId}:∀ (ps:List (Nat × Operand))(cs:List V),(∀ p ∈ ps,opd ρ p.2=opd σ p.2)→Qbl P t ρ ps cs=Qbl P t σ ps cs
 | [],cs,_=>rfl
 | (i,x)::ps,cs,h=>by
  have hx:opd ρ x=opd σ x:=h (i,x) (by simp)
  simp only[Qbl,hx]
  split
  ·rfl
  ·generalize (((opd σ x).QbM.plain&&(bif Nat.beq (opd σ x).QbM.cells.length _ then true else false)))=q
   cases q with
   | false=>rfl
   | true =>
    simp only[cond_true]
    split
    ·exact qgW ps _ (fun p hp=>h p (by simp[hp]))
    ·rfl
theorem qgY{ρ σ:Nat→V}{sz:Nat}:∀ (ps:List (Nat × Operand))(l:List V),(∀ p ∈ ps,opd ρ p.2=opd σ p.2)→Qb8 sz ρ ps l=Qb8 sz σ ps l
 | [],l,_=>rfl
 | (i,x)::ps,l,h=>by
  have hx:opd ρ x=opd σ x:=h (i,x) (by simp)
  simp only[Qb8,hx]
  generalize ((opd σ x).QbH.live&&(opd σ x).QbH.Qao&&Nat.beq (opd σ x).QbH.cells.length sz&&Nat.blt i l.length)=q
  cases q with
  | false=>rfl
  | true=>simp only[cond_true];exact qgY ps _ (fun p hp=>h p (by simp[hp]))
theorem qhA{ρ σ:Nat→V}{l:List Operand}(h:∀ x ∈ l,opd ρ x=opd σ x):l.map (opd ρ)=l.map (opd σ):=List.map_congr_left h
theorem qbz{ρ σ:Nat→V}{o:Oper}(h:Agree ρ σ o):Qam P C ρ o.op=Qam P C σ o.op:=by
 unfold Agree at h
 cases ho:o.op with
 | move x=>simp only[ho,Op.operands]at h;simp only[Qam,h x (by simp)]
 | assign x=>simp only[ho,Op.operands]at h;simp only[Qam,h x (by simp)]
 | pick c a b=>simp only[ho,Op.operands]at h;simp only[Qam,h c (by simp),h a (by simp),h b (by simp)]
 | nilCheck x=>simp only[ho,Op.operands]at h;simp only[Qam,h x (by simp)]
 | binOp op t x y u=>simp only[ho,Op.operands]at h;simp only[Qam,h x (by simp),h y (by simp)]
 | unOp op t x=>simp only[ho,Op.operands]at h;simp only[Qam,h x (by simp)]
 | convert s d x=>simp only[ho,Op.operands]at h;simp only[Qam,h x (by simp)]
 | slice t x lo hi mx =>
  simp only[ho,Op.operands]at h
  have e1:=qdn (ρ:=ρ) (σ:=σ) (x:=lo) (fun y hy=>h y (by subst hy;simp))
  have e2:=qdn (ρ:=ρ) (σ:=σ) (x:=hi) (fun y hy=>h y (by subst hy;simp))
  have e3:=qdn (ρ:=ρ) (σ:=σ) (x:=mx) (fun y hy=>h y (by subst hy;simp))
  simp only[Qam,h x (by simp),e1,e2,e3]
 | fieldAddr t x i=>simp only[ho,Op.operands]at h;simp only[Qam,h x (by simp)]
 | field t x i=>simp only[ho,Op.operands]at h;simp only[Qam,h x (by simp)]
 | indexAddr t x i=>simp only[ho,Op.operands]at h;simp only[Qam,h x (by simp),h i (by simp)]
 | index t x i=>simp only[ho,Op.operands]at h;simp only[Qam,h x (by simp),h i (by simp)]
 | extract x i=>simp only[ho,Op.operands]at h;simp only[Qam,h x (by simp)]
 | makeFunc f a b =>
  simp only[ho,Op.operands]at h
  simp only[Qam,qhA (ρ:=ρ) (σ:=σ) (l:=a.toList) (fun x hx=>h x (by simp at hx ⊢;exact .inl hx)),qhA (ρ:=ρ) (σ:=σ) (l:=b.toList) (fun x hx=>h x (by simp at hx ⊢;exact .inr hx))]
 | makeInterface t x=>simp only[ho,Op.operands]at h;simp only[Qam,h x (by simp)]
 | build t ps =>
  simp only[ho,Op.operands]at h
  have hp:∀ p ∈ ps.toList,opd ρ p.2=opd σ p.2:=fun p hp=>h p.2 (by simp only[List.mem_map];exact⟨p,hp,rfl⟩)
  simp only[Qam]
  split
  ·rw[qgW ps.toList _ hp]
  ·rfl
 | buildSlice t len ps =>
  simp only[ho,Op.operands]at h
  have hp:∀ p ∈ ps.toList,opd ρ p.2=opd σ p.2:=fun p hp=>h p.2 (by simp only[List.mem_map];exact⟨p,hp,rfl⟩)
  simp only[Qam]
  split
  ·rfl
  ·split
   ·rw[qgY ps.toList _ hp]
   ·rfl
 | call cl =>
  simp only[ho,Op.operands,Call.operands]at h
  simp only[Qam]
  split
  ·rename_i x hcal hargs
   have hx:opd ρ x=opd σ x:=h x (by rw[Array.toList_append,hargs];simp)
   simp only[hx]
  ·rename_i x y hcal hargs
   have hx:opd ρ x=opd σ x:=h x (by rw[Array.toList_append,hargs];simp)
   have hy:opd ρ y=opd σ y:=h y (by rw[Array.toList_append,hargs];simp)
   simp only[hx,hy]
  ·rename_i x y hcal hargs
   have hx:opd ρ x=opd σ x:=h x (by rw[Array.toList_append,hargs];simp)
   have hy:opd ρ y=opd σ y:=h y (by rw[Array.toList_append,hargs];simp)
   simp only[hx,hy]
  ·rfl
 | _=>rfl
def QbF(l m:Nat→Nat × Row)(rd:List Nat):Prop:=∀ s ∈ rd,l s=m s
theorem qmI{ρ σ:Nat→V}{l m:Nat→Nat × Row}{o:Oper}(h:Agree ρ σ o){ft:Foot}{r:V × Option (Nat × Nat × Row)}(hl:Qal P C gl ρ l o=some r)(hf:Qaz P C gl ρ l o=some ft)(hm:QbF l m ft.rd) :
  Qal P C gl σ m o=some r∧Qaz P C gl σ m o=some ft:=by
 have hl0:=hl
 unfold Qaz at hf
 rw[hl0]at hf
 cases ho:o.op with
 | load t y =>
  have hy:opd ρ y=opd σ y:=by unfold Agree at h;simp only[ho,Op.operands]at h;exact h y (by simp)
  unfold Qal at hl
  simp only[ho]at hl hf
  have key:Qal P C gl σ m o=some r:=by
   unfold Qal
   simp only[ho,←hy]
   split at hl
   ·rename_i s g off hp
    obtain⟨v,u⟩:=r
    cases u with
    | none =>
     simp only[hp,Option.some.injEq]at hf
     subst hf
     have:l s=m s:=hm s (by simp)
     simp only[hp,←this]
     exact hl
    | some q =>
     exfalso
     split at hl
     ·rename_i g' frz cs _
      generalize Nat.beq g g'=b at hl
      cases b with
      | false=>simp at hl
      | true=>simp at hl
     ·simp at hl
   ·rename_i cs hp
    first | exact hl | (trace_state;simp only[hp];exact hl)
   ·simp at hl
  refine⟨key,?_⟩
  unfold Qaz
  rw[key]
  simp only[ho,←hy]
  exact hf
 | store t y z =>
  have hy:opd ρ y=opd σ y:=by unfold Agree at h;simp only[ho,Op.operands]at h;exact h y (by simp)
  have hz:opd ρ z=opd σ z:=by unfold Agree at h;simp only[ho,Op.operands]at h;exact h z (by simp)
  unfold Qal at hl
  simp only[ho]at hl hf
  have key:Qal P C gl σ m o=some r:=by
   unfold Qal
   simp only[ho,←hy,←hz]
   split at hl
   ·rename_i s g off hp
    split at hl
    ·rename_i g' cs hls
     generalize hb:(Nat.beq g g'&&(opd ρ z).cells.all V.Qaw&&QaR P t (opd ρ z).cells.length)=b at hl
     cases b with
     | false=>simp at hl
     | true =>
      simp only[cond_true]at hl
      split at hl
      ·rename_i cs' hset
       simp only[Option.some.injEq]at hl
       subst hl
       simp only[Option.some.injEq]at hf
       subst hf
       have:l s=m s:=hm s (by simp)
       simp only[hp,←this,hls,hb,cond_true,hset]
      ·simp at hl
    ·simp at hl
   ·simp at hl
  refine⟨key,?_⟩
  unfold Qaz
  rw[key]
  simp only[ho]
  obtain⟨v,u⟩:=r
  cases u with
  | none=>exact hf
  | some q=>exact hf
 | alloc t =>
  unfold Qal at hl
  simp only[ho]at hl hf
  have key:Qal P C gl σ m o=some r:=by
   unfold Qal
   simp only[ho]
   split at hl
   ·simp at hl
   ·rename_i d hd
    cases hg:gl d with
    | true=>simp[hg]at hl
    | false =>
     simp only[hg,cond_false]at hl
     split at hl
     ·rename_i z n hz hn
      generalize hb:(z.live&&Nat.beq z.cells.length n)=b at hl
      cases b with
      | false=>simp at hl
      | true =>
       simp only[cond_true,Option.some.injEq]at hl
       subst hl
       simp only[Option.some.injEq]at hf
       subst hf
       have:l d=m d:=hm d (by simp)
       simp only[hd,hg,cond_false,hz,hn,hb,cond_true,←this]
     ·simp at hl
  refine⟨key,?_⟩
  unfold Qaz
  rw[key]
  simp only[ho]
  exact hf
 | box t y =>
  have hy:opd ρ y=opd σ y:=by unfold Agree at h;simp only[ho,Op.operands]at h;exact h y (by simp)
  unfold Qal at hl
  simp only[ho]at hl hf
  have key:Qal P C gl σ m o=some r:=by
   unfold Qal
   simp only[ho,←hy]
   cases hA:C.QaN t with
   | true=>rw[hA]at hl;exact hl
   | false =>
   rw[hA]at hl
   simp only[cond_false]at hl ⊢
   split at hl
   ·simp at hl
   ·rename_i d hd
    generalize hg:(gl d || !(opd ρ y).live)=q at hl
    cases q with
    | true=>simp at hl
    | false =>
     simp only[cond_false,Option.some.injEq]at hl
     subst hl
     simp only[Option.some.injEq]at hf
     subst hf
     have:l d=m d:=hm d (by simp)
     simp only[hd,hg,cond_false,←this]
  refine⟨key,?_⟩
  unfold Qaz
  rw[key]
  simp only[ho]
  rw[←hy]
  exact hf
 | range t y =>
  have hy:opd ρ y=opd σ y:=by unfold Agree at h;simp only[ho,Op.operands]at h;exact h y (by simp)
  unfold Qal at hl
  simp only[ho]at hl hf
  have key:Qal P C gl σ m o=some r:=by
   unfold Qal
   simp only[ho,←hy]
   split at hl
   ·rename_i s d hu hs hd
    cases hg:gl d with
    | true=>simp[hg]at hl
    | false =>
     simp only[hg,cond_false,Option.some.injEq]at hl
     subst hl
     simp only[Option.some.injEq]at hf
     subst hf
     have:l d=m d:=hm d (by simp)
     simp only[hu,hs,hd,hg,cond_false,←this]
   ·simp at hl
  refine⟨key,?_⟩
  unfold Qaz
  rw[key]
  simp only[ho]
  exact hf
 | _ =>
  have hp:=qbz (P:=P) (C:=C) h
  unfold Qal at hl
  simp only[ho]at hl hf hp
  have key:Qal P C gl σ m o=some r:=by
   unfold Qal
   simp only[ho,←hp]
   exact hl
  refine⟨key,?_⟩
  unfold Qaz
  rw[key]
  simp only[ho]
  obtain⟨v,u⟩:=r
  cases u with
  | none=>exact hf
  | some q=>exact hf
end
section
variable {P:Program}{C:Cfg}{gl:Nat→Bool}
theorem qhR{v v':V}{st st':St}(hq:quiet1 v=true)(he:exp1 false st v=some (v',st')):st'=st∧∀ st2,exp1 false st2 v=some (v',st2):=by
 cases v with
 | arr r off len lim sz ag =>
  cases r with
  | loc s g=>simp[quiet1]at hq
  | glob r =>
   simp[exp1,Qa3]at he
   obtain⟨rfl,rfl⟩:=he
   exact⟨rfl,fun st2=>by simp[exp1,Qa3]⟩
 | slice tok f sz l =>
  simp only[exp1]at he ⊢
  split at he
  ·simp at he;obtain⟨rfl,rfl⟩:=he;exact⟨rfl,fun st2=>by simp⟩
  ·simp at he;obtain⟨rfl,rfl⟩:=he;exact⟨rfl,fun st2=>rfl⟩
 | _ =>
  simp only[exp1]at he ⊢
  generalize hb:(V.live _&&V.Qap _)=b at he
  cases b with
  | false=>simp at he
  | true =>
   simp only[cond_true,Option.some.injEq,Prod.mk.injEq]at he
   obtain⟨rfl,rfl⟩:=he
   exact⟨rfl,fun st2=>by simp[hb]⟩
theorem qhP:∀ (vs vs':List V)(st st':St),vs.all quiet1=true→Qcm false st vs=some (vs',st')→st'=st∧∀ st2,Qcm false st2 vs=some (vs',st2)
 | [],vs',st,st',_,he=>by simp[Qcm]at he;obtain⟨rfl,rfl⟩:=he;exact⟨rfl,fun st2=>rfl⟩
 | v::vs,vs',st,st',hq,he=>by
  simp only[List.all_cons,Bool.and_eq_true]at hq
  simp only[Qcm]at he
  split at he
  ·simp at he
  ·rename_i v1 st1 he1
   split at he
   ·simp at he
   ·rename_i l2 st2 he2
    simp at he
    obtain⟨rfl,rfl⟩:=he
    obtain⟨rfl,k1⟩:=qhR hq.1 he1
    obtain⟨rfl,k2⟩:=qhP vs l2 _ _ hq.2 he2
    exact⟨rfl,fun st2=>by simp only[Qcm,k1 st2,k2 st2]⟩
theorem qeK{v v':V}{st st':St}(hq:quiet v=true)(he:exp false st v=some (v',st')):st'=st∧∀ st2,exp false st2 v=some (v',st2):=by
 cases v with
 | agg cs =>
  simp only[exp,Option.map_eq_some_iff]at he
  obtain⟨⟨l,s⟩,h1,h2⟩:=he
  simp at h2
  obtain⟨rfl,rfl⟩:=h2
  obtain⟨k1,k2⟩:=qhP cs l st _ hq h1
  exact⟨k1,fun st2=>by simp only[exp,k2 st2,Option.map_some]⟩
 | _=>simp only[exp]at he ⊢;exact qhR hq he
theorem qfl:∀ (vs vs':List V)(st st':St),vs.all quiet=true→exps false st vs=some (vs',st')→st'=st∧∀ st2,exps false st2 vs=some (vs',st2)
 | [],vs',st,st',_,he=>by simp[exps]at he;obtain⟨rfl,rfl⟩:=he;exact⟨rfl,fun st2=>rfl⟩
 | v::vs,vs',st,st',hq,he=>by
  simp only[List.all_cons,Bool.and_eq_true]at hq
  simp only[exps]at he
  split at he
  ·simp at he
  ·rename_i v1 st1 he1
   split at he
   ·simp at he
   ·rename_i l2 st2 he2
    simp at he
    obtain⟨rfl,rfl⟩:=he
    obtain⟨rfl,k1⟩:=qeK hq.1 he1
    obtain⟨rfl,k2⟩:=qfl vs l2 _ _ hq.2 he2
    exact⟨rfl,fun st2=>by simp only[exps,k1 st2,k2 st2]⟩
structure Eff where
 v:V
 row:List (Nat × Nat × Row)
 hp:Option Hp
def QaQ(st:St):List (Nat × Nat × Row)→St
 | []=>st
 | u::l=>QaQ (Qa4 st (some u)) l
theorem qnj(st:St)(l:List (Nat × Nat × Row)):(QaQ st l).tm=st.tm:=by
 induction l generalizing st with
 | nil=>rfl
 | cons u l ih=>simp only[QaQ];rw[ih];obtain⟨s,g,row⟩:=u;rfl
theorem qdY(st:St)(l:List (Nat × Nat × Row)):(QaQ st l).hp=st.hp:=by
 induction l generalizing st with
 | nil=>rfl
 | cons u l ih=>simp only[QaQ];rw[ih];obtain⟨s,g,row⟩:=u;rfl
def Eff.on(e:Eff)(st:St)(d:Option Nat):St:=QaF { QaQ st e.row with hp:=e.hp.getD st.hp } d e.v
theorem qeA{st st2:St}{y:V}{b:List Nat}(hb:Qbg y=some b)(h:∀ s ∈ b,st.lc s=st2.lc s):Qag st2 y=Qag st y:=by
 cases y with
 | arr r off len lim sz ag =>
  cases r with
  | loc s g =>
   simp[Qbg]at hb
   subst hb
   have hs:=h s (by simp)
   simp only[Qag,Qab,←hs]
  | glob r=>simp[Qbg]at hb
 | _=>rfl
theorem qbT{st:St}{d len sz:Nat}{cs:List V}{ag:Bool}{r:Res}(hd:gl d=false)(h:Qay gl st d cs len sz ag=some r) :
  ∃ v row,r=.val v (QaQ st [row])∧row.1=d∧∀ st2:St,st.lc d=st2.lc d→Qay gl st2 d cs len sz ag=some (.val v (QaQ st2 [row])):=by
 simp only[Qay,hd,Bool.false_and,cond_false,Qaa,Option.some.injEq]at h
 subst h
 refine⟨_,(d,(st.lc d).1+1,.cells false cs),rfl,rfl,fun st2 hl=>?_⟩
 simp only[Qay,hd,Bool.false_and,cond_false,Qaa,←hl]
 rfl
theorem qcE{st:St}{d sz:Nat}{l:List V}{r:Res}(hd:gl d=false)(h:QaG gl st d sz l=some r) :
  ∃ v row,r=.val v (QaQ st [row])∧row.1=d∧∀ st2:St,st.lc d=st2.lc d→QaG gl st2 d sz l=some (.val v (QaQ st2 [row])):=by
 simp only[QaG,hd,Qaa,cond_false,Option.some.injEq]at h
 subst h
 refine⟨_,(d,(st.lc d).1+1,.tok),rfl,rfl,fun st2 hl=>?_⟩
 simp only[QaG,hd,Qaa,cond_false,←hl]
 rfl
theorem qeo(st:St)(s g:Nat)(row:Row)(d:Nat):(setRow st (.loc s g) row).lc d=if s=d then (g,row)else st.lc d:=qbW s (g,row) d
theorem qi1{st:St}{d:Nat}{t:TypeId}{x y:V}{a b:List Nat}{r:Res}(hd:gl d=false)(ha:Qa7 x=some a)(hb:Qbg y=some b)(h:Qai P C gl st d t x y=some r) :
  ∃ v rows,r=.val v (QaQ st rows)∧(∀ u ∈ rows,u.1 ∈ d::a) ∧
   ∀ st2:St,st.lc d=st2.lc d→(∀ s ∈ a,st.lc s=st2.lc s)→(∀ s ∈ b,st.lc s=st2.lc s)→Qai P C gl st2 d t x y=some (.val v (QaQ st2 rows)):=by
 have hi:∀ st2:St,(∀ s ∈ b,st.lc s=st2.lc s)→Qag st2 y=Qag st y:=fun st2 hlb=>qeA (st:=st) (st2:=st2) hb hlb
 unfold Qai at h
 split at h
 ·simp at h
 ·rename_i e he
  split at h
  ·rename_i sz ag bytes ys h1 h2 h3
   cases q0:(ys.all fun v=>Nat.beq v.cells.length sz&&v.cells.all V.Qaw)with
   | false=>rw[q0]at h;simp at h
   | true =>
    simp only[q0,cond_true]at h
    cases x with
    | nils =>
     simp only[]at h
     cases ys with
     | nil =>
      simp at h;subst h
      refine⟨_,[],rfl,fun u hu=>by simp at hu,fun st2 hl hla hlb=>?_⟩
      simp only[Qai,he,h1,h2,hi st2 hlb,h3,q0,cond_true,QaQ]
     | cons y0 ys =>
      simp only[]at h
      cases q1:Nat.ble ((y0::ys).length*bytes) Qaj with
      | false=>rw[q1]at h;simp at h
      | true =>
       simp only[q1,cond_true]at h
       cases q2:C.QaN t with
       | true =>
        simp only[q2,cond_true]at h
        obtain⟨v,row,k1,k2,k3⟩:=qbT hd h
        refine⟨v,[row],k1,fun u hu=>by simp at hu;subst hu;simp[k2],fun st2 hl hla hlb=>?_⟩
        simp only[Qai,he,h1,h2,hi st2 hlb,h3,q0,q1,q2,cond_true,k3 st2 hl]
       | false =>
        simp only[q2,cond_false]at h
        cases q3:V.Qaf (y0::ys)with
        | false=>rw[q3]at h;simp at h
        | true =>
         simp only[q3,cond_true]at h
         obtain⟨v,row,k1,k2,k3⟩:=qcE hd h
         refine⟨v,[row],k1,fun u hu=>by simp at hu;subst hu;simp[k2],fun st2 hl hla hlb=>?_⟩
         simp only[Qai,he,h1,h2,hi st2 hlb,h3,q0,q1,q2,q3,cond_true,cond_false,k3 st2 hl]
    | slice tok full sz' l =>
     simp only[]at h
     cases q1:Nat.beq sz sz' with
     | false=>rw[q1]at h;simp at h
     | true =>
      simp only[q1,cond_true]at h
      cases ys with
      | nil =>
       simp at h;subst h
       refine⟨_,[],rfl,fun u hu=>by simp at hu,fun st2 hl hla hlb=>?_⟩
       simp only[Qai,he,h1,h2,hi st2 hlb,h3,q0,q1,cond_true,QaQ]
      | cons y0 ys =>
       simp only[]at h
       cases q2:Nat.ble ((l.length+(y0::ys).length)*bytes) Qaj with
       | false=>rw[q2]at h;simp at h
       | true =>
        simp only[q2,cond_true]at h
        cases q3:C.QaN t with
        | true =>
         simp only[q3,cond_true]at h
         cases full with
         | false=>simp at h
         | true =>
          simp only[cond_true]at h
          obtain⟨v,row,k1,k2,k3⟩:=qbT hd h
          refine⟨v,[row],k1,fun u hu=>by simp at hu;subst hu;simp[k2],fun st2 hl hla hlb=>?_⟩
          simp only[Qai,he,h1,h2,hi st2 hlb,h3,q0,q1,q2,q3,cond_true,k3 st2 hl]
        | false =>
         simp only[q3,cond_false]at h
         cases q4:V.Qaf (y0::ys)with
         | false=>rw[q4]at h;simp at h
         | true =>
          simp only[q4,cond_true]at h
          cases full with
          | true =>
           simp only[cond_true]at h
           obtain⟨v,row,k1,k2,k3⟩:=qcE hd h
           refine⟨v,[row],k1,fun u hu=>by simp at hu;subst hu;simp[k2],fun st2 hl hla hlb=>?_⟩
           simp only[Qai,he,h1,h2,hi st2 hlb,h3,q0,q1,q2,q3,q4,cond_true,cond_false,k3 st2 hl]
          | false =>
           simp only[cond_false]at h
           cases tok with
           | none=>simp at h
           | some r0 =>
            cases r0 with
            | glob r0=>simp[Qa7]at ha
            | loc s g =>
             simp[Qa7]at ha
             subst ha
             simp only[]at h
             split at h
             ·rename_i htok
              obtain⟨v,row,k1,k2,k3⟩:=qcE hd h
              refine⟨v,[(s,g,.gone),row],k1,fun u hu=>by
               simp at hu
               rcases hu with rfl | rfl
               ·simp
               ·simp[k2],fun st2 hl hla hlb=>?_⟩
              have hg:Qab st2 (.loc s g)=Qab st (.loc s g):=by simp only[Qab,←hla s (by simp)]
              have hl2:(setRow st (.loc s g) .gone).lc d=(setRow st2 (.loc s g) .gone).lc d:=by rw[qeo,qeo,hl]
              have k4:=k3 _ hl2
              simp only[Qai,he,h1,h2,hi st2 hlb,h3,q0,q1,q2,q3,q4,cond_true,cond_false,hg,htok,k4]
              rfl
             ·simp at h
    | arr r0 off len lim sz' ag' =>
     simp only[]at h
     cases q1:(Nat.beq sz sz'&&(ag == ag'))with
     | false=>rw[q1]at h;simp at h
     | true =>
      simp only[q1,cond_true]at h
      cases r0 with
      | glob r0=>simp[Qa7]at ha
      | loc s g =>
       simp[Qa7]at ha
       subst ha
       have hg:∀ st2:St,(∀ s' ∈ [s],st.lc s'=st2.lc s')→Qab st2 (.loc s g)=Qab st (.loc s g):=fun st2 hla=>by simp only[Qab,←hla s (by simp)]
       have Qdh:∀ {rr:Res} {row:Row} {v:V} {q:St→Option Res},rr=.val v (setRow st (.loc s g) row) →
         (∀ st2:St,(∀ s' ∈ [s],st.lc s'=st2.lc s')→(∀ s ∈ b,st.lc s=st2.lc s)→q st2=some (.val v (setRow st2 (.loc s g) row))) →
         ∃ v rows,rr=.val v (QaQ st rows)∧(∀ u ∈ rows,u.1 ∈ d::[s])∧∀ st2:St,st.lc d=st2.lc d→(∀ s' ∈ [s],st.lc s'=st2.lc s')→(∀ s ∈ b,st.lc s=st2.lc s)→q st2=some (.val v (QaQ st2 rows)):=by
        intro rr row v q h1 h3
        exact⟨v,[(s,g,row)],h1,fun u hu=>by simp at hu;subst hu;simp,fun st2 _ hla hlb=>h3 st2 hla hlb⟩
       split at h
       ·rename_i frz cs hrow
        cases q2:(Nat.ble (off+len*sz) cs.length&&Nat.ble ((len+ys.length)*bytes) Qaj)with
        | false=>rw[q2]at h;simp at h
        | true =>
         simp only[q2,cond_true]at h
         cases ys with
         | nil =>
          simp at h;subst h
          refine⟨_,[],rfl,fun u hu=>by simp at hu,fun st2 hl hla hlb=>?_⟩
          simp only[Qai,he,h1,h2,hi st2 hlb,h3,q0,q1,hg st2 hla,hrow,q2,cond_true,QaQ]
         | cons y0 ys =>
          simp only[]at h
          cases q3:(!Qa3 (Ref.loc s g) && !V.Qak (flat (y0::ys)))with
          | true=>rw[q3]at h;simp at h
          | false =>
           simp only[q3,cond_false]at h
           cases lim with
           | some c =>
            simp only[]at h
            cases q4:Nat.ble (len+(y0::ys).length) c with
            | true =>
             simp only[q4,cond_true]at h
             cases frz with
             | true=>simp at h
             | false =>
              simp only[cond_false]at h
              split at h
              ·rename_i cs' hset
               simp at h;subst h
               refine Qdh rfl (fun st2 hla hlb=>?_)
               simp only[Qai,he,h1,h2,hi st2 hlb,h3,q0,q1,hg st2 hla,hrow,q2,q3,q4,hset,cond_true,cond_false]
               rfl
              ·simp at h
            | false =>
             simp only[q4,cond_false]at h
             obtain⟨v,row,k1,k2,k3⟩:=qbT hd h
             refine⟨v,[row],k1,fun u hu=>by simp at hu;subst hu;simp[k2],fun st2 hl hla hlb=>?_⟩
             simp only[Qai,he,h1,h2,hi st2 hlb,h3,q0,q1,hg st2 hla,hrow,q2,q3,q4,cond_true,cond_false,k3 st2 hl]
           | none =>
            simp only[]at h
            cases frz with
            | true=>simp at h
            | false =>
             simp only[cond_false]at h
             cases q4:Nat.ble (off+(len+(y0::ys).length)*sz) cs.length with
             | true =>
              simp only[q4,cond_true]at h
              split at h
              ·rename_i cs' hset
               simp at h;subst h
               refine Qdh rfl (fun st2 hla hlb=>?_)
               simp only[Qai,he,h1,h2,hi st2 hlb,h3,q0,q1,hg st2 hla,hrow,q2,q3,q4,hset,cond_true,cond_false]
               rfl
              ·simp at h
             | false =>
              simp only[q4,cond_false]at h
              cases q5:(Nat.beq off 0&&Nat.beq (len*sz) cs.length)with
              | false=>rw[q5]at h;simp at h
              | true =>
               simp only[q5,cond_true]at h
               obtain⟨v,row,k1,k2,k3⟩:=qbT hd h
               refine⟨v,[(s,g,.gone),row],k1,fun u hu=>by
                simp at hu
                rcases hu with rfl | rfl
                ·simp
                ·simp[k2],fun st2 hl hla hlb=>?_⟩
               have hl2:(setRow st (.loc s g) .gone).lc d=(setRow st2 (.loc s g) .gone).lc d:=by rw[qeo,qeo,hl]
               have k4:=k3 _ hl2
               simp only[Qai,he,h1,h2,hi st2 hlb,h3,q0,q1,hg st2 hla,hrow,q2,q3,q4,q5,cond_true,cond_false,k4]
               rfl
       ·simp at h
    | _=>simp at h
  ·simp at h
theorem qcx{st:St}{d len sz:Nat}{cs:List V}{ag:Bool}{r:Res}(hd:gl d=true)(h:Qay gl st d cs len sz ag=some r) :
  ∃ v h',r=.val v { st with hp:=h' }∧∀ st2:St,st.hp=st2.hp→Qay gl st2 d cs len sz ag=some (.val v { st2 with hp:=h' }):=by
 simp only[Qay,hd,Bool.true_and]at h
 cases hq:V.Qak cs with
 | false=>simp[hq]at h
 | true =>
  simp only[hq,Bool.not_true,cond_false,Qaa,cond_true,Option.some.injEq]at h
  subst h
  refine⟨_,_,rfl,fun st2 hl=>?_⟩
  simp only[Qay,hd,Bool.true_and,hq,Bool.not_true,cond_false,Qaa,cond_true,←hl]
theorem qds{st:St}{d sz:Nat}{l:List V}{r:Res}(hd:gl d=true)(h:QaG gl st d sz l=some r) :
  ∃ v h',r=.val v { st with hp:=h' }∧∀ st2:St,st.hp=st2.hp→QaG gl st2 d sz l=some (.val v { st2 with hp:=h' }):=by
 simp only[QaG,hd,Qaa,cond_true,Option.some.injEq]at h
 subst h
 refine⟨_,_,rfl,fun st2 hl=>?_⟩
 simp only[QaG,hd,Qaa,cond_true,←hl]
theorem qk8{st st2:St}{y:V}(hm:QbF st.lc st2.lc (Qbf y))(hh:st.hp=st2.hp):Qag st2 y=Qag st y:=by
 cases y with
 | arr r off len lim sz ag =>
  cases r with
  | loc s g =>
   have hs:=hm s (by simp[Qbf])
   simp only[Qag,Qab,←hs]
  | glob r=>simp only[Qag,Qab,hh]
 | _=>rfl
theorem qlI{st:St}{d:Nat}{t:TypeId}{x y:V}{r:Res}(hd:gl d=true)(hx:Qdy x=true)(h:Qai P C gl st d t x y=some r) :
  ∃ v h',r=.val v { st with hp:=h' }∧∀ st2:St,QbF st.lc st2.lc (Qbf y)→st.hp=st2.hp→Qai P C gl st2 d t x y=some (.val v { st2 with hp:=h' }):=by
 have hi:∀ st2:St,QbF st.lc st2.lc (Qbf y)→st.hp=st2.hp→Qag st2 y=Qag st y:=fun st2 hm hh=>qk8 hm hh
 unfold Qai at h
 split at h
 ·simp at h
 ·rename_i e he
  split at h
  ·rename_i sz ag bytes ys h1 h2 h3
   cases q0:(ys.all fun v=>Nat.beq v.cells.length sz&&v.cells.all V.Qaw)with
   | false=>rw[q0]at h;simp at h
   | true =>
    simp only[q0,cond_true]at h
    cases x with
    | nils =>
     simp only[]at h
     cases ys with
     | nil =>
      simp at h;subst h
      refine⟨_,st.hp,rfl,fun st2 hm hh=>?_⟩
      simp only[Qai,he,h1,h2,hi st2 hm hh,h3,q0,cond_true,hh]
     | cons y0 ys =>
      simp only[]at h
      cases q1:Nat.ble ((y0::ys).length*bytes) Qaj with
      | false=>rw[q1]at h;simp at h
      | true =>
       simp only[q1,cond_true]at h
       cases q2:C.QaN t with
       | true =>
        simp only[q2,cond_true]at h
        obtain⟨v,h',k1,k3⟩:=qcx hd h
        refine⟨v,h',k1,fun st2 hm hh=>?_⟩
        simp only[Qai,he,h1,h2,hi st2 hm hh,h3,q0,q1,q2,cond_true,k3 st2 hh]
       | false =>
        simp only[q2,cond_false]at h
        cases q3:V.Qaf (y0::ys)with
        | false=>rw[q3]at h;simp at h
        | true =>
         simp only[q3,cond_true]at h
         obtain⟨v,h',k1,k3⟩:=qds hd h
         refine⟨v,h',k1,fun st2 hm hh=>?_⟩
         simp only[Qai,he,h1,h2,hi st2 hm hh,h3,q0,q1,q2,q3,cond_true,cond_false,k3 st2 hh]
    | slice tok full sz' l =>
     simp only[]at h
     cases q1:Nat.beq sz sz' with
     | false=>rw[q1]at h;simp at h
     | true =>
      simp only[q1,cond_true]at h
      cases ys with
      | nil =>
       simp at h;subst h
       refine⟨_,st.hp,rfl,fun st2 hm hh=>?_⟩
       simp only[Qai,he,h1,h2,hi st2 hm hh,h3,q0,q1,cond_true,hh]
      | cons y0 ys =>
       simp only[]at h
       cases q2:Nat.ble ((l.length+(y0::ys).length)*bytes) Qaj with
       | false=>rw[q2]at h;simp at h
       | true =>
        simp only[q2,cond_true]at h
        cases q3:C.QaN t with
        | true =>
         simp only[q3,cond_true]at h
         cases full with
         | false=>simp at h
         | true =>
          simp only[cond_true]at h
          obtain⟨v,h',k1,k3⟩:=qcx hd h
          refine⟨v,h',k1,fun st2 hm hh=>?_⟩
          simp only[Qai,he,h1,h2,hi st2 hm hh,h3,q0,q1,q2,q3,cond_true,k3 st2 hh]
        | false =>
         simp only[q3,cond_false]at h
         cases q4:V.Qaf (y0::ys)with
         | false=>rw[q4]at h;simp at h
         | true =>
          simp only[q4,cond_true]at h
          cases full with
          | true =>
           simp only[cond_true]at h
           obtain⟨v,h',k1,k3⟩:=qds hd h
           refine⟨v,h',k1,fun st2 hm hh=>?_⟩
           simp only[Qai,he,h1,h2,hi st2 hm hh,h3,q0,q1,q2,q3,q4,cond_true,cond_false,k3 st2 hh]
          | false =>
           simp only[cond_false]at h
           cases tok with
           | none=>simp at h
           | some r0 =>
            cases r0 with
            | loc s g=>simp[Qdy]at hx
            | glob r0 =>
             simp only[]at h
             split at h
             ·rename_i htok
              obtain⟨v,h',k1,k3⟩:=qds hd h
              refine⟨v,h',k1,fun st2 hm hh=>?_⟩
              have hg:Qab st2 (.glob r0)=Qab st (.glob r0):=by simp only[Qab,hh]
              have k4:=k3 (setRow st2 (.glob r0) .gone) (by simp only[setRow,hh])
              simp only[Qai,he,h1,h2,hi st2 hm hh,h3,q0,q1,q2,q3,q4,cond_true,cond_false,hg,htok,k4]
              rfl
             ·simp at h
    | arr r0 off len lim sz' ag' =>
     simp only[]at h
     cases q1:(Nat.beq sz sz'&&(ag == ag'))with
     | false=>rw[q1]at h;simp at h
     | true =>
      simp only[q1,cond_true]at h
      cases r0 with
      | loc s g=>simp[Qdy]at hx
      | glob r0 =>
       have hg:∀ st2:St,st.hp=st2.hp→Qab st2 (.glob r0)=Qab st (.glob r0):=fun st2 hh=>by simp only[Qab,hh]
       have Qdh:∀ {rr:Res} {row:Row} {v:V} {q:St→Option Res},rr=.val v (setRow st (.glob r0) row) →
         (∀ st2:St,QbF st.lc st2.lc (Qbf y)→st.hp=st2.hp→q st2=some (.val v (setRow st2 (.glob r0) row))) →
         ∃ v h',rr=.val v { st with hp:=h' }∧∀ st2:St,QbF st.lc st2.lc (Qbf y)→st.hp=st2.hp→q st2=some (.val v { st2 with hp:=h' }):=by
        intro rr row v q h1 h3
        refine⟨v,(setRow st (.glob r0) row).hp,h1,fun st2 hm hh=>?_⟩
        rw[h3 st2 hm hh]
        simp only[setRow,hh]
       split at h
       ·rename_i frz cs hrow
        cases q2:(Nat.ble (off+len*sz) cs.length&&Nat.ble ((len+ys.length)*bytes) Qaj)with
        | false=>rw[q2]at h;simp at h
        | true =>
         simp only[q2,cond_true]at h
         cases ys with
         | nil =>
          simp at h;subst h
          refine⟨_,st.hp,rfl,fun st2 hm hh=>?_⟩
          simp only[Qai,he,h1,h2,hi st2 hm hh,h3,q0,q1,hg st2 hh,hrow,q2,cond_true,hh]
         | cons y0 ys =>
          simp only[]at h
          cases q3:(!Qa3 (Ref.glob r0) && !V.Qak (flat (y0::ys)))with
          | true=>rw[q3]at h;simp at h
          | false =>
           simp only[q3,cond_false]at h
           cases lim with
           | some c =>
            simp only[]at h
            cases q4:Nat.ble (len+(y0::ys).length) c with
            | true =>
             simp only[q4,cond_true]at h
             cases frz with
             | true=>simp at h
             | false =>
              simp only[cond_false]at h
              split at h
              ·rename_i cs' hset
               simp at h;subst h
               refine Qdh rfl (fun st2 hm hh=>?_)
               simp only[Qai,he,h1,h2,hi st2 hm hh,h3,q0,q1,hg st2 hh,hrow,q2,q3,q4,hset,cond_true,cond_false]
               rfl
              ·simp at h
            | false =>
             simp only[q4,cond_false]at h
             obtain⟨v,h',k1,k3⟩:=qcx hd h
             refine⟨v,h',k1,fun st2 hm hh=>?_⟩
             simp only[Qai,he,h1,h2,hi st2 hm hh,h3,q0,q1,hg st2 hh,hrow,q2,q3,q4,cond_true,cond_false,k3 st2 hh]
           | none =>
            simp only[]at h
            cases frz with
            | true=>simp at h
            | false =>
             simp only[cond_false]at h
             cases q4:Nat.ble (off+(len+(y0::ys).length)*sz) cs.length with
             | true =>
              simp only[q4,cond_true]at h
              split at h
              ·rename_i cs' hset
               simp at h;subst h
               refine Qdh rfl (fun st2 hm hh=>?_)
               simp only[Qai,he,h1,h2,hi st2 hm hh,h3,q0,q1,hg st2 hh,hrow,q2,q3,q4,hset,cond_true,cond_false]
               rfl
              ·simp at h
             | false =>
              simp only[q4,cond_false]at h
              cases q5:(Nat.beq off 0&&Nat.beq (len*sz) cs.length)with
              | false=>rw[q5]at h;simp at h
              | true =>
               simp only[q5,cond_true]at h
               obtain⟨v,h',k1,k3⟩:=qcx hd h
               refine⟨v,h',k1,fun st2 hm hh=>?_⟩
               have k4:=k3 (setRow st2 (.glob r0) .gone) (by simp only[setRow,hh])
               simp only[Qai,he,h1,h2,hi st2 hm hh,h3,q0,q1,hg st2 hh,hrow,q2,q3,q4,q5,cond_true,cond_false,k4]
               rfl
       ·simp at h
    | _=>simp at h
  ·simp at h
theorem qem{α:Type}{b:Bool}{x:Option α}{r:α}(h:(bif b then x else none)=some r):x=some r:=by
 cases b with
 | false=>simp at h
 | true=>simpa using h
theorem qhE{st:St}{t:TypeId}{x k v:V}{res:Res}(hq:quiet v=true)(h:Qcu P t st x k v=some res) :
  ∃ h',res=.val (.tuple []) { st with hp:=h' }∧∀ st2:St,st.hp=st2.hp→Qcu P t st2 x k v=some (.val (.tuple []) { st2 with hp:=h' }):=by
 unfold Qcu at h
 split at h
 ·rename_i r v' st1 hexp
  obtain⟨rfl,hex2⟩:=qeK hq hexp
  split at h
  ·rename_i ks vs kt et hrow hu
   have hb:=h
   cases hf:Qbc P kt k with
   | false=>simp[hf]at h
   | true =>
    simp only[hf,cond_true]at h
    split at h
    ·rename_i j hfind
     simp only[Option.some.injEq]at h
     subst h
     refine⟨_,rfl,fun st2 hh=>?_⟩
     unfold Qcu
     rw[hex2 st2]
     simp only[←hh,hrow,hu,hf,cond_true,hfind]
     simp only[setRow,←hh]
    ·rename_i hfind
     simp only[Option.some.injEq]at h
     subst h
     refine⟨_,rfl,fun st2 hh=>?_⟩
     unfold Qcu
     rw[hex2 st2]
     simp only[←hh,hrow,hu,hf,cond_true,hfind]
     simp only[setRow,←hh]
    ·simp at h
  ·simp at h
 ·simp at h
theorem qmA{call:Qad}{st st':St}{o:Oper}{ft:Foot}(hf:Qaz P C gl st.ρ st.lc o=some ft){ex:Ex}(hr:QaA P C call gl st o=some (ex,st'))(hex:ex=.normal) :
  ∃ e:Eff,st'=e.on st o.dst∧(∀ u ∈ e.row,u.1 ∈ ft.wr)∧(∀ h,e.hp=some h→ft.hp=true) ∧
   ∀ st2:St,Agree st.ρ st2.ρ o→QbF st.lc st2.lc ft.rd→(ft.hr=true→st.hp=st2.hp)→QaA P C call gl st2 o=some (.normal,e.on st2 o.dst)∧Qaz P C gl st2.ρ st2.lc o=some ft:=by
 subst hex
 cases hl:Qal P C gl st.ρ st.lc o with
 | some p =>
  obtain⟨v,u⟩:=p
  have e0:st'=Eff.on ⟨v,u.toList,none⟩ st o.dst:=by
   simp only[QaA,Qah,hl]at hr
   simp at hr
   rw[←hr]
   unfold Eff.on
   cases u with
   | none=>rfl
   | some q=>rfl
  have hft:∀ q ∈ u.toList,q.1 ∈ ft.wr:=by
   unfold Qaz at hf
   rw[hl]at hf
   cases u with
   | none=>intro q hq;simp at hq
   | some q =>
    obtain⟨s,g,row⟩:=q
    simp only[Option.some.injEq]at hf
    subst hf
    intro q hq
    simp at hq
    subst hq
    simp
  refine⟨⟨v,u.toList,none⟩,e0,hft,fun h hh=>by simp at hh,fun st2 ha hm _=>?_⟩
  obtain⟨k1,k2⟩:=qmI ha hl hf hm
  refine⟨?_,k2⟩
  simp only[QaA,Qah,k1]
  unfold Eff.on
  cases u with
  | none=>rfl
  | some q=>rfl
 | none =>
  unfold Qaz at hf
  rw[hl]at hf
  simp only[]at hf
  split at hf
  ·rename_i cl ho
   split at hf
   ·rename_i f hcal
    split at hf
    ·rename_i g first caps hfn
     generalize hq:(first.all quiet&&(opds st.ρ cl.args.toList).all quiet&&caps.all quiet)=q at hf
     cases q with
     | false=>simp at hf
     | true =>
      simp only[cond_true,Option.some.injEq]at hf
      subst hf
      simp only[Bool.and_eq_true]at hq
      have hall:(first++opds st.ρ cl.args.toList++caps).all quiet=true:=by
       simp only[List.all_append,Bool.and_eq_true];exact hq
      have hpure:Qam P C st.ρ o.op=none:=by
       unfold Qal at hl
       simp only[ho,Option.map_eq_none_iff]at hl
       rw[ho];exact hl
      cases hexp:exps false st (first++opds st.ρ cl.args.toList++caps)with
      | none=>simp only[QaA,Qah,hl,stepG,ho,QaP,hcal,hfn,hexp]at hr;simp at hr
      | some p =>
       obtain⟨l,st1⟩:=p
       obtain⟨rfl,hex2⟩:=qfl _ l st st1 hall hexp
       cases hc:call g l st1.hp with
       | none=>simp only[QaA,Qah,hl,stepG,ho,QaP,hcal,hfn,hexp,hc]at hr;simp at hr
       | some out =>
        cases out with
        | panic v h=>simp only[QaA,Qah,hl,stepG,ho,QaP,hcal,hfn,hexp,hc]at hr;simp at hr
        | val v h =>
         simp only[QaA,Qah,hl,stepG,ho,QaP,hcal,hfn,hexp,hc]at hr
         simp at hr
         refine⟨⟨v,[],some h⟩,hr.symm,fun u hu=>by simp at hu,fun _ _=>rfl,fun st2 ha _ hh=>?_⟩
         have hfo:opd st2.ρ f=.fn (.func g) first caps:=by
          rw[←hfn]
          refine(ha f ?_).symm
          simp[ho,Op.operands,Call.operands,hcal]
         have hargs:opds st2.ρ cl.args.toList=opds st1.ρ cl.args.toList:=by
          refine(List.map_congr_left (fun x hx=>?_)).symm
          refine ha x ?_
          simp only[ho,Op.operands,Call.operands,Array.toList_append,List.mem_append]
          exact .inr hx
         have hl2:Qal P C gl st2.ρ st2.lc o=none:=by
          unfold Qal
          simp only[ho,Option.map_eq_none_iff]
          have:=qbz (P:=P) (C:=C) ha
          rw[←ho,←this];exact hpure
         have hex3:=hex2 st2
         have hhp:=hh rfl
         refine⟨?_,?_⟩
         ·simp only[QaA,Qah,hl2,stepG,ho,QaP,hcal,hfo,hargs,hex3,←hhp,hc]
          rfl
         ·unfold Qaz
          rw[hl2]
          simp only[ho,hcal,hfo,hargs]
          rw[hq.1.1,hq.1.2,hq.2];rfl
    ·simp at hf
   ·rename_i hcal
    unfold Qa5 at hf
    split at hf
    ·rename_i d x y hd hargs
     cases hgl:gl d with
     | true =>
      simp only[hgl,cond_true]at hf
      cases hfx:Qdy (opd st.ρ x)with
      | false=>simp[hfx]at hf
      | true =>
       simp only[hfx,cond_true,Option.some.injEq]at hf
       subst hf
       have hpure:Qam P C st.ρ o.op=none:=by
        unfold Qal at hl
        simp only[ho,Option.map_eq_none_iff]at hl
        rw[ho];exact hl
       simp only[QaA,Qah,hl]at hr
       cases hsg:stepG P C gl st o with
       | none=>rw[hsg]at hr;simp at hr
       | some res =>
        have hsg0:=hsg
        simp only[stepG,ho,QaP,hcal,hd,opds,hargs,List.map_cons,List.map_nil]at hsg
        split at hsg
        ·rename_i t d' h0 hd'
         simp at hd'
         subst hd'
         generalize hni:Qbv P cl.argTypes[1]? = q at hsg
         cases q with
         | false=>simp at hsg
         | true =>
          simp only[cond_true]at hsg
          have key:∀ st2:St,Agree st.ρ st2.ρ o→opd st2.ρ x=opd st.ρ x∧opd st2.ρ y=opd st.ρ y:=by
           intro st2 ha
           refine⟨(ha x ?_).symm,(ha y ?_).symm⟩
           ·simp only[ho,Op.operands,Call.operands,Array.toList_append,List.mem_append]
            right;rw[hargs];simp
           ·simp only[ho,Op.operands,Call.operands,Array.toList_append,List.mem_append]
            right;rw[hargs];simp
          obtain⟨v,h',k1,e3⟩:=qlI hgl hfx hsg
          subst k1
          rw[hsg0]at hr
          simp at hr
          refine⟨⟨v,[],some h'⟩,hr.symm,fun u hu=>by simp at hu,fun _ _=>rfl,fun st2 ha hm hh=>?_⟩
          obtain⟨hx2,hy2⟩:=key st2 ha
          have hhp:=hh rfl
          have hl2:Qal P C gl st2.ρ st2.lc o=none:=by
           unfold Qal
           simp only[ho,Option.map_eq_none_iff]
           have:=qbz (P:=P) (C:=C) ha
           rw[←ho,←this];exact hpure
          refine⟨?_,?_⟩
          ·simp only[QaA,Qah,hl2,stepG,ho,QaP,hcal,hd,opds,hargs,List.map_cons,List.map_nil,h0,hni,cond_true,hx2,hy2,e3 st2 hm hhp]
           rfl
          ·unfold Qaz
           rw[hl2]
           simp only[ho,hcal,Qa5,hd,hargs,hx2,hy2,hgl,hfx,cond_true]
        ·rename_i hd';simp at hd'
        ·simp at hsg
     | false =>
      simp only[hgl,cond_false]at hf
      split at hf
      ·rename_i sa sb hsa hsb
       simp only[Option.some.injEq]at hf
       subst hf
       have hpure:Qam P C st.ρ o.op=none:=by
        unfold Qal at hl
        simp only[ho,Option.map_eq_none_iff]at hl
        rw[ho];exact hl
       simp only[QaA,Qah,hl]at hr
       cases hsg:stepG P C gl st o with
       | none=>rw[hsg]at hr;simp at hr
       | some res =>
        have hsg0:=hsg
        simp only[stepG,ho,QaP,hcal,hd,opds,hargs,List.map_cons,List.map_nil]at hsg
        split at hsg
        ·rename_i t d' h0 hd'
         simp at hd'
         subst hd'
         generalize hni:Qbv P cl.argTypes[1]? = q at hsg
         cases q with
         | false=>simp at hsg
         | true =>
          simp only[cond_true]at hsg
          have key:∀ st2:St,Agree st.ρ st2.ρ o→QbF st.lc st2.lc (d::(sa++sb))→opd st2.ρ x=opd st.ρ x∧opd st2.ρ y=opd st.ρ y∧st.lc d=st2.lc d∧(∀ s ∈ sa,st.lc s=st2.lc s)∧(∀ s ∈ sb,st.lc s=st2.lc s):=by
           intro st2 ha hm
           refine⟨(ha x ?_).symm,(ha y ?_).symm,hm d (by simp),fun s hs=>hm s (by simp[hs]),fun s hs=>hm s (by simp[hs])⟩
           ·simp only[ho,Op.operands,Call.operands,Array.toList_append,List.mem_append]
            right;rw[hargs];simp
           ·simp only[ho,Op.operands,Call.operands,Array.toList_append,List.mem_append]
            right;rw[hargs];simp
          obtain⟨v,rows,k1,k2,e3⟩:=qi1 hgl hsa hsb hsg
          subst k1
          rw[hsg0]at hr
          simp at hr
          refine⟨⟨v,rows,none⟩,?_,k2,fun h hh=>by simp at hh,fun st2 ha hm _=>?_⟩
          ·rw[←hr]
           unfold Eff.on
           simp only[Option.getD_none,qdY]
           rw[←qdY st rows]
          ·obtain⟨hx2,hy2,h2d,h2a,h2b⟩:=key st2 ha hm
           have hl2:Qal P C gl st2.ρ st2.lc o=none:=by
            unfold Qal
            simp only[ho,Option.map_eq_none_iff]
            have:=qbz (P:=P) (C:=C) ha
            rw[←ho,←this];exact hpure
           refine⟨?_,?_⟩
           ·simp only[QaA,Qah,hl2,stepG,ho,QaP,hcal,hd,opds,hargs,List.map_cons,List.map_nil,h0,hni,cond_true,hx2,hy2,e3 st2 h2d h2a h2b]
            unfold Eff.on
            simp only[Option.getD_none,qdY]
            rw[←qdY st2 rows]
           ·unfold Qaz
            rw[hl2]
            simp only[ho,hcal,Qa5,hd,hargs,hx2,hy2,hsa,hsb,hgl,cond_false]
        ·rename_i hd';simp at hd'
        ·simp at hsg
      ·simp at hf
    ·simp at hf
   ·simp at hf
  ·rename_i t x ho
   split at hf
   ·rename_i r off hx
    simp only[Option.some.injEq]at hf
    subst hf
    cases hrow:st.hp.rows[r]? with
    | none=>simp only[QaA,Qah,hl,stepG,ho,hx,hrow]at hr;simp at hr
    | some row =>
     cases row with
     | cells frz cs =>
      cases hp:QaV P t cs off with
      | none=>simp only[QaA,Qah,hl,stepG,ho,hx,hrow,hp]at hr;simp at hr
      | some v =>
       simp only[QaA,Qah,hl,stepG,ho,hx,hrow,hp,Option.map_some]at hr
       simp at hr
       refine⟨⟨v,[],none⟩,hr.symm,fun u hu=>by simp at hu,fun h hh=>by simp at hh,fun st2 ha _ hh=>?_⟩
       have hx2:opd st2.ρ x=.ptr (.glob r) off:=by rw[←hx];exact(ha x (by simp[ho,Op.operands])).symm
       have hhp:=hh rfl
       have hl2:Qal P C gl st2.ρ st2.lc o=none:=by unfold Qal;simp only[ho,hx2]
       refine⟨?_,?_⟩
       ·simp only[QaA,Qah,hl2,stepG,ho,hx2,←hhp,hrow,hp,Option.map_some]
        rfl
       ·unfold Qaz
        rw[hl2]
        simp only[ho,hx2]
     | _=>simp only[QaA,Qah,hl,stepG,ho,hx,hrow]at hr;simp at hr
   ·simp at hf
  ·rename_i t y x ho
   split at hf
   ·rename_i r off hy
    cases hq:quiet (opd st.ρ x)with
    | false=>simp[hq]at hf
    | true =>
     simp only[hq,cond_true,Option.some.injEq]at hf
     subst hf
     have fin:∀ cs cs' v,st.hp.rows[r]? = some (.cells false cs)→exp false st (opd st.ρ x)=some (v,st)→(v.cells.all V.Qaw&&QaR P t v.cells.length)=true→setAt cs off v.cells=some cs' →
       ∀ st2:St,opd st2.ρ y=.ptr (.glob r) off→opd st2.ρ x=opd st.ρ x→st.hp=st2.hp→(∀ st3,exp false st3 (opd st.ρ x)=some (v,st3)) →
        stepG P C gl st2 o=some (.val (.tuple []) (setRow st2 (.glob r) (.cells false cs'))):=by
      intro cs cs' v hrow hexp hb hset st2 hy2 hx2 hhp hex2
      have hrow2:st2.hp.rows[r]? = some (.cells false cs):=by rw[←hhp];exact hrow
      simp only[stepG,ho,hy2,hx2,hrow2,hex2 st2,hb,cond_true,hset]
     have hl2:∀ st2:St,opd st2.ρ y=.ptr (.glob r) off→Qal P C gl st2.ρ st2.lc o=none:=fun st2 hy2=>by
      unfold Qal;simp only[ho,hy2]
     simp only[QaA,Qah,hl]at hr
     cases hsg:stepG P C gl st o with
     | none=>rw[hsg]at hr;simp at hr
     | some res =>
      have hsg0:=hsg
      simp only[stepG,ho,hy]at hsg
      split at hsg
      ·rename_i cs0 v st1 hrow0 hexp
       obtain⟨rfl,hex2⟩:=qeK hq hexp
       split at hsg
       ·rename_i cs hrow
        cases hb:(v.cells.all V.Qaw&&QaR P t v.cells.length)with
        | false=>simp[hb]at hsg
        | true =>
         simp only[hb,cond_true]at hsg
         split at hsg
         ·rename_i cs' hset
          simp only[Option.some.injEq]at hsg
          subst hsg
          rw[hsg0]at hr
          simp at hr
          refine⟨⟨.tuple [],[],some (setRow st1 (.glob r) (.cells false cs')).hp⟩,hr.symm,fun u hu=>by simp at hu,fun _ _=>rfl,fun st2 ha _ hh=>?_⟩
          have hy2:opd st2.ρ y=.ptr (.glob r) off:=by rw[←hy];exact(ha y (by simp[ho,Op.operands])).symm
          have hx2:opd st2.ρ x=opd st1.ρ x:=(ha x (by simp[ho,Op.operands])).symm
          have hhp:=hh rfl
          refine⟨?_,?_⟩
          ·simp only[QaA,Qah,hl2 st2 hy2,fin cs cs' v hrow hexp hb hset st2 hy2 hx2 hhp hex2]
           unfold Eff.on
           simp only[QaQ,Option.getD_some,setRow,hhp]
          ·unfold Qaz
           rw[hl2 st2 hy2]
           simp only[ho,hy2,hx2,hq,cond_true]
         ·simp at hsg
       ·simp at hsg
      ·simp at hsg
   ·simp at hf
  ·rename_i t ho
   simp only[Option.some.injEq]at hf
   subst hf
   simp only[QaA,Qah,hl]at hr
   cases hd:o.dst with
   | none=>simp[stepG,ho,hd]at hr
   | some d =>
    cases hgl:gl d with
    | false =>
     simp only[stepG,ho,hd,hgl,Bool.false_and,cond_false]at hr
     split at hr
     ·rename_i hq
      split at hq<;>simp at hq
     ·rename_i hq
      split at hq<;>simp at hq
     ·rename_i hq
      split at hq<;>simp at hq
     ·simp at hr
    | true =>
     cases hsg:stepG P C gl st o with
     | none=>rw[hsg]at hr;simp at hr
     | some res =>
      have hsg0:=hsg
      simp only[stepG,ho,hd,hgl,Bool.true_and]at hsg
      split at hsg
      ·rename_i z n hz hn
       cases hb:(z.live&&Nat.beq z.cells.length n)with
       | false=>simp[hb]at hsg
       | true =>
        simp only[hb,cond_true,Qaa,Option.some.injEq]at hsg
        subst hsg
        rw[hsg0]at hr
        simp at hr
        have hl2:∀ st2:St,Qal P C gl st2.ρ st2.lc o=none:=fun st2=>by unfold Qal;simp only[ho,hd,hgl,cond_true]
        refine⟨⟨_,[],some _⟩,by rw[←hr,←hd];rfl,fun u hu=>by simp at hu,fun _ _=>rfl,fun st2 ha _ hh=>?_⟩
        have hhp:=hh rfl
        refine⟨?_,?_⟩
        ·simp only[QaA,Qah,hl2 st2,stepG,ho,hd,hgl,hz,hn,hb,Bool.true_and,cond_true,Qaa,←hhp]
         rfl
        ·unfold Qaz
         rw[hl2 st2]
         simp only[ho]
      ·simp at hsg
  ·rename_i t x ho
   cases hq:quiet (opd st.ρ x)with
   | false=>simp[hq]at hf
   | true =>
    simp only[hq,cond_true,Option.some.injEq]at hf
    subst hf
    simp only[QaA,Qah,hl]at hr
    cases hsg:stepG P C gl st o with
    | none=>rw[hsg]at hr;simp at hr
    | some res =>
     have hsg0:=hsg
     cases hd:o.dst with
     | none=>simp[stepG,ho,hd]at hsg
     | some d =>
      simp only[stepG,ho,hd]at hsg
      split at hsg
      ·rename_i v st1 hexp
       obtain⟨rfl,hex2⟩:=qeK hq hexp
       cases hgl:gl d with
       | false=>simp[hgl]at hsg
       | true =>
        simp only[hgl,cond_true,Qaa,Option.some.injEq]at hsg
        subst hsg
        rw[hsg0]at hr
        simp at hr
        have hl2:∀ st2:St,opd st2.ρ x=opd st1.ρ x→Qal P C gl st2.ρ st2.lc o=none:=fun st2 e=>by
         unfold Qal at hl ⊢
         simp only[ho,hd,hgl,Bool.true_or,cond_true,e]at hl ⊢
         exact hl
        refine⟨⟨_,[],some _⟩,by rw[←hr,←hd];rfl,fun u hu=>by simp at hu,fun _ _=>rfl,fun st2 ha _ hh=>?_⟩
        have hhp:=hh rfl
        have hx2:opd st2.ρ x=opd st1.ρ x:=(ha x (by simp[ho,Op.operands])).symm
        refine⟨?_,?_⟩
        ·simp only[QaA,Qah,hl2 st2 hx2,stepG,ho,hd,hgl,hx2,hex2 st2,cond_true,Qaa,←hhp]
         rfl
        ·unfold Qaz
         rw[hl2 st2 hx2]
         simp only[ho,hx2,hq,cond_true]
      ·simp at hsg
  ·rename_i x ho
   exfalso
   simp only[QaA,Qah,hl]at hr
   cases hsg:stepG P C gl st o with
   | none=>rw[hsg]at hr;simp at hr
   | some res =>
    have hsg0:=hsg
    simp only[stepG,ho]at hsg
    split at hsg
    ·have:=qem hsg
     simp at this
     subst this
     rw[hsg0]at hr
     simp at hr
    ·simp at hsg
  ·rename_i s0 t x ho
   unfold Qbr at hf
   split at hf
   ·rename_i s g off len lim sz ag hu hx
    simp only[Option.some.injEq]at hf
    subst hf
    have hpure:Qam P C st.ρ o.op=none:=by
     unfold Qal at hl
     simp only[ho,Option.map_eq_none_iff]at hl
     rw[ho];exact hl
    simp only[QaA,Qah,hl]at hr
    cases hsg:stepG P C gl st o with
    | none=>rw[hsg]at hr;simp at hr
    | some res =>
     have hsg0:=hsg
     cases hd:o.dst with
     | none=>simp[stepG,ho,hd]at hsg
     | some d =>
      have key:∀ st2:St,opd st2.ρ x=opd st.ρ x→Qag st2 (opd st.ρ x)=Qag st (opd st.ρ x)→∃ v,res=.val v st∧stepG P C gl st2 o=some (.val v st2):=by
       intro st2 hx2 hi2
       simp only[stepG,ho,hd,QbS,hu,hx]at hsg
       simp only[stepG,ho,hd,QbS,hu,hx2]
       rw[hx]at hi2 ⊢
       split at hsg
       ·rename_i e h1 h2
        split at hsg
        ·rename_i h3
         split at hsg
         ·rename_i l hl3
          simp only[Option.map_eq_some_iff]at hsg
          obtain⟨b,hb,rfl⟩:=hsg
          refine⟨_,rfl,?_⟩
          simp only[h3,hi2,hl3,hb,Option.map_some]
         ·simp at hsg
        ·simp at hsg
       ·rename_i h2;simp at h2
       ·simp at hsg
      obtain⟨v,rfl,_⟩:=key st rfl rfl
      rw[hsg0]at hr
      simp at hr
      refine⟨⟨v,[],none⟩,by rw[←hr,←hd];rfl,fun u hu=>by simp at hu,fun h hh=>by simp at hh,fun st2 ha hm _=>?_⟩
      have hx2:opd st2.ρ x=opd st.ρ x:=(ha x (by simp[ho,Op.operands])).symm
      have hl2:Qal P C gl st2.ρ st2.lc o=none:=by
       unfold Qal
       simp only[ho,Option.map_eq_none_iff]
       have:=qbz (P:=P) (C:=C) ha
       rw[←ho,←this];exact hpure
      obtain⟨v',e1,e2⟩:=key st2 hx2 (qeA (b:=[s]) (by rw[hx];rfl) (fun q hq=>hm q hq))
      obtain rfl:v=v':=by simpa using e1
      refine⟨?_,?_⟩
      ·simp only[QaA,Qah,hl2,e2,hd]
       rfl
      ·unfold Qaz
       rw[hl2]
       simp only[ho,hu,hx2,hx,Qbr]
   ·simp at hf
  ·rename_i t rs ho
   simp only[Option.some.injEq]at hf
   subst hf
   have hl2:∀ st2:St,Qal P C gl st2.ρ st2.lc o=none:=fun st2=>by unfold Qal;simp only[ho,Qam,Option.map_none]
   cases rs with
   | some x=>simp[QaA,Qah,hl,stepG,ho]at hr
   | none =>
    cases hd:o.dst with
    | none=>simp[QaA,Qah,hl,stepG,ho,hd]at hr
    | some d =>
     simp only[QaA,Qah,hl,stepG,ho,hd,Qaa,cond_true]at hr
     simp at hr
     refine⟨⟨_,[],some _⟩,by rw[←hr];rfl,fun u hu=>by simp at hu,fun _ _=>rfl,fun st2 ha _ hh=>?_⟩
     have hhp:=hh rfl
     refine⟨?_,?_⟩
     ·simp only[QaA,Qah,hl2 st2,stepG,ho,hd,Qaa,cond_true,←hhp]
      rfl
     ·unfold Qaz
      rw[hl2 st2]
      simp only[ho]
  ·rename_i t y z b ho
   simp only[Option.some.injEq]at hf
   subst hf
   have hl2:∀ st2:St,Qal P C gl st2.ρ st2.lc o=none:=fun st2=>by unfold Qal;simp only[ho,Qam,Option.map_none]
   simp only[QaA,Qah,hl,stepG,ho]at hr
   cases hv:Qcl P t st.hp (opd st.ρ y) (opd st.ρ z) b with
   | none=>rw[hv]at hr;simp at hr
   | some v =>
    rw[hv]at hr
    simp at hr
    refine⟨⟨v,[],none⟩,hr.symm,fun u hu=>by simp at hu,fun h hh=>by simp at hh,fun st2 ha _ hh=>?_⟩
    have hhp:=hh rfl
    have h1:opd st2.ρ y=opd st.ρ y:=(ha y (by simp[ho,Op.operands])).symm
    have h2:opd st2.ρ z=opd st.ρ z:=(ha z (by simp[ho,Op.operands])).symm
    refine⟨?_,?_⟩
    ·simp only[QaA,Qah,hl2,stepG,ho,h1,h2,←hhp,hv,Option.map_some]
     rfl
    ·unfold Qaz
     rw[hl2]
     simp only[ho]
  ·rename_i t m k x ho
   cases hq:quiet (opd st.ρ x)with
   | false=>simp[hq]at hf
   | true =>
    simp only[hq,cond_true,Option.some.injEq]at hf
    subst hf
    simp only[QaA,Qah,hl]at hr
    cases hsg:stepG P C gl st o with
    | none=>rw[hsg]at hr;simp at hr
    | some res =>
     have hsg0:=hsg
     simp only[stepG,ho]at hsg
     obtain⟨h',rfl,hall⟩:=qhE hq hsg
     rw[hsg0]at hr
     simp at hr
     have hl2:∀ st2:St,Qal P C gl st2.ρ st2.lc o=none:=fun st2=>by unfold Qal;simp only[ho,Qam,Option.map_none]
     refine⟨⟨_,[],some h'⟩,hr.symm,fun u hu=>by simp at hu,fun _ _=>rfl,fun st2 ha _ hh=>?_⟩
     have hhp:=hh rfl
     have h1:opd st2.ρ m=opd st.ρ m:=(ha m (by simp[ho,Op.operands])).symm
     have h2:opd st2.ρ k=opd st.ρ k:=(ha k (by simp[ho,Op.operands])).symm
     have h3:opd st2.ρ x=opd st.ρ x:=(ha x (by simp[ho,Op.operands])).symm
     refine⟨?_,?_⟩
     ·simp only[QaA,Qah,hl2 st2,stepG,ho,h1,h2,h3,hall st2 hhp]
      rfl
     ·unfold Qaz
      rw[hl2 st2]
      simp only[ho,h3,hq,cond_true]
  ·rename_i t m k x ho
   cases hq:quiet (opd st.ρ x)with
   | false=>simp[hq]at hf
   | true =>
    simp only[hq,cond_true,Option.some.injEq]at hf
    subst hf
    simp only[QaA,Qah,hl]at hr
    cases hsg:stepG P C gl st o with
    | none=>rw[hsg]at hr;simp at hr
    | some res =>
     have hsg0:=hsg
     simp only[stepG,ho]at hsg
     obtain⟨h',rfl,hall⟩:=qhE hq hsg
     rw[hsg0]at hr
     simp at hr
     have hl2:∀ st2:St,Qal P C gl st2.ρ st2.lc o=none:=fun st2=>by unfold Qal;simp only[ho,Qam,Option.map_none]
     refine⟨⟨_,[],some h'⟩,hr.symm,fun u hu=>by simp at hu,fun _ _=>rfl,fun st2 ha _ hh=>?_⟩
     have hhp:=hh rfl
     have h1:opd st2.ρ m=opd st.ρ m:=(ha m (by simp[ho,Op.operands])).symm
     have h2:opd st2.ρ k=opd st.ρ k:=(ha k (by simp[ho,Op.operands])).symm
     have h3:opd st2.ρ x=opd st.ρ x:=(ha x (by simp[ho,Op.operands])).symm
     refine⟨?_,?_⟩
     ·simp only[QaA,Qah,hl2 st2,stepG,ho,h1,h2,h3,hall st2 hhp]
      rfl
     ·unfold Qaz
      rw[hl2 st2]
      simp only[ho,h3,hq,cond_true]
  ·simp at hf
theorem qn3{call:Qad}{st st':St}{o:Oper}{ft:Foot}(hs:Qa6 o=true)(hf:Qaz P C gl st.ρ st.lc o=some ft){v:V}(hr:QaA P C call gl st o=some (.panic v,st')) :
  ft.wr=[]∧ft.hr=true∧∀ st2:St,Agree st.ρ st2.ρ o→st.hp=st2.hp→QaA P C call gl st2 o=some (.panic v,{ st2 with hp:=st'.hp }):=by
 cases hl:Qal P C gl st.ρ st.lc o with
 | some p =>
  obtain⟨v,u⟩:=p
  simp only[QaA,Qah,hl]at hr
  simp at hr
 | none =>
  unfold Qaz at hf
  rw[hl]at hf
  simp only[]at hf
  unfold Qa6 at hs
  cases ho:o.op with
  | call cl =>
   rw[ho]at hs
   simp only[ho]at hf
   cases hcal:cl.callee with
   | value f =>
    simp only[hcal]at hf
    split at hf
    ·rename_i g first caps hfn
     generalize hq:(first.all quiet&&(opds st.ρ cl.args.toList).all quiet&&caps.all quiet)=q at hf
     cases q with
     | false=>simp at hf
     | true =>
      simp only[cond_true,Option.some.injEq]at hf
      subst hf
      simp only[Bool.and_eq_true]at hq
      have hall:(first++opds st.ρ cl.args.toList++caps).all quiet=true:=by
       simp only[List.all_append,Bool.and_eq_true];exact hq
      have hpure:Qam P C st.ρ o.op=none:=by
       unfold Qal at hl
       simp only[ho,Option.map_eq_none_iff]at hl
       rw[ho];exact hl
      cases hexp:exps false st (first++opds st.ρ cl.args.toList++caps)with
      | none=>simp only[QaA,Qah,hl,stepG,ho,QaP,hcal,hfn,hexp]at hr;simp at hr
      | some p =>
       obtain⟨l,st1⟩:=p
       obtain⟨rfl,hex2⟩:=qfl _ l st st1 hall hexp
       cases hc:call g l st1.hp with
       | none=>simp only[QaA,Qah,hl,stepG,ho,QaP,hcal,hfn,hexp,hc]at hr;simp at hr
       | some out =>
        cases out with
        | val v h=>simp only[QaA,Qah,hl,stepG,ho,QaP,hcal,hfn,hexp,hc]at hr;simp at hr
        | panic v' h =>
         simp only[QaA,Qah,hl,stepG,ho,QaP,hcal,hfn,hexp,hc]at hr
         simp at hr
         obtain⟨rfl,rfl⟩:=hr
         refine⟨rfl,rfl,fun st2 ha hhp=>?_⟩
         have hfo:opd st2.ρ f=.fn (.func g) first caps:=by
          rw[←hfn]
          refine(ha f ?_).symm
          simp[ho,Op.operands,Call.operands,hcal]
         have hargs:opds st2.ρ cl.args.toList=opds st1.ρ cl.args.toList:=by
          refine(List.map_congr_left (fun x hx=>?_)).symm
          refine ha x ?_
          simp only[ho,Op.operands,Call.operands,Array.toList_append,List.mem_append]
          exact .inr hx
         have hl2:Qal P C gl st2.ρ st2.lc o=none:=by
          unfold Qal
          simp only[ho,Option.map_eq_none_iff]
          have:=qbz (P:=P) (C:=C) ha
          rw[←ho,←this];exact hpure
         have hex3:=hex2 st2
         simp only[QaA,Qah,hl2,stepG,ho,QaP,hcal,hfo,hargs,hex3,←hhp,hc]
    ·simp at hf
   | builtin b=>simp[hcal]at hs
   | invoke a b=>simp[hcal]at hs
  | panic x =>
   simp only[ho,Option.some.injEq]at hf
   subst hf
   refine⟨rfl,rfl,fun st2 ha hhp=>?_⟩
   have hx2:opd st2.ρ x=opd st.ρ x:=(ha x (by simp[ho,Op.operands])).symm
   have hl2:Qal P C gl st2.ρ st2.lc o=none:=by
    unfold Qal
    simp only[ho,Qam,Option.map_none]
   simp only[QaA,Qah,hl]at hr
   simp only[QaA,Qah,hl2]
   simp only[stepG,ho]at hr
   simp only[stepG,ho,hx2]
   split at hr
   ·rename_i v1 st1 heq
    split at heq
    ·rename_i t u _
     have:=qem heq
     simp at this
    ·simp at heq
   ·rename_i f args st1 heq
    split at heq
    ·have:=qem heq
     simp at this
    ·simp at heq
   ·rename_i v1 st1 heq
    split at heq
    ·rename_i t u hop
     have hb:u.Qap=true:=by
      cases hq:u.Qap with
      | true=>rfl
      | false=>simp[hq]at heq
     have:=qem heq
     simp at this
     obtain⟨rfl,rfl⟩:=this
     simp at hr
     obtain⟨rfl,rfl⟩:=hr
     simp only[hop,hb,cond_true]
     rw[hhp]
    ·simp at heq
   ·simp at hr
  | _=>rw[ho]at hs;simp at hs
end
def Qbt{α:Type}(S:Nat→Bool)(w:Nat→Option α)(d:α):Nat→α
 | 0=>d
 | k+1=>match S k,w k with
  | true,some a=>a
  | _,_=>Qbt S w d k
theorem qa5{α:Type}{S S':Nat→Bool}{w:Nat→Option α}{d:α}:∀ n,(∀ k,k<n→(w k).isSome=true→S k=S' k)→Qbt S w d n=Qbt S' w d n
 | 0,_=>rfl
 | n+1,h=>by
  have ih:=qa5 (d:=d) n (fun k hk=>h k (by omega))
  simp only[Qbt]
  cases hw:w n with
  | none=>cases S n<;>cases S' n<;>exact ih
  | some a =>
   have:=h n (by omega) (by rw[hw];rfl)
   rw[this]
   cases S' n with
   | true=>rfl
   | false=>exact ih
theorem qcw {α : Type} {S S' : Nat → Bool} {w : Nat → Option α} {d : α} {i : Nat} (hS : ∀ k, S' k = (S k || k == i)) : ∀ n, i < n → S i = false → (∀ k, k < n → i < k → (w k).isSome = true → (w i).isSome = true → S k = false) →
    Qbt S' w d n = match w i with | some a => a | none => Qbt S w d n
  | 0, h, _, _ => by omega
  | n + 1, hi, hn, hl => by
    by_cases e : i = n
    · subst e
      simp only [Qbt, hS]
      cases hw : w i with
      | some a => simp
      | none =>
        have : Qbt S' w d i = Qbt S w d i := qa5 i (fun k hk _ => by rw [hS]; have : (k == i) = false := by simp; omega
                                                                     rw [this]; simp)
        simp [hn, this]
    · have ih := qcw (d := d) hS n (by omega) hn (fun k hk => hl k (by omega))
      have hni : (n == i) = false := by simp; omega
      simp only [Qbt, hS, hni, Bool.or_false]
      cases hw : w n with
      | none => cases S n <;> exact ih
      | some a =>
        cases hs : S n with
        | false => exact ih
        | true =>
          cases hwi : w i with
          | none => rfl
          | some b =>
            have := hl n (by omega) (by omega) (by rw [hw]; rfl) (by rw [hwi]; rfl)
            rw [hs] at this; simp at this
inductive Prec(ops:Array Oper):Nat→Nat→Prop
 | edge {i j:Nat} {o:Oper} {e:Edge} (ho:ops[j]? = some o) (he:e ∈ o.after.toList) (hb:Region.binds .any e=true) (hi:e.on=i):Prec ops i j
 | step {i k j:Nat} {o:Oper} {e:Edge} (ho:ops[j]? = some o) (he:e ∈ o.after.toList) (hb:Region.binds .any e=true) (hk:e.on=k) (hp:Prec ops i k):Prec ops i j
theorem Prec.closed{ops:Array Oper}{S:Nat→Bool}(hc:∀ j o e,ops[j]? = some o→S j=true→e ∈ o.after.toList→Region.binds .any e=true→S e.on=true){i j:Nat}(h:Prec ops i j):S j=true→S i=true:=by
 induction h with
 | edge ho he hb hi=>intro hj;subst hi;exact hc _ _ _ ho hj he hb
 | step ho he hb hk hp ih=>intro hj;subst hk;exact ih (hc _ _ _ ho hj he hb)
theorem qec{acc:List Nat}{i:Nat}:∀ (l:List Edge),(QbX acc l).testBit i=true→∃ e ∈ l,Region.binds .any e=true∧(e.on=i∨(acc.getD e.on 0).testBit i=true)
 | [],h=>by simp[QbX]at h
 | e::l,h=>by
  simp only[QbX]at h
  cases hb:Region.binds .any e with
  | false =>
   simp only[hb,cond_false]at h
   obtain⟨e',h1,h2⟩:=qec l h
   exact⟨e',by simp[h1],h2⟩
  | true =>
   simp only[hb,cond_true,Nat.testBit_or,Bool.or_eq_true]at h
   rcases h with (h | h) | h
   ·refine⟨e,by simp,hb,.inl ?_⟩
    simp only[Nat.testBit_shiftLeft,Bool.and_eq_true,decide_eq_true_eq]at h
    have h2:=h.2
    rcases Nat.eq_zero_or_pos (i - e.on)with h0 | h0
    ·omega
    ·rw[show(1:Nat)=2 ^ 0 from rfl,Nat.testBit_two_pow]at h2
     simp at h2;omega
   ·exact⟨e,by simp,hb,.inr h⟩
   ·obtain⟨e',h1,h2⟩:=qec l h
    exact⟨e',by simp[h1],h2⟩
theorem qfc{ops:Array Oper}:∀ (l:List Oper)(pre:List Oper)(acc:List Nat),ops.toList=pre++l→acc.length=pre.length →
  (∀ j i,(acc.getD j 0).testBit i=true→Prec ops i j)→∀ j i,((masks l acc).getD j 0).testBit i=true→Prec ops i j
 | [],pre,acc,h,hl,hg=>hg
 | o::l,pre,acc,h,hl,hg=>by
  refine qfc l (pre++[o]) (acc++[QbX acc o.after.toList]) (by rw[h];simp) (by simp[hl]) (fun j i hb=>?_)
  rw[List.getD_eq_getElem?_getD,List.getElem?_append]at hb
  split at hb
  ·exact hg j i (by rw[List.getD_eq_getElem?_getD];exact hb)
  ·rename_i hlt
   have ho:ops[acc.length]? = some o:=by
    have:ops.toList[acc.length]? = some o:=by rw[h,hl];simp
    simpa using this
   rcases Nat.eq_or_lt_of_le (Nat.not_lt.1 hlt)with h0 | h0
   ·subst h0
    simp only[Nat.sub_self,List.getElem?_cons_zero,Option.getD_some]at hb
    obtain⟨e,he,hbind,hor⟩:=qec _ hb
    rcases hor with h1 | h1
    ·exact .edge ho he hbind h1
    ·exact .step ho he hbind rfl (hg e.on i h1)
   ·rw[List.getElem?_eq_none (by simp;omega)]at hb
    simp at hb
def cls:Op→Nat
 | .load ..=>1
 | .store ..=>2
 | .alloc _=>2
 | .box ..=>2
 | .range ..=>2
 | .call c=>(match c.callee with
  | .value _=>3
  | .builtin .append=>4
  | _=>0)
 | .panic _=>3
 | .convert ..=>1
 | .makeMap _ _=>2
 | .lookup ..=>1
 | .mapUpdate ..=>2
 | .insert ..=>2
 | _=>0
def calm:Nat→Nat→Bool
 | 0,_=>true
 | _,0=>true
 | 1,1=>true
 | 3,1=>true
 | 3,2=>true
 | 1,3=>true
 | 2,3=>true
 | 3,4=>true
 | 4,3=>true
 | _,_=>false
section
variable {P:Program}{C:Cfg}{gl:Nat→Bool} {ρ σ:Nat→V}{l m:Nat→Nat × Row}
theorem qmd{o:Oper}{ft:Foot}(h:Qaz P C gl ρ l o=some ft) :
  (cls o.op=0→ft=⟨[],[],false,false,false,false⟩)∧(cls o.op=1→ft.wr=[]∧ft.hp=false)∧(cls o.op=3→ft=⟨[],[],true,true,false,false⟩)∧(ft.far o=false→cls o.op≠3→ft.hr=false∧ft.hp=false)∧cls o.op≤4:=by
 unfold Qaz at h
 cases hl:Qal P C gl ρ l o with
 | none =>
  rw[hl]at h
  simp only[]at h
  split at h
  ·rename_i cl ho
   split at h
   ·rename_i f hcal
    split at h
    ·generalize (List.all _ quiet&&List.all _ quiet&&List.all _ quiet)=q at h
     cases q with
     | false=>simp at h
     | true =>
      simp only[cond_true,Option.some.injEq]at h
      subst h
      simp[ho,cls,hcal]
    ·simp at h
   ·rename_i hcal
    unfold Qa5 at h
    split at h
    ·generalize gl _=q at h
     cases q with
     | true =>
      simp only[cond_true]at h
      generalize Qdy _=q at h
      cases q with
      | false=>simp at h
      | true =>
       simp only[cond_true,Option.some.injEq]at h
       subst h
       simp[ho,cls,hcal,Foot.far]
     | false =>
      simp only[cond_false]at h
      split at h
      ·simp only[Option.some.injEq]at h
       subst h
       simp[ho,cls,hcal]
      ·simp at h
    ·simp at h
   ·simp at h
  ·rename_i t x ho
   split at h
   ·simp only[Option.some.injEq]at h
    subst h
    simp[ho,cls,Foot.far]
   ·simp at h
  ·rename_i t y x ho
   split at h
   ·generalize quiet _=q at h
    cases q with
    | false=>simp at h
    | true =>
     simp only[cond_true,Option.some.injEq]at h
     subst h
     simp[ho,cls,Foot.far]
   ·simp at h
  ·rename_i t ho
   simp only[Option.some.injEq]at h
   subst h
   simp[ho,cls,Foot.far]
  ·rename_i t x ho
   generalize quiet _=q at h
   cases q with
   | false=>simp at h
   | true =>
    simp only[cond_true,Option.some.injEq]at h
    subst h
    simp[ho,cls,Foot.far]
  ·rename_i x ho
   simp only[Option.some.injEq]at h
   subst h
   simp[ho,cls,Foot.far]
  ·rename_i s0 t x ho
   unfold Qbr at h
   split at h
   ·simp only[Option.some.injEq]at h
    subst h
    simp[ho,cls]
   ·simp at h
  ·rename_i x rs ho
   simp only[Option.some.injEq]at h
   subst h
   simp[ho,cls,Foot.far]
  ·rename_i x y z q ho
   simp only[Option.some.injEq]at h
   subst h
   simp[ho,cls,Foot.far]
  ·rename_i t x y z ho
   generalize quiet _=q at h
   cases q with
   | false=>simp at h
   | true =>
    simp only[cond_true,Option.some.injEq]at h
    subst h
    simp[ho,cls,Foot.far]
  ·rename_i t x y z ho
   generalize quiet _=q at h
   cases q with
   | false=>simp at h
   | true =>
    simp only[cond_true,Option.some.injEq]at h
    subst h
    simp[ho,cls,Foot.far]
  ·simp at h
 | some p =>
  obtain⟨v,u⟩:=p
  rw[hl]at h
  unfold Qal at hl
  cases ho:o.op with
  | load t y =>
   cases u with
   | none =>
    simp only[ho]at h
    split at h<;>(simp only[Option.some.injEq]at h;subst h;simp[cls])
   | some q =>
    exfalso
    simp only[ho]at hl
    split at hl
    ·split at hl
     ·generalize Nat.beq _ _=b at hl
      cases b<;>simp at hl
     ·simp at hl
    ·simp at hl
    ·simp at hl
  | store t y z =>
   cases u with
   | none=>simp only[ho,Option.some.injEq]at h;subst h;simp[cls]
   | some q=>simp only[ho,Option.some.injEq]at h;subst h;simp[cls]
  | alloc t =>
   cases u with
   | none=>simp only[ho,Option.some.injEq]at h;subst h;simp[cls]
   | some q=>simp only[ho,Option.some.injEq]at h;subst h;simp[cls]
  | box t y =>
   cases u with
   | none=>simp only[ho,Option.some.injEq]at h;subst h;simp[cls]
   | some q=>simp only[ho,Option.some.injEq]at h;subst h;simp[cls]
  | range t y =>
   cases u with
   | none=>simp only[ho,Option.some.injEq]at h;subst h;simp[cls]
   | some q=>simp only[ho,Option.some.injEq]at h;subst h;simp[cls]
  | call cl =>
   simp only[ho]at hl
   cases u with
   | some q=>simp at hl
   | none =>
    simp only[ho,Option.some.injEq]at h
    subst h
    cases hcal:cl.callee with
    | value f=>simp[Qam,hcal]at hl
    | builtin b =>
     cases b with
     | append=>simp[Qam,hcal]at hl
     | _=>simp[cls,hcal]
    | _=>simp[cls,hcal]
  | panic y=>simp[ho,Qam]at hl
  | _ =>
   simp only[ho]at hl
   cases u with
   | some q=>simp at hl
   | none=>simp only[ho,Option.some.injEq]at h;subst h;simp[cls]
def Qco(P:Program)(C:Cfg)(gl:Nat→Bool)(ρ:Nat→V)(l:Nat→Nat × Row)(o:Oper)(ft:Foot):Prop :=
 ∃ f0,Qaz P C gl ρ l o=some f0∧(ft=f0∨ft={ f0 with hp:=false }∨ft={ f0 with sf:=true })
theorem qdW{o:Oper}{ft:Foot}(h:Qco P C gl ρ l o ft) :
  (cls o.op=0→ft.rd=[]∧ft.wr=[]∧ft.hr=false∧ft.hp=false)∧(cls o.op=1→ft.wr=[]∧ft.hp=false)∧(cls o.op=3→ft.rd=[]∧ft.wr=[])∧(ft.far o=false→cls o.op≠3→ft.hr=false∧ft.hp=false)∧cls o.op≤4:=by
 obtain⟨f0,h,hf⟩:=h
 obtain⟨a0,a1,a3,a2,a4⟩:=qmd h
 rcases hf with rfl | rfl | rfl
 ·exact⟨fun e=>by rw[a0 e];exact⟨rfl,rfl,rfl,rfl⟩,a1,fun e=>by rw[a3 e];exact⟨rfl,rfl⟩,a2,a4⟩
 ·refine⟨fun e=>by rw[a0 e];exact⟨rfl,rfl,rfl,rfl⟩,fun e=>⟨(a1 e).1,rfl⟩,fun e=>by rw[a3 e];exact⟨rfl,rfl⟩,fun n m=>⟨(a2 n m).1,rfl⟩,a4⟩
 ·refine⟨fun e=>by rw[a0 e];exact⟨rfl,rfl,rfl,rfl⟩,a1,fun e=>by rw[a3 e];exact⟨rfl,rfl⟩,a2,a4⟩
theorem qd8(x:List Nat):disj [] x=true:=rfl
theorem qco(x:List Nat):disj x []=true:=by
 induction x with
 | nil=>rfl
 | cons a l ih=>simpa[disj]using ih
theorem qnc{o p:Oper}{fo fp:Foot}(ho:Qco P C gl ρ l o fo)(hp:Qco P C gl σ m p fp)(no:fo.far o=false)(np:fp.far p=false)(hc:calm (cls o.op) (cls p.op)=true):indep fo fp=true:=by
 obtain⟨a0,a1,a3,a2,a4⟩:=qdW ho
 obtain⟨b0,b1,b3,b2,b4⟩:=qdW hp
 have a5:=a2 no
 have b5:=b2 np
 clear ho hp no np a2 b2
 generalize cls o.op=x at *
 generalize cls p.op=y at *
 have hx:x=0∨x=1∨x=2∨x=3∨x=4:=by omega
 have hy:y=0∨y=1∨y=2∨y=3∨y=4:=by omega
 obtain⟨r1,w1,h1,p1,l1,s1⟩:=fo
 obtain⟨r2,w2,h2,p2,l2,s2⟩:=fp
 rcases hx with rfl | rfl | rfl | rfl | rfl<;>rcases hy with rfl | rfl | rfl | rfl | rfl<;>simp[calm]at hc <;>
  simp_all [indep,qd8,qco]
def qlw:Nat→Nat→Bool
 | 0,_=>true
 | _,0=>true
 | 1,1=>true
 | _,_=>false
theorem qlv{o p:Oper}{fo fp:Foot}(ho:Qco P C gl ρ l o fo)(hp:Qco P C gl σ m p fp)(hc:qlw (cls o.op) (cls p.op)=true):indep fo fp=true:=by
 obtain⟨a0,a1,a3,a2,a4⟩:=qdW ho
 obtain⟨b0,b1,b3,b2,b4⟩:=qdW hp
 clear ho hp a2 b2
 generalize cls o.op=x at *
 generalize cls p.op=y at *
 have hx:x=0∨x=1∨x=2∨x=3∨x=4:=by omega
 have hy:y=0∨y=1∨y=2∨y=3∨y=4:=by omega
 obtain⟨r1,w1,h1,p1,l1,s1⟩:=fo
 obtain⟨r2,w2,h2,p2,l2,s2⟩:=fp
 rcases hx with rfl | rfl | rfl | rfl | rfl<;>rcases hy with rfl | rfl | rfl | rfl | rfl<;>simp[qlw]at hc <;>
  simp_all [indep,qd8,qco]
theorem qrp{o:Oper}{ft:Foot}(h:Qaz P C gl ρ l o=some ft)(hp:ft.hp=true):ft.hr=true:=by
 unfold Qaz at h
 split at h
 ·split at h
  ·split at h<;>(simp only[Option.some.injEq]at h;subst h;simp at hp)
  ·simp only[Option.some.injEq]at h;subst h;simp at hp
 ·simp only[Option.some.injEq]at h;subst h;simp at hp
 ·split at h
  ·split at h
   ·split at h
    ·generalize (List.all _ quiet&&List.all _ quiet&&List.all _ quiet)=q at h
     cases q with
     | false=>simp at h
     | true=>simp at h;subst h;rfl
    ·simp at h
   ·unfold Qa5 at h
    split at h
    ·generalize gl _=q at h
     cases q with
     | true =>
      simp only[cond_true]at h
      generalize Qdy _=q at h
      cases q with
      | false=>simp at h
      | true=>simp at h;subst h;rfl
     | false =>
      simp only[cond_false]at h
      split at h
      ·simp at h;subst h;simp at hp
      ·simp at h
    ·simp at h
   ·simp at h
  ·split at h
   ·simp at h;subst h;rfl
   ·simp at h
  ·split at h
   ·generalize quiet _=q at h
    cases q with
    | false=>simp at h
    | true=>simp at h;subst h;rfl
   ·simp at h
  ·simp at h;subst h;rfl
  ·generalize quiet _=q at h
   cases q with
   | false=>simp at h
   | true=>simp at h;subst h;rfl
  ·simp at h;subst h;rfl
  ·unfold Qbr at h
   split at h
   ·simp at h;subst h;simp at hp
   ·simp at h
  ·simp at h;subst h;rfl
  ·simp at h;subst h;rfl
  ·generalize quiet _=q at h
   cases q with
   | false=>simp at h
   | true=>simp at h;subst h;rfl
  ·generalize quiet _=q at h
   cases q with
   | false=>simp at h
   | true=>simp at h;subst h;rfl
  ·simp at h
end
def Qdj(cm:Nat→Nat→Bool)(ops:Array Oper)(ms:List Nat)(pairs:List (Nat × Nat))(j:Nat)(o:Oper):List Oper→Nat→Bool
 | [],_=>true
 | p::l,i=>(Nat.testBit (ms.getD j 0) i || (Oper.apart ops p o&&(cm (cls p.op) (cls o.op) || pairs.contains (i,j))))&&Qdj cm ops ms pairs j o l (i+1)
def QbY(cm:Nat→Nat→Bool)(ops:Array Oper)(pairs:List (Nat × Nat)):Bool :=
 let ms:=masks ops.toList []
 ops.toList.zipIdx.all fun(o,j)=>(o.after.toList.all fun e=>!Region.binds .any e || Nat.blt e.on j)&&Qdj cm ops ms pairs j o (ops.toList.take j) 0
theorem qgo{cm:Nat→Nat→Bool}{ops:Array Oper}{ms:List Nat}{pairs:List (Nat × Nat)}{j:Nat}{o:Oper}:∀ (l:List Oper)(k:Nat),Qdj cm ops ms pairs j o l k=true→∀ i p,l[i]? = some p →
  Nat.testBit (ms.getD j 0) (k+i)=true∨(Oper.apart ops p o=true∧(cm (cls p.op) (cls o.op)=true∨(k+i,j) ∈ pairs))
 | [],k,h,i,p,hp=>by simp at hp
 | q::l,k,h,i,p,hp=>by
  simp only[Qdj,Bool.and_eq_true,Bool.or_eq_true]at h
  cases i with
  | zero =>
   simp at hp
   subst hp
   rcases h.1 with h1 | ⟨h1,h2⟩
   ·exact .inl h1
   ·exact .inr ⟨h1,h2.imp id (fun h=>by simpa using h)⟩
  | succ i =>
   have:=qgo l (k+1) h.2 i p (by simpa using hp)
   rw[show k+1+i=k+(i+1)by omega]at this
   exact this
theorem qg6{cm:Nat→Nat→Bool}{ops:Array Oper}{pairs:List (Nat × Nat)}(h:QbY cm ops pairs=true){i j:Nat}{p o:Oper}(hp:ops[i]? = some p)(ho:ops[j]? = some o)(hij:i<j) :
  Prec ops i j∨(Oper.apart ops p o=true∧(cm (cls p.op) (cls o.op)=true∨(i,j) ∈ pairs)):=by
 unfold QbY at h
 have h1:=List.all_eq_true.1 h (o,j) (by
  rw[List.mem_iff_getElem?]
  exact⟨j,by simp[ho]⟩)
 simp only[Bool.and_eq_true]at h1
 have h2:=qgo _ _ h1.2 i p (by rw[List.getElem?_take,if_pos hij];simpa using hp)
 rw[Nat.zero_add]at h2
 rcases h2 with h2 | h2
 ·exact .inl (qfc ops.toList [] [] (by simp) rfl (fun j i h=>by simp at h) j i h2)
 ·exact .inr h2
theorem qlp{cm:Nat→Nat→Bool}{ops:Array Oper}{pairs:List (Nat × Nat)}(h:QbY cm ops pairs=true){j:Nat}{o:Oper}(ho:ops[j]? = some o){e:Edge}(he:e ∈ o.after.toList)(hb:Region.binds .any e=true):e.on<j:=by
 unfold QbY at h
 have h1:=List.all_eq_true.1 h (o,j) (by
  rw[List.mem_iff_getElem?]
  exact⟨j,by simp[ho]⟩)
 simp only[Bool.and_eq_true]at h1
 have:=List.all_eq_true.1 h1.1 e he
 rw[hb]at this
 simpa[Nat.blt_eq]using this
def QaJ(call:Qad):Prop:=∀ f args h out,call f args h=some out→Dirt h out.hp
def Res.hp:Res→Hp
 | .val _ st=>st.hp
 | .enter _ _ st=>st.hp
 | .panic _ st=>st.hp
section
variable {P:Program}{C:Cfg}{gl:Nat→Bool}
theorem qnx{α:Type}{b:Bool}{x y:Option α}{r:α}(h:(bif b then x else y)=some r):x=some r∨y=some r:=by
 cases b<;>simp at h
 ·exact .inr h
 ·exact .inl h
theorem qli{v v':V}{st st':St}(h:freeze st v=some (v',st')):Dirt st.hp st'.hp:=by
 unfold freeze at h
 split at h
 ·split at h
  ·split at h
   ·generalize V.Qaf _=q at h
    cases q with
    | false=>simp at h
    | true=>simp at h;rw[←h.2];exact qaT _ _
   ·simp at h
  ·simp at h
 ·simp at h
theorem qki{fz:Bool}{v v':V}{st st':St}(h:exp1 fz st v=some (v',st')):Dirt st.hp st'.hp:=by
 unfold exp1 at h
 split at h
 ·rcases qnx h with h | h
  ·exact qli h
  ·simp at h;rw[←h.2];exact .refl _
 ·split at h
  ·cases fz<;>simp at h<;>(rw[←h.2];exact .refl _)
  ·simp at h;rw[←h.2];exact .refl _
 ·generalize (V.live _&&V.Qap _)=q at h
  cases q with
  | false=>simp at h
  | true=>simp at h;rw[←h.2];exact .refl _
theorem qkh{fz:Bool}:∀ (vs vs':List V)(st st':St),Qcm fz st vs=some (vs',st')→Dirt st.hp st'.hp
 | [],vs',st,st',h=>by simp[Qcm]at h;rw[←h.2];exact .refl _
 | v::vs,vs',st,st',h=>by
  simp only[Qcm]at h
  split at h
  ·simp at h
  ·rename_i v1 st1 h1
   split at h
   ·simp at h
   ·rename_i l2 st2 h2
    simp at h
    rw[←h.2]
    exact(qki h1).trans (qkh _ _ _ _ h2)
theorem qeL{fz:Bool}{v v':V}{st st':St}(h:exp fz st v=some (v',st')):Dirt st.hp st'.hp:=by
 cases v with
 | agg cs =>
  simp only[exp,Option.map_eq_some_iff]at h
  obtain⟨⟨l,s⟩,h1,h2⟩:=h
  simp at h2
  rw[←h2.2]
  exact qkh _ _ _ _ h1
 | _=>simp only[exp]at h;exact qki h
theorem qdx{fz:Bool}:∀ (vs vs':List V)(st st':St),exps fz st vs=some (vs',st')→Dirt st.hp st'.hp
 | [],vs',st,st',h=>by simp[exps]at h;rw[←h.2];exact .refl _
 | v::vs,vs',st,st',h=>by
  simp only[exps]at h
  split at h
  ·simp at h
  ·rename_i v1 st1 h1
   split at h
   ·simp at h
   ·rename_i l2 st2 h2
    simp at h
    rw[←h.2]
    exact(qeL h1).trans (qdx _ _ _ _ h2)
theorem qcy{st:St}{d:Nat}{cs:List V}{len sz:Nat}{ag:Bool}{r:Res}(h:Qay gl st d cs len sz ag=some r):Dirt st.hp r.hp:=by
 unfold Qay at h
 generalize (gl d && !V.Qak cs)=q at h
 cases q with
 | true=>simp at h
 | false=>simp at h;subst h;exact qbq _ _ _
theorem qdt{st:St}{d sz:Nat}{l:List V}{r:Res}(h:QaG gl st d sz l=some r):Dirt st.hp r.hp:=by
 unfold QaG at h
 simp at h;subst h;exact qbq _ _ _
theorem qaN{α:Type}{b:Bool}{x:Option α}{r:α}(h:(bif b then x else none)=some r):x=some r:=by
 cases b<;>simp at h;exact h
theorem qfP{α:Type}{b:Bool}{x:Option α}{r:α}(h:(bif b then none else x)=some r):x=some r:=by
 cases b<;>simp at h;exact h
theorem qkE{st:St}{d:Nat}{t:TypeId}{x y:V}{r:Res}(h:Qai P C gl st d t x y=some r):Dirt st.hp r.hp:=by
 unfold Qai at h
 split at h
 ·simp at h
 ·split at h
  ·have h:=qaN h
   split at h
   ·split at h
    ·simp at h;subst h;exact .refl _
    ·have h:=qaN h
     generalize C.QaN t=q at h
     cases q with
     | true=>exact qcy h
     | false=>exact qdt (qaN h)
   ·have h:=qaN h
    split at h
    ·simp at h;subst h;exact .refl _
    ·have h:=qaN h
     generalize C.QaN t=q at h
     cases q with
     | true=>exact qcy (qaN h)
     | false =>
      have h:=qaN h
      rcases qnx h with h | h
      ·exact qdt h
      ·split at h
       ·split at h
        ·exact(qaT _ _).trans (qdt h)
        ·simp at h
       ·simp at h
   ·have h:=qaN h
    split at h
    ·have h:=qaN h
     split at h
     ·simp at h;subst h;exact .refl _
     ·have h:=qfP h
      split at h
      ·generalize (Nat.ble _ _)=q at h
       cases q with
       | true =>
        have h:=qfP h
        split at h
        ·simp at h;subst h;exact qaT _ _
        ·simp at h
       | false=>exact qcy h
      ·have h:=qfP h
       generalize (Nat.ble _ _)=q at h
       cases q with
       | true =>
        simp only[cond_true]at h
        split at h
        ·simp at h;subst h;exact qaT _ _
        ·simp at h
       | false =>
        simp only[cond_false]at h
        exact(qaT _ _).trans (qcy (qaN h))
    ·simp at h
   ·simp at h
  ·simp at h
theorem qmF{st:St}{d:Nat}{t:TypeId}{x y:V}{r:Res}(h:QbZ P gl st d t x y=some r):Dirt st.hp r.hp:=by
 unfold QbZ at h
 split at h
 ·split at h
  ·have h:=qaN h
   simp at h;subst h;exact qbq _ _ _
  ·simp at h
 ·simp at h
theorem qhU{st:St}{t:TypeId}{x y:V}{r:Res}(h:copyV P st t x y=some r):Dirt st.hp r.hp:=by
 unfold copyV at h
 split at h
 ·simp at h
 ·split at h
  ·have h:=qaN h
   split at h
   ·split at h
    ·have h:=qaN h
     simp at h;subst h;exact qaT _ _
    ·simp at h
   ·simp at h
  ·simp at h
theorem qlt{st:St}{t:TypeId}{x:V}{r:Res}(h:Qbi P st t x=some r):Dirt st.hp r.hp:=by
 unfold Qbi at h
 split at h
 ·simp at h
 ·split at h
  ·have h:=qaN h
   split at h
   ·split at h
    ·simp at h;subst h;exact qaT _ _
    ·simp at h
   ·simp at h
  ·simp at h
theorem qm9{st:St}{d:Nat}{s t:TypeId}{x:V}{r:Res}(h:QbS P C gl st d s t x=some r):Dirt st.hp r.hp:=by
 unfold QbS at h
 split at h
 ·split at h
  ·split at h
   ·split at h
    ·simp at h
    ·simp only[Option.map_eq_some_iff]at h
     obtain⟨b,_,h⟩:=h
     subst h;exact .refl _
   ·simp at h
  ·simp at h
 ·split at h
  ·have h:=qaN h
   simp at h;subst h;exact qbq _ _ _
  ·simp at h
 ·simp at h
theorem qne{st:St}{dst:Option Nat}{c:Call}{r:Res}(h:QaP P C gl st dst c=some r):Dirt st.hp r.hp:=by
 unfold QaP at h
 simp only[]at h
 split at h
 ·split at h
  ·split at h
   ·rename_i l st' he
    simp at h;subst h;exact qdx _ _ _ _ he
   ·simp at h
  ·simp at h
 ·split at h
  ·split at h
   ·exact qkE (qaN h)
   ·exact qhU h
   ·simp at h
  ·split at h
   ·exact qhU h
   ·exact qlt h
   ·simp at h
  ·simp at h
 ·simp at h
theorem qjZ{st:St}{t:TypeId}{x k v:V}{r:Res}(h:Qcu P t st x k v=some r):Dirt st.hp r.hp:=by
 unfold Qcu at h
 split at h
 ·rename_i he
  split at h
  ·have h:=qaN h
   split at h
   ·simp at h;subst h;exact(qeL he).trans (qaT _ _)
   ·simp at h;subst h;exact(qeL he).trans (qaT _ _)
   ·simp at h
  ·simp at h
 ·simp at h
theorem qmp{st:St}{o:Oper}{r:Res}(h:stepG P C gl st o=some r):Dirt st.hp r.hp:=by
 unfold stepG at h
 split at h
 ·split at h
  ·split at h
   ·simp only[Option.map_eq_some_iff]at h
    obtain⟨b,_,h⟩:=h
    subst h;exact .refl _
   ·simp at h
  ·simp at h
 ·split at h
  ·split at h
   ·rename_i he
    split at h
    ·have h:=qaN h
     split at h
     ·simp at h;subst h;exact(qeL he).trans (qaT _ _)
     ·simp at h
    ·simp at h
   ·simp at h
  ·simp at h
 ·split at h
  ·simp at h
  ·split at h
   ·have h:=qaN h
    simp at h;subst h;exact qbq _ _ _
   ·simp at h
 ·split at h
  ·simp at h
  ·split at h
   ·rename_i he
    have h:=qaN h
    simp at h;subst h;exact(qeL he).trans (qbq _ _ _)
   ·simp at h
 ·split at h
  ·rename_i he
   simp only[]at h
   have h:=qfP h
   split at h
   ·simp at h;subst h;exact qdx _ _ _ _ he
   ·simp at h
  ·simp at h
 ·split at h
  ·split at h
   ·rename_i he
    have h:=qaN h
    split at h
    ·simp at h;subst h;exact(qdx _ _ _ _ he).trans (qbq _ _ _)
    ·simp at h
   ·simp at h
  ·simp at h
 ·split at h
  ·exact qmF h
  ·simp at h
 ·split at h
  ·exact qm9 h
  ·simp at h
 ·split at h
  ·split at h
   ·rcases qnx h with h | h
    ·simp at h;subst h;exact qaT _ _
    ·simp at h;subst h;exact .refl _
   ·simp at h
  ·simp at h
 ·exact qne h
 ·split at h
  ·have h:=qaN h
   simp at h;subst h;exact .refl _
  ·simp at h
 ·split at h
  ·simp at h;subst h;exact qbq _ _ _
  ·simp at h
 ·simp only[Option.map_eq_some_iff]at h
  obtain⟨v,_,h⟩:=h
  subst h;exact .refl _
 ·exact qjZ h
 ·exact qjZ h
 ·simp at h
theorem qpR(st:St)(u:Option (Nat × Nat × Row)):(Qa4 st u).hp=st.hp:=by
 cases u with
 | none=>rfl
 | some q=>rfl
theorem qdE{st:St}{o:Oper}{r:Res}(h:Qah P C gl st o=some r):Dirt st.hp r.hp:=by
 unfold Qah at h
 split at h
 ·simp at h;subst h;simp only[Res.hp,qpR];exact .refl _
 ·exact qmp h
theorem qc0(st:St)(d:Option Nat)(v:V):(QaF st d v).hp=st.hp:=by cases d<;>rfl
theorem qcJ{call:Qad}(hC:QaJ call){st st':St}{o:Oper}{ex:Ex}(h:QaA P C call gl st o=some (ex,st')):Dirt st.hp st'.hp:=by
 unfold QaA at h
 split at h
 ·rename_i hs
  simp at h;rw[←h.2];rw[qc0];exact qdE hs
 ·rename_i hs
  split at h
  ·rename_i hc
   simp at h;rw[←h.2];rw[qc0];exact(qdE hs).trans (hC _ _ _ _ hc)
  ·rename_i hc
   simp at h;rw[←h.2];exact(qdE hs).trans (hC _ _ _ _ hc)
  ·simp at h
 ·rename_i hs
  simp at h;rw[←h.2];exact qdE hs
 ·simp at h
theorem qgr{call:Qad}(hC:QaJ call){all:Array Oper}:∀ (l:List Oper)(st st':St)(ex:Ex),opsV P C call gl all l st=some (ex,st')→Dirt st.hp st'.hp
 | [],st,st',ex,h=>by simp[opsV]at h;rw[←h.2];exact .refl _
 | o::l,st,st',ex,h=>by
  simp only[opsV]at h
  split at h
  ·simp at h
  ·have:=qgr hC l _ _ _ h
   rw[qc0]at this;exact this
  ·split at h
   ·rename_i h1
    exact(qcJ hC h1).trans (qgr hC l _ _ _ h)
   ·exact qcJ hC h
theorem qbF{f:Foot}{r:Option (List Foot × St × Stop)}{fs:List Foot}{s:St}{q:Stop}(h:Qbh f r=some (fs,s,q)):∃ gs,r=some (gs,s,q)∧fs=f::gs:=by
 unfold Qbh at h
 split at h
 ·simp at h;obtain⟨rfl,rfl,rfl⟩:=h;exact⟨_,rfl,rfl⟩
 ·simp at h
def Stop.over(q:Stop)(h:Hp):Hp:=match q with
 | none=>h
 | some (_,_,h')=>h'
theorem qcB{call:Qad}(hC:QaJ call){all:Array Oper}{h0:Hp}:∀ (l:List Oper)(k:Nat)(sp:Stop)(st:St)(fs:List Foot)(st':St)(sp':Stop),Qaq P C call gl all l k sp st=some (fs,st',sp')→Dirt h0 (sp.over st.hp)→Dirt h0 st.hp→Dirt h0 (sp'.over st'.hp)
 | [],k,sp,st,fs,st',sp',h,hd,_=>by simp[Qaq]at h;obtain⟨_,rfl,rfl⟩:=h;exact hd
 | o::l,k,sp,st,fs,st',sp',h,hd,hd2=>by
  have skip:∀ f,Qbh f (Qaq P C call gl all l (k+1) sp (QaF st o.dst (.tuple [])))=some (fs,st',sp')→Dirt h0 (sp'.over st'.hp):=fun f h=>by
   obtain⟨gs,h1,_⟩:=qbF h
   exact qcB hC l _ _ _ _ _ _ h1 (by rw[qc0];exact hd) (by rw[qc0];exact hd2)
  simp only[Qaq]at h
  cases hb:behind all.toList k sp with
  | true=>rw[hb]at h;exact skip _ h
  | false =>
   rw[hb]at h
   simp only[cond_false]at h
   split at h
   ·simp at h
   ·exact skip _ h
   ·split at h
    ·rename_i h1
     obtain⟨gs,h2,_⟩:=qbF h
     have d1:=hd2.trans (qcJ hC h1)
     refine qcB hC l _ _ _ _ _ _ h2 ?_ d1
     cases sp with
     | none=>exact d1
     | some q=>exact hd
    ·rename_i h1
     split at h
     ·obtain⟨gs,h2,_⟩:=qbF (qaN h)
      exact qcB hC l _ _ _ _ _ _ h2 (hd2.trans (qcJ hC h1)) (by rw[qc0];exact hd2)
     ·simp at h
    ·simp at h
theorem qoW{P1 P2:List (Nat × Nat)}{ops:List Oper}{st st1 st':St}{fs:List Foot}{sp:Stop}{ex:Ex}(h:qm0 P1 P2 ops st fs st1 sp=some (ex,st')):st'.hp=sp.over st1.hp:=by
 cases sp with
 | none =>
  have h:=qaN h
  simp at h
  rw[←h.2];rfl
 | some q =>
  obtain⟨i,v,hh⟩:=q
  have h:=qaN h
  simp at h
  rw[←h.2];rfl
theorem qjg{call:Qad}(hC:QaJ call){f id:Nat}{ops:Array Oper}{draw:Bool}{st st':St}{ex:Ex}(h:qbN P C call f id ops draw st=some (ex,st')):Dirt st.hp st'.hp:=by
 unfold qbN at h
 cases draw with
 | false =>
  exact qgr hC _ _ _ _ h
 | true =>
  simp only[]at h
  split at h
  ·rename_i h1
   rw[qoW h]
   exact qcB hC _ _ _ _ _ _ _ h1 (.refl _) (.refl _)
  ·simp at h
theorem qhC{body:St→Option (Ex × St)}(hb:∀ st ex st',body st=some (ex,st')→Dirt st.hp st'.hp):∀ (n:Nat)(st st':St)(ex:Ex),Qcd body n st=some (ex,st')→Dirt st.hp st'.hp
 | 0,st,st',ex,h=>by simp[Qcd]at h
 | n+1,st,st',ex,h=>by
  simp only[Qcd]at h
  cases h1:body st with
  | none=>rw[h1]at h;simp at h
  | some p =>
   obtain⟨e,s⟩:=p
   rw[h1]at h
   cases e with
   | normal=>exact(hb _ _ _ h1).trans (qhC hb n _ _ _ h)
   | _=>simp at h;obtain⟨rfl,rfl⟩:=h;exact hb _ _ _ h1
theorem qfr{call:Qad}(hC:QaJ call){f fuel:Nat}:∀ (cd:Code)(st st':St)(ex:Ex),QaW P C call f fuel cd st=some (ex,st')→Dirt st.hp st'.hp:=by
 intro cd
 induction cd with
 | skip=>intro st st' ex h;simp[QaW]at h;rw[←h.2];exact .refl _
 | region id ops draw=>intro st st' ex h;simp only[QaW]at h;exact qjg hC h
 | seq a b iha ihb =>
  intro st st' ex h
  simp only[QaW]at h
  cases h1:QaW P C call f fuel a st with
  | none=>rw[h1]at h;simp at h
  | some p =>
   obtain⟨e,s⟩:=p
   rw[h1]at h
   cases e with
   | normal=>exact(iha _ _ _ h1).trans (ihb _ _ _ h)
   | _=>simp at h;obtain⟨rfl,rfl⟩:=h;exact iha _ _ _ h1
 | cond c a b iha ihb =>
  intro st st' ex h
  simp only[QaW]at h
  split at h
  ·exact iha _ _ _ h
  ·exact ihb _ _ _ h
  ·simp at h
 | block id b ih =>
  intro st st' ex h
  simp only[QaW]at h
  cases h1:QaW P C call f fuel b st with
  | none=>rw[h1]at h;simp at h
  | some p =>
   obtain⟨e,s⟩:=p
   rw[h1]at h
   cases e with
   | exit i =>
    simp only[]at h
    generalize Nat.beq i id=q at h
    cases q<;>(simp at h;obtain⟨rfl,rfl⟩:=h;exact ih _ _ _ h1)
   | _=>simp at h;obtain⟨rfl,rfl⟩:=h;exact ih _ _ _ h1
 | loop b ih=>intro st st' ex h;simp only[QaW]at h;exact qhC (fun _ _ _=>ih _ _ _) _ _ _ _ h
 | exit i=>intro st st' ex h;simp[QaW]at h;rw[←h.2];exact .refl _
 | ret=>intro st st' ex h;simp[QaW]at h;rw[←h.2];exact .refl _
 | _=>intro st st' ex h;simp[QaW]at h
theorem qhb{h h':Hp}{l:List V}(d:Dirt { h with dirty:=none } h'):Dirt h (Qar h h' l):=by
 unfold Qar
 cases hc:QaX h h' with
 | true =>
  have hcl:∀ k,h'.dirty=some k→h.rows.length≤k:=fun k hd=>by
   unfold QaX at hc
   rw[hd]at hc
   simpa using hc
  have hsame:∀ i,i<h.rows.length→h'.rows[i]? = h.rows[i]?:=fun i hi=>d.same i hi (fun k hd=>Nat.lt_of_lt_of_le hi (hcl k hd))
  simp only[cond_true]
  cases hn:V.Qaf l with
  | true=>exact .refl _
  | false =>
   simp only[cond_false]
   exact⟨d.len,fun k hk=>⟨k,hk,Nat.le_refl _⟩,fun i hi _=>hsame i hi,Nat.le_refl _,fun _=>⟨rfl,hsame⟩⟩
 | false =>
  simp only[cond_false]
  refine⟨d.len,fun k hk=>?_,fun i hi hd=>?_,d.mods,fun hm=>?_⟩
  ·simp only[hk]
   cases h'.dirty with
   | none=>exact⟨k,rfl,Nat.le_refl _⟩
   | some d'=>exact⟨_,rfl,Nat.min_le_left _ _⟩
  ·refine d.same i hi (fun k hk=>?_)
   simp only[hk]at hd
   cases hq:h.dirty with
   | none=>rw[hq]at hd;exact hd k rfl
   | some d0 =>
    rw[hq]at hd
    have:=hd _ rfl
    omega
  ·obtain⟨s1,s2⟩:=d.still hm
   refine⟨?_,s2⟩
   have s3:h'.dirty=none:=s1
   simp only[s3]
   cases h.dirty<;>rfl
theorem qly{call:Qad}(hC:QaJ call)(fuel:Nat):QaJ (qlA P C call fuel):=by
 intro f args h out hr
 unfold qlA at hr
 split at hr
 ·simp at hr
 ·simp at hr
 ·split at hr
  ·simp at hr
  ·rename_i fn _ _ _ cd _
   have fin:∀ (st:St),Dirt { h with dirty:=none } st.hp→(match Qbj P st fn.results.toList with
      | none=>none
      | some l=>match exps false st l with
       | none=>none
       | some (l,st')=>match l with
        | [v]=>some (Out.val v (Qar h st'.hp [v]))
        | vs=>some (Out.val (.tuple vs) (Qar h st'.hp vs)))=some out→Dirt h out.hp:=by
    intro st hd hr
    split at hr
    ·simp at hr
    ·split at hr
     ·simp at hr
     ·rename_i he
      have hd:=hd.trans (qdx _ _ _ _ he)
      split at hr<;>(simp only[Option.some.injEq]at hr;rw[←hr];exact qhb hd)
   split at hr
   ·rename_i hc;exact fin _ (qfr hC _ _ _ _ hc) hr
   ·rename_i hc;exact fin _ (qfr hC _ _ _ _ hc) hr
   ·rename_i hc
    simp only[Option.some.injEq]at hr
    rw[←hr]
    exact qhb (qfr hC _ _ _ _ hc)
   ·simp at hr
end
def Cells(h h':Hp):Prop:=∀ (r:Nat) (b:Bool) (cs:List V),h.rows[r]? = some (.cells b cs)→h'.rows[r]? = some (.cells b cs)
theorem Cells.refl(h:Hp):Cells h h:=fun _ _ _ h=>h
theorem Cells.trans{a b c:Hp}(h:Cells a b)(k:Cells b c):Cells a c:=fun r q cs e=>k r q cs (h r q cs e)
theorem qiZ{h h':Hp}(d:Dirt h h')(hm:h'.mods=h.mods):Cells h h':=fun r b cs e=>by
 have hr:r<h.rows.length:=by
  rcases Nat.lt_or_ge r h.rows.length with hi | hi
  ·exact hi
  ·rw[List.getElem?_eq_none hi]at e;simp at e
 rw[(d.still hm).2 r hr];exact e
theorem qkw{st:St}{gl:Bool}{d:Nat}{row:Row}:Cells st.hp (Qaa st gl d row).2.hp:=fun r b cs e=>by
 have hr:r<st.hp.rows.length:=by
  rcases Nat.lt_or_ge r st.hp.rows.length with hi | hi
  ·exact hi
  ·rw[List.getElem?_eq_none hi]at e;simp at e
 cases gl with
 | true=>simp only[Qaa,cond_true];rw[List.getElem?_append_left hr];exact e
 | false=>exact e
theorem qnb{st:St}{r0:Ref}(h:Qab st r0=some .tok):Cells st.hp (setRow st r0 .gone).hp:=fun r b cs e=>by
 cases r0 with
 | loc s g=>exact e
 | glob r1 =>
  simp only[setRow]
  have hne:r1≠r:=fun e1=>by
   subst e1
   simp only[Qab]at h
   rw[h]at e;simp at e
  rw[List.getElem?_set_ne hne];exact e
section
variable {P:Program}{C:Cfg}{gl:Nat→Bool}{ρ:Nat→V}{l:Nat→Nat × Row}{o:Oper}{ft:Foot}
theorem qdU(h:Qaz P C gl ρ l o=some ft)(hb:ft.ld=true∨ft.sf=true) :
  Qal P C gl ρ l o=none∧((∃ t x r off,o.op=.load t x∧opd ρ x=.ptr (.glob r) off∧ft.sf=false∧ft.wr=[]∧ft.hp=false) ∨
   ∃ c d x y,o.op=.call c∧c.callee=.builtin .append∧o.dst=some d∧c.args.toList=[x,y]∧Qd7 (opd ρ x)=true∧ft.ld=false):=by
 unfold Qaz at h
 cases hl:Qal P C gl ρ l o with
 | some p =>
  exfalso
  obtain⟨v,u⟩:=p
  rw[hl]at h
  cases u with
  | some q=>simp at h;subst h;simp at hb
  | none =>
   simp only[]at h
   split at h
   ·split at h<;>(simp only[Option.some.injEq]at h;subst h;simp at hb)
   ·simp only[Option.some.injEq]at h;subst h;simp at hb
 | none =>
  refine⟨rfl,?_⟩
  rw[hl]at h
  simp only[]at h
  split at h
  ·rename_i cl ho
   split at h
   ·split at h
    ·generalize (List.all _ quiet&&List.all _ quiet&&List.all _ quiet)=q at h
     cases q with
     | false=>simp at h
     | true=>simp at h;subst h;simp at hb
    ·simp at h
   ·rename_i hcal
    unfold Qa5 at h
    split at h
    ·rename_i d x y hd ha
     generalize hq:gl _=q at h
     cases q with
     | true =>
      simp only[cond_true]at h
      generalize Qdy _=q at h
      cases q with
      | false=>simp at h
      | true =>
       simp at h;subst h
       simp at hb
       exact .inr ⟨cl,d,x,y,ho,hcal,hd,ha,hb,rfl⟩
     | false =>
      simp only[cond_false]at h
      split at h
      ·simp at h;subst h;simp at hb
      ·simp at h
    ·simp at h
   ·simp at h
  ·rename_i t x ho
   split at h
   ·rename_i r off hx
    simp at h;subst h
    exact .inl ⟨t,x,r,off,ho,hx,rfl,rfl,rfl⟩
   ·simp at h
  ·split at h
   ·generalize quiet _=q at h
    cases q with
    | false=>simp at h
    | true=>simp at h;subst h;simp at hb
   ·simp at h
  ·simp at h;subst h;simp at hb
  ·generalize quiet _=q at h
   cases q with
   | false=>simp at h
   | true=>simp at h;subst h;simp at hb
  ·simp at h;subst h;simp at hb
  ·unfold Qbr at h
   split at h
   ·simp at h;subst h;simp at hb
   ·simp at h
  ·simp at h;subst h;simp at hb
  ·simp at h;subst h;simp at hb
  ·generalize quiet _=q at h
   cases q with
   | false=>simp at h
   | true=>simp at h;subst h;simp at hb
  ·generalize quiet _=q at h
   cases q with
   | false=>simp at h
   | true=>simp at h;subst h;simp at hb
  ·simp at h
theorem qmJ{call:Qad}{st st':St}(hf:Qaz P C gl st.ρ st.lc o=some ft)(hld:ft.ld=true)(hr:QaA P C call gl st o=some (.normal,st')) :
  ∃ v,st'=QaF st o.dst v∧∀ st2:St,Agree st.ρ st2.ρ o→Cells st.hp st2.hp→QaA P C call gl st2 o=some (.normal,QaF st2 o.dst v):=by
 obtain⟨hloc,⟨t,x,r,off,ho,hx,_,_,_⟩ | ⟨c,d,x,y,ho,hc,hd,ha,him,hld'⟩⟩:=qdU hf (.inl hld)
 ·have hs:∀ s:St,opd s.ρ x=.ptr (.glob r) off→Qah P C gl s o=(match s.hp.rows[r]? with
    | some (.cells _ cs)=>(QaV P t cs off).map (.val · s)
    | _=>none):=fun s hs=>by
   have:Qal P C gl s.ρ s.lc o=none:=by simp only[Qal,ho,hs]
   simp only[Qah,this,stepG,ho,hs]
   cases s.hp.rows[r]? with
   | none=>rfl
   | some row=>cases row<;>rfl
  have h1:=hs st hx
  unfold QaA at hr
  rw[h1]at hr
  cases hrow:st.hp.rows[r]? with
  | none=>rw[hrow]at hr;simp at hr
  | some row =>
   rw[hrow]at hr
   cases row with
   | cells b cs =>
    simp only[]at hr
    cases hp:QaV P t cs off with
    | none=>rw[hp]at hr;simp at hr
    | some v =>
     rw[hp]at hr
     simp at hr
     refine⟨v,hr.symm,fun st2 hag hcl=>?_⟩
     have hx2:opd st2.ρ x=.ptr (.glob r) off:=by rw[←hag x (by simp[ho,Op.operands])];exact hx
     unfold QaA
     rw[hs st2 hx2,hcl r b cs hrow]
     simp only[hp]
     rfl
   | _=>simp at hr
 ·rw[hld']at hld;simp at hld
theorem qkD{st:St}{d:Nat}{t:TypeId}{x y:V}{res:Res}(him:Qd7 x=true)(h:Qai P C gl st d t x y=some res):∃ v st',res=.val v st'∧Cells st.hp st'.hp:=by
 have grow:∀ {s:St} {cs:List V} {n sz:Nat} {ag:Bool} {res:Res},Qay gl s d cs n sz ag=some res→∃ v s',res=.val v s'∧Cells s.hp s'.hp:=fun h=>by
  unfold Qay at h
  generalize (gl d && !V.Qak _)=q at h
  cases q with
  | true=>simp at h
  | false=>simp at h;exact⟨_,_,h.symm,qkw⟩
 have imm:∀ {s:St} {sz:Nat} {l:List V} {res:Res},QaG gl s d sz l=some res→∃ v s',res=.val v s'∧Cells s.hp s'.hp:=fun h=>by
  unfold QaG at h
  simp at h;exact⟨_,_,h.symm,qkw⟩
 unfold Qai at h
 split at h
 ·simp at h
 ·split at h
  ·rename_i sz ag bytes ys _ _ _
   generalize (List.all ys _)=q at h
   cases q with
   | false=>simp at h
   | true =>
    simp only[cond_true]at h
    cases x with
    | nils =>
     simp only[]at h
     split at h
     ·simp at h;exact⟨_,_,h.symm,.refl _⟩
     ·generalize Nat.ble _ _=q at h
      cases q with
      | false=>simp at h
      | true =>
       simp only[cond_true]at h
       generalize C.QaN t=q at h
       cases q with
       | true=>exact grow h
       | false =>
        simp only[cond_false]at h
        generalize V.Qaf _=q at h
        cases q with
        | false=>simp at h
        | true=>exact imm h
    | slice tok full sz' l =>
     simp only[]at h
     generalize Nat.beq sz sz'=q at h
     cases q with
     | false=>simp at h
     | true =>
      simp only[cond_true]at h
      split at h
      ·simp at h;exact⟨_,_,h.symm,.refl _⟩
      ·generalize Nat.ble _ _=q at h
       cases q with
       | false=>simp at h
       | true =>
        simp only[cond_true]at h
        generalize C.QaN t=q at h
        cases q with
        | true =>
         cases full with
         | false=>simp at h
         | true=>exact grow h
        | false =>
         simp only[cond_false]at h
         generalize V.Qaf _=q at h
         cases q with
         | false=>simp at h
         | true =>
          cases full with
          | true=>exact imm h
          | false =>
           simp only[cond_true,cond_false]at h
           split at h
           ·split at h
            ·rename_i r hr
             obtain⟨v,s',e1,e2⟩:=imm h
             exact⟨v,s',e1,(qnb hr).trans e2⟩
            ·simp at h
           ·simp at h
    | _=>simp[Qd7]at him
  ·simp at h
theorem qmq{call:Qad}(hC:QaJ call){st st':St}(hf:Qaz P C gl st.ρ st.lc o=some ft)(hr:QaA P C call gl st o=some (.normal,st'))(hs:(settle st.hp st'.hp ft).sf=true):Cells st.hp st'.hp:=by
 have hd:=qcJ hC hr
 unfold settle at hs
 cases hb:Nat.beq st'.hp.mods st.hp.mods with
 | true=>exact qiZ hd (Nat.eq_of_beq_eq_true hb)
 | false =>
  rw[hb]at hs
  simp only[cond_false]at hs
  obtain⟨hloc,⟨t,x,r,off,ho,hx,hsf,_,_⟩ | ⟨c,d,x,y,ho,hc,hd,ha,him,hld'⟩⟩:=qdU hf (.inr hs)
  ·rw[hsf]at hs;simp at hs
  ·unfold QaA at hr
   simp only[Qah,hloc,stepG,ho,QaP,hc,hd,ha]at hr
   have e1:opds st.ρ [x,y]=[opd st.ρ x,opd st.ρ y]:=rfl
   rw[e1]at hr
   cases hat:c.argTypes[0]? with
   | none=>rw[hat]at hr;simp at hr
   | some t =>
    rw[hat]at hr
    simp only[]at hr
    generalize Qbv P _=q at hr
    cases q with
    | false=>simp at hr
    | true =>
     simp only[cond_true]at hr
     cases hap:Qai P C gl st d t (opd st.ρ x) (opd st.ρ y)with
     | none=>rw[hap]at hr;simp at hr
     | some res =>
      obtain⟨v,s1,rfl,hcl⟩:=qkD him hap
      rw[hap]at hr
      simp at hr
      rw[←hr,qc0]
      exact hcl
end
section
variable {P:Program}{C:Cfg}{gl:Nat→Bool}{call:Qad}{ops:Array Oper}
structure Rec(P:Program)(C:Cfg)(gl:Nat→Bool)(call:Qad)(ops:Array Oper)(sp:Stop)(k:Nat)(o:Oper)(T T':St)(e:Eff)(f:Foot)(b:Bool)(q:Nat):Prop where
 wanted:q≠1→QaD ops o T.ρ = some b
 next:T'=e.on T o.dst
 row:∀ u ∈ e.row,u.1 ∈ f.wr
 hpf:∀ h,e.hp=some h→f.hp=true
 skip:b=false→e=⟨.tuple [],[],none⟩∧f=⟨[],[],false,false,false,false⟩
 foot:b=true→Qco P C gl T.ρ T.lc o f
 loc:q=0→b=true→∀ st2:St,Agree T.ρ st2.ρ o→QbF T.lc st2.lc f.rd→(f.hr=true→T.hp=st2.hp∨(f.ld=true∧Cells T.hp st2.hp))→QaA P C call gl st2 o=some (.normal,e.on st2 o.dst)
 soft:f.sf=true→Cells T.hp T'.hp
 never:q=1→b=false∧∃ i v h,sp=some (i,v,h)∧Nat.testBit ((masks ops.toList []).getD k 0) i=true
 stop:q=2→b=true∧f.hr=true∧f.ld=false∧∃ v h,sp=some (k,v,h)∧∀ st2:St,Agree T.ρ st2.ρ o→T.hp=st2.hp→QaA P C call gl st2 o=some (.panic v,{ st2 with hp:=h })
 kind:q≤2
def shift{α:Type}(a:α)(f:Nat→α):Nat→α
 | 0=>a
 | k+1=>f k
theorem qjb(hC:QaJ call){st st':St}{o:Oper}{ft:Foot}(hf:Qaz P C gl st.ρ st.lc o=some ft)(hr:QaA P C call gl st o=some (.normal,st')) :
  ∃ e:Eff,st'=e.on st o.dst∧(∀ u ∈ e.row,u.1 ∈ (settle st.hp st'.hp ft).wr)∧(∀ h,e.hp=some h→(settle st.hp st'.hp ft).hp=true)∧Qco P C gl st.ρ st.lc o (settle st.hp st'.hp ft) ∧
   (∀ st2:St,Agree st.ρ st2.ρ o→QbF st.lc st2.lc (settle st.hp st'.hp ft).rd→((settle st.hp st'.hp ft).hr=true→st.hp=st2.hp∨((settle st.hp st'.hp ft).ld=true∧Cells st.hp st2.hp))→QaA P C call gl st2 o=some (.normal,e.on st2 o.dst)) ∧
   ((settle st.hp st'.hp ft).sf=true→Cells st.hp st'.hp):=by
 have hsoft:(settle st.hp st'.hp ft).sf=true→Cells st.hp st'.hp:=qmq hC hf hr
 cases hld:ft.ld with
 | true =>
  obtain⟨v,e1,e2⟩:=qmJ (call:=call) hf hld hr
  obtain⟨_,⟨t,x,r,off,ho,hx,hsf,hwr,hhp⟩ | ⟨c,d,x,y,ho,hc,hd,ha,him,hld'⟩⟩:=qdU hf (.inl hld)
  ·refine⟨⟨v,[],none⟩,by rw[e1];rfl,fun u hu=>by simp at hu,fun h hh=>by simp at hh,?_,fun st2 ha hm hh=>?_,hsoft⟩
   ·unfold settle
    cases Nat.beq st'.hp.mods st.hp.mods with
    | false=>exact⟨ft,hf,.inl rfl⟩
    | true =>
     cases Nat.beq st'.hp.rows.length st.hp.rows.length with
     | true=>exact⟨ft,hf,.inr (.inl rfl)⟩
     | false=>exact⟨ft,hf,.inr (.inr rfl)⟩
   ·have hhr:ft.hr=true:=by
     unfold Qaz at hf
     have:Qal P C gl st.ρ st.lc o=none:=by simp only[Qal,ho,hx]
     simp only[this,ho,hx]at hf
     simp at hf;subst hf;rfl
    have hcl:Cells st.hp st2.hp:=by
     have h3:(settle st.hp st'.hp ft).hr=true:=by
      unfold settle
      cases Nat.beq st'.hp.mods st.hp.mods with
      | false=>exact hhr
      | true=>cases Nat.beq st'.hp.rows.length st.hp.rows.length<;>exact hhr
     rcases hh h3 with h4 | ⟨_,h4⟩
     ·rw[h4];exact .refl _
     ·exact h4
    exact e2 st2 ha hcl
  ·rw[hld']at hld;simp at hld
 | false =>
  obtain⟨e,k1,k2,k4,k5⟩:=qmA hf hr rfl
  have side:∀ {f:Foot} {st2:St},f.hr=ft.hr→f.ld=ft.ld→(f.hr=true→st.hp=st2.hp∨(f.ld=true∧Cells st.hp st2.hp))→(ft.hr=true→st.hp=st2.hp):=fun h1 h2 h hr=>by
   rcases h (by rw[h1];exact hr)with h | ⟨h,_⟩
   ·exact h
   ·rw[h2,hld]at h;simp at h
  unfold settle at hsoft ⊢
  cases hm:Nat.beq st'.hp.mods st.hp.mods with
  | false =>
   rw[hm]at hsoft
   simp only[cond_false]at hsoft ⊢
   exact⟨e,k1,k2,k4,⟨ft,hf,.inl rfl⟩,fun st2 ha hm hh=>(k5 st2 ha hm (side rfl rfl hh)).1,hsoft⟩
  | true =>
   rw[hm]at hsoft
   simp only[cond_true]at hsoft ⊢
   cases hb:Nat.beq st'.hp.rows.length st.hp.rows.length with
   | false =>
    rw[hb]at hsoft
    simp only[cond_false]at hsoft ⊢
    exact⟨e,k1,k2,k4,⟨ft,hf,.inr (.inr rfl)⟩,fun st2 ha hm hh=>(k5 st2 ha hm (side (f:={ ft with sf:=true }) rfl rfl hh)).1,hsoft⟩
   | true =>
    rw[hb]at hsoft
    simp only[cond_true]at hsoft ⊢
    have hd:=(qcJ hC hr).eq (Nat.eq_of_beq_eq_true hm) (Nat.eq_of_beq_eq_true hb)
    have key:∀ st2:St,(ft.hr=true→st.hp=st2.hp)→e.on st2 o.dst=Eff.on { e with hp:=none } st2 o.dst:=by
     intro st2 hh
     cases he:e.hp with
     | none =>
      have:e={ e with hp:=none }:=by cases e;simp at he;subst he;rfl
      rw[←this]
     | some h =>
      have h1:=hh (qrp hf (k4 h he))
      have h2:h=st2.hp:=by
       have:st'.hp=h:=by
        rw[k1]
        unfold Eff.on
        rw[qc0]
        simp only[he,Option.getD_some]
       rw[←h1,←hd,this]
      unfold Eff.on
      simp only[he,Option.getD_some,Option.getD_none,h2]
    refine⟨{ e with hp:=none },?_,k2,fun h hh=>by simp at hh,⟨ft,hf,.inr (.inl rfl)⟩,fun st2 ha hm hh=>?_,hsoft⟩
    ·rw[←key st (fun _=>rfl)];exact k1
    ·have hh':=side (f:={ ft with hp:=false }) rfl rfl hh
     rw[←key st2 hh'];exact(k5 st2 ha hm hh').1
theorem qtC{st:St}{o:Oper}{ft:Foot}(hso:Qa6 o=true)(hf:Qaz P C gl st.ρ st.lc o=some ft):ft.ld=false:=by
 cases hld:ft.ld with
 | false=>rfl
 | true =>
  exfalso
  obtain⟨_,⟨t,x,r,off,ho,_⟩ | ⟨c,d,x,y,ho,hc,hd,ha,him,hld'⟩⟩:=qdU hf (.inl hld)
  ·simp[Qa6,ho]at hso
  ·rw[hld']at hld;simp at hld
theorem qbY:∀ (l:List Oper)(k0:Nat)(p:Nat × V × Hp)(st:St)(fs:List Foot)(stN:St)(sp':Stop),Qaq P C call gl ops l k0 (some p) st=some (fs,stN,sp')→sp'=some p
 | [],k0,p,st,fs,stN,sp',h=>by simp[Qaq]at h;exact h.2.2.symm
 | o::l,k0,p,st,fs,stN,sp',h=>by
  have skip:∀ f,Qbh f (Qaq P C call gl ops l (k0+1) (some p) (QaF st o.dst (.tuple [])))=some (fs,stN,sp')→sp'=some p:=fun f h=>by
   obtain⟨gs,h1,_⟩:=qbF h
   exact qbY l _ _ _ _ _ _ h1
  simp only[Qaq]at h
  cases hb:behind ops.toList k0 (some p)with
  | true=>rw[hb]at h;exact skip _ h
  | false =>
   rw[hb]at h
   simp only[cond_false]at h
   split at h
   ·simp at h
   ·exact skip _ h
   ·split at h
    ·obtain⟨gs,h1,_⟩:=qbF h
     exact qbY l _ _ _ _ _ _ h1
    ·simp at h
    ·simp at h
theorem qfC(hC:QaJ call):∀ (l:List Oper)(k0:Nat)(sp:Stop)(st:St)(fs:List Foot)(stN:St)(sp':Stop),Qaq P C call gl ops l k0 sp st=some (fs,stN,sp') →
  ∃ (E:Nat→Eff) (F:Nat→Foot) (B:Nat→Bool) (Q:Nat→Nat) (T:Nat→St),T 0=st∧T l.length=stN∧(∀ k o,l[k]? = some o→Rec P C gl call ops sp' (k0+k) o (T k) (T (k+1)) (E k) (F k) (B k) (Q k)∧fs[k]? = some (F k)) ∧
   ∀ i v h,sp'=some (i,v,h)→sp=some (i,v,h)∨∃ j,j<l.length∧i=k0+j∧Q j=2
 | [],k0,sp,st,fs,stN,sp',h=>by
  simp[Qaq]at h
  obtain⟨rfl,rfl,rfl⟩:=h
  exact⟨fun _=>⟨.dead,[],none⟩,fun _=>⟨[],[],false,false,false,false⟩,fun _=>true,fun _=>0,fun _=>st,rfl,rfl,fun k o hk=>by simp at hk,fun i v h e=>.inl e⟩
 | o::l,k0,sp,st,fs,stN,sp',h=>by
  have step:∀ (sp1:Stop) (st1:St) (f:Foot) (e:Eff) (b:Bool) (q:Nat),Qbh f (Qaq P C call gl ops l (k0+1) sp1 st1)=some (fs,stN,sp') →
    (∀ T:Nat→St,T 0=st1→Rec P C gl call ops sp' k0 o st (T 0) e f b q)→(∀ i v h,sp1=some (i,v,h)→sp=some (i,v,h)∨(i=k0∧q=2)) →
    ∃ (E:Nat→Eff) (F:Nat→Foot) (B:Nat→Bool) (Q:Nat→Nat) (T:Nat→St),T 0=st∧T (o::l).length=stN∧(∀ k o',(o::l)[k]? = some o'→Rec P C gl call ops sp' (k0+k) o' (T k) (T (k+1)) (E k) (F k) (B k) (Q k)∧fs[k]? = some (F k)) ∧
     ∀ i v h,sp'=some (i,v,h)→sp=some (i,v,h)∨∃ j,j<(o::l).length∧i=k0+j∧Q j=2:=by
   intro sp1 st1 f e b q h hrec hsp
   obtain⟨gs,h1,rfl⟩:=qbF h
   obtain⟨E,F,B,Q,T,k1,k2,k3,k4⟩:=qfC hC l _ _ _ _ _ _ h1
   refine⟨shift e E,shift f F,shift b B,shift q Q,shift st T,rfl,k2,fun k o' hk=>?_,fun i v hh hi=>?_⟩
   ·cases k with
    | zero =>
     simp at hk
     subst hk
     exact⟨hrec T k1,rfl⟩
    | succ k =>
     have:=k3 k o' (by simpa using hk)
     rw[show k0+1+k=k0+(k+1)by omega]at this
     exact this
   ·rcases k4 i v hh hi with h5 | ⟨j,h5,h6,h7⟩
    ·rcases hsp i v hh h5 with h8 | ⟨h8,h9⟩
     ·exact .inl h8
     ·exact .inr ⟨0,by simp,by simpa using h8,h9⟩
    ·exact .inr ⟨j+1,by simpa using h5,by omega,h7⟩
  simp only[Qaq]at h
  cases hb:behind ops.toList k0 sp with
  | true =>
   rw[hb]at h
   simp only[cond_true]at h
   cases sp with
   | none=>simp[behind]at hb
   | some p =>
    obtain⟨gs,h1,_⟩:=qbF h
    have hsp:=qbY l _ _ _ _ _ _ h1
    subst hsp
    obtain⟨i,v,hh⟩:=p
    refine step _ _ _ ⟨.tuple [],[],none⟩ false 1 h (fun T hT=>⟨fun hn=>absurd rfl hn,?_,fun u hu=>by simp at hu,fun h hh=>by simp at hh,fun _=>⟨rfl,rfl⟩,fun h=>by simp at h,fun h=>by simp at h,fun h=>by simp at h,fun _=>⟨rfl,i,v,hh,rfl,hb⟩,fun h=>by simp at h,by omega⟩) (fun i v h e=>.inl e)
    rw[hT];rfl
  | false =>
   rw[hb]at h
   simp only[cond_false]at h
   split at h
   ·simp at h
   ·rename_i hw
    refine step _ _ _ ⟨.tuple [],[],none⟩ false 0 h (fun T hT=>⟨fun _=>hw,?_,fun u hu=>by simp at hu,fun h hh=>by simp at hh,fun _=>⟨rfl,rfl⟩,fun h=>by simp at h,fun _ h=>by simp at h,fun h=>by simp at h,fun h=>by simp at h,fun h=>by simp at h,by omega⟩) (fun i v h e=>.inl e)
    rw[hT];rfl
   ·rename_i hw
    split at h
    ·rename_i ft st' hft hone
     obtain⟨e,k1,k2,k4,k6,k5,k7⟩:=qjb hC hft hone
     refine step _ _ _ e true 0 h (fun T hT=>⟨fun _=>hw,?_,k2,k4,fun h=>by simp at h,fun _=>k6,fun _ _ st2 ha hm hh=>k5 st2 ha hm hh,fun h=>by rw[hT];exact k7 h,fun h=>by simp at h,fun h=>by simp at h,by omega⟩) (fun i v h e=>.inl e)
     rw[hT];exact k1
    ·rename_i ft v st' hft hone
     split at h
     ·cases hso:Qa6 o with
      | false=>simp[hso]at h
      | true =>
       simp only[hso,cond_true]at h
       obtain⟨gs,h1,_⟩:=qbF h
       have hsp:=qbY l _ _ _ _ _ _ h1
       subst hsp
       obtain⟨m1,m2,m3⟩:=qn3 hso hft hone
       refine step _ _ _ ⟨.tuple [],[],none⟩ true 2 h (fun T hT=>⟨fun _=>hw,?_,fun u hu=>by simp at hu,fun h hh=>by simp at hh,fun h=>by simp at h,fun _=>⟨ft,hft,.inl rfl⟩,fun h=>by simp at h,fun _=>by rw[hT];rw[qc0];exact .refl _,fun h=>by simp at h,
        fun _=>⟨rfl,m2,qtC hso hft,v,st'.hp,rfl,m3⟩,by omega⟩) (fun i v h e=>by simp at e;exact .inr ⟨e.1.symm,rfl⟩)
       rw[hT];rfl
     ·simp at h
    ·simp at h
theorem qh0{o:Oper} {ρ σ:Nat→V}(h:∀ j w d,o.guard=some (j,w)→(ops[j]?).bind (·.dst)=some d→ρ d = σ d):QaD ops o ρ = QaD ops o σ:=by
 unfold QaD
 cases hg:o.guard with
 | none=>rfl
 | some p =>
  obtain⟨j,w⟩:=p
  simp only[]
  cases hd:(ops[j]?).bind (·.dst)with
  | none=>rfl
  | some d=>simp only[h j w d hg hd]
def rowAt:List (Nat × Nat × Row)→Nat→Option (Nat × Row)
 | [],_=>none
 | (s',g,row)::l,s=>match rowAt l s with
  | some p=>some p
  | none=>if s'=s then some (g,row)else none
theorem qdl:∀ {l:List (Nat × Nat × Row)}{s:Nat}{p:Nat × Row},rowAt l s=some p→∃ u ∈ l,u.1=s
 | [],s,p,h=>by simp[rowAt]at h
 | (s',g,row)::l,s,p,h=>by
  simp only[rowAt]at h
  split at h
  ·rename_i hq
   obtain⟨u,hu,he⟩:=qdl hq
   exact⟨u,by simp[hu],he⟩
  ·by_cases e:s'=s
   ·exact⟨(s',g,row),by simp,e⟩
   ·simp[e]at h
theorem qhX:∀ (l:List (Nat × Nat × Row))(st:St)(s:Nat),(QaQ st l).lc s=(rowAt l s).getD (st.lc s)
 | [],st,s=>rfl
 | (s',g,row)::l,st,s=>by
  simp only[QaQ]
  rw[qhX l]
  simp only[rowAt]
  cases rowAt l s with
  | some p=>rfl
  | none =>
   show(Qa4 st (some (s',g,row))).lc s=_
   rw[show(Qa4 st (some (s',g,row))).lc s=_ from qbW s' (g,row) s]
   by_cases h:s'=s<;>simp[h]
structure AtS(st0:St)(E:Nat→Eff)(n:Nat)(ops:Array Oper)(S:Nat→Bool)(X:St):Prop where
 tm:∀ t,X.ρ t=Qbt S (fun k=>if (ops[k]?).bind (·.dst)=some t then some (E k).v else none) (st0.ρ t) n
 lc:∀ s,X.lc s=Qbt S (fun k=>rowAt (E k).row s) (st0.lc s) n
 hp:X.hp=Qbt S (fun k=>(E k).hp) st0.hp n
theorem qAi(e:Eff)(st:St)(d:Option Nat)(t:Nat):(e.on st d).ρ t=if d=some t then e.v else st.ρ t:=by
 have h1:({ QaQ st e.row with hp:=e.hp.getD st.hp }:St).ρ t=st.ρ t:=by
  show aget V.dead (QaQ st e.row).tm t=_
  rw[qnj];rfl
 unfold Eff.on
 cases d with
 | none =>
  have:(QaF ({ QaQ st e.row with hp:=e.hp.getD st.hp }:St) none e.v).ρ t=st.ρ t:=h1
  rw[this];simp
 | some i =>
  rw[qnU,h1]
  by_cases h:i=t
  ·subst h;simp
  ·simp[h]
theorem qxe(e:Eff)(st:St)(d:Option Nat):(e.on st d).hp=e.hp.getD st.hp:=by
 unfold Eff.on;cases d<;>rfl
theorem qyq(e:Eff)(st:St)(d:Option Nat)(s:Nat):(e.on st d).lc s=(rowAt e.row s).getD (st.lc s):=by
 unfold Eff.on
 have h1:(QaF ({ QaQ st e.row with hp:=e.hp.getD st.hp }:St) d e.v).lc s=(QaQ st e.row).lc s:=by cases d<;>rfl
 rw[h1,qhX]
end
theorem qdO{α:Type}{S:Nat→Bool}{w:Nat→Option α}{d:α}:∀ n,(∀ k,k<n→S k=false)→Qbt S w d n=d
 | 0,_=>rfl
 | n+1,h=>by
  simp only[Qbt,h n (by omega)]
  exact qdO n (fun k hk=>h k (by omega))
theorem qgn{fs:List Foot}:∀ {l:List (Nat × Nat)}{i j:Nat},QaL fs l=true→(i,j) ∈ l→∃ a b,fs[i]? = some a∧fs[j]? = some b∧indep a b=true
 | [],i,j,_,h=>by simp at h
 | (a,b)::l,i,j,h,hm=>by
  simp only[QaL,Bool.and_eq_true]at h
  rcases List.mem_cons.1 hm with e | hm
  ·injection e with e1 e2
   subst e1;subst e2
   have h1:=h.1
   split at h1
   ·rename_i x y hx hy;exact⟨x,y,hx,hy,h1⟩
   ·simp at h1
  ·exact qgn h.2 hm
section
variable {P:Program}{C:Cfg}{gl:Nat→Bool}{call:Qad}{ops:Array Oper}
structure Run(P:Program)(C:Cfg)(gl:Nat→Bool)(call:Qad)(ops:Array Oper)(pairs QaU:List (Nat × Nat))(sp:Stop)(st0 stN:St)(E:Nat→Eff)(F:Nat→Foot)(B:Nat→Bool)(Q:Nat→Nat)(T:Nat→St):Prop where
 zero:T 0=st0
 last:T ops.size=stN
 line:∀ k o,ops[k]? = some o→Rec P C gl call ops sp k o (T k) (T (k+1)) (E k) (F k) (B k) (Q k)
 hit:∀ i v h,sp=some (i,v,h)→i<ops.size∧Q i=2
 ok:QbY calm ops pairs=true
 okH:QbY qlw ops QaU=true
 pairs:∀ i j,(i,j) ∈ pairs→∀ o p,ops[i]? = some o→ops[j]? = some p→indep (F i) (F j)=true
 far:(∀ i o,ops[i]? = some o→(F i).far o=false)∨∀ i j,(i,j) ∈ QaU→∀ o p,ops[i]? = some o→ops[j]? = some p→indep (F i) (F j)=true
variable {pairs QaU:List (Nat × Nat)}{sp:Stop}{st0 stN:St}{E:Nat→Eff}{F:Nat→Foot}{B:Nat→Bool}{Q:Nat→Nat}{T:Nat→St}
theorem Run.apart(R:Run P C gl call ops pairs QaU sp st0 stN E F B Q T){i j:Nat}{p o:Oper}(hp:ops[i]? = some p)(ho:ops[j]? = some o)(hij:i<j)(hn:¬Prec ops i j):Oper.apart ops p o=true∧indep (F i) (F j)=true:=by
 have r1:=R.line i p hp
 have r2:=R.line j o ho
 have low:∀ cm:Nat→Nat→Bool,(∀ (fo fp:Foot) (X Y:St),Qco P C gl X.ρ X.lc p fo→Qco P C gl Y.ρ Y.lc o fp→fo.far p=(F i).far p→fp.far o=(F j).far o→cm (cls p.op) (cls o.op)=true→indep fo fp=true) →
   cm (cls p.op) (cls o.op)=true→indep (F i) (F j)=true:=by
  intro cm hcm h2
  cases hb1:B i with
  | false=>rw[(r1.skip hb1).2];simp[indep,disj]
  | true =>
   cases hb2:B j with
   | false =>
    rw[(r2.skip hb2).2]
    simp[indep,qco]
   | true=>exact hcm _ _ _ _ (r1.foot hb1) (r2.foot hb2) rfl rfl h2
 rcases R.far with hn' | hH
 ·rcases qg6 R.ok hp ho hij with h | ⟨h1,h2⟩
  ·exact absurd h hn
  ·refine⟨h1,?_⟩
   rcases h2 with h2 | h2
   ·exact low calm (fun fo fp X Y a b e1 e2 c=>qnc a b (by rw[e1];exact hn' i p hp) (by rw[e2];exact hn' j o ho) c) h2
   ·exact R.pairs i j h2 p o hp ho
 ·rcases qg6 R.okH hp ho hij with h | ⟨h1,h2⟩
  ·exact absurd h hn
  ·refine⟨h1,?_⟩
   rcases h2 with h2 | h2
   ·exact low qlw (fun fo fp X Y a b e1 e2 c=>qlv a b c) h2
   ·exact hH i j h2 p o hp ho
theorem qdz:∀ {a b:List Nat},disj a b=true→∀ s ∈ a,s ∉ b
 | [],b,_,s,hs=>by simp at hs
 | x::a,b,h,s,hs=>by
  simp only[disj,Bool.and_eq_true,List.all_eq_true,Bool.not_eq_true']at h
  rcases List.mem_cons.1 hs with rfl | hs
  ·intro hb
   have:=h.1 s hb
   simp at this
  ·exact qdz h.2 s hs
theorem qbP{a b:Foot}(h:indep a b=true):(a.hp=true→b.hr=false∧b.hp=false)∧(b.hp=true→(a.hr=false∨(a.ld=true∧b.sf=true))∧a.hp=false)∧(∀ s ∈ a.wr,s ∉ b.rd∧s ∉ b.wr)∧(∀ s ∈ b.wr,s ∉ a.rd∧s ∉ a.wr):=by
 simp only[indep,Bool.and_eq_true,Bool.not_eq_true']at h
 obtain⟨⟨⟨⟨h1,h5⟩,h2⟩,h3⟩,h4⟩:=h
 refine⟨fun ha=>?_,fun hb=>?_,fun s hs=>⟨qdz h2 s hs,qdz h3 s hs⟩,fun s hs=>⟨fun hr=>qdz h4 s hr hs,fun hw=>qdz h3 s hw hs⟩⟩
 ·rw[ha]at h1;simpa using h1
 ·rw[hb]at h1 h5
  refine⟨?_,by simpa using h1⟩
  cases hr:a.hr with
  | false=>exact .inl rfl
  | true =>
   rw[hr]at h5
   right
   simpa using h5
def Closed(ops:Array Oper)(S:Nat→Bool):Prop:=∀ j o e,ops[j]? = some o→S j=true→e ∈ o.after.toList→Region.binds .any e=true→S e.on=true
theorem qcI{k:Nat}(h:k<ops.size):∃ o,ops[k]? = some o:=⟨_,Array.getElem?_eq_getElem h⟩
theorem AtS.insert(R:Run P C gl call ops pairs QaU sp st0 stN E F B Q T){S S':Nat→Bool}{i:Nat}{o:Oper}(ho:ops[i]? = some o)(hi:S i=false)(hfree:∀ k,k<ops.size→i<k→S k=true→¬Prec ops i k)
  {X:St} (hX:AtS st0 E ops.size ops S X) (hS:∀ k,S' k=(S k || k == i)):AtS st0 E ops.size ops S' ((E i).on X o.dst):=by
 have hlt:i<ops.size:=by
  rcases Nat.lt_or_ge i ops.size with h' | h'
  ·exact h'
  ·simp[h']at ho
 have ap:∀ k p,ops[k]? = some p→i<k→S k=true→Oper.apart ops o p=true∧indep (F i) (F k)=true:=fun k p hp hik hsk =>
  R.apart ho hp hik (hfree k (by
   rcases Nat.lt_or_ge k ops.size with h' | h'
   ·exact h'
   ·simp[h']at hp) hik hsk)
 refine⟨fun t=>?_,fun s=>?_,?_⟩
 ·rw[qAi,qcw hS ops.size hlt hi (fun k hk hik hwk hwi=>?_)]
  ·have:(ops[i]?).bind (·.dst)=o.dst:=by rw[ho];rfl
   simp only[this]
   by_cases hd:o.dst=some t
   ·simp[hd]
   ·simp only[hd,if_false];exact hX.tm t
  ·cases hsk:S k with
   | false=>rfl
   | true =>
    exfalso
    obtain⟨p,hp⟩:=qcI (ops:=ops) hk
    obtain⟨_,h2,_⟩:=Oper.apart_spec (ap k p hp hik hsk).1
    simp only[hp,ho,Option.bind_some]at hwk hwi
    have e1:p.dst=some t:=by
     by_cases h:p.dst=some t
     ·exact h
     ·simp[h]at hwk
    have e2:o.dst=some t:=by
     by_cases h:o.dst=some t
     ·exact h
     ·simp[h]at hwi
    exact h2 t e2 e1
 ·rw[qyq,qcw hS ops.size hlt hi (fun k hk hik hwk hwi=>?_)]
  ·cases hr:rowAt (E i).row s with
   | none=>simp only[Option.getD_none];exact hX.lc s
   | some q=>rfl
  ·cases hsk:S k with
   | false=>rfl
   | true =>
    exfalso
    obtain⟨p,hp⟩:=qcI (ops:=ops) hk
    have hin:=qbP (ap k p hp hik hsk).2
    obtain⟨q1,hr1⟩:=Option.isSome_iff_exists.1 hwk
    obtain⟨q2,hr2⟩:=Option.isSome_iff_exists.1 hwi
    obtain⟨u1,m1,e1⟩:=qdl hr1
    obtain⟨u2,m2,e2⟩:=qdl hr2
    have f1:=(R.line k p hp).row _ m1
    have f2:=(R.line i o ho).row _ m2
    rw[e1]at f1
    rw[e2]at f2
    exact(hin.2.2.1 s f2).2 f1
 ·rw[qxe,qcw hS ops.size hlt hi (fun k hk hik hwk hwi=>?_)]
  ·cases hh:(E i).hp with
   | none=>simp only[Option.getD_none];exact hX.hp
   | some h'=>rfl
  ·cases hsk:S k with
   | false=>rfl
   | true =>
    exfalso
    obtain⟨p,hp⟩:=qcI (ops:=ops) hk
    have hin:=qbP (ap k p hp hik hsk).2
    obtain⟨h1,hh1⟩:=Option.isSome_iff_exists.1 hwk
    obtain⟨h2,hh2⟩:=Option.isSome_iff_exists.1 hwi
    have f1:=(R.line k p hp).hpf _ hh1
    have f2:=(R.line i o ho).hpf _ hh2
    have:=(hin.1 f2).2
    rw[f1]at this;simp at this
theorem Run.text(R:Run P C gl call ops pairs QaU sp st0 stN E F B Q T):∀ k,k≤ops.size→AtS st0 E ops.size ops (fun j=>decide (j<k)) (T k)
 | 0,_=>by
  rw[R.zero]
  exact⟨fun t=>(qdO _ (fun k _=>by simp)).symm,fun s=>(qdO _ (fun k _=>by simp)).symm,(qdO _ (fun k _=>by simp)).symm⟩
 | k+1,hk=>by
  obtain⟨o,ho⟩:=qcI (ops:=ops) (show k<ops.size by omega)
  rw[(R.line k o ho).next]
  refine AtS.insert (S:=fun j=>decide (j<k)) (i:=k) R ho (by simp) (fun j _ hkj hj=>by simp at hj;omega) (R.text k (by omega)) (fun j=>?_)
  have:decide (j<k+1)=(decide (j<k) || decide (j=k)):=by
   rw[←Bool.decide_or]
   exact decide_eq_decide.2 (by omega)
  rw[this]
  rfl
end
theorem qkf{α:Type}{p q:α→Bool}:∀ (l:List α),(∀ x ∈ l,q x=true→p x=true)→(l.filter q).length≤(l.filter p).length
 | [],_=>Nat.le_refl _
 | x::l,h=>by
  have ih:=qkf l (fun y hy=>h y (by simp[hy]))
  simp only[List.filter_cons]
  cases hq:q x with
  | true=>rw[h x (by simp) hq];simpa using ih
  | false=>cases p x<;>simp<;>omega
theorem qke{α:Type}{p q:α→Bool}{x:α}:∀ (l:List α),(∀ x ∈ l,q x=true→p x=true)→x ∈ l→p x=true→q x=false→(l.filter q).length<(l.filter p).length
 | [],_,hx,_,_=>by simp at hx
 | y::l,h,hx,hp,hq=>by
  have hl:=qkf l (fun y hy=>h y (by simp[hy]))
  simp only[List.filter_cons]
  rcases List.mem_cons.1 hx with rfl | hx
  ·rw[hp,hq];simp;omega
  ·have ih:=qke l (fun y hy=>h y (by simp[hy])) hx hp hq
   cases hqy:q y with
   | true=>rw[h y (by simp) hqy];simpa using ih
   | false=>cases p y<;>simp<;>omega
section
variable {P:Program}{C:Cfg}{gl:Nat→Bool}{call:Qad}{ops:Array Oper}
variable {pairs QaU:List (Nat × Nat)}{sp:Stop}{st0 stN:St}{E:Nat→Eff}{F:Nat→Foot}{B:Nat→Bool}{Q:Nat→Nat}{T:Nat→St}
theorem Run.meets (R : Run P C gl call ops pairs QaU sp st0 stN E F B Q T) {S : Nat → Bool} (hc : Closed ops S) {i : Nat} {o : Oper} (ho : ops[i]? = some o) (hi : S i = false) (hready : ∀ e ∈ o.after.toList, Region.binds .any e = true → S e.on = true)
    {X : St} (hX : AtS st0 E ops.size ops S X) :
    (∀ t, t ∈ o.looksAt ops → (T i).ρ t = X.ρ t) ∧ QbF (T i).lc X.lc (F i).rd ∧ ((F i).hr = true → (T i).hp = X.hp ∨ ((F i).ld = true ∧ Cells (T i).hp X.hp)) := by
  have hlt : i < ops.size := by
    rcases Nat.lt_or_ge i ops.size with h' | h'
    · exact h'
    · simp [h'] at ho
  have hT := R.text i (by omega)
  have before : ∀ k, Prec ops k i → S k = true := by
    intro k hp
    cases hp with
    | edge ho' he hb hk => rw [ho] at ho'; obtain rfl := Option.some.inj ho'; rw [← hk]; exact hready _ he hb
    | step ho' he hb hk hp => rw [ho] at ho'; obtain rfl := Option.some.inj ho'; exact hp.closed (fun j o e a b c d => hc j o e a b c d) (by rw [← hk]; exact hready _ he hb)
  have key : ∀ k, k < ops.size → (∀ p, ops[k]? = some p → k < i → ¬ (Oper.apart ops p o = true ∧ indep (F k) (F i) = true)) → (∀ p, ops[k]? = some p → i < k → ¬ (Oper.apart ops o p = true ∧ indep (F i) (F k) = true)) → decide (k < i) = S k := by
    intro k hk h1 h2
    obtain ⟨p, hp⟩ := qcI (ops := ops) hk
    rcases Nat.lt_trichotomy k i with h | h | h
    · have : S k = true := by
        by_cases hpr : Prec ops k i
        · exact before k hpr
        · exact absurd (R.apart hp ho h hpr) (h1 p hp h)
      rw [this]; simp [h]
    · subst h; rw [hi]; simp
    · have : S k = false := by
        cases hsk : S k with
        | false => rfl
        | true =>
          by_cases hpr : Prec ops i k
          · have := hpr.closed (fun j o e a b c d => hc j o e a b c d) hsk
            rw [hi] at this; simp at this
          · exact absurd (R.apart ho hp h hpr) (h2 p hp h)
      rw [this]; simp; omega
  refine ⟨fun t ht => ?_, ?_, fun hh => ?_⟩
  · rw [hT.tm, hX.tm]
    refine qa5 _ (fun k hk hw => key k hk (fun p hp hki hap => ?_) (fun p hp hik hap => ?_))
    · obtain ⟨h1, _, _⟩ := Oper.apart_spec hap.1
      simp only [hp, Option.bind_some] at hw
      have e1 : p.dst = some t := by
        by_cases h : p.dst = some t
        · exact h
        · simp [h] at hw
      exact h1 t e1 ht
    · obtain ⟨_, _, h3⟩ := Oper.apart_spec hap.1
      simp only [hp, Option.bind_some] at hw
      have e1 : p.dst = some t := by
        by_cases h : p.dst = some t
        · exact h
        · simp [h] at hw
      exact h3 t e1 ht
  · intro s hrd
    show (T i).lc s = X.lc s
    rw [hT.lc, hX.lc]
    have wr : ∀ k p, ops[k]? = some p → (rowAt (E k).row s).isSome = true → s ∈ (F k).wr := by
      intro k p hp hw
      obtain ⟨q1, hr1⟩ := Option.isSome_iff_exists.1 hw
      obtain ⟨u1, m1, e1⟩ := qdl hr1
      have := (R.line k p hp).row _ m1
      rw [e1] at this; exact this
    refine qa5 _ (fun k hk hw => key k hk (fun p hp hki hap => ?_) (fun p hp hik hap => ?_))
    · exact ((qbP hap.2).2.2.1 s (wr k p hp hw)).1 hrd
    · exact ((qbP hap.2).2.2.2 s (wr k p hp hw)).1 hrd
  · by_cases hall : ∀ k, k < ops.size → (E k).hp.isSome = true → decide (k < i) = S k
    · left
      rw [hT.hp, hX.hp]
      exact qa5 _ (fun k hk hw => hall k hk hw)
    · right
      have wrs : ∀ k p, ops[k]? = some p → (E k).hp.isSome = true → (F k).hp = true := fun k p hp hw => by
        obtain ⟨h1, hh1⟩ := Option.isSome_iff_exists.1 hw
        exact (R.line k p hp).hpf _ hh1
      have low : ∀ k, k < i → k < ops.size → (E k).hp.isSome = true → S k = true := by
        intro k hki hk hw
        obtain ⟨p, hp⟩ := qcI (ops := ops) hk
        by_cases hpr : Prec ops k i
        · exact before k hpr
        · exfalso
          have := ((qbP (R.apart hp ho hki hpr).2).1 (wrs k p hp hw)).1
          rw [hh] at this; simp at this
      have high : ∀ k, i < k → k < ops.size → (E k).hp.isSome = true → S k = true → (F i).ld = true ∧ (F k).sf = true := by
        intro k hik hk hw hsk
        obtain ⟨p, hp⟩ := qcI (ops := ops) hk
        by_cases hpr : Prec ops i k
        · have := hpr.closed (fun j o e a b c d => hc j o e a b c d) hsk
          rw [hi] at this; simp at this
        · rcases ((qbP (R.apart ho hp hik hpr).2).2.1 (wrs k p hp hw)).1 with h | h
          · rw [hh] at h; simp at h
          · exact h
      have hld : (F i).ld = true := by
        by_cases h : ∃ k, k < ops.size ∧ (E k).hp.isSome = true ∧ decide (k < i) ≠ S k
        · obtain ⟨k, hk, hw, hne⟩ := h
          rcases Nat.lt_trichotomy k i with h | h | h
          · exact absurd (by rw [low k h hk hw]; simp [h]) hne
          · subst h; exact absurd (by rw [hi]; simp) hne
          · cases hsk : S k with
            | true => exact (high k h hk hw hsk).1
            | false => exact absurd (by rw [hsk]; simp; omega) hne
        · exact absurd (fun k hk hw => Classical.not_not.1 (fun hne => h ⟨k, hk, hw, hne⟩)) hall
      refine ⟨hld, ?_⟩
      have cut : ∀ (n m : Nat), m ≤ n → Qbt (fun k => decide (k < m)) (fun k => (E k).hp) st0.hp n = Qbt (fun k => decide (k < m)) (fun k => (E k).hp) st0.hp m := by
        intro n
        induction n with
        | zero => intro m hm; have : m = 0 := by omega
                  subst this; rfl
        | succ n ihn =>
          intro m hm
          rcases Nat.eq_or_lt_of_le hm with e | e
          · subst e; rfl
          · rw [← ihn m (by omega)]
            have : decide (n < m) = false := by simp; omega
            simp only [Qbt, this]
      have hpT : ∀ n, n ≤ ops.size → (T n).hp = Qbt (fun k => decide (k < n)) (fun k => (E k).hp) st0.hp n := fun n hn => by
        rw [(R.text n hn).hp, cut ops.size n hn]
      have key : ∀ n, n ≤ ops.size → i ≤ n → Cells (T i).hp (Qbt S (fun k => (E k).hp) st0.hp n) := by
        intro n
        induction n with
        | zero =>
          intro _ h0
          have : i = 0 := by omega
          rw [hpT i (by omega), this]; exact .refl _
        | succ n ihn =>
          intro hn h0
          rcases Nat.eq_or_lt_of_le h0 with e | e
          · rw [hpT i (by omega), ← e]
            have : Qbt (fun k => decide (k < i)) (fun k => (E k).hp) st0.hp i = Qbt S (fun k => (E k).hp) st0.hp i :=
              qa5 _ (fun k hk hw => by rw [low k hk (by omega) hw]; simp [hk])
            rw [this]; exact .refl _
          · have ih := ihn (by omega) (by omega)
            simp only [Qbt]
            cases hsn : S n with
            | false => exact ih
            | true =>
              cases hen : (E n).hp with
              | none => exact ih
              | some h' =>
                have hne : n ≠ i := fun e => by subst e; rw [hi] at hsn; simp at hsn
                obtain ⟨p, hp⟩ := qcI (ops := ops) (show n < ops.size by omega)
                have hs := (high n (by omega) (by omega) (by rw [hen]; rfl) hsn).2
                have hcl := (R.line n p hp).soft hs
                have hnext : (T (n + 1)).hp = h' := by
                  rw [(R.line n p hp).next, qxe, hen]; rfl
                rw [hnext] at hcl
                have htn : (T n).hp = Qbt S (fun k => (E k).hp) st0.hp n := by
                  rw [hpT n (by omega)]
                  refine qa5 _ (fun k hk hw => ?_)
                  have : S k = true := by
                    obtain ⟨p', hp'⟩ := qcI (ops := ops) (show k < ops.size by omega)
                    by_cases hpr : Prec ops k n
                    · exact hpr.closed (fun j o e a b c d => hc j o e a b c d) hsn
                    · exfalso
                      have h5 := ((qbP (R.apart hp' hp hk hpr).2).1 (wrs k p' hp' hw)).2
                      have h6 := wrs n p hp (by rw [hen]; rfl)
                      rw [h6] at h5; simp at h5
                  rw [this]; simp [hk]
                rw [htn] at hcl
                exact ih.trans hcl
      rw [hX.hp]
      exact key ops.size (Nat.le_refl _) (by omega)
theorem qhJ{X Y:St}(hl:∀ s,X.lc s=Y.lc s)(hh:X.hp=Y.hp)(r:Ref):Qab X r=Qab Y r:=by
 cases r with
 | loc s g=>rw[qap,qap,hl]
 | glob r=>simp only[Qab,hh]
theorem Sim.dim[Laid]{D:List Deferred}{n:Nat}{c0 c:Ctx}{w0 w:World}{a:Act}{s0 X Y:St}(h:Sim D n c0 s0 w0 X a w c)(ht:∀ t,Y.ρ t=.dead∨X.ρ t=Y.ρ t)(hl:∀ s,X.lc s=Y.lc s)(hh:X.hp=Y.hp):Sim D n c0 s0 w0 Y a w c:=by
 have hg:=qhJ hl hh
 have ho:∀ b,Own c Y b→Own c X b:=fun b ⟨r,row,h1,h2,h3⟩=>⟨r,row,by rw[hg];exact h1,h2,h3⟩
 refine⟨h.le,⟨h.wrel.shut,fun r row hr=>h.wrel.rows r row (by rw[hg];exact hr),fun r1 r2 row1 row2 b g1 g2=>h.wrel.inj r1 r2 row1 row2 b (by rw[hg];exact g1) (by rw[hg];exact g2),fun r hr=>h.wrel.glb r (by rw[hh];exact hr),fun s g hsg=>h.wrel.lcb s g (by rw[hl];exact hsg),h.wrel.lt,h.wrel.tlt,h.wrel.elt⟩,
  fun i=>?_,h.size,h.defers,⟨h.keep.os,h.keep.tape,h.keep.output,h.keep.size,h.keep.block,h.keep.shut,fun b hb hob=>h.keep.own b hb (ho b hob)⟩,by rw[←hh];exact h.dirt,by rw[←hh];exact h.hp,h.laid⟩
 rcases ht i with e | e
 ·rw[e];exact .dead _
 ·rw[←e];exact h.slots i
theorem qol:∀ (l:List Oper)(st:St)(t:Nat),(Qdw l st).ρ t=.dead∨((Qdw l st).ρ t=st.ρ t∧∀ o ∈ l,o.dst≠some t)
 | [],st,t=>.inr ⟨rfl,fun o ho=>by simp at ho⟩
 | o::l,st,t=>by
  simp only[Qdw]
  rcases qol l (QaF st o.dst .dead) t with h | ⟨h1,h2⟩
  ·exact .inl h
  ·rw[h1]
   cases hd:o.dst with
   | none =>
    refine .inr ⟨rfl,fun p hp=>?_⟩
    rcases List.mem_cons.1 hp with rfl | hp
    ·rw[hd];simp
    ·exact h2 p hp
   | some i =>
    rw[qnU]
    by_cases e:i=t
    ·rw[if_pos e];exact .inl rfl
    ·rw[if_neg e]
     refine .inr ⟨rfl,fun p hp=>?_⟩
     rcases List.mem_cons.1 hp with rfl | hp
     ·rw[hd];simpa using e
     ·exact h2 p hp
theorem qd0{m:Nat}:∀ {fs:List Foot}{k:Nat},traceless m fs k=true→∀ i f,fs[i]? = some f→Nat.testBit m (k+i)=true∨f.wr=[]
 | [],k,_,i,f,hf=>by simp at hf
 | g::fs,k,h,i,f,hf=>by
  simp only[traceless,Bool.and_eq_true,Bool.or_eq_true]at h
  cases i with
  | zero =>
   simp at hf
   subst hf
   exact h.1.imp id (fun h=>by simpa using h)
  | succ i =>
   have:=qd0 h.2 i f (by simpa using hf)
   rw[show k+1+i=k+(i+1)by omega]at this
   exact this
theorem Sim.ext[Laid]{D:List Deferred}{n:Nat}{c0 c:Ctx}{w0 w:World}{a:Act}{s0 X Y:St}(h:Sim D n c0 s0 w0 X a w c)(ht:∀ t,X.ρ t=Y.ρ t)(hl:∀ s,X.lc s=Y.lc s)(hh:X.hp=Y.hp):Sim D n c0 s0 w0 Y a w c:=by
 have hg:=qhJ hl hh
 have ho:∀ b,Own c Y b→Own c X b:=fun b ⟨r,row,h1,h2,h3⟩=>⟨r,row,by rw[hg];exact h1,h2,h3⟩
 refine⟨h.le,⟨h.wrel.shut,fun r row hr=>h.wrel.rows r row (by rw[hg];exact hr),fun r1 r2 row1 row2 b g1 g2=>h.wrel.inj r1 r2 row1 row2 b (by rw[hg];exact g1) (by rw[hg];exact g2),fun r hr=>h.wrel.glb r (by rw[hh];exact hr),fun s g hsg=>h.wrel.lcb s g (by rw[hl];exact hsg),h.wrel.lt,h.wrel.tlt,h.wrel.elt⟩,
  fun i=>by rw[←ht];exact h.slots i,h.size,h.defers,⟨h.keep.os,h.keep.tape,h.keep.output,h.keep.size,h.keep.block,h.keep.shut,fun b hb hob=>h.keep.own b hb (ho b hob)⟩,by rw[←hh];exact h.dirt,by rw[←hh];exact h.hp,h.laid⟩
end
section
variable {P:Program}{C:Cfg}{gl:Nat→Bool}{call:Qad}{ops:Array Oper}
variable {pairs QaU:List (Nat × Nat)}{sp:Stop}{st0 stN:St}{E:Nat→Eff}{F:Nat→Foot}{B:Nat→Bool}{Q:Nat→Nat}{T:Nat→St}{D:List Deferred}{n:Nat}{c0:Ctx}{w0:World}{s0:St}
theorem qeZ{listed:Array Bool}(hsz:listed.size=ops.size){i:Nat}:i ∈ Region.ready .any ops listed↔∃ o,ops[i]? = some o∧listed.getD i false=false∧∀ e ∈ o.after.toList,Region.binds .any e=true→listed.getD e.on false=true:=by
 unfold Region.ready
 simp only[List.mem_filter,List.mem_range,Bool.and_eq_true,Bool.not_eq_true']
 constructor
 ·rintro⟨hlt,h1,h2⟩
  obtain⟨o,ho⟩:=qcI (ops:=ops) hlt
  refine⟨o,ho,?_,fun e he hb=>?_⟩
  ·rw[Array.getD_eq_getD_getElem?,Array.getElem?_eq_getElem (by omega)]at h1 ⊢
   exact h1
  ·rw[ho]at h2
   simp only[Option.map_some,Option.getD_some]at h2
   have:=Array.all_eq_true_iff_forall_mem.1 h2 e (by simpa using he)
   rw[hb]at this
   simpa using this
 ·rintro⟨o,ho,h1,h2⟩
  have hlt:i<ops.size:=by
   rcases Nat.lt_or_ge i ops.size with h' | h'
   ·exact h'
   ·simp[h']at ho
  refine⟨hlt,?_,?_⟩
  ·rw[Array.getD_eq_getD_getElem?,Array.getElem?_eq_getElem (by omega)]at h1 ⊢
   exact h1
  ·rw[ho]
   simp only[Option.map_some,Option.getD_some]
   refine Array.all_eq_true_iff_forall_mem.2 (fun e he=>?_)
   cases hb:Region.binds .any e with
   | false=>rfl
   | true=>simpa using h2 e (by simpa using he) hb
theorem qms{listed:Array Bool}{i:Nat}(hi:i<listed.size)(k:Nat):(listed.setIfInBounds i true).getD k false=(listed.getD k false || k == i):=by
 rw[Array.getD_eq_getD_getElem?,Array.getD_eq_getD_getElem?,Array.getElem?_setIfInBounds]
 by_cases h:i=k
 ·subst h;simp[hi]
 ·have:(k == i)=false:=by simp;omega
  simp[h,this]
structure Halt(ops:Array Oper)(sp:Stop)(F:Nat→Foot)(st0 stN Y:St)(v:V):Prop where
 at_:∃ i h,sp=some (i,v,h)∧Y.hp=h∧∀ k o,ops[k]? = some o→Nat.testBit ((masks ops.toList []).getD i 0) k=true∨(F k).wr=[]
 tm:∀ t,Y.ρ t=.dead∨(Y.ρ t=st0.ρ t∧∀ o ∈ ops.toList,o.dst≠some t)
 loc:Y.loc=stN.loc
theorem qjW{j i:Nat}(h:Nat.testBit ((masks ops.toList []).getD j 0) i=true):Prec ops i j :=
 qfc ops.toList [] [] (by simp) rfl (fun j i h=>by simp at h) j i h
theorem qhG{α:Type}{S:Nat→Bool}{w:Nat→Option α}{d:α}:∀ n,(∀ k,k<n→w k=none)→Qbt S w d n=d
 | 0,_=>rfl
 | n+1,h=>by
  simp only[Qbt,h n (by omega)]
  rw[qhG n (fun k hk=>h k (by omega))]
  cases S n<;>rfl
theorem qrK[Laid](hN:qhp P)(hC:QbE P call)(hd:∀ o ∈ ops.toList,Qc1 n o=true)(R:Run P C gl call ops pairs QaU sp st0 stN E F B Q T){K:Exit→Act→World→Prop}
  (hQ:sp=none→∀ a w c,Sim D n c0 s0 w0 stN a w c→K .normal a w)
  {Y:St} (hP:∀ i v h,sp=some (i,v,h)→Halt ops sp F st0 stN Y v) (hK:∀ v a w c e,(∃ i h,sp=some (i,v,h))→QdV c (.panic v) e→Sim D n c0 s0 w0 Y a w c→K e a w) :
  ∀ (fuel:Nat) (listed:Array Bool) (X:St) (a:Act) (w:World) (c:Ctx),listed.size=ops.size→Closed ops (fun k=>listed.getD k false)→(∀ k,Q k=2→listed.getD k false=false)→((List.range ops.size).filter (fun k=>!listed.getD k false)).length≤fuel →
   AtS st0 E ops.size ops (fun k=>listed.getD k false) X→Sim D n c0 s0 w0 X a w c→wpAny P .any ops K fuel listed a w:=by
 intro fuel
 have done:∀ (listed:Array Bool) (X:St) (a:Act) (w:World) (c:Ctx),listed.size=ops.size→(∀ k,Q k=2→listed.getD k false=false)→AtS st0 E ops.size ops (fun k=>listed.getD k false) X→Sim D n c0 s0 w0 X a w c→Region.ready .any ops listed=[]→K .normal a w:=by
  intro listed X a w c hsz hst hX hS hr
  have all:∀ k,k<ops.size→listed.getD k false=true:=by
   intro k
   induction k using Nat.strongRecOn with
   | _ k ih =>
    intro hk
    cases hl:listed.getD k false with
    | true=>rfl
    | false =>
     obtain⟨o,ho⟩:=qcI (ops:=ops) hk
     have:k ∈ Region.ready .any ops listed:=(qeZ hsz).2 ⟨o,ho,hl,fun e he hb=>by
      have:=qlp R.ok ho he hb
      exact ih e.on this (by omega)⟩
     rw[hr]at this;simp at this
  have hsp:sp=none:=by
   cases hq:sp with
   | none=>rfl
   | some p =>
    obtain⟨i,v,h⟩:=p
    obtain⟨h1,h2⟩:=R.hit i v h hq
    have:=all i h1
    rw[hst i h2]at this;simp at this
  have hT:=R.text ops.size (Nat.le_refl _)
  rw[R.last]at hT
  refine hQ hsp a w c (hS.ext (fun t=>?_) (fun s=>?_) ?_)
  ·rw[hX.tm,hT.tm];exact qa5 _ (fun k hk _=>by rw[all k hk];simp[hk])
  ·rw[hX.lc,hT.lc];exact qa5 _ (fun k hk _=>by rw[all k hk];simp[hk])
  ·rw[hX.hp,hT.hp];exact qa5 _ (fun k hk _=>by rw[all k hk];simp[hk])
 induction fuel with
 | zero =>
  intro listed X a w c hsz hcl hst hf hX hS
  have hr:Region.ready .any ops listed=[]:=by
   cases hq:Region.ready .any ops listed with
   | nil=>rfl
   | cons i l =>
    exfalso
    obtain⟨o,ho,h1,_⟩:=(qeZ hsz (i:=i)).1 (by rw[hq];simp)
    have hlt:i<ops.size:=by
     rcases Nat.lt_or_ge i ops.size with h' | h'
     ·exact h'
     ·simp[h']at ho
    have:i ∈ (List.range ops.size).filter (fun k=>!listed.getD k false):=by
     simp only[List.mem_filter,List.mem_range];exact⟨hlt,by simp[h1]⟩
    have h0:(List.range ops.size).filter (fun k=>!listed.getD k false)=[]:=List.eq_nil_of_length_eq_zero (by omega)
    rw[h0]at this;simp at this
  exact⟨hr,done listed X a w c hsz hst hX hS hr⟩
 | succ fuel ih =>
  intro listed X a w c hsz hcl hst hf hX hS
  refine⟨done listed X a w c hsz hst hX hS,fun i hi=>?_⟩
  obtain⟨o,ho,h1,h2⟩:=(qeZ hsz).1 hi
  have hlt:i<ops.size:=by
   rcases Nat.lt_or_ge i ops.size with h' | h'
   ·exact h'
   ·simp[h']at ho
  have hset:=qms (listed:=listed) (i:=i) (by omega)
  have hL:=R.line i o ho
  obtain⟨m1,m2,m3⟩:=R.meets hcl ho h1 h2 hX
  have hguard:∀ j w' d,o.guard=some (j,w')→(ops[j]?).bind (·.dst)=some d→(T i).ρ d=X.ρ d:=fun j w' d hg hd=>m1 d (by
   unfold Oper.looksAt
   rw[List.mem_append]
   right
   rw[hg]
   simp only[hd]
   simp)
  have hagree:Agree (T i).ρ X.ρ o:=fun x hx=>by
   cases x with
   | tmp t =>
    refine m1 t ?_
    unfold Oper.looksAt
    rw[List.mem_append]
    left
    simp only[List.mem_filterMap]
    exact⟨.tmp t,hx,rfl⟩
   | _=>rfl
  have hnever:Q i≠1:=fun hq=>by
   obtain⟨_,j,v,h,hsp,hbit⟩:=hL.never hq
   obtain⟨_,hj⟩:=R.hit j v h hsp
   have hpr:=qjW hbit
   have:listed.getD j false=true:=by
    cases hpr with
    | edge ho' he hb hk=>rw[ho]at ho';obtain rfl:=Option.some.inj ho';rw[←hk];exact h2 _ he hb
    | step ho' he hb hk hp=>rw[ho]at ho';obtain rfl:=Option.some.inj ho';exact hp.closed (fun j o e a b c d=>hcl j o e a b c d) (by rw[←hk];exact h2 _ he hb)
   rw[hst j hj]at this;simp at this
  have hwX:QaD ops o X.ρ = some (B i):=by rw[←qh0 hguard];exact hL.wanted hnever
  have hcl':Closed ops (fun k=>(listed.setIfInBounds i true).getD k false):=by
   intro j p e hp hj he hb
   simp only[hset]at hj ⊢
   rcases Bool.or_eq_true _ _ ▸ hj with hj | hj
   ·have h5:listed.getD e.on false=true:=hcl j p e hp hj he hb
    rw[h5];rfl
   ·have:j=i:=by simpa using hj
    subst this
    rw[ho]at hp
    obtain rfl:=Option.some.inj hp
    rw[h2 e he hb];rfl
  have hcount:((List.range ops.size).filter (fun k=>!(listed.setIfInBounds i true).getD k false)).length≤fuel:=by
   have:=qke (p:=fun k=>!listed.getD k false) (q:=fun k=>!(listed.setIfInBounds i true).getD k false) (x:=i) (List.range ops.size) (fun k _ hk=>by
    simp only[hset,Bool.not_or,Bool.and_eq_true]at hk;exact hk.1) (by simp[hlt]) (by simp[h1]) (by rw[hset];simp)
   omega
  have hX':AtS st0 E ops.size ops (fun k=>(listed.setIfInBounds i true).getD k false) ((E i).on X o.dst) :=
   AtS.insert (S:=fun k=>listed.getD k false) R ho h1 (fun k hk hik hsk hpr=>by
    have:=hpr.closed (fun j o e a b c d=>hcl j o e a b c d) hsk
    rw[h1]at this;simp at this) hX (fun k=>hset k)
  have hdo:=hd o (by rw[List.mem_iff_getElem?];exact⟨i,by simpa using ho⟩)
  have hdst:∀ i,o.dst=some i→i<n:=fun i hi=>by
   unfold Qc1 at hdo;rw[hi]at hdo;simpa[Nat.blt_eq]using hdo
  have hsz':(listed.setIfInBounds i true).size=ops.size:=by simpa using hsz
  unfold wpOp
  simp only[ho]
  have hw':=qdg hS.slots hwX
  by_cases hq2:Q i=2
  ·obtain⟨hb,hhr,hld,v,h,hsp,hone⟩:=hL.stop hq2
   rw[hb]at hw'
   simp only[hw',if_true]
   have hone:=hone X hagree ((m3 hhr).resolve_right (fun e=>by rw[hld]at e;simp at e))
   have k:=qdN hN hC hS hdo hone
   obtain⟨⟨i',h',hsp',hYh,hwr⟩,hYt,hYl⟩:=hP i v h hsp
   rw[hsp]at hsp'
   simp only[Option.some.injEq,Prod.mk.injEq,true_and]at hsp'
   obtain⟨rfl,rfl⟩:=hsp'
   refine .inl (k _ K (fun e=>by simp at e) (fun e a' w' c' _ he hs=>hK v a' w' c' e ⟨i,h,hsp⟩ he (hs.dim (fun t=>?_) (fun s=>?_) hYh.symm)))
   ·rcases hYt t with h1 | ⟨h1,h3⟩
    ·exact .inl h1
    ·right
     show X.ρ t=Y.ρ t
     rw[h1,hX.tm]
     refine qhG ops.size (fun j hj=>?_)
     obtain⟨p,hp⟩:=qcI (ops:=ops) hj
     have hpd:p.dst≠some t:=h3 p (by rw[List.mem_iff_getElem?];exact⟨j,by simpa using hp⟩)
     simp only[hp,Option.bind_some,hpd,if_false]
   ·have hT:=R.text ops.size (Nat.le_refl _)
    rw[R.last]at hT
    have e1:Y.lc s=stN.lc s:=by unfold St.lc;rw[hYl]
    show X.lc s=Y.lc s
    rw[e1,hX.lc,hT.lc]
    refine qa5 _ (fun j hj hw=>?_)
    obtain⟨p,hp⟩:=qcI (ops:=ops) hj
    have hpr:Prec ops j i:=by
     rcases hwr j p hp with h5 | h5
     ·exact qjW h5
     ·exfalso
      obtain⟨q1,hr1⟩:=Option.isSome_iff_exists.1 hw
      obtain⟨u1,n1,e1⟩:=qdl hr1
      have:=(R.line j p hp).row _ n1
      rw[h5]at this;simp at this
    have:listed.getD j false=true:=by
     cases hpr with
     | edge ho' he hb hk=>rw[ho]at ho';obtain rfl:=Option.some.inj ho';rw[←hk];exact h2 _ he hb
     | step ho' he hb hk hp=>rw[ho]at ho';obtain rfl:=Option.some.inj ho';exact hp.closed (fun j o e a b c d=>hcl j o e a b c d) (by rw[←hk];exact h2 _ he hb)
    rw[this];simp[hj]
  have hq0:Q i=0:=by have:=hL.kind;omega
  have hst':∀ k,Q k=2→(listed.setIfInBounds i true).getD k false=false:=fun k hk=>by
   rw[hset,hst k hk]
   have:k≠i:=fun e=>by subst e;exact hq2 hk
   simpa using this
  cases hb:B i with
  | false =>
   rw[hb]at hw'
   simp only[hw',if_false,Bool.false_eq_true]
   have e1:=(hL.skip hb).1
   have hsim:=hS.put (d:=o.dst) (Ctx.le.refl c) hS.wrel (Keep.refl c X w) (.refl _) hS.hp rfl hdst (v:=.tuple []) (x:=undef) (Rel.Qbe (QaC.nil c))
   refine ih _ ((E i).on X o.dst) _ w c hsz' hcl' hst' hcount hX' ?_
   rw[e1]
   exact hsim
  | true =>
   rw[hb]at hw'
   simp only[hw',if_true]
   have hone:=hL.loc hq0 hb X hagree m2 m3
   have k:=qdN hN hC hS hdo hone
   exact .inl (k _ K (fun _ a' w' c' hs=>ih _ _ a' w' c' hsz' hcl' hst' hcount hX' hs) (fun e a' w' c' hne=>absurd rfl hne))
theorem qhc:∀ {fs:List Foot}{os:List Oper},Qbx fs os=false→∀ (i:Nat)(o:Oper)(f:Foot),os[i]? = some o→fs[i]? = some f→f.far o=false
 | [],_,_,i,o,f,_,hf=>by simp at hf
 | _::_,[],_,i,o,f,ho,_=>by simp at ho
 | g::fs,p::os,h,i,o,f,ho,hf=>by
  simp only[Qbx,Bool.or_eq_false_iff]at h
  cases i with
  | zero=>simp at ho hf;subst ho;subst hf;exact h.1
  | succ i=>exact qhc h.2 i o f (by simpa using ho) (by simpa using hf)
theorem qpy[Laid](hS:QaJ call)(hN:qhp P)(hM:P.follows .mixedOrders=true)(hC:QbE P call){f id:Nat}(hd:∀ o ∈ ops.toList,Qc1 n o=true)(hok:QbY calm ops (C.pairs f id)=true)(hokH:QbY qlw ops (C.QaU f id)=true) :
  Qby P D n c0 s0 w0 (.region id ops true) (qbN P C call f id ops true):=by
 intro st a w c ex st' h hr
 simp only[qbN]at hr
 split at hr
 ·rename_i fs st1 sp hrun
  obtain⟨E,F,B,Q,T,h1,h2,h3,h4⟩:=qfC hS ops.toList 0 none st fs st1 sp hrun
  have main:(QaL fs (C.pairs f id)&&(!Qbx fs ops.toList || QaL fs (C.QaU f id)))=true→Run P C (C.glob f) call ops (C.pairs f id) (C.QaU f id) sp st st1 E F B Q T:=by
   intro hp
   simp only[Bool.and_eq_true,Bool.or_eq_true,Bool.not_eq_true']at hp
   have mem:∀ l:List (Nat × Nat),QaL fs l=true→∀ i j,(i,j) ∈ l→∀ o p,ops[i]? = some o→ops[j]? = some p→indep (F i) (F j)=true:=fun l hl i j hij o p ho hp'=>by
    obtain⟨x,y,hx,hy,hi⟩:=qgn hl hij
    have e1:=(h3 i o (by simpa using ho)).2
    have e2:=(h3 j p (by simpa using hp')).2
    rw[hx]at e1
    rw[hy]at e2
    obtain rfl:=Option.some.inj e1
    obtain rfl:=Option.some.inj e2
    exact hi
   refine⟨h1,by simpa using h2,fun k o ho=>?_,fun i v h hi=>?_,hok,hokH,mem _ hp.1,
    hp.2.imp (fun hn i o ho=>qhc hn i o _ (by simpa using ho) (h3 i o (by simpa using ho)).2) (fun h=>mem _ h)⟩
   ·have:=(h3 k o (by simpa using ho)).1
    rwa [Nat.zero_add]at this
   ·rcases h4 i v h hi with h5 | ⟨j,h5,h6,h7⟩
    ·simp at h5
    ·rw[Nat.zero_add]at h6
     subst h6
     exact⟨by simpa using h5,h7⟩
  have hall:∀ k,(Array.replicate ops.size false).getD k false=false:=fun k=>by
   rw[Array.getD_eq_getD_getElem?]
   cases hq:(Array.replicate ops.size false)[k]? with
   | none=>rfl
   | some b =>
    rw[Array.getElem?_replicate]at hq
    split at hq<;>simp at hq
    rw[←hq];rfl
  have hSim:Sim D n c0 s0 w0 st a { w with drawn:=w.drawn+1 } c:=⟨h.le,⟨h.wrel.shut,fun r row hr=>by
    have:=h.wrel.rows r row hr
    cases row<;>exact this,h.wrel.inj,h.wrel.glb,h.wrel.lcb,h.wrel.lt,h.wrel.tlt,h.wrel.elt⟩,h.slots,h.size,h.defers,⟨h.keep.os,h.keep.tape,h.keep.output,h.keep.size,h.keep.block,h.keep.shut,h.keep.own⟩,h.dirt,h.hp,h.laid⟩
  have go:∀ (R:Run P C (C.glob f) call ops (C.pairs f id) (C.QaU f id) sp st st1 E F B Q T) {Y:St} (hP:∀ i v h,sp=some (i,v,h)→Halt ops sp F st st1 Y v),
    (sp=none→ex=.normal∧st'=st1)→(∀ i v h,sp=some (i,v,h)→ex=.panic v∧st'=Y)→Code.wp P (.region id ops true) (fun e a' w'=>∃ c',QdV c' ex e∧Sim D n c0 s0 w0 st' a' w' c') a w:=by
   intro R Y hP e1 e2
   have hq:sp=none→∀ a' w' c',Sim D n c0 s0 w0 st1 a' w' c'→(∃ c',QdV c' ex .normal∧Sim D n c0 s0 w0 st' a' w' c'):=fun hn a' w' c' hs=>by
    obtain⟨rfl,rfl⟩:=e1 hn;exact⟨c',trivial,hs⟩
   have hk:∀ v a' w' c' e,(∃ i h,sp=some (i,v,h))→QdV c' (.panic v) e→Sim D n c0 s0 w0 Y a' w' c'→(∃ c',QdV c' ex e∧Sim D n c0 s0 w0 st' a' w' c'):=fun v a' w' c' e ⟨i,h,hi⟩ he hs=>by
    obtain⟨rfl,rfl⟩:=e2 i v h hi;exact⟨c',he,hs⟩
   have hT:=R.text 0 (Nat.zero_le _)
   rw[h1]at hT
   have hfun:(fun k=>(Array.replicate ops.size false).getD k false)=(fun j=>decide (j<0)):=funext fun k=>by rw[hall k];simp
   rw[←hfun]at hT
   exact wp_region_any hM (qrK (K:=fun e a' w'=>∃ c',QdV c' ex e∧Sim D n c0 s0 w0 st' a' w' c') hN hC hd R hq hP hk ops.size _ st a _ c (by simp) (fun j o e ho hj he hb=>by
    have:=hall j;simp only[this]at hj;simp at hj) (fun k _=>hall k) (by
     refine Nat.le_trans (List.length_filter_le _ _) (by simp)) hT hSim)
  cases sp with
  | none =>
   simp only[qm0]at hr
   cases hp:(QaL fs (C.pairs f id)&&(!Qbx fs ops.toList || QaL fs (C.QaU f id)))with
   | false=>simp[hp]at hr
   | true =>
    simp only[hp,cond_true,Option.some.injEq,Prod.mk.injEq]at hr
    obtain⟨rfl,rfl⟩:=hr
    exact go (main hp) (Y:=st) (fun i v h e=>by simp at e) (fun _=>⟨rfl,rfl⟩) (fun i v h e=>by simp at e)
  | some p =>
   obtain⟨i,v,h'⟩:=p
   simp only[qm0]at hr
   cases hp:(QaL fs (C.pairs f id)&&(!Qbx fs ops.toList || QaL fs (C.QaU f id)))with
   | false=>simp[hp]at hr
   | true =>
    cases htr:traceless ((masks ops.toList []).getD i 0) fs 0 with
    | false=>rw[hp,htr]at hr;simp at hr
    | true =>
     rw[hp,htr]at hr
     simp only[Bool.and_self,cond_true,Option.some.injEq,Prod.mk.injEq]at hr
     obtain⟨rfl,rfl⟩:=hr
     refine go (main hp) (Y:={ tm:=(Qdw ops.toList st).tm,loc:=st1.loc,hp:=h' }) (fun i' v' h2 e=>?_) (fun e=>by simp at e) (fun i' v' h2 e=>?_)
     ·simp only[Option.some.injEq,Prod.mk.injEq]at e
      obtain⟨rfl,rfl,rfl⟩:=e
      refine⟨⟨i,h',rfl,rfl,fun k o ho=>?_⟩,fun t=>qol ops.toList st t,rfl⟩
      have:=qd0 htr k (F k) (h3 k o (by simpa using ho)).2
      rwa [Nat.zero_add]at this
     ·simp only[Option.some.injEq,Prod.mk.injEq]at e
      obtain⟨rfl,rfl,rfl⟩:=e
      exact⟨rfl,rfl⟩
 ·simp at hr
end
section
variable {D:List Deferred}{P:Program}{C:Cfg}{c0 c e:Ctx}{st0 st st':St}{w0 w w':World}{a:Act}{n:Nat}
def Code.good(C:Cfg)(f n:Nat):Code→Bool
 | .region id ops draw=>ops.toList.all (Qc1 n)&&(!draw || (QbY calm ops (C.pairs f id)&&QbY qlw ops (C.QaU f id)))
 | .seq a b=>Code.good C f n a&&Code.good C f n b
 | .cond _ a b=>Code.good C f n a&&Code.good C f n b
 | .block _ b=>Code.good C f n b
 | .loop b=>Code.good C f n b
 | _=>true
theorem qbA[Laid](hN:qhp P)(hM:P.follows .mixedOrders=true){call:Qad}(hS:QaJ call)(hC:QbE P call)(f fuel:Nat):∀ code:Code,Code.good C f n code=true→Qby P D n c0 st0 w0 code (QaW P C call f fuel code)
 | .skip,_=>qpv
 | .exit i,_=>qpx i
 | .ret,_=>qsB
 | .region id ops draw,hf=>by
  simp only[Code.good,Bool.and_eq_true]at hf
  cases draw with
  | false=>exact qlr hN hC (fun o ho=>List.all_eq_true.1 hf.1 o ho)
  | true =>
   have h2:QbY calm ops (C.pairs f id)=true∧QbY qlw ops (C.QaU f id)=true:=by simpa using hf.2
   exact qpy hS hN hM hC (fun o ho=>List.all_eq_true.1 hf.1 o ho) h2.1 h2.2
 | .seq x y,hf=>by
  simp only[Code.good,Bool.and_eq_true]at hf
  exact qsA (qbA hN hM hS hC f fuel x hf.1) (qbA hN hM hS hC f fuel y hf.2)
 | .cond b x y,hf=>by
  simp only[Code.good,Bool.and_eq_true]at hf
  exact qpz (qbA hN hM hS hC f fuel x hf.1) (qbA hN hM hS hC f fuel y hf.2)
 | .block id x,hf=>by
  simp only[Code.good]at hf
  exact qna (qbA hN hM hS hC f fuel x hf)
 | .loop x,hf=>by
  simp only[Code.good]at hf
  exact qpw (qbA hN hM hS hC f fuel x hf) fuel
 | .label _,_=>by intro st a w c ex st' h hr;simp[QaW]at hr
 | .goto _,_=>by intro st a w c ex st' h hr;simp[QaW]at hr
 | .scope ..,_=>by intro st a w c ex st' h hr;simp[QaW]at hr
 | .rangeFunc ..,_=>by intro st a w c ex st' h hr;simp[QaW]at hr
 | .refuse _,_=>by intro st a w c ex st' h hr;simp[QaW]at hr
theorem qeY[Laid](h:WRel c st w)(hs:QaT c st.ρ a):∀ (rs:List ResultVar)(l:List V),Qbj P st rs=some l →
  ∃ xs:List Value,(rs.mapM (m:=Sem) fun | .tmp t=>pure (a.tmps.getD t undef) | .cell p t=>do loadVar t (←asAddr (a.tmps.getD p undef))).run P w=.ok xs w∧QaC c l xs
 | [],l,hr=>by
  simp[Qbj]at hr
  subst hr
  exact⟨[],by simp,QaC.nil c⟩
 | .tmp t::rs,l,hr=>by
  simp only[Qbj,Option.map_eq_some_iff]at hr
  obtain⟨l',h',rfl⟩:=hr
  obtain⟨xs,hx,hrel⟩:=qeY h hs rs l' h'
  refine⟨_::xs,?_,QaC.cons (hs t) hrel⟩
  simp only[List.mapM_cons,Sem.run_bind,Sem.run_pure,Result.andThen_ok,hx]
 | .cell p t::rs,l,hr=>by
  simp only[Qbj]at hr
  split at hr
  ·rename_i r off hp
   have hrelp:=hs p
   rw[hp]at hrelp
   obtain⟨b,hb,hbk⟩:=hrelp.QbU
   split at hr
   ·rename_i frz cs hrow
    split at hr
    ·rename_i v vs hv hvs
     simp at hr
     subst hr
     obtain⟨xs,hx,hrel⟩:=qeY h hs rs vs hvs
     obtain⟨x,hrun,hrx⟩:=qiI (P:=P) h hrow hbk hv
     have hrun2:(loadVar t ⟨b,off,none⟩).run P w=.ok x w:=by simpa[Instr.loadAt,Instr.sureAddr]using hrun
     refine⟨x::xs,?_,QaC.cons hrx hrel⟩
     have hA:asAddr (.pointer (some ⟨b,off,none⟩))=pure ⟨b,off,none⟩:=rfl
     simp only[List.mapM_cons,hb,hA,Sem.run_bind,Sem.run_pure,Result.andThen_ok,hrun2]
     rw[hx];rfl
    ·simp at hr
   ·simp at hr
  ·simp at hr
theorem qnA[Laid]{args:List V}{xs:List Value}(hr:QaC c args xs)(m:Nat)(st:St)(b:Act):QaT c (St.ρ (st.called (QaE args))) { b with tmps:=xs.toArray++Array.replicate m undef }:=by
 have key:∀ (l:List V) (k i:Nat) (t:Tr V),aget V.dead (Qa0 k l t) i=aget V.dead t i∨∃ v,l[i - k]? = some v∧k≤i∧aget V.dead (Qa0 k l t) i=v:=by
  intro l
  induction l with
  | nil=>intro k i t;exact .inl rfl
  | cons v l ih =>
   intro k i t
   simp only[Qa0]
   rcases ih (k+1) i (aset t k v)with h' | ⟨u,h1,h2,h3⟩
   ·rw[h',qaI]
    by_cases e:k=i
    ·subst e;exact .inr ⟨v,by simp,Nat.le_refl _,by simp⟩
    ·rw[if_neg e];exact .inl rfl
   ·refine .inr ⟨u,?_,by omega,h3⟩
    have:i - k=(i - (k+1))+1:=by omega
    rw[this];simpa using h1
 intro i
 show Rel c (aget V.dead (QaE args) i) _
 rcases key args 0 i .lf with h' | ⟨v,h1,_,h3⟩
 ·unfold QaE;rw[h',qhd];exact .dead _
 ·unfold QaE;rw[h3]
  obtain⟨x,hx,hrel⟩:=hr.get h1
  have:(xs.toArray++Array.replicate m undef).getD i undef=x:=by
   have hx2:xs[i]? = some x:=by simpa using hx
   have hi:i<xs.length:=by
    rcases Nat.lt_or_ge i xs.length with h' | h'
    ·exact h'
    ·rw[List.getElem?_eq_none h']at hx2;simp at hx2
   rw[Array.getD_eq_getD_getElem?,Array.getElem?_append_left (by simpa using hi)]
   simp[hx2]
  rw[this];exact hrel
def qeu (P : Program) (C : Cfg) : Bool := P.follows .mixedOrders && P.funcs.toList.zipIdx.all fun (fn, f) => !(fn.name == "runtime.NumGoroutine") && (!C.use f || (match fn.body with
 | some cd=>Code.good C f fn.ntmps cd
 | none=>true))
theorem qjQ (h : qeu P C = true) {f : Nat} {fn : Func} (hf : P.funcs[f]? = some fn) : (fn.name == "runtime.NumGoroutine") = false ∧ (C.use f = true → ∀ cd, fn.body = some cd → Code.good C f fn.ntmps cd = true) := by
 unfold qeu at h
 simp only[Bool.and_eq_true]at h
 have:=List.all_eq_true.1 h.2 (fn,f) (by rw[List.mem_iff_getElem?];exact⟨f,by simp[hf]⟩)
 simp only[Bool.and_eq_true,Bool.not_eq_true',Bool.or_eq_true]at this
 refine⟨this.1,fun hu cd hb=>?_⟩
 rcases this.2 with h1 | h1
 ·rw[hu]at h1;simp at h1
 ·rw[hb]at h1;exact h1
theorem qjO(h:qeu P C=true):qhp P:=fun f fn hf=>(qjQ h hf).1
theorem qjP(h:qeu P C=true):P.follows .mixedOrders=true:=by
 unfold qeu at h
 simp only[Bool.and_eq_true]at h
 exact h.1
theorem qlF[Laid]{l:List V}{xs:List Value}{args:List V}(hW0:WRel c st w)(hH0:Qbu st.hp){tm:Tr V}(hle:c.called.le e)(hW:WRel e st' w')(hK:Keep c.called e (st.called tm) st' w w')(hD:Dirt (st.called tm).hp st'.hp)(hH:Qbu st'.hp)
  {v:V} {x:Value} (hv:Rel e v x) (hnl:v.Qap=true) (hnr:V.Qaf l=true→v.Qao=true):∃ c',Ret c st w v (Qar st.hp st'.hp l) c' x w':=by
 unfold Qar
 cases hc:QaX st.hp st'.hp with
 | true =>
  have hcl:∀ d,st'.hp.dirty=some d→st.hp.rows.length≤d:=fun d hd=>by
   unfold QaX at hc
   rw[hd]at hc
   simpa using hc
  simp only[cond_true]
  cases hn:V.Qaf l with
  | true =>
   simp only[cond_true]
   obtain⟨k1,k2,k3⟩:=qnJ (tm:=tm) hW0 hH0 hle hW hK hD hcl
   exact⟨_,k1,Rel.bare (c:=e) (d:=c.with e) (fun _ _ _ h=>h) hv (hnr hn),k2,k3,.refl _,hH0⟩
  | false =>
   simp only[cond_false]
   obtain⟨k1,k2⟩:=qkA (tm:=tm) hW0 hle hW hK hH st.hp.dirty st.hp.mods
   have hsame:∀ i,i<st.hp.rows.length→st'.hp.rows[i]? = st.hp.rows[i]?:=fun i hi=>hD.same i hi (fun d hd=>Nat.lt_of_lt_of_le hi (hcl d hd))
   exact⟨_,qlG (tm:=tm) hW0 hle,Rel.away (c:=e) (d:=c.back e) ⟨fun _ _ h=>h,fun _ _ _ h=>h,fun _ _ h=>h,fun _ _ h=>h⟩ hv hnl,k1,k2,⟨hD.len,fun d hd=>⟨d,hd,Nat.le_refl _⟩,fun i hi _=>hsame i hi,Nat.le_refl _,fun _=>⟨rfl,hsame⟩⟩,hH⟩
 | false =>
  simp only[cond_false]
  obtain⟨k1,k2⟩:=qkA (tm:=tm) hW0 hle hW hK hH (match st.hp.dirty,st'.hp.dirty with | none,d=>d | some d,none=>some d | some d,some d'=>some (min d d')) st'.hp.mods
  refine⟨_,qlG (tm:=tm) hW0 hle,Rel.away (c:=e) (d:=c.back e) ⟨fun _ _ h=>h,fun _ _ _ h=>h,fun _ _ h=>h,fun _ _ h=>h⟩ hv hnl,k1,k2,⟨hD.len,fun d hd=>?_,fun i hi hd=>?_,hD.mods,fun hm=>?_⟩,hH⟩
  rotate_left 2
  ·obtain⟨s1,s2⟩:=hD.still hm
   refine⟨?_,s2⟩
   have s3:st'.hp.dirty=none:=s1
   simp only[s3]
   cases st.hp.dirty<;>rfl
  ·simp only[hd]
   cases st'.hp.dirty with
   | none=>exact⟨d,rfl,Nat.le_refl _⟩
   | some d'=>exact⟨_,rfl,Nat.min_le_left _ _⟩
  ·refine hD.same i hi (fun d hd'=>?_)
   simp only[hd']at hd
   cases hq:st.hp.dirty with
   | none=>rw[hq]at hd;exact hd d rfl
   | some d0 =>
    rw[hq]at hd
    have:=hd _ rfl
    omega
def qyH(P:Program)(h:Hp)(res:List ResultVar)(st:St):Option Out:=match Qbj P st res with
 | none=>none
 | some l=>match exps false st l with
  | none=>none
  | some (l,st')=>match l with
   | [v]=>some (Out.val v (Qar h st'.hp [v]))
   | vs=>some (Out.val (.tuple vs) (Qar h st'.hp vs))
theorem qoN[Laid]{fn:Func}{tm:Tr V}{out:Out}{st1:St}{a':Act}{c1:Ctx}(hW:WRel c st w)(hH:Qbu st.hp)(k2:Sim D n c.called (st.called tm) w st1 a' w' c1)(hr:qyH P st.hp fn.results.toList st1=some out) :
  ∃ v0,(results fn a'.tmps).run P w'=.ok v0 w'∧qsY c st w out (.returned v0) w':=by
 unfold qyH at hr
 split at hr
 ·simp at hr
 ·rename_i l0 hres
  split at hr
  ·simp at hr
  ·rename_i l st2 hexp
   obtain⟨ys,hy,hrel⟩:=qeY (P:=P) k2.wrel k2.slots fn.results.toList l0 hres
   obtain⟨c2,m⟩:=qcQ (fz:=false) l0 c1 st1 ys l st2 k2.wrel hrel hexp
   have hrun:(results fn a'.tmps).run P w'=.ok (if h:ys.toArray.size=1 then ys.toArray[0]else .tuple ys.toArray) w':=by
    unfold results
    rw[Sem.run_bind]
    have harr:(fn.results.mapM (m:=Sem) fun | .tmp t=>pure (a'.tmps.getD t undef) | .cell p t=>do loadVar t (←asAddr (a'.tmps.getD p undef))).run P w'=.ok ys.toArray w':=by
     rw[←Array.toArray_toList (xs:=fn.results),List.mapM_toArray]
     simp only[Sem.run_map,hy,Result.andThen_ok]
    exact congrArg (fun r:Result (Array Value)=>r.andThen (fun a w'=>Sem.run P (pure (if h:a.size=1 then a[0]else .tuple a)) w')) harr
   refine⟨_,hrun,?_⟩
   have hle:=k2.le.trans m.le
   have hK:=k2.keep.trans m.keep
   have hD:=k2.dirt.trans m.dirt
   have hH2:=(qg1 _ _ _ _ k2.hp hexp).1
   have hrel:=m.rel
   have hnl:=m.Qap
   have hW2:=m.wrel
   split at hr
   ·rename_i v
    simp only[Option.some.injEq]at hr
    subst hr
    show ∃ c',_
    cases ys with
    | nil=>have:=hrel.1;simp at this
    | cons y ys =>
     cases ys with
     | cons _ _=>have:=hrel.1;simp at this
     | nil =>
      refine qlF (args:=[]) (xs:=[]) hW hH hle hW2 hK hD hH2 (by simpa using hrel.head) (by simpa[V.Qak]using hnl) (fun h=>by simpa[V.Qaf]using h)
   ·rename_i hne
    simp only[Option.some.injEq]at hr
    subst hr
    show ∃ c',_
    have hl1:¬ys.toArray.size=1:=by
     intro h1
     have h2:l.length=1:=by rw[←hrel.1];simpa using h1
     cases l with
     | nil=>simp at h2
     | cons v r=>cases r with
      | nil=>exact hne v rfl
      | cons _ _=>simp at h2
    rw[dif_neg hl1]
    exact qlF (args:=[]) (xs:=[]) hW hH hle hW2 hK hD hH2 (Rel.Qbe hrel) hnl (fun h=>h)
theorem qk0[Laid]{tm:Tr V}{v:V}{x:Value}{st1:St}{a':Act}{c1:Ctx}(hW:WRel c st w)(hH:Qbu st.hp)(k2:Sim D n c.called (st.called tm) w st1 a' w' c1)(hv:v.Qap=true)(hx:Rel c1 v x) :
  qsY c st w (.panic v (Qar st.hp st1.hp [v])) (.panicked [{ v:=x,recovered:=false }]) w':=by
 obtain⟨c',r⟩:=qlF (l:=[v]) (args:=[]) (xs:=[]) hW hH k2.le k2.wrel k2.keep k2.dirt k2.hp hx hv (fun h=>by simpa[V.Qaf]using h)
 exact⟨hv,c',x,rfl,r⟩
theorem qnz[Laid]{args:List V}{xs:List Value}(hW:WRel c st w)(hH:Qbu st.hp)(hargs:QaC c args xs)(hnl:V.Qak args=true)(hlaid:∀ b o x,Laid.cells b o=some x→c.shut b o=some x)(m:Nat) :
  Sim [] m c.called (st.called (QaE args)) w (st.called (QaE args)) { tmps:=xs.toArray++Array.replicate (m - xs.toArray.size) undef,defers:=[] } w c.called :=
 ⟨.refl _,qlx hW hH _,qnA (hargs.away (qhV c) hnl) _ st { tmps:=#[],defers:=[] },by simp;omega,rfl,.refl _ _ _,.refl _,hH,hlaid⟩
theorem qlz[Laid](hP:qeu P C=true){call:Qad}(hS:QaJ call)(hC:QbE P call)(fuel:Nat):QbE P (qlA P C call fuel):=by
 intro f args h out hr c w st xs hst hW hH hargs hnl hlaid
 subst hst
 unfold qlA at hr
 split at hr
 ·simp at hr
 ·simp at hr
 ·rename_i fn hu hf
  split at hr
  ·simp at hr
  ·rename_i cd hb
   refine⟨⟨fn,cd,hf,hb⟩,?_⟩
   have hsim:=qnz hW hH hargs hnl hlaid fn.ntmps
   have hcode:=qbA (D:=[]) (C:=C) (c0:=c.called) (st0:=st.called (QaE args)) (w0:=w) (qjO hP) (qjP hP) hS hC f fuel cd ((qjQ hP hf).2 hu cd hb)
   have fin:∀ ex st1,(ex=.normal∨ex=.ret)→QaW P C call f fuel cd (st.called (QaE args))=some (ex,st1)→qyH P st.hp fn.results.toList st1=some out→Calls P f xs.toArray w (qsY c st w out):=by
    intro ex st1 hex hrun hr
    refine calls_of_wp hf hb (wp_mono (hcode _ _ _ _ ex st1 hsim hrun) (fun e a' w' k=>?_))
    obtain⟨c1,k1,k2⟩:=k
    have main:=qoN hW hH k2 hr
    cases e with
    | normal=>exact⟨k2.defers,main⟩
    | ret=>exact⟨k2.defers,main⟩
    | _=>rcases hex with rfl | rfl<;>exact k1.elim
   split at hr
   ·rename_i st1 hrun;exact fin _ st1 (.inl rfl) hrun hr
   ·rename_i st1 hrun;exact fin _ st1 (.inr rfl) hrun hr
   ·rename_i v st1 hrun
    simp only[Option.some.injEq]at hr
    subst hr
    refine calls_of_wp hf hb (wp_mono (hcode _ _ _ _ (.panic v) st1 hsim hrun) (fun e a' w' k=>?_))
    obtain⟨c1,k1,k2⟩:=k
    cases e with
    | panic ch =>
     obtain⟨hv,x,rfl,hx⟩:=k1
     exact⟨k2.defers,qk0 hW hH k2 hv hx⟩
    | _=>exact k1.elim
   ·simp at hr
structure QcJ[Laid](P:Program)(K:Kn):Prop where
 still:∀ f k,K f=some k→∀ call,QaJ call→QaJ (fun _=>k call)
 ok:∀ f k,K f=some k→∀ call,QaJ call→QbE P call→QbE P (fun g args h=>bif Nat.beq g f then k call args h else none)
theorem qlB[Laid]{K:Kn}{call:Qad}(hK:QcJ P K)(hC:QaJ call)(fuel:Nat):QaJ (qlD P C K call fuel):=by
 intro f args h out hr
 unfold qlD at hr
 split at hr
 ·rename_i k hk
  exact hK.still f k hk call hC f args h out hr
 ·exact qly hC fuel f args h out hr
theorem qkb[Laid]{K:Kn}(hK:QcJ P K):∀ n,QaJ (fnV P C K n)
 | 0=>by intro f args h out hr;simp[fnV]at hr
 | n+1=>qlB hK (qkb hK n) n
theorem qlC[Laid]{K:Kn}(hP:qeu P C=true)(hK:QcJ P K){call:Qad}(hS:QaJ call)(hC:QbE P call)(fuel:Nat):QbE P (qlD P C K call fuel):=by
 intro f args h out hr
 unfold qlD at hr
 split at hr
 ·rename_i k hk
  exact hK.ok f k hk call hS hC f args h out (by simpa using hr)
 ·exact qlz hP hS hC fuel f args h out hr
theorem qkc[Laid]{K:Kn}(hP:qeu P C=true)(hK:QcJ P K):∀ n,QbE P (fnV P C K n)
 | 0=>by intro f args h out hr;simp[fnV]at hr
 | n+1=>qlC hP hK (qkb hK n) (qkc hP hK n) n
end
end Go.AM
end
section
namespace Go.AM.F
open Go Go.AM
noncomputable section
variable {α β:Type}
def QaZ(l:List α):Nat:=List.rec (motive:=fun _=>Nat) 0 (fun _ _ ih=>Nat.succ ih) l
def Qdp(a b:List α):List α:=List.rec (motive:=fun _=>List α) b (fun x _ ih=>x::ih) a
def qs7(f:α→β)(l:List α):List β:=List.rec (motive:=fun _=>List β) [] (fun x _ ih=>f x::ih) l
def QcN(f:α→Bool)(l:List α):Bool:=List.rec (motive:=fun _=>Bool) true (fun x _ ih=>cond (f x) ih false) l
def QcK(l:List α)(n:Nat):List α :=
 List.rec (motive:=fun _=>Nat→List α) (fun _=>[]) (fun x _ ih n=>Nat.rec (motive:=fun _=>List α) [] (fun m _=>x::ih m) n) l n
def QbJ(l:List α)(n:Nat):List α :=
 List.rec (motive:=fun _=>Nat→List α) (fun _=>[]) (fun x t ih n=>Nat.rec (motive:=fun _=>List α) (x::t) (fun m _=>ih m) n) l n
def QbB(l:List α)(n:Nat):Option α :=
 List.rec (motive:=fun _=>Nat→Option α) (fun _=>none) (fun x _ ih n=>Nat.rec (motive:=fun _=>Option α) (some x) (fun m _=>ih m) n) l n
def Qdh(l:List α)(n:Nat)(a:α):List α :=
 List.rec (motive:=fun _=>Nat→List α) (fun _=>[]) (fun x t ih n=>Nat.rec (motive:=fun _=>List α) (a::t) (fun m _=>x::ih m) n) l n
def QdU(n:Nat)(a:α):List α:=Nat.rec (motive:=fun _=>List α) [] (fun _ ih=>a::ih) n
def Qeb(vs cs:List α):List α :=
 List.rec (motive:=fun _=>List α→List α) (fun cs=>cs) (fun v _ ih cs=>List.rec (motive:=fun _=>List α) [] (fun _ t _=>v::ih t) cs) vs cs
def atR(off:Nat)(f:List α→List α)(cs:List α):List α :=
 Nat.rec (motive:=fun _=>List α→List α) f (fun _ ih cs=>List.rec (motive:=fun _=>List α) [] (fun x t _=>x::ih t) cs) off cs
theorem QaH(l:List α):QaZ l=l.length:=by
 induction l with
 | nil=>rfl
 | cons x l ih=>simp only[List.length_cons,←ih];rfl
theorem qeg(a b:List α):Qdp a b=a++b:=by
 induction a with
 | nil=>rfl
 | cons x l ih=>simp only[List.cons_append,←ih];rfl
theorem qfd(f:α→β)(l:List α):qs7 f l=l.map f:=by
 induction l with
 | nil=>rfl
 | cons x l ih=>simp only[List.map_cons,←ih];rfl
theorem Qbm(f:α→Bool)(l:List α):QcN f l=l.all f:=by
 induction l with
 | nil=>rfl
 | cons x l ih =>
  simp only[List.all_cons,←ih]
  show cond (f x) (QcN f l) false=_
  cases f x<;>rfl
theorem QbT(l:List α):∀ n,QcK l n=l.take n:=by
 induction l with
 | nil=>intro n;simp;rfl
 | cons x l ih =>
  intro n
  cases n with
  | zero=>rfl
  | succ n=>simp only[List.take_succ_cons,←ih];rfl
theorem Qbq(l:List α):∀ n,QbJ l n=l.drop n:=by
 induction l with
 | nil=>intro n;simp;rfl
 | cons x l ih =>
  intro n
  cases n with
  | zero=>rfl
  | succ n=>simp only[List.drop_succ_cons,←ih];rfl
theorem Qba(l:List α):∀ n,QbB l n=l[n]?:=by
 induction l with
 | nil=>intro n;simp;rfl
 | cons x l ih =>
  intro n
  cases n with
  | zero=>rfl
  | succ n=>simp only[List.getElem?_cons_succ,←ih];rfl
theorem QcA(l:List α)(a:α):∀ n,Qdh l n a=l.set n a:=by
 induction l with
 | nil=>intro n;rfl
 | cons x l ih =>
  intro n
  cases n with
  | zero=>rfl
  | succ n=>simp only[List.set_cons_succ,←ih];rfl
theorem QcC(n:Nat)(a:α):QdU n a=List.replicate n a:=by
 induction n with
 | zero=>rfl
 | succ n ih=>simp only[List.replicate_succ,←ih];rfl
theorem qlU:∀ (vs cs:List α),vs.length≤cs.length→Qeb vs cs=vs++cs.drop vs.length
 | [],cs,_=>rfl
 | v::vs,[],h=>by simp at h
 | v::vs,c::cs,h=>by
  show v::Qeb vs cs=_
  rw[qlU vs cs (by simpa using h)]
  simp
theorem qto(f:List α→List α):∀ (off:Nat)(cs:List α),off≤cs.length→atR off f cs=cs.take off++f (cs.drop off)
 | 0,cs,_=>rfl
 | off+1,[],h=>by simp at h
 | off+1,c::cs,h=>by
  show c::atR off f cs=_
  rw[qto f off cs (by simpa using h)]
  simp
def Qci(d:α)(p:List Bool)(t:Tr α):α :=
 List.rec (motive:=fun _=>Tr α→α) (fun t=>Tr.rec (motive:=fun _=>α) d (fun v _ _ _ _=>Option.rec (motive:=fun _=>α) d (fun a=>a) v) t)
  (fun b _ ih t=>Tr.rec (motive:=fun _=>α) d (fun _ l r _ _=>Bool.rec (motive:=fun _=>α) (ih l) (ih r) b) t) p t
def Qdt(a:α)(p:List Bool)(t:Tr α):Tr α :=
 List.rec (motive:=fun _=>Tr α→Tr α) (fun t=>Tr.rec (motive:=fun _=>Tr α) (.nd (some a) .lf .lf) (fun _ l r _ _=>.nd (some a) l r) t)
  (fun b _ ih t=>Tr.rec (motive:=fun _=>Tr α) (Bool.rec (motive:=fun _=>Tr α) (.nd none (ih .lf) .lf) (.nd none .lf (ih .lf)) b)
   (fun v l r _ _=>Bool.rec (motive:=fun _=>Tr α) (.nd v (ih l) r) (.nd v l (ih r)) b) t) p t
theorem QbV(d:α)(p:List Bool):∀ t,Qci d p t=Tr.get d p t:=by
 induction p with
 | nil=>intro t;cases t with
  | lf=>rfl
  | nd v l r=>cases v<;>rfl
 | cons b p ih =>
  intro t
  cases t with
  | lf=>cases b<;>rfl
  | nd v l r=>cases b<;>simp only[Tr.get,cond_true,cond_false,←ih]<;>rfl
theorem Qcc(a:α)(p:List Bool):∀ t,Qdt a p t=Tr.set a p t:=by
 induction p with
 | nil=>intro t;cases t<;>rfl
 | cons b p ih =>
  intro t
  cases t with
  | lf=>cases b<;>simp only[Tr.set,cond_true,cond_false,←ih]<;>rfl
  | nd v l r=>cases b<;>simp only[Tr.set,cond_true,cond_false,←ih]<;>rfl
def aget(d:α)(t:Tr α)(i:Nat):α:=Qci d (path i) t
def aset(t:Tr α)(i:Nat)(a:α):Tr α:=Qdt a (path i) t
theorem qaw:@aget α = @AM.aget α:=by funext d t i;exact QbV _ _ _
theorem qas:@aset α = @AM.aset α:=by funext t i a;exact Qcc _ _ _
def ltI(a b:Int):Bool:=match a,b with
 | .ofNat m,.ofNat n=>Nat.blt m n
 | .ofNat _,.negSucc _=>false
 | .negSucc _,.ofNat _=>true
 | .negSucc m,.negSucc n=>Nat.blt n m
def eqI(a b:Int):Bool:=match a,b with
 | .ofNat m,.ofNat n=>Nat.beq m n
 | .negSucc m,.negSucc n=>Nat.beq m n
 | _,_=>false
theorem Qas(a b:Int):ltI a b=decide (a<b):=by
 cases a with
 | ofNat m=>cases b with
  | ofNat n =>
   show Nat.blt m n=_
   rw[Bool.eq_iff_iff,Nat.blt_eq,decide_eq_true_iff]
   show m<n↔(m:Int)<n
   omega
  | negSucc n =>
   show false=_
   rw[eq_comm,decide_eq_false_iff_not]
   show ¬(m:Int)<_
   omega
 | negSucc m=>cases b with
  | ofNat n =>
   show true=_
   rw[eq_comm,decide_eq_true_iff]
   show _<(n:Int)
   omega
  | negSucc n =>
   show Nat.blt n m=_
   rw[Bool.eq_iff_iff,Nat.blt_eq,decide_eq_true_iff]
   omega
theorem Qav(a b:Int):eqI a b=(a == b):=by
 rw[Bool.eq_iff_iff,beq_iff_eq]
 cases a with
 | ofNat m=>cases b with
  | ofNat n=>show Nat.beq m n=true↔_;rw[Nat.beq_eq];exact Int.ofNat_inj.symm
  | negSucc n=>simp[eqI]
 | negSucc m=>cases b with
  | ofNat n=>simp[eqI]
  | negSucc n=>show Nat.beq m n=true↔_;rw[Nat.beq_eq];exact Int.negSucc_inj.symm
def lim:IntKind→Nat
 | .i8=>128 | .u8=>256 | .i16=>32768 | .u16=>65536 | .i32=>2147483648 | .u32=>4294967296 | .i64=>9223372036854775808 | .u64=>18446744073709551616
def QaO(k:IntKind)(n:Int):Int:=match n with
 | .ofNat m=>bif Nat.blt m (lim k)then .ofNat m else k.wrap (.ofNat m)
 | .negSucc m=>bif k.signed&&Nat.blt m (lim k)then .negSucc m else k.wrap (.negSucc m)
set_option maxRecDepth 20000 in
theorem Qae(k:IntKind)(n:Int):QaO k n=k.wrap n:=by
 cases n with
 | ofNat m =>
  show(bif Nat.blt m (lim k)then Int.ofNat m else k.wrap (Int.ofNat m))=_
  cases h:Nat.blt m (lim k)with
  | false=>rfl
  | true =>
   rw[Nat.blt_eq]at h
   simp only[cond_true]
   have e0:k.wrap (Int.ofNat m)=if k.signed&&decide ((Int.ofNat m) % (2 ^ k.bits:Int) ≥ (2 ^ (k.bits - 1):Int))then (Int.ofNat m) % (2 ^ k.bits:Int) - (2 ^ k.bits:Int)else (Int.ofNat m) % (2 ^ k.bits:Int):=rfl
   rw[e0]
   have hp:(2 ^ k.bits:Int)=((if k.signed then 2*lim k else lim k:Nat):Int):=by cases k<;>rfl
   have hq:k.signed=true→(2 ^ (k.bits - 1):Int)=(lim k:Int):=by cases k<;>first | (intro _;rfl) | (intro h;simp[IntKind.signed]at h)
   rw[hp]
   cases hs:k.signed with
   | true =>
    rw[hq hs]
    have e1:(Int.ofNat m) % (((if true=true then 2*lim k else lim k:Nat)):Int)=Int.ofNat m:=Int.emod_eq_of_lt (Int.natCast_nonneg m) (by show(m:Int)<((2*lim k:Nat):Int);omega)
    rw[e1]
    have e2:decide ((Int.ofNat m) ≥ (lim k:Int))=false:=by rw[decide_eq_false_iff_not];show ¬((m:Int) ≥ _);omega
    rw[e2];rfl
   | false =>
    have e1:(Int.ofNat m) % (((if false=true then 2*lim k else lim k:Nat)):Int)=Int.ofNat m:=Int.emod_eq_of_lt (Int.natCast_nonneg m) (by show(m:Int)<((lim k:Nat):Int);omega)
    rw[e1];rfl
 | negSucc m =>
  show(bif k.signed&&Nat.blt m (lim k)then Int.negSucc m else k.wrap (Int.negSucc m))=_
  cases h:(k.signed&&Nat.blt m (lim k))with
  | false=>rfl
  | true =>
   rw[Bool.and_eq_true,Nat.blt_eq]at h
   obtain⟨hs,h⟩:=h
   simp only[cond_true]
   have e0:k.wrap (Int.negSucc m)=if k.signed&&decide ((Int.negSucc m) % (2 ^ k.bits:Int) ≥ (2 ^ (k.bits - 1):Int))then (Int.negSucc m) % (2 ^ k.bits:Int) - (2 ^ k.bits:Int)else (Int.negSucc m) % (2 ^ k.bits:Int):=rfl
   rw[e0]
   have hp:k.signed=true→(2 ^ k.bits:Int)=((2*lim k:Nat):Int):=by cases k<;>first | (intro _;rfl) | (intro h;simp[IntKind.signed]at h)
   have hq:k.signed=true→(2 ^ (k.bits - 1):Int)=(lim k:Int):=by cases k<;>first | (intro _;rfl) | (intro h;simp[IntKind.signed]at h)
   rw[hp hs,hq hs,hs]
   generalize lim k=L at h
   have e1:(Int.negSucc m) % ((2*L:Nat):Int)=Int.negSucc m+((2*L:Nat):Int):=by
    rw[←Int.add_emod_right]
    exact Int.emod_eq_of_lt (by omega) (by omega)
   rw[e1]
   have e2:decide (Int.negSucc m+((2*L:Nat):Int) ≥ (L:Int))=true:=by rw[decide_eq_true_iff];omega
   rw[e2]
   show Int.negSucc m=Int.negSucc m+((2*L:Nat):Int) - ((2*L:Nat):Int)
   omega
end
end Go.AM.F
end
section
namespace Go.AM.F
open Go Go.AM
noncomputable section
def QcE(v:V):Bool:=V.rec (motive_1:=fun _=>Bool) (motive_2:=fun _=>Bool)
 true (fun _ _=>true) (fun _=>true) (fun _=>true) true (fun r _=>match r with | .loc _ _=>false | _=>true) (fun _ ih=>ih) true
 (fun tok _ _ _ _=>match tok with | some (.loc _ _)=>false | _=>true) (fun r _ _ _ _ _=>match r with | .loc _ _=>false | _=>true)
 (fun _ _ _ a b=>a&&b) true (fun _ _ ih=>ih) true (fun _ ih=>ih) (fun _ ih=>ih) (fun _=>true) (fun r=>match r with | .loc _ _=>false | _=>true) true true (fun _ _ a b=>a&&b) v
def qiF(l:List V):Bool:=List.rec (motive:=fun _=>Bool) true (fun v _ ih=>QcE v&&ih) l
def Qbk(v:V):Bool:=V.rec (motive_1:=fun _=>Bool) (motive_2:=fun _=>Bool)
 true (fun _ _=>true) (fun _=>true) (fun _=>true) true (fun _ _=>false) (fun _ ih=>ih) true
 (fun tok _ _ _ _=>tok.isNone) (fun _ _ _ _ _ _=>false)
 (fun _ _ _ a b=>a&&b) true (fun _ _ ih=>ih) true (fun _ ih=>ih) (fun _ ih=>ih) (fun _=>true) (fun _=>false) true true (fun _ _ a b=>a&&b) v
def qev(l:List V):Bool:=List.rec (motive:=fun _=>Bool) true (fun v _ ih=>Qbk v&&ih) l
def QdB:V→Bool
 | .arr ..=>false
 | .dead=>false
 | v=>QcE v
def Qc5:V→V
 | .agg cs=>.agg (qs7 V.weak cs)
 | v=>v.weak
def Qdz:V→V
 | .agg cs=>.agg (qs7 V.weak1 cs)
 | v=>v.weak1
def opd(ρ:Nat→V):Operand→V
 | .tmp t=>ρ t
 | .const v=>QdT v
 | .func f=>.fn (.func f) [] []
 | .global _=>.dead
def rho(st:St):Nat→V:=aget .dead st.tm
def lcf(st:St):Nat→Nat × Row:=aget (0,.gone) st.loc
def Qab(st:St):Ref→Option Row
 | .loc s g=>bif Nat.beq (lcf st s).1 g then some (lcf st s).2 else none
 | .glob r=>QbB st.hp.rows r
def lower:Option Nat→Nat→Option Nat
 | none,r=>some r
 | some d,r=>some (min d r)
def setRow(st:St):Ref→Row→St
 | .loc s g,row=>{ st with loc:=aset st.loc s (g,row) }
 | .glob r,row=>{ st with hp:={ rows:=Qdh st.hp.rows r row,dirty:=lower st.hp.dirty r,mods:=st.hp.mods+1 } }
def Qaa(st:St)(gl:Bool)(site:Nat)(row:Row):Ref × St :=
 bif gl then (.glob (QaZ st.hp.rows),{ st with hp:={ st.hp with rows:=Qdp st.hp.rows [row] } })
 else (.loc site ((lcf st site).1+1),{ st with loc:=aset st.loc site ((lcf st site).1+1,row) })
def Qa1:Int→Nat→Option Nat
 | .ofNat k,n=>bif Nat.blt k n then some k else none
 | _,_=>none
def Qau:Int→Nat→Option Nat
 | .ofNat k,n=>bif Nat.ble k n then some k else none
 | _,_=>none
def intCmp(op:BinOp)(a b:Int):Option V :=
 match op with
 | .eql=>some (.bool (eqI a b))
 | .neq=>some (.bool (!eqI a b))
 | .lss=>some (.bool (ltI a b))
 | .leq=>some (.bool (!ltI b a))
 | .gtr=>some (.bool (ltI b a))
 | .geq=>some (.bool (!ltI a b))
 | _=>none
def QaS(op:BinOp)(k:IntKind)(a b:Int):Option V :=
 match op with
 | .add=>some (.int k (QaO k (Int.add a b)))
 | .sub=>some (.int k (QaO k (Int.sub a b)))
 | .mul=>some (.int k (QaO k (Int.mul a b)))
 | .quo=>if b=0 then none else some (.int k (QaO k (a.tdiv b)))
 | .rem=>if b=0 then none else some (.int k (a.tmod b))
 | .and=>some (.int k (QaO k (BitVec.ofInt k.bits a &&& BitVec.ofInt k.bits b).toNat))
 | .or=>some (.int k (QaO k (BitVec.ofInt k.bits a ||| BitVec.ofInt k.bits b).toNat))
 | .xor=>some (.int k (QaO k (BitVec.ofInt k.bits a ^^^ BitVec.ofInt k.bits b).toNat))
 | .andNot=>some (.int k (QaO k (BitVec.ofInt k.bits a &&& ~~~ (BitVec.ofInt k.bits b)).toNat))
 | op=>intCmp op a b
def Qcz(op:BinOp)(a b:Str):Option V :=
 match op with
 | .eql=>some (.bool (a.same b))
 | .neq=>some (.bool (!a.same b))
 | .lss=>some (.bool (Op.bytesLess (bl a.n a.v) (bl b.n b.v)))
 | .add=>bif Nat.ble (Nat.add a.n b.n) 4611686018427387904 then some (.str (a.app b))else none
 | _=>none
def QbQ(op:BinOp)(k:IntKind)(a b:Int):Option V :=
 if b<0 then none else
 match op with
 | .shl=>some (.int k (QaO k (a*2 ^ (min b.toNat k.bits))))
 | .shr=>some (.int k (a.fdiv (2 ^ (min b.toNat k.bits))))
 | _=>none
def qgE(op:BinOp)(b:Bool):Option V :=
 match op with
 | .eql=>some (.bool b)
 | .neq=>some (.bool !b)
 | _=>none
def Qct(op:BinOp)(x y:V):Option V :=
 match x,y with
 | .int k a,.int k' b =>
  match op with
  | .shl=>QbQ .shl k a b
  | .shr=>QbQ .shr k a b
  | op=>if k=k' then QaS op k a b else none
 | .str a,.str b=>Qcz op a b
 | _,_=>none
def isConst:Operand→Bool
 | .const _=>true
 | _=>false
def eqV(op:BinOp)(d:Option TypeDesc)(cn:Bool)(x y:V):Option V :=
 match d,x,y with
 | some .bool,.bool a,.bool b=>qgE op (a == b)
 | some (.slice _),.nils,.nils=>qgE op true
 | some (.slice _),.slice _ _ _ _,.nils=>qgE op false
 | some (.slice _),.arr ..,.nils=>qgE op false
 | some (.interface _),.nili,.nili=>bif cn then qgE op true else none
 | some (.interface _),.iface _ _,.nili=>qgE op false
 | some (.interface _),.nili,.iface _ _=>qgE op false
 | some (.pointer _),.nilp,.nilp=>qgE op true
 | some (.pointer _),.ptr _ _,.nilp=>qgE op false
 | some (.pointer _),.nilp,.ptr _ _=>qgE op false
 | _,_,_=>none
def unV(op:UnOp)(x:V):Option V :=
 match op,x with
 | .not,.bool b=>some (.bool !b)
 | .neg,.int k n=>some (.int k (QaO k (0 - n)))
 | .xor,.int k n=>QaS .xor k (if k.signed then -1 else k.max) n
 | _,_=>none
section
variable (P:Program)(C:Cfg)
def QbG(t:TypeId):Option Nat:=(P.info? t).map (·.size)
def qyd(t:TypeId):Option Bool:=match P.underlying t with
 | some (.struct _)=>some true
 | some (.array _ _)=>some true
 | some _=>some false
 | none=>none
def zeroV(t:TypeId):Option V:=match P.info? t with
 | some i=>i.zero.map QdT
 | none=>none
def QaB(t:TypeId):Option TypeId:=match P.underlying t with
 | some (.slice e)=>some e
 | _=>none
def Qat(t:TypeId)(i:Nat):Option Field:=match P.underlying t with
 | some (.struct fs)=>fs[i]?
 | _=>none
def Qb1(e:TypeId):Option Nat:=(P.info? e).bind fun i=>match i.zero with
 | some z=>bif Nat.beq i.bytes 0 || !Nat.beq z.cells.size i.size then none else some i.bytes
 | none=>none
def QaR(t:TypeId)(n:Nat):Bool:=match QbG P t with
 | some m=>Nat.beq n m
 | none=>false
def Qax(e:TypeId):Option (Nat × Bool) :=
 match QbG P e,qyd P e with
 | some (n+1),some g=>some (n+1,g)
 | _,_=>none
def QaV(t:TypeId)(cs:List V)(off:Nat):Option V :=
 match Qax P t with
 | some (n,true)=>bif Nat.ble (off+n) (QaZ cs)then some (.agg (QcK (QbJ cs off) n))else none
 | some (_,false)=>QbB cs off
 | none=>none
def setAt(cs:List V)(off:Nat)(vs:List V):Option (List V) :=
 bif Nat.ble (Nat.add off (QaZ vs)) (QaZ cs)then some (atR off (Qeb vs) cs)else none
def chunk(sz:Nat)(ag:Bool)(n:Nat)(cs:List V):List V :=
 Nat.rec (motive:=fun _=>List V→List V) (fun _=>[]) (fun _ ih cs=>(bif ag then V.agg (QcK cs sz)else (List.rec (motive:=fun _=>V) .dead (fun x _ _=>x) cs).unagg)::ih (QbJ cs sz)) n cs
def Qbn(tok:Option Ref)(full:Bool)(sz:Nat)(l:List V)(lo hi:Option Int)(mx:Option Int):Option V :=
 match Qau (hi.getD (QaZ l)) (QaZ l)with
 | none=>none
 | some h=>match Qau (lo.getD 0) h with
  | none=>none
  | some k=>match mx with
   | none =>
    bif Nat.beq h (QaZ l)then
     (bif Nat.beq k 0 then some (.slice tok full sz l)else some (.slice none full sz (QbJ l k)))
    else some (.slice none false sz (QbJ (QcK l h) k))
   | some m=>match Qau m (QaZ l),hi with
    | some m,some _=>bif Nat.beq m h then some (.slice none true sz (QbJ (QcK l h) k))else none
    | _,_=>none
def QaK(ρ:Nat→V):Option Operand→Option (Option Int)
 | none=>some none
 | some x=>match opd ρ x with
  | .int _ n=>some (some n)
  | _=>none
def QbK(s:Str)(lo hi:Option Int):Option V :=
 match Qau (hi.getD s.n) s.n with
 | none=>none
 | some h=>match Qau (lo.getD 0) h with
  | none=>none
  | some k=>some (.str (s.cut k h))
def Qbo(r:Ref)(off len:Nat)(lim:Option Nat)(sz:Nat)(ag:Bool)(lo hi:Option Int)(mx:Option Int):Option V :=
 match Qau (hi.getD len) len with
 | none=>none
 | some h=>match Qau (lo.getD 0) h with
  | none=>none
  | some k=>match mx with
   | none=>(match lim with
    | none=>bif Nat.beq k h && !Nat.beq k 0 then some (.slice none false sz [])else some (.arr r (off+k*sz) (h - k) none sz ag)
    | some c=>bif Nat.beq k c && !Nat.beq k 0 then some (.slice none true sz [])else some (.arr r (off+k*sz) (h - k) (some (c - k)) sz ag))
   | some m=>match Qau m len,hi with
    | some m,some _=>bif Nat.ble h m then
      (bif Nat.beq k m && !Nat.beq k 0 then some (.slice none true sz [])else some (.arr r (off+k*sz) (h - k) (some (m - k)) sz ag))else none
    | _,_=>none
def Qbd(t:TypeId)(x:V)(lo hi mx:Option Int):Option V :=
 match x with
 | .str s=>match mx,P.underlying t with
  | none,some .string=>QbK s lo hi
  | _,_=>none
 | .nils=>match QaB P t with
  | some e=>(match Qax P e with
   | some _=>(match Qau (hi.getD (0:Nat)) 0,Qau (lo.getD 0) 0,mx with
    | some _,some _,none=>some .nils
    | some _,some _,some m=>(match Qau m 0,hi with
     | some _,some _=>some .nils
     | _,_=>none)
    | _,_,_=>none)
   | none=>none)
  | none=>none
 | .slice tok full sz l=>match QaB P t with
  | some e=>(match Qax P e with
   | some (n,_)=>bif Nat.beq n sz then Qbn tok full sz l lo hi mx else none
   | none=>none)
  | none=>none
 | .arr r off len lim sz ag=>match QaB P t with
  | some e=>(match Qax P e with
   | some (n,_)=>bif Nat.beq n sz then Qbo r off len lim sz ag lo hi mx else none
   | none=>none)
  | none=>none
 | _=>none
def QaM(t:TypeId)(x:V)(i:Int):Option V :=
 match QaB P t with
 | none=>none
 | some e=>match Qax P e with
  | none=>none
  | some (n,_)=>match x with
   | .slice _ _ sz l=>bif Nat.beq n sz then (match Qa1 i (QaZ l)with
    | none=>none
    | some k=>match QbB l k with
     | some v=>some (.iptr v.cells)
     | none=>none)else none
   | .arr r off len _ sz _=>bif Nat.beq n sz then
     (match Qa1 i len with
     | none=>none
     | some k=>some (.ptr r (off+k*sz)))
    else none
   | _=>none
def Qcr(s d:TypeId)(x:V):Option V :=
 match P.underlying s,P.underlying d,x with
 | some (.int _),some (.int k),.int _ n=>some (.int k (QaO k n))
 | some .string,some .string,.str s=>some (.str s)
 | some (.int _),some .string,.int _ n=>some (.str (Str.of (Utf8.encode n)))
 | _,_,_=>none
def Qbl(t:TypeId)(ρ:Nat→V)(ps:List (Nat × Operand))(cs:List V):Option (List V) :=
 List.rec (motive:=fun _=>List V→Option (List V)) (fun cs=>some cs) (fun p _ ih cs =>
  match Qat P t p.1 with
  | none=>none
  | some f =>
   let v:=Qdz (opd ρ p.2)
   bif QdB v&&(bif Nat.beq (QaZ v.cells) ((QbG P f.type).getD 0)then true else false)then
    match setAt cs f.offset v.cells with
    | some cs'=>ih cs'
    | none=>none
   else none) ps cs
def Qb8(sz:Nat)(ρ:Nat→V)(ps:List (Nat × Operand))(l:List V):Option (List V) :=
 List.rec (motive:=fun _=>List V→Option (List V)) (fun l=>some l) (fun p _ ih l =>
  let v:=Qc5 (opd ρ p.2)
  bif v.live&&Qbk v&&Nat.beq (QaZ v.cells) sz&&Nat.blt p.1 (QaZ l)then ih (Qdh l p.1 v)else none) ps l
def Qam(ρ:Nat→V):Op→Option V
 | .move x=>some (opd ρ x)
 | .assign x=>some (opd ρ x)
 | .pick c a b=>match opd ρ c with
  | .bool true=>some (opd ρ a)
  | .bool false=>some (opd ρ b)
  | _=>none
 | .nilCheck x=>match opd ρ x with
  | .ptr r o=>some (.ptr r o)
  | .iptr cs=>some (.iptr cs)
  | _=>none
 | .binOp op t x y _=>match Qct op (opd ρ x) (opd ρ y)with
  | some v=>some v
  | none=>eqV op (P.underlying t) (isConst x || isConst y) (opd ρ x) (opd ρ y)
 | .unOp op _ x=>unV op (opd ρ x)
 | .convert s d x=>Qcr P s d (opd ρ x)
 | .slice t x lo hi mx=>match QaK ρ lo,QaK ρ hi,QaK ρ mx with
  | some lo,some hi,some mx=>Qbd P t (opd ρ x) lo hi mx
  | _,_,_=>none
 | .fieldAddr t x i=>match Qat P t i with
  | none=>none
  | some f=>match Qax P f.type with
   | none=>none
   | some _=>match opd ρ x with
    | .ptr r off=>some (.ptr r (off+f.offset))
    | .iptr cs=>some (.iptr (QbJ cs f.offset))
    | _=>none
 | .field t x i=>match Qat P t i,opd ρ x with
  | some f,.agg cs=>QaV P f.type cs f.offset
  | _,_=>none
 | .indexAddr t x i=>match opd ρ i with
  | .int _ n=>QaM P t (opd ρ x) n
  | _=>none
 | .index t x i=>match opd ρ x,opd ρ i,P.underlying t with
  | .str s,.int _ n,some .string=>(match Qa1 n s.n with
   | none=>none
   | some k=>some (.int .u8 (.ofNat (s.get k))))
  | _,_,_=>none
 | .extract x i=>match opd ρ x with
  | .tuple vs=>QbB vs i
  | _=>none
 | .makeFunc f a b=>some (.fn f (qs7 (opd ρ) a.toList) (qs7 (opd ρ) b.toList))
 | .makeInterface t x=>match P.underlying t with
  | some (.interface _)=>none
  | some _=>some (.iface t (opd ρ x))
  | none=>none
 | .build t ps=>match P.underlying t,zeroV P t with
  | some (.struct fs),some z=>bif z.live&&fs.all (fun f=>(P.info? f.type).isSome)then (Qbl P t ρ ps.toList z.cells).map .agg else none
  | _,_=>none
 | .buildSlice t len ps=>match QaB P t with
  | none=>none
  | some e=>match Qax P e,zeroV P e with
   | some (n,_),some z =>
    bif !C.QaN t&&Nat.ble (len*n) 16777216&&Qbk z&&z.live&&Nat.beq (QaZ z.cells) n then
     (Qb8 n ρ ps.toList (QdU len z)).map (.slice none true n)
    else none
   | _,_=>none
 | .call c=>match c.callee,c.args.toList with
  | .builtin .len,[x]=>(match c.argTypes[0]? with
   | none=>none
   | some t=>match opd ρ x,P.underlying t with
    | .nils,some (.slice _)=>some (.int .i64 0)
    | .slice _ _ _ l,some (.slice _)=>some (.int .i64 (QaZ l))
    | .arr _ _ n _ _ _,some (.slice _)=>some (.int .i64 n)
    | .str s,some .string=>some (.int .i64 s.n)
    | _,_=>none)
  | .builtin .min,[x,y]=>(match opd ρ x,opd ρ y with
   | .int k a,.int _ b=>some (.int k (if b<a then b else a))
   | _,_=>none)
  | .builtin .max,[x,y]=>(match opd ρ x,opd ρ y with
   | .int k a,.int _ b=>some (.int k (if b > a then b else a))
   | _,_=>none)
  | _,_=>none
 | _=>none
def Qal(gl:Nat→Bool)(ρ:Nat→V)(lc:Nat→Nat × Row)(o:Oper):Option (V × Option (Nat × Nat × Row)) :=
 match o.op with
 | .load t x=>(match opd ρ x with
  | .ptr (.loc s g) off=>(match lc s with
   | (g',.cells _ cs)=>bif Nat.beq g g' then (QaV P t cs off).map (·,none)else none
   | _=>none)
  | .iptr cs=>(QaV P t cs 0).map (·,none)
  | _=>none)
 | .store t a x=>(match opd ρ a with
  | .ptr (.loc s g) off=>(match lc s with
   | (g',.cells false cs)=>bif Nat.beq g g'&&QcN V.Qaw (opd ρ x).cells&&QaR P t (QaZ (opd ρ x).cells)then
     (match setAt cs off (opd ρ x).cells with
     | some cs'=>some (.tuple [],some (s,g,.cells false cs'))
     | none=>none)
    else none
   | _=>none)
  | _=>none)
 | .alloc t=>(match o.dst with
  | none=>none
  | some d=>bif gl d then none else match zeroV P t,QbG P t with
   | some z,some n=>bif z.live&&Nat.beq (QaZ z.cells) n then
     some (.ptr (.loc d ((lc d).1+1)) 0,some (d,(lc d).1+1,.cells false z.cells))
    else none
   | _,_=>none)
 | .box t x=>bif C.QaN t then (bif (opd ρ x).QbH.live then some (.iptr (opd ρ x).QbH.cells,none)else none)else (match o.dst with
  | none=>none
  | some d=>bif gl d || !(opd ρ x).live then none else
    some (.ptr (.loc d ((lc d).1+1)) 0,some (d,(lc d).1+1,.cells false (opd ρ x).cells)))
 | .range t x=>(match P.underlying t,opd ρ x,o.dst with
  | some .string,.str s,some d=>bif gl d then none else
    some (.ptr (.loc d ((lc d).1+1)) 0,some (d,(lc d).1+1,.iter s 0))
  | _,_,_=>none)
 | op=>(Qam P C ρ op).map (·,none)
def Qa4(st:St)(u:Option (Nat × Nat × Row)):St:=match u with
 | none=>st
 | some (s,g,row)=>{ st with loc:=aset st.loc s (g,row) }
def Qag(st:St):V→Option (List V)
 | .nils=>some []
 | .slice _ _ _ l=>some l
 | .arr r off len _ sz ag=>match Qab st r with
  | some (.cells _ cs)=>bif Nat.ble (off+len*sz) (QaZ cs)&&(ag || Nat.beq sz 1)then some (chunk sz ag len (QbJ cs off))else none
  | _=>none
 | .str s=>some (qs7 (fun b:UInt8=>V.int .u8 b.toNat) (bl s.n s.v))
 | _=>none
def freeze(st:St):V→Option (V × St)
 | .arr r off len lim sz ag=>match Qab st r with
  | some (.cells _ cs)=>match Qag st (.arr r off len lim sz ag)with
   | some l=>bif qev l then some (.slice none false sz l,setRow st r (.cells true cs))else none
   | none=>none
  | _=>none
 | _=>none
def Qa3:Ref→Bool
 | .loc _ _=>true
 | .glob _=>false
def exp1(fz:Bool)(st:St)(v:V):Option (V × St) :=
 match v with
 | .arr r off len lim sz ag=>bif fz || Qa3 r then freeze st (.arr r off len lim sz ag)else some (.arr r off len lim sz ag,st)
 | .slice tok f sz l=>match tok with
  | some (.glob r)=>bif fz then some (.slice none f sz l,st)else some (.slice (some (.glob r)) f sz l,st)
  | _=>some (.slice none f sz l,st)
 | v=>bif v.live&&QcE v then some (v,st)else none
def Qcm(fz:Bool)(st:St)(l:List V):Option (List V × St) :=
 List.rec (motive:=fun _=>St→Option (List V × St)) (fun st=>some ([],st)) (fun v _ ih st =>
  match exp1 fz st v with
  | none=>none
  | some (v',st')=>match ih st' with
   | none=>none
   | some (l',st'')=>some (v'::l',st'')) l st
def exp(fz:Bool)(st:St)(v:V):Option (V × St) :=
 match v with
 | .agg cs=>(Qcm fz st cs).map fun(l,st)=>(.agg l,st)
 | v=>exp1 fz st v
def exps(fz:Bool)(st:St)(l:List V):Option (List V × St) :=
 List.rec (motive:=fun _=>St→Option (List V × St)) (fun st=>some ([],st)) (fun v _ ih st =>
  match exp fz st v with
  | none=>none
  | some (v',st')=>match ih st' with
   | none=>none
   | some (l',st'')=>some (v'::l',st'')) l st
def flat(l:List V):List V:=List.rec (motive:=fun _=>List V) [] (fun v _ ih=>Qdp v.cells ih) l
def Qay(gl:Nat→Bool)(st:St)(d:Nat)(cs:List V)(len sz:Nat)(ag:Bool):Option Res :=
 bif gl d && !qiF cs then none else
 let (r,st'):=Qaa st (gl d) d (.cells false cs)
 some (.val (.arr r 0 len none sz ag) st')
def QaG(gl:Nat→Bool)(st:St)(d:Nat)(sz:Nat)(l:List V):Option Res :=
 let (r,st'):=Qaa st (gl d) d .tok
 some (.val (.slice (some r) false sz l) st')
def Qaj:Nat:=70368744177664
def Qai(gl:Nat→Bool)(st:St)(d:Nat)(t:TypeId)(x y:V):Option Res :=
 match QaB P t with
 | none=>none
 | some e=>match Qax P e,Qb1 P e,Qag st y with
  | some (sz,ag),some bytes,some ys =>
   bif QcN (fun v:V=>Nat.beq (QaZ v.cells) sz&&QcN V.Qaw v.cells) ys then
    match x with
    | .nils=>(match ys with
     | []=>some (.val .nils st)
     | _=>bif Nat.ble ((QaZ ys)*bytes) Qaj then
       (bif C.QaN t then Qay gl st d (flat ys) (QaZ ys) sz ag
        else bif qev ys then QaG gl st d sz ys else none)
      else none)
    | .slice tok full sz' l=>bif Nat.beq sz sz' then
     (match ys with
     | []=>some (.val (.slice tok full sz' l) st)
     | _=>bif Nat.ble ((Nat.add (QaZ l) (QaZ ys))*bytes) Qaj then
       (bif C.QaN t then
        (bif full then Qay gl st d (flat (Qdp l ys)) (Nat.add (QaZ l) (QaZ ys)) sz ag else none)
        else bif qev ys then
        (bif full then QaG gl st d sz (Qdp l ys)else
         match tok with
         | some r=>(match Qab st r with
          | some .tok=>QaG gl (setRow st r .gone) d sz (Qdp l ys)
          | _=>none)
         | none=>none)
        else none)
      else none)else none
    | .arr r off len lim sz' ag' =>
     bif Nat.beq sz sz'&&(ag == ag')then
      (match Qab st r with
      | some (.cells frz cs) =>
       bif Nat.ble (off+len*sz) (QaZ cs)&&Nat.ble ((len+(QaZ ys))*bytes) Qaj then
        (match ys with
        | []=>some (.val (.arr r off len lim sz' ag') st)
        | _=>bif !Qa3 r && !qiF (flat ys)then none else
         (match lim with
         | some c =>
          bif Nat.ble (len+(QaZ ys)) c then
           (bif frz then none else match setAt cs (off+len*sz) (flat ys)with
           | some cs'=>some (.val (.arr r off (len+(QaZ ys)) lim sz' ag') (setRow st r (.cells false cs')))
           | none=>none)
          else Qay gl st d (Qdp (QcK (QbJ cs off) (Nat.mul len sz)) (flat ys)) (len+(QaZ ys)) sz ag
         | none =>
          bif frz then none else
          bif Nat.ble (off+(len+(QaZ ys))*sz) (QaZ cs)then
           (match setAt cs (off+len*sz) (flat ys)with
           | some cs'=>some (.val (.arr r off (len+(QaZ ys)) lim sz' ag') (setRow st r (.cells false cs')))
           | none=>none)
          else bif Nat.beq off 0&&Nat.beq (len*sz) (QaZ cs)then
           Qay gl (setRow st r .gone) d (Qdp cs (flat ys)) (len+(QaZ ys)) sz ag
          else none))
       else none
      | _=>none)
     else none
    | _=>none
   else none
  | _,_,_=>none
def QbZ(gl:Nat→Bool)(st:St)(d:Nat)(t:TypeId)(len cap:V):Option Res :=
 match QaB P t,len,cap with
 | some e,.int _ (.ofNat n),.int _ (.ofNat c) =>
  (match Qax P e,(P.info? e).map (·.bytes),zeroV P e with
  | some (sz,ag),some bytes,some z =>
   bif Nat.ble n c&&Nat.ble (c*bytes) Qaj&&Nat.ble c Qaj&&Nat.beq (QaZ z.cells) sz&&z.live then
    let (r,st'):=Qaa st (gl d) d (.cells false (flat (QdU c z)))
    some (.val (.arr r 0 n (some c) sz ag) st')
   else none
  | _,_,_=>none)
 | _,_,_=>none
def copyV(st:St)(t:TypeId)(x y:V):Option Res :=
 match QaB P t with
 | none=>none
 | some e=>match Qax P e,Qag st y,x with
  | some (sz,_),some ys,.arr r off len _ sz' _ =>
   bif Nat.beq sz sz'&&(Qa3 r || qiF (flat ys))&&QcN (fun v:V=>Nat.beq (QaZ v.cells) sz&&QcN V.Qaw v.cells) ys then
    (match Qab st r with
    | some (.cells false cs) =>
     (match setAt cs off (flat (QcK ys len))with
     | some cs'=>bif Nat.ble (off+len*sz) (QaZ cs)then
       some (.val (.int .i64 (min (QaZ ys) len:Nat)) (setRow st r (.cells false cs')))
      else none
     | none=>none)
    | _=>none)
   else none
  | _,_,_=>none
def Qbi(st:St)(t:TypeId)(x:V):Option Res :=
 match QaB P t with
 | none=>none
 | some e=>match Qax P e,zeroV P e,x with
  | some (sz,_),some z,.arr r off len _ sz' _ =>
   bif Nat.beq sz sz'&&Nat.blt 0 len&&z.live&&Nat.beq (QaZ z.cells) sz&&z.cells.all V.Qaw&&(Qa3 r || QcE z)then
    (match Qab st r with
    | some (.cells false cs) =>
     (match setAt cs off (flat (QdU len z))with
     | some cs'=>some (.val (.tuple []) (setRow st r (.cells false cs')))
     | none=>none)
    | _=>none)
   else none
  | _,_,_=>none
def bytesOf(l:List V):Option (List UInt8) :=
 List.rec (motive:=fun _=>Option (List UInt8)) (some []) (fun v _ ih=>match v with
  | .int .u8 n=>ih.map (UInt8.ofNat n.toNat :: ·)
  | _=>none) l
def QbS(gl:Nat→Bool)(st:St)(d:Nat)(s t:TypeId)(x:V):Option Res :=
 match P.underlying s,P.underlying t with
 | some (.slice e),some .string =>
  (match P.underlying e with
  | some (.int .u8)=>(match Qag st x with
   | some l=>(match x with
    | .str _=>none
    | _=>(bytesOf l).map fun b=>.val (.str (Str.ofL b)) st)
   | none=>none)
  | _=>none)
 | some .string,some (.slice e) =>
  (match P.underlying e,x with
  | some (.int .u8),.str s=>bif C.QaN t&&Nat.ble s.n Qaj then
    let (r,st'):=Qaa st (gl d) d (.cells false (qs7 (fun b:UInt8=>V.int .u8 b.toNat) (bl s.n s.v)))
    some (.val (.arr r 0 s.n none 1 false) st')
   else none
  | _,_=>none)
 | _,_=>none
def Qbv(t:Option TypeId):Bool:=match t.bind P.underlying with
 | some (.slice _)=>true
 | some .string=>true
 | _=>false
def opds(ρ:Nat→V)(l:List Operand):List V:=qs7 (opd ρ) l
def QaP(gl:Nat→Bool)(st:St)(dst:Option Nat)(c:Call):Option Res :=
 let args:=opds (rho st) c.args.toList
 match c.callee with
 | .value f=>(match opd (rho st) f with
  | .fn (.func g) first caps=>(match exps false st (Qdp (Qdp first args) caps)with
   | some (l,st')=>some (.enter g l st')
   | none=>none)
  | _=>none)
 | .builtin b=>(match c.argTypes[0]?,dst with
  | some t,some d=>(match b,args with
   | .append,[x,y]=>bif Qbv P c.argTypes[1]? then Qai P C gl st d t x y else none
   | .copy,[x,y]=>copyV P st t x y
   | _,_=>none)
  | some t,none=>(match b,args with
   | .copy,[x,y]=>copyV P st t x y
   | .clear,[x]=>Qbi P st t x
   | _,_=>none)
  | _,_=>none)
 | .invoke _ _=>none
def Qb0(sz:Nat)(is:List Nat)(vs l:List V):Option (List V) :=
 List.rec (motive:=fun _=>List V→List V→Option (List V)) (fun vs l=>match vs with
  | []=>some l
  | _=>none) (fun i _ ih vs l=>match vs with
  | v::vs=>bif Nat.beq (QaZ v.cells) sz&&Nat.blt i (QaZ l)then ih vs (Qdh l i v)else none
  | []=>none) is vs l
def Qbc(kt:TypeId)(k:V):Bool:=match P.underlying kt,k with
 | some (.int _),.int _ _=>true
 | some .string,.str _=>true
 | some .bool,.bool _=>true
 | _,_=>false
def Qcj(x y:V):Option Bool:=match x,y with
 | .int k a,.int k' b=>if k=k' then some (eqI a b)else none
 | .str a,.str b=>some (a.same b)
 | .bool a,.bool b=>some (a == b)
 | _,_=>none
def Qb3(k:V)(l:List V)(i:Nat):Option (Option Nat) :=
 List.rec (motive:=fun _=>Nat→Option (Option Nat)) (fun _=>some none) (fun x _ ih i=>match Qcj k x with
  | some true=>some (some i)
  | some false=>ih (Nat.succ i)
  | none=>none) l i
def Qcl(t:TypeId)(h:Hp)(x k:V)(ok:Bool):Option V:=match x with
 | .mref (.glob r)=>(match QbB h.rows r,P.underlying t with
  | some (.mp ks vs),some (.map kt et)=>bif Qbc P kt k then (match Qb3 k ks 0 with
    | some (some j)=>(match QbB vs j with
     | some v=>some (bif ok then .tuple [v,.bool true]else v)
     | none=>none)
    | some none=>(match zeroV P et with
     | some z=>some (bif ok then .tuple [z,.bool false]else z)
     | none=>none)
    | none=>none)else none
  | _,_=>none)
 | _=>none
def Qcu(t:TypeId)(st:St)(x k v:V):Option Res:=match x,exp false st v with
 | .mref (.glob r),some (v,st')=>(match QbB st'.hp.rows r,P.underlying t with
  | some (.mp ks vs),some (.map kt _)=>bif Qbc P kt k then (match Qb3 k ks 0 with
    | some (some j)=>some (.val (.tuple []) (setRow st' (.glob r) (.mp (Qdh ks j k) (Qdh vs j v))))
    | some none=>some (.val (.tuple []) (setRow st' (.glob r) (.mp (Qdp ks [k]) (Qdp vs [v]))))
    | none=>none)else none
  | _,_=>none)
 | _,_=>none
def stepG(gl:Nat→Bool)(st:St)(o:Oper):Option Res :=
 match o.op with
 | .load t x=>(match opd (rho st) x with
  | .ptr (.glob r) off=>(match QbB st.hp.rows r with
   | some (.cells _ cs)=>(QaV P t cs off).map (.val · st)
   | _=>none)
  | _=>none)
 | .store t a x=>(match opd (rho st) a with
  | .ptr (.glob r) off=>(match QbB st.hp.rows r,exp false st (opd (rho st) x)with
   | some (.cells false _),some (v,st')=>(match QbB st'.hp.rows r with
    | some (.cells false cs)=>bif QcN V.Qaw v.cells&&QaR P t (QaZ v.cells)then
      (match setAt cs off v.cells with
      | some cs'=>some (.val (.tuple []) (setRow st' (.glob r) (.cells false cs')))
      | none=>none)
     else none
    | _=>none)
   | _,_=>none)
  | _=>none)
 | .alloc t=>(match o.dst with
  | none=>none
  | some d=>match zeroV P t,QbG P t with
   | some z,some n=>bif gl d&&z.live&&Nat.beq (QaZ z.cells) n then
     (let (r,st'):=Qaa st true d (.cells false z.cells)
      some (.val (.ptr r 0) st'))
    else none
   | _,_=>none)
 | .box _ x=>(match o.dst with
  | none=>none
  | some d=>match exp false st (opd (rho st) x)with
   | some (v,st')=>bif gl d then
     (let (r,st''):=Qaa st' true d (.cells false v.cells)
      some (.val (.ptr r 0) st''))
    else none
   | none=>none)
 | .build t ps=>(match P.underlying t,zeroV P t,exps true st (opds (rho st) (ps.toList.map (·.2)))with
  | some (.struct fs),some z,some (l,st') =>
   let ρ:Nat→V:=fun i=>(QbB l i).getD .dead
   bif !(z.live&&fs.all (fun f=>(P.info? f.type).isSome))then none else
   (match Qbl P t ρ (ps.toList.zipIdx.map fun(p,i)=>(p.1,Operand.tmp i)) z.cells with
   | some cs=>some (.val (.agg cs) st')
   | none=>none)
  | _,_,_=>none)
 | .buildSlice t len ps=>(match QaB P t,o.dst with
  | some e,some d=>(match Qax P e,zeroV P e,exps false st (opds (rho st) (ps.toList.map (·.2)))with
   | some (n,ag),some z,some (l,st') =>
    bif C.QaN t&&Nat.ble (len*n) 16777216&&z.live&&Nat.beq (QaZ z.cells) n&&(ag || Nat.beq n 1)then
     (match Qb0 n (ps.toList.map (·.1)) l (QdU len z)with
     | some items=>(let (r,st''):=Qaa st' (gl d) d (.cells false (flat items))
       some (.val (.arr r 0 len (some len) n ag) st''))
     | none=>none)
    else none
   | _,_,_=>none)
  | _,_=>none)
 | .makeSlice t l c=>(match o.dst with
  | some d=>QbZ P gl st d t (opd (rho st) l) (opd (rho st) c)
  | none=>none)
 | .convert s t x=>(match o.dst with
  | some d=>QbS P C gl st d s t (opd (rho st) x)
  | none=>none)
 | .next x isStr=>(match opd (rho st) x with
  | .ptr r 0=>(match Qab st r,isStr with
   | some (.iter s pos),true =>
    bif Nat.blt pos s.n then
     (let (c,width):=s.rune pos
      some (.val (.tuple [.bool true,.int .i64 pos,.int .i32 c]) (setRow st r (.iter s (pos+width)))))
    else some (.val (.tuple [.bool false]) st)
   | _,_=>none)
  | _=>none)
 | .call c=>QaP P C gl st o.dst c
 | .panic x=>(match opd (rho st) x with
  | .iface t v=>bif QcE v then some (.panic (.iface t v) st)else none
  | _=>none)
 | .makeMap _ none=>(match o.dst with
  | some d=>(let (r,st'):=Qaa st true d (.mp [] [])
    some (.val (.mref r) st'))
  | none=>none)
 | .lookup t x i ok=>(Qcl P t st.hp (opd (rho st) x) (opd (rho st) i) ok).map (.val · st)
 | .mapUpdate t m k x=>Qcu P t st (opd (rho st) m) (opd (rho st) k) (opd (rho st) x)
 | .insert t m k x=>Qcu P t st (opd (rho st) m) (opd (rho st) k) (opd (rho st) x)
 | _=>none
def Qah(gl:Nat→Bool)(st:St)(o:Oper):Option Res :=
 match Qal P C gl (rho st) (lcf st) o with
 | some (v,u)=>some (.val v (Qa4 st u))
 | none=>stepG P C gl st o
def QaF(st:St)(d:Option Nat)(v:V):St:=match d with
 | some i=>{ st with tm:=aset st.tm i v }
 | none=>st
def QaD(ops:Array Oper)(o:Oper)(ρ:Nat→V):Option Bool :=
 match o.guard with
 | none=>some true
 | some (j,w)=>match (ops[j]?).bind (·.dst)with
  | none=>none
  | some d=>match ρ d with
   | .bool b=>some (b == w)
   | .dead=>none
   | _=>some false
def QaA(call:Qad)(gl:Nat→Bool)(st:St)(o:Oper):Option (Ex × St) :=
 match Qah P C gl st o with
 | some (.val v st')=>some (.normal,QaF st' o.dst v)
 | some (.enter f args st')=>(match call f args st'.hp with
  | some (.val v h)=>some (.normal,QaF { st' with hp:=h } o.dst v)
  | some (.panic v h)=>some (.panic v,{ st' with hp:=h })
  | none=>none)
 | some (.panic v st')=>some (.panic v,st')
 | none=>none
def opsV(call:Qad)(gl:Nat→Bool)(all:Array Oper)(l:List Oper)(st:St):Option (Ex × St) :=
 List.rec (motive:=fun _=>St→Option (Ex × St)) (fun st=>some (.normal,st)) (fun o _ ih st =>
  match QaD all o (rho st)with
  | none=>none
  | some false=>ih (QaF st o.dst (.tuple []))
  | some true=>match QaA P C call gl st o with
   | some (.normal,st')=>ih st'
   | r=>r) l st
def quiet1:V→Bool
 | .arr (.loc _ _) ..=>false
 | .agg _=>false
 | _=>true
def quiet:V→Bool
 | .agg cs=>QcN quiet1 cs
 | v=>quiet1 v
def Qa7:V→Option (List Nat)
 | .slice none _ _ _=>some []
 | .slice (some (.loc s _)) _ _ _=>some [s]
 | .slice (some (.glob _)) _ _ _=>none
 | .arr (.loc s _) ..=>some [s]
 | .arr (.glob _) ..=>none
 | _=>some []
def Qbg:V→Option (List Nat)
 | .arr (.loc s _) ..=>some [s]
 | .arr (.glob _) ..=>none
 | _=>some []
def Qdy:V→Bool
 | .slice (some (.loc _ _)) _ _ _=>false
 | .arr (.loc _ _) ..=>false
 | _=>true
def Qbf:V→List Nat
 | .arr (.loc s _) ..=>[s]
 | _=>[]
def Qd7:V→Bool
 | .slice ..=>true
 | .nils=>true
 | _=>false
def Qa5(gl:Nat→Bool)(ρ:Nat→V)(dst:Option Nat)(c:Call):Option Foot :=
 match dst,c.args.toList with
 | some d,[x,y]=>bif gl d then (bif Qdy (opd ρ x)then some ⟨Qbf (opd ρ y),[],true,true,false,Qd7 (opd ρ x)⟩else none)else
  (match Qa7 (opd ρ x),Qbg (opd ρ y)with
  | some a,some b=>some ⟨d::Qdp a b,d::a,false,false,false,false⟩
  | _,_=>none)
 | _,_=>none
def Qbr(d:Option TypeDesc)(x:V):Option Foot:=match d,x with
 | some .string,.arr (.loc s _) _ _ _ _ _=>some ⟨[s],[],false,false,false,false⟩
 | _,_=>none
def Qaz(gl:Nat→Bool)(ρ:Nat→V)(lc:Nat→Nat × Row)(o:Oper):Option Foot :=
 match Qal P C gl ρ lc o with
 | some (_,none)=>(match o.op with
  | .load _ x=>(match opd ρ x with
   | .ptr (.loc s _) _=>some ⟨[s],[],false,false,false,false⟩
   | _=>some ⟨[],[],false,false,false,false⟩)
  | _=>some ⟨[],[],false,false,false,false⟩)
 | some (_,some (s,_,_))=>some ⟨[s],[s],false,false,false,false⟩
 | none=>(match o.op with
  | .call c=>(match c.callee with
   | .value f=>(match opd ρ f with
    | .fn (.func _) first caps=>bif QcN quiet first&&QcN quiet (opds ρ c.args.toList)&&QcN quiet caps then some ⟨[],[],true,true,false,false⟩else none
    | _=>none)
   | .builtin .append=>Qa5 gl ρ o.dst c
   | _=>none)
  | .load _ x=>(match opd ρ x with
   | .ptr (.glob _) _=>some ⟨[],[],true,false,true,false⟩
   | _=>none)
  | .store _ a x=>(match opd ρ a with
   | .ptr (.glob _) _=>bif quiet (opd ρ x)then some ⟨[],[],true,true,false,false⟩else none
   | _=>none)
  | .alloc _=>some ⟨[],[],true,true,false,false⟩
  | .box _ x=>bif quiet (opd ρ x)then some ⟨[],[],true,true,false,false⟩else none
  | .panic _=>some ⟨[],[],true,true,false,false⟩
  | .convert _ t x=>Qbr (P.underlying t) (opd ρ x)
  | .makeMap _ _=>some ⟨[],[],true,true,false,false⟩
  | .lookup _ _ _ _=>some ⟨[],[],true,false,false,false⟩
  | .mapUpdate _ _ _ x=>bif quiet (opd ρ x)then some ⟨[],[],true,true,false,false⟩else none
  | .insert _ _ _ x=>bif quiet (opd ρ x)then some ⟨[],[],true,true,false,false⟩else none
  | _=>none)
def settle(h h':Hp)(ft:Foot):Foot:=bif Nat.beq h'.mods h.mods then (bif Nat.beq (QaZ h'.rows) (QaZ h.rows)then { ft with hp:=false }else { ft with sf:=true })else ft
def QbX(acc:List Nat)(l:List Edge):Nat :=
 List.rec (motive:=fun _=>Nat) 0 (fun e _ ih=>bif Region.binds .any e then Nat.lor (Nat.lor (Nat.shiftLeft 1 e.on) (List.rec (motive:=fun _=>Nat) 0 (fun x _ _=>x) (QbJ acc e.on))) ih else ih) l
def masks(l:List Oper)(acc:List Nat):List Nat :=
 List.rec (motive:=fun _=>List Nat→List Nat) (fun acc=>acc) (fun o _ ih acc=>ih (Qdp acc [QbX acc o.after.toList])) l acc
def behind(ops:List Oper)(k:Nat):Stop→Bool
 | none=>false
 | some (i,_,_)=>Nat.testBit ((masks ops []).getD k 0) i
def Qa6(o:Oper):Bool:=match o.op with
 | .call c=>(match c.callee with
  | .value _=>true
  | _=>false)
 | .panic _=>true
 | _=>false
def Qbh(f:Foot):Option (List Foot × St × Stop)→Option (List Foot × St × Stop)
 | some (fs,s,q)=>some (f::fs,s,q)
 | none=>none
def Qaq(call:Qad)(gl:Nat→Bool)(all:Array Oper)(l:List Oper)(k:Nat)(sp:Stop)(st:St):Option (List Foot × St × Stop) :=
 List.rec (motive:=fun _=>Nat→Stop→St→Option (List Foot × St × Stop)) (fun _ sp st=>some ([],st,sp)) (fun o _ ih k sp st =>
  bif behind all.toList k sp then Qbh ⟨[],[],false,false,false,false⟩ (ih (Nat.succ k) sp (QaF st o.dst (.tuple [])))
  else match QaD all o (rho st)with
  | none=>none
  | some false=>Qbh ⟨[],[],false,false,false,false⟩ (ih (Nat.succ k) sp (QaF st o.dst (.tuple [])))
  | some true=>(match Qaz P C gl (rho st) (lcf st) o,QaA P C call gl st o with
   | some ft,some (.normal,st')=>Qbh (settle st.hp st'.hp ft) (ih (Nat.succ k) sp st')
   | some ft,some (.panic v,st')=>(match sp with
    | none=>bif Qa6 o then Qbh ft (ih (Nat.succ k) (some (k,v,st'.hp)) (QaF st o.dst (.tuple [])))else none
    | some _=>none)
   | _,_=>none)) l k sp st
def traceless(m:Nat)(fs:List Foot)(k:Nat):Bool :=
 List.rec (motive:=fun _=>Nat→Bool) (fun _=>true) (fun f _ ih k=>(Nat.testBit m k || f.wr.isEmpty)&&ih (Nat.succ k)) fs k
def disj(a b:List Nat):Bool :=
 List.rec (motive:=fun _=>Bool) true (fun s _ ih=>QcN (fun t=>!Nat.beq s t) b&&ih) a
def indep(a b:Foot):Bool:=!(a.hp&&(b.hr || b.hp)) && !(a.hr&&b.hp && !(a.ld&&b.sf))&&disj a.wr b.rd&&disj a.wr b.wr&&disj a.rd b.wr
def QaL(fs:List Foot)(l:List (Nat × Nat)):Bool :=
 List.rec (motive:=fun _=>Bool) true (fun p _ ih=>(match QbB fs p.1,QbB fs p.2 with
  | some a,some b=>indep a b
  | _,_=>false)&&ih) l
def Qbx(fs:List Foot)(os:List Oper):Bool :=
 List.rec (motive:=fun _=>List Oper→Bool) (fun _=>false) (fun f _ ih os=>match os with
  | o::os=>f.far o || ih os
  | []=>false) fs os
def Qbj(st:St)(l:List ResultVar):Option (List V) :=
 List.rec (motive:=fun _=>Option (List V)) (some []) (fun r _ ih=>match r with
  | .tmp t=>ih.map (rho st t :: ·)
  | .cell a t=>match rho st a with
   | .ptr r off=>(match Qab st r with
    | some (.cells _ cs)=>(match QaV P t cs off,ih with
     | some v,some vs=>some (v::vs)
     | _,_=>none)
    | _=>none)
   | _=>none) l
def Qa0(k:Nat)(l:List V)(t:Tr V):Tr V :=
 List.rec (motive:=fun _=>Nat→Tr V→Tr V) (fun _ t=>t) (fun v _ ih k t=>ih (Nat.succ k) (aset t k v)) l k t
def QaE(args:List V):Tr V:=Qa0 0 args .lf
def QaX(h h':Hp):Bool:=match h'.dirty with
 | none=>true
 | some d=>Nat.ble (QaZ h.rows) d
def Qar(h h':Hp)(l:List V):Hp :=
 bif QaX h h' then (bif qev l then h else { rows:=h'.rows,dirty:=h.dirty,mods:=h.mods })
 else { rows:=h'.rows,dirty:=match h.dirty,h'.dirty with
  | none,d=>d
  | some d,none=>some d
  | some d,some d'=>some (min d d'),mods:=h'.mods }
end
end
end Go.AM.F
end
section
namespace Go.AM.G
open Go Go.AM
noncomputable section
universe u
variable {α:Type}
def QbI(v:V)(f:IntKind→Int→α)(d:α):α :=
 V.rec (motive_1:=fun _=>(IntKind→Int→α)→α→α) (motive_2:=fun _=>Unit)
  (fun _ d=>d) (fun k n f _=>f k n) (fun _ _ d=>d) (fun _ _ d=>d) (fun _ d=>d) (fun _ _ _ d=>d) (fun _ _ _ d=>d) (fun _ d=>d)
  (fun _ _ _ _ _ _ d=>d) (fun _ _ _ _ _ _ _ d=>d) (fun _ _ _ _ _ _ d=>d) (fun _ d=>d) (fun _ _ _ _ d=>d) (fun _ d=>d) (fun _ _ _ d=>d) (fun _ _ _ d=>d) (fun _ _ d=>d) (fun _ _ d=>d) (fun _ d=>d)
  () (fun _ _ _ _=>()) v f d
def Qca(v:V)(f:Bool→α)(d:α):α :=
 V.rec (motive_1:=fun _=>(Bool→α)→α→α) (motive_2:=fun _=>Unit)
  (fun _ d=>d) (fun _ _ _ d=>d) (fun b f _=>f b) (fun _ _ d=>d) (fun _ d=>d) (fun _ _ _ d=>d) (fun _ _ _ d=>d) (fun _ d=>d)
  (fun _ _ _ _ _ _ d=>d) (fun _ _ _ _ _ _ _ d=>d) (fun _ _ _ _ _ _ d=>d) (fun _ d=>d) (fun _ _ _ _ d=>d) (fun _ d=>d) (fun _ _ _ d=>d) (fun _ _ _ d=>d) (fun _ _ d=>d) (fun _ _ d=>d) (fun _ d=>d)
  () (fun _ _ _ _=>()) v f d
def QcL(v:V)(f:Str→α)(d:α):α :=
 V.rec (motive_1:=fun _=>(Str→α)→α→α) (motive_2:=fun _=>Unit)
  (fun _ d=>d) (fun _ _ _ d=>d) (fun _ _ d=>d) (fun s f _=>f s) (fun _ d=>d) (fun _ _ _ d=>d) (fun _ _ _ d=>d) (fun _ d=>d)
  (fun _ _ _ _ _ _ d=>d) (fun _ _ _ _ _ _ _ d=>d) (fun _ _ _ _ _ _ d=>d) (fun _ d=>d) (fun _ _ _ _ d=>d) (fun _ d=>d) (fun _ _ _ d=>d) (fun _ _ _ d=>d) (fun _ _ d=>d) (fun _ _ d=>d) (fun _ d=>d)
  () (fun _ _ _ _=>()) v f d
def Qb7(v:V)(f:Ref→Nat→α)(g:List V→α)(d:α):α :=
 V.rec (motive_1:=fun _=>(Ref→Nat→α)→(List V→α)→α→α) (motive_2:=fun _=>Unit)
  (fun _ _ d=>d) (fun _ _ _ _ d=>d) (fun _ _ _ d=>d) (fun _ _ _ d=>d) (fun _ _ d=>d) (fun r o f _ _=>f r o) (fun cs _ _ g _=>g cs) (fun _ _ d=>d)
  (fun _ _ _ _ _ _ _ d=>d) (fun _ _ _ _ _ _ _ _ d=>d) (fun _ _ _ _ _ _ _ d=>d) (fun _ _ d=>d) (fun _ _ _ _ _ d=>d) (fun _ _ d=>d) (fun _ _ _ _ d=>d) (fun _ _ _ _ d=>d) (fun _ _ _ d=>d) (fun _ _ _ d=>d) (fun _ _ d=>d)
  () (fun _ _ _ _=>()) v f g d
def QcD(v:V)(f:List V→α)(d:α):α :=
 V.rec (motive_1:=fun _=>(List V→α)→α→α) (motive_2:=fun _=>Unit)
  (fun _ d=>d) (fun _ _ _ d=>d) (fun _ _ d=>d) (fun _ _ d=>d) (fun _ d=>d) (fun _ _ _ d=>d) (fun _ _ _ d=>d) (fun _ d=>d)
  (fun _ _ _ _ _ _ d=>d) (fun _ _ _ _ _ _ _ d=>d) (fun _ _ _ _ _ _ d=>d) (fun _ d=>d) (fun _ _ _ _ d=>d) (fun _ d=>d) (fun _ _ _ d=>d) (fun cs _ f _=>f cs) (fun _ _ d=>d) (fun _ _ d=>d) (fun _ d=>d)
  () (fun _ _ _ _=>()) v f d
def Qdv(v:V)(f:List V→α)(d:α):α :=
 V.rec (motive_1:=fun _=>(List V→α)→α→α) (motive_2:=fun _=>Unit)
  (fun _ d=>d) (fun _ _ _ d=>d) (fun _ _ d=>d) (fun _ _ d=>d) (fun _ d=>d) (fun _ _ _ d=>d) (fun _ _ _ d=>d) (fun _ d=>d)
  (fun _ _ _ _ _ _ d=>d) (fun _ _ _ _ _ _ _ d=>d) (fun _ _ _ _ _ _ d=>d) (fun _ d=>d) (fun _ _ _ _ d=>d) (fun _ d=>d) (fun cs _ f _=>f cs) (fun _ _ _ d=>d) (fun _ _ d=>d) (fun _ _ d=>d) (fun _ d=>d)
  () (fun _ _ _ _=>()) v f d
def Qcp(v:V)(f:Nat→List V→α)(g:Ref→Nat→Nat→Nat→Bool→α)(d:α):α :=
 V.rec (motive_1:=fun _=>(Nat→List V→α)→(Ref→Nat→Nat→Nat→Bool→α)→α→α) (motive_2:=fun _=>Unit)
  (fun _ _ d=>d) (fun _ _ _ _ d=>d) (fun _ _ _ d=>d) (fun _ _ _ d=>d) (fun _ _ d=>d) (fun _ _ _ _ d=>d) (fun _ _ _ _ d=>d) (fun _ _ d=>d)
  (fun _ _ sz l _ f _ _=>f sz l) (fun r off len _ sz ag _ g _=>g r off len sz ag) (fun _ _ _ _ _ _ _ d=>d) (fun _ _ d=>d) (fun _ _ _ _ _ d=>d) (fun _ _ d=>d) (fun _ _ _ _ d=>d) (fun _ _ _ _ d=>d) (fun _ _ _ d=>d) (fun _ _ _ d=>d) (fun _ _ d=>d)
  () (fun _ _ _ _=>()) v f g d
def Qac{β:Type}(o:Option β)(f:β→α)(d:α):α:=Option.rec (motive:=fun _=>(β→α)→α→α) (fun _ d=>d) (fun b f _=>f b) o f d
def QcT(r:Ref)(f:Nat→Nat→α)(g:Nat→α):α:=Ref.rec (motive:=fun _=>(Nat→Nat→α)→(Nat→α)→α) (fun s k f _=>f s k) (fun r _ g=>g r) r f g
def onCells(r:Row)(f:Bool→List V→α)(d:α):α :=
 Row.rec (motive:=fun _=>(Bool→List V→α)→α→α) (fun _ d=>d) (fun b cs f _=>f b cs) (fun _ d=>d) (fun _ _ _ d=>d) (fun _ _ _ d=>d) r f d
def Qbs(n:Int)(f:Nat→α)(d:α):α:=Int.rec (motive:=fun _=>(Nat→α)→α→α) (fun m f _=>f m) (fun _ _ d=>d) n f d
abbrev R:=Option (Ex × St)
abbrev K:=St→R
def opd(x:Operand)(st:St):V :=
 Operand.rec (motive:=fun _=>St→V) (fun t st=>F.Qci .dead (path t) st.tm) (fun v _=>QdT v) (fun _ _=>.dead) (fun f _=>.fn (.func f) [] []) x st
def ok(d:Option Nat)(st:St)(v:V)(k:K):R :=
 Option.rec (motive:=fun _=>St→V→K→R) (fun st _ k=>k st) (fun i st v k=>St.rec (motive:=fun _=>R) (fun tm loc hp=>k ⟨F.Qdt v (path i) tm,loc,hp⟩) st) d st v k
def okO(d:Option Nat)(st:St)(v:Option V)(k:K):R:=Option.rec (motive:=fun _=>Option Nat→St→K→R) (fun _ _ _=>none) (fun v d st k=>ok d st v k) v d st k
def Qce(k:IntKind):Nat:=IntKind.rec (motive:=fun _=>Nat) 0 1 2 3 4 5 6 7 k
def int2(op:BinOp)(k:IntKind)(a b:Int):Option V :=
 BinOp.rec (motive:=fun _=>IntKind→Int→Int→Option V)
  (fun k a b=>some (.int k (F.QaO k (Int.add a b)))) (fun k a b=>some (.int k (F.QaO k (Int.sub a b)))) (fun k a b=>some (.int k (F.QaO k (Int.mul a b))))
  (fun k a b=>QaS .quo k a b) (fun k a b=>QaS .rem k a b) (fun k a b=>QaS .and k a b) (fun k a b=>QaS .or k a b) (fun k a b=>QaS .xor k a b)
  (fun k a b=>QbQ .shl k a b) (fun k a b=>QbQ .shr k a b) (fun k a b=>QaS .andNot k a b)
  (fun _ a b=>some (.bool (F.eqI a b))) (fun _ a b=>some (.bool (!F.eqI a b))) (fun _ a b=>some (.bool (F.ltI a b))) (fun _ a b=>some (.bool (!F.ltI b a)))
  (fun _ a b=>some (.bool (F.ltI b a))) (fun _ a b=>some (.bool (!F.ltI a b))) op k a b
abbrev Do:=Program→Cfg→Qad→(Nat→Bool)→Oper→St→K→R
def next(r:R)(k:K):R :=
 Qac r (fun p=>Ex.rec (motive:=fun _=>K→St→R) (fun k st=>k st) (fun i _ st=>some (.exit i,st)) (fun _ st=>some (.ret,st)) (fun v _ st=>some (.panic v,st)) p.1 k p.2) none
def qti(x:Operand):Do:=fun _ _ _ _ o st k=>ok o.dst st (opd x st) k
def bin(P:Program)(op:BinOp)(t:TypeId)(X Y:Operand)(x y:V):Option V :=
 QbI x (fun k a=>QbI y (fun k' b=>bif Nat.beq (Qce k) (Qce k')then int2 op k a b else F.Qct op (.int k a) (.int k' b)) none)
  (QcL x (fun a=>QcL y (fun b=>Qcz op a b) none) (F.eqV op (P.underlying t) (isConst X || isConst Y) x y))
def qyJ(op:BinOp)(t:TypeId)(x y:Operand)(_:TypeId):Do:=fun P _ _ _ o st k=>okO o.dst st (bin P op t x y (opd x st) (opd y st)) k
def Qd8(c a b:Operand):Do:=fun _ _ _ _ o st k=>Qca (opd c st) (fun q=>Bool.rec (motive:=fun _=>R) (ok o.dst st (opd b st) k) (ok o.dst st (opd a st) k) q) none
def un(op:UnOp)(x:V):Option V:=UnOp.rec (motive:=fun _=>V→Option V) (fun x=>F.unV .neg x) (fun x=>F.unV .xor x) (fun x=>Qca x (fun b=>some (.bool (!b))) none) (fun x=>F.unV .plus x) op x
def qBP(op:UnOp)(t:TypeId)(x:Operand):Do:=fun _ _ _ _ o st k=>okO o.dst st (un op (opd x st)) k
def Qdb(x:Operand)(i:Nat):Do:=fun _ _ _ _ o st k=>QcD (opd x st) (fun vs=>okO o.dst st (F.QbB vs i) k) none
def part(l:Option (Nat × Bool))(cs:List V)(off:Nat):Option V :=
 Qac l (fun p=>Bool.rec (motive:=fun _=>Option V) (F.QbB cs off) (bif Nat.ble (Nat.add off p.1) (F.QaZ cs)then some (.agg (F.QcK (F.QbJ cs off) p.1))else none) p.2) none
def Qd9(t:TypeId)(x:Operand):Do:=fun P C call gl o st k =>
 Qb7 (opd x st) (fun r off=>QcT r
   (fun s g=>onCells (F.Qci (0,.gone) (path s) st.loc).2 (fun _ cs=>bif Nat.beq g (F.Qci (0,.gone) (path s) st.loc).1 then okO o.dst st (part (F.Qax P t) cs off) k else none) none)
   (fun r=>Qac (F.QbB st.hp.rows r) (fun row=>onCells row (fun _ cs=>okO o.dst st (part (F.Qax P t) cs off) k) none) none))
  (fun cs=>okO o.dst st (part (F.Qax P t) cs 0) k) none
def QcH(t:TypeId)(x i:Operand):Do:=fun P _ _ _ o st k =>
 QbI (opd i st) (fun _ n=>Qac (F.QaB P t) (fun e=>Qac (F.Qax P e) (fun p=>Qcp (opd x st)
  (fun sz l=>bif Nat.beq p.1 sz then Qbs n (fun m=>bif Nat.blt m (F.QaZ l)then Qac (F.QbB l m) (fun v=>ok o.dst st (.iptr v.cells) k) none else none) none else none)
  (fun r off len sz ag=>bif Nat.beq p.1 sz then Qbs n (fun m=>bif Nat.blt m len then ok o.dst st (.ptr r (Nat.add off (Nat.mul m p.1))) k else none) none else none) none) none) none) none
def QcI(t:TypeId)(x:Operand)(i:Nat):Do:=fun P _ _ _ o st k =>
 Qac (F.Qat P t i) (fun f=>Qac (F.Qax P f.type) (fun _=>Qb7 (opd x st) (fun r off=>ok o.dst st (.ptr r (Nat.add off f.offset)) k) (fun cs=>ok o.dst st (.iptr (F.QbJ cs f.offset)) k) none) none) none
def QdO(t:TypeId)(x:Operand)(i:Nat):Do:=fun P _ _ _ o st k =>
 Qac (F.Qat P t i) (fun f=>Qdv (opd x st) (fun cs=>okO o.dst st (part (F.Qax P f.type) cs f.offset) k) none) none
def isStr(t:Option TypeDesc):Bool:=match t with
 | some .string=>true
 | _=>false
def QdN(t:TypeId)(x i:Operand):Do:=fun P _ _ _ o st k =>
 bif isStr (P.underlying t)then QcL (opd x st) (fun s=>QbI (opd i st) (fun _ n=>Qbs n (fun m=>bif Nat.blt m s.n then ok o.dst st (.int .u8 (.ofNat (s.get m))) k else none) none) none) none else none
def qBx(t:Option TypeDesc):Option IntKind:=match t with
 | some (.int k)=>some k
 | _=>none
def Qei(t:Option TypeDesc):Bool:=match t with
 | some (.slice _)=>true
 | _=>false
def callee(c:Call):Nat × Nat:=match c.callee,c.args.toList with
 | .value (.func f),_=>(1,f)
 | .builtin .len,[_]=>(2,0)
 | _,_=>(0,0)
def done(st:St):R:=some (.normal,st)
end
end Go.AM.G
end
