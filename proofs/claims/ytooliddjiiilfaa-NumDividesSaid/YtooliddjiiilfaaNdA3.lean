/- Part 3 of the proof: what it says stands at its theorems. -/
import Derived.Test.YtooliddjiiilfaaNdA2
import Derived.KernelRfl
set_option linter.unusedVariables false
set_option linter.unusedSimpArgs false
set_option linter.unusedSectionVars false
section
namespace Go.AM.S
open Go Go.AM
open _root_.Go.AM.G (R)
def Ev (p:Nat→Prop):Prop:=∃ N,∀ n,N≤n→p n
theorem Ev.of {p:Nat→Prop} (h:∀ n,p n):Ev p:=⟨0,fun n _=>h n⟩
theorem Ev.mono {p q:Nat→Prop} (h:Ev p) (hq:∀ n,p n→q n):Ev q:=⟨h.choose,fun n hn=>hq n (h.choose_spec n hn)⟩
theorem Ev.and {p q:Nat→Prop} (h:Ev p) (k:Ev q):Ev fun n=>p n∧q n :=
 ⟨max h.choose k.choose,fun n hn=>⟨h.choose_spec n (Nat.le_trans (Nat.le_max_left _ _) hn),k.choose_spec n (Nat.le_trans (Nat.le_max_right _ _) hn)⟩⟩
theorem Ev.next {p:Nat→Prop} (h:Ev p):Ev fun n=>∃ m,n=m+1∧p m :=
 ⟨h.choose+1,fun n hn=>⟨n - 1,by omega,h.choose_spec _ (by omega)⟩⟩
def out1 (e:Ex) (tm:Tm) (loc:Lo) (hp:Hp) (k:K):R:=match e with
 | .normal=>k tm loc hp
 | e=>some (e,⟨tm,loc,hp⟩)
section
variable {P:Program} {kn:Kn} {tbl:Nat→Option Fc}
variable (P kn tbl) in
def Ends (c:RC) (s:St) (e:Ex) (s':St):Prop:=Ev fun n=>∀ k,run (fn P kn tbl n) n c s.tm s.loc s.hp k=out1 e s'.tm s'.loc s'.hp k
variable (P kn tbl) in
def W (c:RC) (s:St) (Q:Ex→St→Prop):Prop:=∃ e s',Ends P kn tbl c s e s'∧Q e s'
variable (P kn tbl) in
def Runs (f:FuncId) (args:List V) (h:Hp) (o:Out):Prop:=Ev fun n=>fn P kn tbl n f args h=some o
theorem W.mono {c:RC} {s:St} {Q Q':Ex→St→Prop} (h:W P kn tbl c s Q) (hq:∀ e s',Q e s'→Q' e s'):W P kn tbl c s Q' :=
 let ⟨e,s',h1,h2⟩:=h
 ⟨e,s',h1,hq e s' h2⟩
theorem w_skip {s:St} {Q:Ex→St→Prop} (h:Q .normal s):W P kn tbl .skip s Q:=⟨.normal,s,.of fun n k=>rfl,h⟩
theorem w_ret {s:St} {Q:Ex→St→Prop} (h:Q .ret s):W P kn tbl .ret s Q:=⟨.ret,s,.of fun n k=>rfl,h⟩
theorem w_exit {i:Nat} {s:St} {Q:Ex→St→Prop} (h:Q (.exit i) s):W P kn tbl (.exit i) s Q:=⟨.exit i,s,.of fun n k=>rfl,h⟩
theorem w_seq {a b:RC} {s:St} {Q:Ex→St→Prop} (h:W P kn tbl a s (fun e s1=>match e with | .normal=>W P kn tbl b s1 Q | e=>Q e s1)):W P kn tbl (.seq a b) s Q:=by
 obtain ⟨e,s1,h1,h2⟩:=h
 have plain:∀ e,e≠.normal→Ends P kn tbl a s e s1→Q e s1→W P kn tbl (.seq a b) s Q:=by
  intro e hne h1 h2
  refine ⟨e,s1,h1.mono fun n h k=>?_,h2⟩
  show run _ n a s.tm s.loc s.hp (fun tm loc hp=>run _ n b tm loc hp k)=_
  rw [h]
  cases e<;>first | rfl | exact absurd rfl hne
 cases e with
 | normal =>
  obtain ⟨e2,s2,h3,h4⟩:=h2
  refine ⟨e2,s2,(h1.and h3).mono fun n ⟨h,h'⟩ k=>?_,h4⟩
  show run _ n a s.tm s.loc s.hp (fun tm loc hp=>run _ n b tm loc hp k)=_
  rw [h]
  exact h' k
 | exit i=>exact plain (.exit i) (by simp) h1 h2
 | ret=>exact plain .ret (by simp) h1 h2
 | panic v=>exact plain (.panic v) (by simp) h1 h2
theorem w_cond {x:Operand} {a b:RC} {s:St} {Q:Ex→St→Prop} {q:Bool} (hx:lk [] s.tm x=.bool q) (ht:q=true→W P kn tbl a s Q) (hf:q=false→W P kn tbl b s Q):W P kn tbl (.cond x a b) s Q:=by
 cases q with
 | true =>
  obtain ⟨e,s',h1,h2⟩:=ht rfl
  refine ⟨e,s',h1.mono fun n h k=>?_,h2⟩
  show G.onBool (lk [] s.tm x) (fun q=>Bool.rec (motive:=fun _=>R) (run _ n b s.tm s.loc s.hp k) (run _ n a s.tm s.loc s.hp k) q) none=_
  rw [hx];exact h k
 | false =>
  obtain ⟨e,s',h1,h2⟩:=hf rfl
  refine ⟨e,s',h1.mono fun n h k=>?_,h2⟩
  show G.onBool (lk [] s.tm x) (fun q=>Bool.rec (motive:=fun _=>R) (run _ n b s.tm s.loc s.hp k) (run _ n a s.tm s.loc s.hp k) q) none=_
  rw [hx];exact h k
theorem w_block {id:Nat} {b:RC} {s:St} {Q:Ex→St→Prop} (h:W P kn tbl b s (fun e s1=>match e with | .exit i=>if i=id then Q .normal s1 else Q (.exit i) s1 | e=>Q e s1)):W P kn tbl (.block id b) s Q:=by
 obtain ⟨e,s1,h1,h2⟩:=h
 have key:∀ n k,run (fn P kn tbl n) n (.block id b) s.tm s.loc s.hp k=G.onSome (run (fn P kn tbl n) n b s.tm s.loc s.hp done) (fun p=>Ex.rec (motive:=fun _=>Nat→K→St→R) (fun _ k st=>k st.tm st.loc st.hp)
   (fun i id k st=>bif Nat.beq i id then k st.tm st.loc st.hp else some (.exit i,st)) (fun _ _ st=>some (.ret,st)) (fun v _ _ st=>some (.panic v,st)) p.1 id k p.2) none:=fun n k=>rfl
 cases e with
 | normal=>exact ⟨.normal,s1,h1.mono fun n h k=>by rw [key,h];rfl,h2⟩
 | ret=>exact ⟨.ret,s1,h1.mono fun n h k=>by rw [key,h];rfl,h2⟩
 | panic v=>exact ⟨.panic v,s1,h1.mono fun n h k=>by rw [key,h];rfl,h2⟩
 | exit i =>
  by_cases e:i=id
  ·subst e
   simp only [if_true] at h2
   refine ⟨.normal,s1,h1.mono fun n h k=>?_,h2⟩
   rw [key,h]
   show (bif Nat.beq i i then k s1.tm s1.loc s1.hp else some (.exit i,s1))=_
   rw [Nat.beq_refl];rfl
  ·simp only [e,if_false] at h2
   refine ⟨.exit i,s1,h1.mono fun n h k=>?_,h2⟩
   rw [key,h]
   show (bif Nat.beq i id then k s1.tm s1.loc s1.hp else some (.exit i,s1))=_
   have:Nat.beq i id=false:=by
    cases hb:Nat.beq i id with
    | false=>rfl
    | true=>exact absurd (Nat.eq_of_beq_eq_true hb) e
   rw [this];rfl
theorem w_loop {b:RC} {Q:Ex→St→Prop} (I:Nat→St→Prop) (hb:∀ m s,I m s→W P kn tbl b s (fun e s'=>match e with | .normal=>∃ m',m'<m∧I m' s' | e=>Q e s')) :
  ∀ (m:Nat) (s:St),I m s→W P kn tbl (.loop b) s Q:=by
 have key:∀ (m:Nat) (s:St),I m s→∃ e s',e≠.normal∧Q e s'∧∃ N c,∀ n,N≤n→∀ j,c≤j →
   (Nat.rec (motive:=fun _=>K) (fun _ _ _=>none) (fun _ il tm loc hp=>run (fn P kn tbl n) n b tm loc hp il) j:K) s.tm s.loc s.hp=some (e,s'):=by
  intro m
  induction m using Nat.strongRecOn with
  | _ m ih =>
   intro s hs
   obtain ⟨e,s1,⟨N,h1⟩,h2⟩:=hb m s hs
   have plain:e≠.normal→Q e s1→∃ e s',e≠.normal∧Q e s'∧∃ N c,∀ n,N≤n→∀ j,c≤j →
     (Nat.rec (motive:=fun _=>K) (fun _ _ _=>none) (fun _ il tm loc hp=>run (fn P kn tbl n) n b tm loc hp il) j:K) s.tm s.loc s.hp=some (e,s'):=by
    intro hne hq
    refine ⟨e,s1,hne,hq,N,1,fun n hn j hj=>?_⟩
    obtain ⟨j,rfl⟩:∃ i,j=i+1:=⟨j - 1,by omega⟩
    show run (fn P kn tbl n) n b s.tm s.loc s.hp _=_
    rw [h1 n hn]
    cases e<;>first | rfl | exact absurd rfl hne
   cases e with
   | normal =>
    obtain ⟨m',hm,hi⟩:=h2
    obtain ⟨e2,s2,hne,hq,N2,c,h3⟩:=ih m' hm s1 hi
    refine ⟨e2,s2,hne,hq,max N N2,c+1,fun n hn j hj=>?_⟩
    obtain ⟨j,rfl⟩:∃ i,j=i+1:=⟨j - 1,by omega⟩
    show run (fn P kn tbl n) n b s.tm s.loc s.hp _=_
    rw [h1 n (by omega)]
    exact h3 n (by omega) j (by omega)
   | exit i=>exact plain (by simp) h2
   | ret=>exact plain (by simp) h2
   | panic v=>exact plain (by simp) h2
 intro m s hs
 obtain ⟨e,s',hne,hq,N,c,h⟩:=key m s hs
 refine ⟨e,s',⟨max N c,fun n hn k=>?_⟩,hq⟩
 show (Nat.rec (motive:=fun _=>K) (fun _ _ _=>none) (fun _ il tm loc hp=>run (fn P kn tbl n) n b tm loc hp il) n:K) s.tm s.loc s.hp=_
 rw [h n (by omega) n (by omega)]
 cases e<;>first | rfl | exact absurd rfl hne
theorem w_reg {f:CallF→Tm→Lo→Hp→K→R} {s:St} {Q:Ex→St→Prop} {tm':Tm} {loc':Lo} {hp':Hp} (N:Nat) (h:∀ n,N≤n→∀ k,f (fn P kn tbl n) s.tm s.loc s.hp k=k tm' loc' hp') (hq:Q .normal ⟨tm',loc',hp'⟩):W P kn tbl (.reg f) s Q :=
 ⟨.normal,⟨tm',loc',hp'⟩,⟨N,fun n hn k=>h n hn k⟩,hq⟩
theorem runs_of {f:FuncId} {fc:Fc} {args:List V} {h:Hp} {o:Out} (hk:kn f=none) (ht:tbl f=some fc)
  (hw:W P kn tbl fc.rc ⟨startTm args,.lf,{ h with dirty:=none }⟩ (fun e s=>match e with | .normal=>fin P h fc.res s=some o | .ret=>fin P h fc.res s=some o | .panic v=>o=.panic v (backHp h s.hp [v]) | .exit _=>False)):Runs P kn tbl f args h o:=by
 obtain ⟨e,s,h1,h2⟩:=hw
 refine h1.next.mono fun n ⟨m,hm,h1⟩=>?_
 subst hm
 show G.onSome (kn f) (fun k=>k (fn P kn tbl m) args h) (body P tbl (fn P kn tbl m) m f args h)=_
 rw [hk]
 show body P tbl (fn P kn tbl m) m f args h=_
 unfold body
 rw [ht]
 show G.onSome (run (fn P kn tbl m) m fc.rc (F.startTm args) .lf { h with dirty:=none } done) _ none=_
 have:=h1 done
 rw [F.e_startTm]
 have h3:run (fn P kn tbl m) m fc.rc (startTm args) .lf { h with dirty:=none } done=out1 e s.tm s.loc s.hp done:=this
 rw [h3]
 cases e with
 | normal=>exact (finS h fc.res s).trans h2
 | ret=>exact (finS h fc.res s).trans h2
 | panic v =>
  rw [h2]
  show some (Out.panic v (F.backHp h s.hp [v]))=_
  rw [F.e_backHp]
 | exit i=>exact h2.elim
theorem Runs.at {f:FuncId} {args:List V} {h:Hp} {o:Out} (hr:Runs P kn tbl f args h o):∃ n,fn P kn tbl n f args h=some o:=⟨hr.choose,hr.choose_spec _ (Nat.le_refl _)⟩
theorem bO_some (v:V) (f:V→R):bO (some v) f=f v:=rfl
theorem gt_pt (tm:Tm) (j i:Nat) (v:V):gt (pt tm j v) i=if j=i then v else gt tm i:=by rw [gt_eq,pt_eq,gt_eq,aget_aset]
theorem gt_start (args:List V) (i:Nat):gt (startTm args) i=args.getD i .dead:=by
 have key:∀ (l:List V) (k i:Nat) (t:Tr V),aget V.dead (startFrom k l t) i=if k≤i∧i<k+l.length then l.getD (i - k) .dead else aget V.dead t i:=by
  intro l
  induction l with
  | nil=>intro k i t;rw [if_neg (by simp only [List.length_nil];omega)];rfl
  | cons v l ih =>
   intro k i t
   simp only [startFrom]
   rw [ih (k+1) i (aset t k v),aget_aset]
   by_cases h1:k+1≤i∧i<k+1+l.length
   ·rw [if_pos h1,if_pos (by simp;omega)]
    rw [show i - k=(i - (k+1))+1 by omega,List.getD_cons_succ]
   ·rw [if_neg h1]
    by_cases h2:k=i
    ·subst h2;rw [if_pos rfl,if_pos (by simp)];simp
    ·rw [if_neg h2,if_neg (by simp;omega)]
 rw [gt_eq]
 unfold startTm
 rw [key args 0 i .lf,aget_lf]
 by_cases h:0≤i∧i<0+args.length
 ·rw [if_pos h];simp
 ·rw [if_neg h,List.getD_eq_getElem?_getD,List.getElem?_eq_none (by omega)];rfl
theorem cl_val {call:CallF} {f:FuncId} {args:List V} {tm:Tm} {loc:Lo} {hp:Hp} {j:V→Lo→Hp→R} {l:List V} {st:St} {v:V} {h:Hp} (he:exps false ⟨.lf,loc,hp⟩ args=some (l,st)) (hc:call f l st.hp=some (.val v h)) :
  cl call f args tm loc hp j=j v st.loc h:=by
 unfold cl
 rw [F.e_exps,he]
 show backO (call f l st.hp) st.loc tm _=_
 rw [hc];rfl
end
end Go.AM.S
end
section
namespace Go.AM.S
open Go Go.AM
set_option linter.defProp false
open _root_.Go.AM.G (R)
section
variable {P:Program} {kn:Kn} {tbl:Nat→Option Fc}
variable (P kn tbl) in
def WW (c:RC) (s:St) (N:St→Prop) (X:Nat→St→Prop) (Q:St→Prop):Prop :=
 W P kn tbl c s (fun e s'=>match e with | .normal=>N s' | .exit i=>X i s' | .ret=>Q s' | .panic _=>False)
variable {N:St→Prop} {X:Nat→St→Prop} {Q:St→Prop} {s:St}
theorem ww_mono {c:RC} {N':St→Prop} {X':Nat→St→Prop} {Q':St→Prop} (h:WW P kn tbl c s N X Q) (h1:∀ s,N s→N' s) (h2:∀ i s,X i s→X' i s) (h3:∀ s,Q s→Q' s):WW P kn tbl c s N' X' Q':=by
 refine W.mono h (fun e s' hq=>?_)
 cases e with
 | normal=>exact h1 _ hq
 | exit i=>exact h2 _ _ hq
 | ret=>exact h3 _ hq
 | panic v=>exact hq
theorem ww_skip (h:N s):WW P kn tbl .skip s N X Q:=w_skip h
theorem ww_ret (h:Q s):WW P kn tbl .ret s N X Q:=w_ret h
theorem ww_exit {i:Nat} (h:X i s):WW P kn tbl (.exit i) s N X Q:=w_exit h
theorem ww_seq {a b:RC} (h:WW P kn tbl a s (fun s1=>WW P kn tbl b s1 N X Q) X Q):WW P kn tbl (.seq a b) s N X Q:=by
 refine w_seq (W.mono h (fun e s' hq=>?_))
 cases e with
 | normal=>exact hq
 | exit i=>exact hq
 | ret=>exact hq
 | panic v=>exact hq
theorem ww_block {id:Nat} {b:RC} (h:WW P kn tbl b s N (fun i s=>if i=id then N s else X i s) Q):WW P kn tbl (.block id b) s N X Q:=by
 refine w_block (W.mono h (fun e s' hq=>?_))
 cases e with
 | normal=>exact hq
 | exit i =>
  show if i=id then N s' else X i s'
  exact hq
 | ret=>exact hq
 | panic v=>exact hq
theorem ww_loop {b:RC} (I:Nat→St→Prop) (hb:∀ m s,I m s→WW P kn tbl b s (fun s'=>∃ m',m'<m∧I m' s') X Q) (m:Nat) (h:I m s):WW P kn tbl (.loop b) s N X Q:=by
 refine w_loop I (fun m s hi=>W.mono (hb m s hi) (fun e s' hq=>?_)) m s h
 cases e with
 | normal=>exact hq
 | exit i=>exact hq
 | ret=>exact hq
 | panic v=>exact hq
theorem ww_true {t:Nat} {a b:RC} (hx:gt s.tm t=.bool true) (h:WW P kn tbl a s N X Q):WW P kn tbl (.cond (.tmp t) a b) s N X Q :=
 w_cond (q:=true) hx (fun _=>h) (fun e=>by cases e)
theorem ww_false {t:Nat} {a b:RC} (hx:gt s.tm t=.bool false) (h:WW P kn tbl b s N X Q):WW P kn tbl (.cond (.tmp t) a b) s N X Q :=
 w_cond (q:=false) hx (fun e=>by cases e) (fun _=>h)
theorem ww_reg {f:CallF→Tm→Lo→Hp→K→R} {tm':Tm} {loc':Lo} {hp':Hp} (h:∀ n k,f (fn P kn tbl n) s.tm s.loc s.hp k=k tm' loc' hp') (hq:N ⟨tm',loc',hp'⟩):WW P kn tbl (.reg f) s N X Q :=
 w_reg 0 (fun n _ k=>h n k) hq
theorem ww_call {p:Nat→Prop} (hp:Ev p) {f:CallF→Tm→Lo→Hp→K→R} {tm':Tm} {loc':Lo} {hp':Hp} (h:∀ n,p n→∀ k,f (fn P kn tbl n) s.tm s.loc s.hp k=k tm' loc' hp') (hq:N ⟨tm',loc',hp'⟩):WW P kn tbl (.reg f) s N X Q :=
 w_reg hp.choose (fun n hn k=>h n (hp.choose_spec n hn) k) hq
theorem runs_ex {f:FuncId} {fc:Fc} {args:List V} {h:Hp} {Post:Out→Prop} (hk:kn f=none) (ht:tbl f=some fc)
  (hw:WW P kn tbl fc.rc ⟨startTm args,.lf,{ h with dirty:=none }⟩ (fun s=>∃ o,fin P h fc.res s=some o∧Post o) (fun _ _=>False) (fun s=>∃ o,fin P h fc.res s=some o∧Post o)):∃ o,Runs P kn tbl f args h o∧Post o:=by
 obtain ⟨e,s,h1,h2⟩:=hw
 cases e with
 | normal=>obtain ⟨o,h3,h4⟩:=h2;exact ⟨o,runs_of hk ht ⟨.normal,s,h1,h3⟩,h4⟩
 | ret=>obtain ⟨o,h3,h4⟩:=h2;exact ⟨o,runs_of hk ht ⟨.ret,s,h1,h3⟩,h4⟩
 | exit i=>exact h2.elim
 | panic v=>exact h2.elim
end
noncomputable def lg (loc:Lo) (d:Nat):Nat × Row:=F.getR (0,.gone) (path d) loc
noncomputable def lp (loc:Lo) (d:Nat) (x:Nat × Row):Lo:=F.putR x (path d) loc
theorem lg_lp (loc:Lo) (j i:Nat) (x:Nat × Row):lg (lp loc j x) i=if j=i then x else lg loc i:=by
 have:=aget_aset (0,Row.gone) loc j i x
 unfold lg lp
 rw [F.getR_eq,F.putR_eq,F.getR_eq]
 exact this
theorem lg_lf (i:Nat):lg .lf i=(0,.gone):=by
 unfold lg
 rw [F.getR_eq]
 exact aget_lf _ _
theorem lg_unfold (loc:Lo) (d:Nat):F.getR (0,.gone) (path d) loc=lg loc d:=rfl
theorem lp_unfold (loc:Lo) (d:Nat) (x:Nat × Row):F.putR x (path d) loc=lp loc d x:=rfl
def nl (k:IntKind) (d:List Nat):List V:=d.map fun x=>.int k (.ofNat x)
theorem wrap_i64 {n:Nat} (h:n<9223372036854775808):F.wrapI .i64 (.ofNat n)=.ofNat n:=by
 show (bif Nat.blt n 9223372036854775808 then Int.ofNat n else _)=_
 rw [show Nat.blt n 9223372036854775808=true from by rw [Nat.blt_eq];exact h];rfl
theorem wrap_u64 {n:Nat} (h:n<18446744073709551616):F.wrapI .u64 (.ofNat n)=.ofNat n:=by
 show (bif Nat.blt n 18446744073709551616 then Int.ofNat n else _)=_
 rw [show Nat.blt n 18446744073709551616=true from by rw [Nat.blt_eq];exact h];rfl
theorem wrap_u32 {n:Nat} (h:n<4294967296):F.wrapI .u32 (.ofNat n)=.ofNat n:=by
 show (bif Nat.blt n 4294967296 then Int.ofNat n else _)=_
 rw [show Nat.blt n 4294967296=true from by rw [Nat.blt_eq];exact h];rfl
theorem wrap_i32 {n:Nat} (h:n<2147483648):F.wrapI .i32 (.ofNat n)=.ofNat n:=by
 show (bif Nat.blt n 2147483648 then Int.ofNat n else _)=_
 rw [show Nat.blt n 2147483648=true from by rw [Nat.blt_eq];exact h];rfl
theorem wrap_u8 {n:Nat} (h:n<256):F.wrapI .u8 (.ofNat n)=.ofNat n:=by
 show (bif Nat.blt n 256 then Int.ofNat n else _)=_
 rw [show Nat.blt n 256=true from by rw [Nat.blt_eq];exact h];rfl
theorem wrap_u32_mod (n:Nat):F.wrapI .u32 (.ofNat n)=.ofNat (n % 4294967296):=by
 rw [F.wrapI_eq]
 unfold IntKind.wrap
 rfl
variable {P:Program}
theorem bin_n (op:BinOp) (t:TypeId) (cn:Bool) (k:IntKind) (a b:Int):bin P op t cn (.int k a) (.int k b)=G.int2 op k a b:=by
 show (bif Nat.beq (G.ikNum k) (G.ikNum k) then G.int2 op k a b else _)=_
 rw [Nat.beq_refl];rfl
theorem i_add (k:IntKind) (a b:Nat):G.int2 .add k (.ofNat a) (.ofNat b)=some (.int k (F.wrapI k (.ofNat (a+b)))):=rfl
theorem i_mul (k:IntKind) (a b:Nat):G.int2 .mul k (.ofNat a) (.ofNat b)=some (.int k (F.wrapI k (.ofNat (a*b)))):=rfl
theorem i_sub {k:IntKind} {a b:Nat} (h:b≤a):G.int2 .sub k (.ofNat a) (.ofNat b)=some (.int k (F.wrapI k (.ofNat (a - b)))):=by
 show some (V.int k (F.wrapI k (Int.sub (.ofNat a) (.ofNat b))))=_
 have:Int.sub (.ofNat a) (.ofNat b)=.ofNat (a - b):=(Int.ofNat_sub h).symm
 rw [this]
theorem i_lss (k:IntKind) (a b:Nat):G.int2 .lss k (.ofNat a) (.ofNat b)=some (.bool (decide (a<b))):=by
 show some (V.bool (F.ltI (.ofNat a) (.ofNat b)))=_
 rw [F.ltI_eq];congr 2;simp
theorem i_gtr (k:IntKind) (a b:Nat):G.int2 .gtr k (.ofNat a) (.ofNat b)=some (.bool (decide (b<a))):=by
 show some (V.bool (F.ltI (.ofNat b) (.ofNat a)))=_
 rw [F.ltI_eq];congr 2;simp
theorem i_leq (k:IntKind) (a b:Nat):G.int2 .leq k (.ofNat a) (.ofNat b)=some (.bool (decide (a≤b))):=by
 show some (V.bool (!F.ltI (.ofNat b) (.ofNat a)))=_
 rw [F.ltI_eq];congr 2;rw [Bool.eq_iff_iff];simp
theorem i_geq (k:IntKind) (a b:Nat):G.int2 .geq k (.ofNat a) (.ofNat b)=some (.bool (decide (b≤a))):=by
 show some (V.bool (!F.ltI (.ofNat a) (.ofNat b)))=_
 rw [F.ltI_eq];congr 2;rw [Bool.eq_iff_iff];simp
theorem i_eql (k:IntKind) (a b:Nat):G.int2 .eql k (.ofNat a) (.ofNat b)=some (.bool (decide (a=b))):=by
 show some (V.bool (F.eqI (.ofNat a) (.ofNat b)))=_
 rw [F.eqI_eq];congr 2;rw [Bool.eq_iff_iff];simp [Int.natCast_inj]
theorem i_neq (k:IntKind) (a b:Nat):G.int2 .neq k (.ofNat a) (.ofNat b)=some (.bool (decide (a≠b))):=by
 show some (V.bool (!F.eqI (.ofNat a) (.ofNat b)))=_
 rw [F.eqI_eq];congr 2;rw [Bool.eq_iff_iff];simp [Int.natCast_inj]
theorem d_true {p:Prop} [Decidable p] (h:p):decide p=true:=decide_eq_true h
theorem d_false {p:Prop} [Decidable p] (h:¬p):decide p=false:=decide_eq_false h
theorem i_quo {k:IntKind} {a b:Nat} (h:b≠0):G.int2 .quo k (.ofNat a) (.ofNat b)=some (.int k (F.wrapI k (.ofNat (a / b)))):=by
 show (if (Int.ofNat b)=0 then none else some (V.int k (k.wrap ((Int.ofNat a).tdiv (Int.ofNat b)))))=_
 rw [if_neg (by intro e;exact h (by simpa using e)),F.wrapI_eq]
 rfl
theorem i_rem {k:IntKind} {a b:Nat} (h:b≠0):G.int2 .rem k (.ofNat a) (.ofNat b)=some (.int k (.ofNat (a % b))):=by
 show (if (Int.ofNat b)=0 then none else some (V.int k ((Int.ofNat a).tmod (Int.ofNat b))))=_
 rw [if_neg (by intro e;exact h (by simpa using e))]
 rfl
theorem i_shr {k:IntKind} {a b:Nat} (h:b≤k.bits):G.int2 .shr k (.ofNat a) (.ofNat b)=some (.int k (.ofNat (a / 2 ^ b))):=by
 show (if (Int.ofNat b)<0 then none else some (V.int k ((Int.ofNat a).fdiv (2 ^ (min (Int.ofNat b).toNat k.bits)))))=_
 rw [if_neg (by simp)]
 have e:min (Int.ofNat b).toNat k.bits=b:=Nat.min_eq_left h
 rw [e]
 have e2:(2 ^ b:Int)=Int.ofNat (2 ^ b):=by simp
 rw [e2]
 have e3:(Int.ofNat a).fdiv (Int.ofNat (2 ^ b))=Int.ofNat (a / 2 ^ b):=by
  rw [Int.fdiv_eq_ediv_of_nonneg (Int.ofNat a) (show 0≤Int.ofNat (2 ^ b) from Int.natCast_nonneg _)];rfl
 rw [e3]
theorem i_shl {k:IntKind} {a b:Nat} (h:b≤k.bits):G.int2 .shl k (.ofNat a) (.ofNat b)=some (.int k (F.wrapI k (.ofNat (a*2 ^ b)))):=by
 show (if (Int.ofNat b)<0 then none else some (V.int k (k.wrap ((Int.ofNat a)*(2 ^ (min (Int.ofNat b).toNat k.bits))))))=_
 rw [if_neg (by simp)]
 have e:min (Int.ofNat b).toNat k.bits=b:=Nat.min_eq_left h
 rw [e,F.wrapI_eq]
 congr 3
theorem i_or64 {a b:Nat} (ha:a<18446744073709551616) (hb:b<18446744073709551616):G.int2 .or .u64 (.ofNat a) (.ofNat b)=some (.int .u64 (.ofNat (a ||| b))):=by
 show some (V.int .u64 (IntKind.u64.wrap (BitVec.ofInt 64 (Int.ofNat a) ||| BitVec.ofInt 64 (Int.ofNat b)).toNat))=_
 have e:(BitVec.ofInt 64 (Int.ofNat a) ||| BitVec.ofInt 64 (Int.ofNat b)).toNat=a ||| b:=by
  rw [BitVec.toNat_or]
  show (BitVec.ofInt 64 (a:Int)).toNat ||| (BitVec.ofInt 64 (b:Int)).toNat=_
  rw [BitVec.toNat_ofInt,BitVec.toNat_ofInt]
  congr 1<;>omega
 rw [e,←F.wrapI_eq]
 congr 2
 exact wrap_u64 (Nat.or_lt_two_pow (n:=64) ha hb)
theorem i_or32 {a b:Nat} (ha:a<4294967296) (hb:b<4294967296):G.int2 .or .u32 (.ofNat a) (.ofNat b)=some (.int .u32 (.ofNat (a ||| b))):=by
 show some (V.int .u32 (IntKind.u32.wrap (BitVec.ofInt 32 (Int.ofNat a) ||| BitVec.ofInt 32 (Int.ofNat b)).toNat))=_
 have e:(BitVec.ofInt 32 (Int.ofNat a) ||| BitVec.ofInt 32 (Int.ofNat b)).toNat=a ||| b:=by
  rw [BitVec.toNat_or]
  show (BitVec.ofInt 32 (a:Int)).toNat ||| (BitVec.ofInt 32 (b:Int)).toNat=_
  rw [BitVec.toNat_ofInt,BitVec.toNat_ofInt]
  congr 1<;>omega
 rw [e,←F.wrapI_eq]
 congr 2
 exact wrap_u32 (Nat.or_lt_two_pow (n:=32) ha hb)
theorem i_shr64 {a b:Nat} (h:b≤64):G.int2 .shr .u64 (.ofNat a) (.ofNat b)=some (.int .u64 (.ofNat (a / 2 ^ b))):=i_shr h
theorem i_shr32 {a b:Nat} (h:b≤32):G.int2 .shr .u32 (.ofNat a) (.ofNat b)=some (.int .u32 (.ofNat (a / 2 ^ b))):=i_shr h
theorem i_shl64 {a b:Nat} (h:b≤64):G.int2 .shl .u64 (.ofNat a) (.ofNat b)=some (.int .u64 (F.wrapI .u64 (.ofNat (a*2 ^ b)))):=i_shl h
theorem jn_eq {α β:Type} (c:α) (f:α→β):jn c f=f c:=rfl
theorem brB_true (x y:R):brB (some true) x y=y:=rfl
theorem brB_false (x y:R):brB (some false) x y=x:=rfl
theorem pick_true (a b:V):pick (.bool true) a b=some a:=rfl
theorem pick_false (a b:V):pick (.bool false) a b=some b:=rfl
theorem un_not (b:Bool):G.un .not (.bool b)=some (.bool !b):=rfl
theorem ext_tuple (l:List V) (i:Nat):ext (.tuple l) i=F.nthR l i:=rfl
theorem nth_zero {α:Type} (x:α) (l:List α):F.nthR (x::l) 0=some x:=rfl
theorem nth_succ {α:Type} (x:α) (l:List α) (n:Nat):F.nthR (x::l) (n+1)=F.nthR l n:=rfl
theorem len_slice (e:TypeId) (tok:Option Ref) (f:Bool) (sz:Nat) (l:List V):len (some (.slice e)) (.slice tok f sz l)=some (.int .i64 (.ofNat l.length)):=by
 show some (V.int .i64 (.ofNat (F.lenR l)))=_
 rw [F.lenR_eq]
theorem len_arr (e:TypeId) (r:Ref) (o n:Nat) (li:Option Nat) (sz:Nat) (ag:Bool):len (some (.slice e)) (.arr r o n li sz ag)=some (.int .i64 (.ofNat n)):=rfl
theorem len_nils (e:TypeId):len (some (.slice e)) .nils=some (.int .i64 (.ofNat 0)):=rfl
theorem len_str (s:Str):len (some .string) (.str s)=some (.int .i64 (.ofNat s.n)):=rfl
theorem nl_length (k:IntKind) (d:List Nat):(nl k d).length=d.length:=by simp [nl]
theorem nl_nth (k:IntKind) (d:List Nat) (i:Nat) (h:i<d.length):F.nthR (nl k d) i=some (.int k (.ofNat (d.getD i 0))):=by
 rw [F.nthR_eq]
 simp [nl,List.getElem?_eq_getElem h,List.getD_eq_getElem?_getD]
theorem ia_slice {t e:TypeId} {ag:Bool} (he:F.elemT P t=some e) (hl:F.layE P e=some (1,ag)) (tok:Option Ref) (f:Bool) (k k':IntKind) (d:List Nat) (i:Nat) (h:i<d.length) :
  ia P t (.slice tok f 1 (nl k d)) (.int k' (.ofNat i))=some (.iptr [.int k (.ofNat (d.getD i 0))]):=by
 show G.onSome (F.elemT P t) _ none=_
 rw [he]
 show G.onSome (F.layE P e) _ none=_
 rw [hl]
 show (bif Nat.blt i (F.lenR (nl k d)) then G.onSome (F.nthR (nl k d) i) _ none else none)=_
 rw [F.lenR_eq,nl_length,show Nat.blt i d.length=true from by rw [Nat.blt_eq];exact h,nl_nth k d i h]
 rfl
theorem ia_arr {t e:TypeId} {ag:Bool} (he:F.elemT P t=some e) (hl:F.layE P e=some (1,ag)) (r:Ref) (o n:Nat) (li:Option Nat) (ag':Bool) (k':IntKind) (i:Nat) (h:i<n) :
  ia P t (.arr r o n li 1 ag') (.int k' (.ofNat i))=some (.ptr r (o+i)):=by
 show G.onSome (F.elemT P t) _ none=_
 rw [he]
 show G.onSome (F.layE P e) _ none=_
 rw [hl]
 show (bif Nat.blt i n then some (V.ptr r (Nat.add o (Nat.mul i 1))) else none)=_
 rw [show Nat.blt i n=true from by rw [Nat.blt_eq];exact h]
 show some (V.ptr r (o+i*1))=_
 rw [Nat.mul_one]
theorem ld_iptr {t:TypeId} (hl:F.layE P t=some (1,false)) (v:V) (cs:List V) (l:Lo) (h:Hp):ld P t (.iptr (v::cs)) l h=some v:=by
 show G.part (F.layE P t) (v::cs) 0=_
 rw [hl];rfl
noncomputable def ldc (P:Program) (t:TypeId) (g o:Nat) (row:Nat × Row):Option V:=G.onCells row.2 (fun _ cs=>bif Nat.beq g row.1 then G.part (F.layE P t) cs o else none) none
theorem ld_loc (t:TypeId) (s g o:Nat) (l:Lo) (h:Hp):ld P t (.ptr (.loc s g) o) l h=ldc P t g o (lg l s):=rfl
theorem ldc_cells {t:TypeId} (hl:F.layE P t=some (1,false)) (g o:Nat) (frz:Bool) (cs:List V):ldc P t g o (g,.cells frz cs)=F.nthR cs o:=by
 show (bif Nat.beq g g then G.part (F.layE P t) cs o else none)=_
 rw [Nat.beq_refl,hl];rfl
noncomputable def ldg (P:Program) (t:TypeId) (o:Nat) (row:Option Row):Option V:=G.onSome row (fun row=>G.onCells row (fun _ cs=>G.part (F.layE P t) cs o) none) none
theorem ld_glob (t:TypeId) (r o:Nat) (l:Lo) (h:Hp):ld P t (.ptr (.glob r) o) l h=ldg P t o (F.nthR h.rows r):=rfl
theorem ldg_cells {t:TypeId} (hl:F.layE P t=some (1,false)) (o:Nat) (frz:Bool) (cs:List V):ldg P t o (some (.cells frz cs))=F.nthR cs o:=by
 show G.part (F.layE P t) cs o=_
 rw [hl];rfl
theorem setAt_nl (k:IntKind) (d:List Nat) (i x:Nat) (h:i<d.length):setAt (nl k d) i [.int k (.ofNat x)]=some (nl k (d.set i x)):=by
 unfold setAt
 simp only [List.length_cons,List.length_nil,nl_length]
 rw [show Nat.ble (i+(0+1)) d.length=true from by rw [Nat.ble_eq];omega]
 simp only [cond_true,nl,Option.some.injEq,←List.map_take,←List.map_drop]
 rw [List.set_eq_take_append_cons_drop,if_pos h]
 simp
variable {C:Cfg} {call:CallF} {gl:Nat→Bool} {o:Oper} {t' tm:Tm} {loc:Lo} {hp:Hp} {j:V→Lo→Hp→R}
theorem gen_val {d:Nat} {v:V} {st:St} (hd:o.dst=some d) (h:stepV P C gl ⟨t',loc,hp⟩ o=some (.val v st)):gen P C call gl o t' tm loc hp j=j v st.loc st.hp:=by
 unfold gen
 rw [F.e_oneV]
 unfold oneV
 rw [h]
 simp only [putV,hd]
 show j (gt (aset st.tm d v) d) st.loc st.hp=_
 rw [gt_eq,aget_aset,if_pos rfl]
theorem gen_none {v:V} {st:St} (hd:o.dst=none) (h:stepV P C gl ⟨t',loc,hp⟩ o=some (.val v st)):gen P C call gl o t' tm loc hp j=j (.tuple []) st.loc st.hp:=by
 unfold gen
 rw [F.e_oneV]
 unfold oneV
 rw [h]
 simp only [putV,hd]
 rfl
theorem gen_stuck (h:stepV P C gl ⟨t',loc,hp⟩ o=none):gen P C call gl o t' tm loc hp j=none:=by
 unfold gen
 rw [F.e_oneV]
 unfold oneV
 rw [h];rfl
theorem rho_gt (s:St) (i:Nat):s.ρ i=gt s.tm i:=by rw [gt_eq];rfl
theorem opd_gt (s:St) (i:Nat):AM.opd s.ρ (.tmp i)=gt s.tm i:=rho_gt s i
theorem lc_lg (s:St) (i:Nat):s.lc i=lg s.loc i:=by unfold lg;rw [F.getR_eq];rfl
theorem aset_lp (loc:Lo) (i:Nat) (x:Nat × Row):aset loc i x=lp loc i x:=by unfold lp;rw [F.putR_eq];rfl
noncomputable def cvt (k:IntKind) (v:V) (f:V→R):R:=G.onInt v (fun _ n=>f (.int k (F.wrapI k n))) none
theorem cvt_int (k k':IntKind) (n:Int) (f:V→R):cvt k (.int k' n) f=f (.int k (F.wrapI k n)):=rfl
theorem gen_convert {d x:Nat} {s t:TypeId} {ks kd:IntKind} (hd:o.dst=some d) (ho:o.op=.convert s t (.tmp x)) (h1:P.underlying s=some (.int ks)) (h2:P.underlying t=some (.int kd)) {k:IntKind} {n:Int} (hv:gt t' x=.int k n) :
  gen P C call gl o t' tm loc hp j=j (.int kd (F.wrapI kd n)) loc hp:=by
 refine gen_val (v:=.int kd (F.wrapI kd n)) (st:=⟨t',loc,hp⟩) hd ?_
 have hp1:locV P C gl (⟨t',loc,hp⟩:St).ρ (⟨t',loc,hp⟩:St).lc o=some (.int kd (F.wrapI kd n),none):=by
  unfold locV
  simp only [ho,pureV,opd_gt,hv,convV,h1,h2,F.wrapI_eq,Option.map_some]
 unfold stepV
 rw [hp1];rfl
theorem gen_box {d:Nat} {x:Operand} {t:TypeId} {v:V} (hd:o.dst=some d) (ho:o.op=.box t x) (ha:C.isArr t=false) (hg:gl d=false) (hv:AM.opd (⟨t',loc,hp⟩:St).ρ x=v) (hl:v.live=true) :
  gen P C call gl o t' tm loc hp j=j (.ptr (.loc d ((lg loc d).1+1)) 0) (lp loc d ((lg loc d).1+1,.cells false v.cells)) hp:=by
 refine gen_val (v:=.ptr (.loc d ((lg loc d).1+1)) 0) (st:=⟨t',lp loc d ((lg loc d).1+1,.cells false v.cells),hp⟩) hd ?_
 have hp1:locV P C gl (⟨t',loc,hp⟩:St).ρ (⟨t',loc,hp⟩:St).lc o=some (.ptr (.loc d ((lg loc d).1+1)) 0,some (d,(lg loc d).1+1,.cells false v.cells)):=by
  unfold locV
  simp only [ho,hd,ha,hg,hv,hl,lc_lg,cond_false,Bool.false_or,Bool.not_true]
 unfold stepV
 rw [hp1]
 simp only [applyL,aset_lp]
theorem al_eq {t:TypeId} {z:V} {n:Nat} (hz:F.zeroV P t=some z) (hn:F.szOf P t=some n) (hl:z.live=true) (hc:F.lenR z.cells=n) (d:Nat) (loc:Lo) (j:V→Lo→R) :
  al P t d loc j=j (.ptr (.loc d ((lg loc d).1+1)) 0) (lp loc d ((lg loc d).1+1,.cells false z.cells)):=by
 unfold al
 rw [hz,hn]
 show (bif z.live&&Nat.beq (F.lenR z.cells) n then _ else none)=_
 rw [hl,hc,Nat.beq_refl]
 rfl
theorem gen_one {d:Nat} {x:Operand} {t e:TypeId} {k:IntKind} {n:Int} (hd:o.dst=some d) (ho:o.op=.buildSlice t 1 #[(0,x)]) (ha:C.isArr t=true) (hg:gl d=false) (he:elemT P t=some e) (hl:layE P e=some (1,false))
  {k0:IntKind} {n0:Int} (hz:zeroV P e=some (.int k0 n0)) (hv:AM.opd (⟨t',loc,hp⟩:St).ρ x=.int k n) :
  gen P C call gl o t' tm loc hp j=j (.arr (.loc d ((lg loc d).1+1)) 0 1 (some 1) 1 false) (lp loc d ((lg loc d).1+1,.cells false [.int k n])) hp:=by
 refine gen_val (v:=.arr (.loc d ((lg loc d).1+1)) 0 1 (some 1) 1 false) (st:=⟨t',lp loc d ((lg loc d).1+1,.cells false [.int k n]),hp⟩) hd ?_
 have hp1:locV P C gl (⟨t',loc,hp⟩:St).ρ (⟨t',loc,hp⟩:St).lc o=none:=by
  unfold locV
  simp only [ho,pureV,he,hl,hz,ha,Bool.not_true,Bool.false_and,cond_false,Option.map_none]
 unfold stepV
 rw [hp1]
 unfold stepG
 simp only [ho,hd,he,hl,hz,opds,List.map_cons,List.map_nil,hv,exps,exp,exp1,V.live,V.noLoc,Bool.and_self,cond_true,ha,hg,addRow,cond_false,lc_lg,aset_lp]
 rfl
theorem gen_one1 {d:Nat} {x:Operand} {t e:TypeId} {k:IntKind} {n:Nat} (hd:o.dst=some d) (ho:o.op=.buildSlice t 1 #[(0,x)]) (ha:C.isArr t=true) (hg:gl d=false) (he:elemT P t=some e) (hl:layE P e=some (1,false))
  {k0:IntKind} {n0:Int} (hz:zeroV P e=some (.int k0 n0)) (hv:AM.opd (⟨t',loc,hp⟩:St).ρ x=.int k (.ofNat n)) :
  gen P C call gl o t' tm loc hp j=j (.arr (.loc d ((lg loc d).1+1)) 0 1 (some 1) 1 false) (lp loc d ((lg loc d).1+1,.cells false (nl k [n]))) hp:=gen_one hd ho ha hg he hl hz hv
theorem gen_make {d:Nat} {x:Nat} {t e:TypeId} {n b:Nat} {k1 k2:IntKind} (hd:o.dst=some d) (ho:o.op=.makeSlice t (.tmp x) (.tmp x)) (hg:gl d=false) (he:elemT P t=some e) (hl:layE P e=some (1,false)) (hb:(P.info? e).map (·.bytes)=some b)
  (hz:zeroV P e=some (.int k2 (.ofNat 0))) (hv:gt t' x=.int k1 (.ofNat n)) (hn:n*b≤70368744177664) (hn2:n≤70368744177664) :
  gen P C call gl o t' tm loc hp j=j (.arr (.loc d ((lg loc d).1+1)) 0 n (some n) 1 false) (lp loc d ((lg loc d).1+1,.cells false (nl k2 (List.replicate n 0)))) hp:=by
 have hf:flat (List.replicate n (V.int k2 (.ofNat 0)))=nl k2 (List.replicate n 0):=by
  unfold flat nl
  rw [List.map_replicate]
  clear hv hn hn2
  induction n with
  | zero=>rfl
  | succ n ih=>rw [List.replicate_succ,List.flatMap_cons,ih];rfl
 refine gen_val (v:=.arr (.loc d ((lg loc d).1+1)) 0 n (some n) 1 false) (st:=⟨t',lp loc d ((lg loc d).1+1,.cells false (nl k2 (List.replicate n 0))),hp⟩) hd ?_
 have hp1:locV P C gl (⟨t',loc,hp⟩:St).ρ (⟨t',loc,hp⟩:St).lc o=none:=by
  unfold locV
  simp only [ho,pureV,Option.map_none]
 unfold stepV
 rw [hp1]
 unfold stepG
 simp only [ho,hd,opd_gt,hv,makeV,he,hl,hb,hz]
 rw [show Nat.ble n n=true from by rw [Nat.ble_eq];exact Nat.le_refl n,show Nat.ble (n*b) maxBytes=true from by rw [Nat.ble_eq];exact hn,show Nat.ble n maxBytes=true from by rw [Nat.ble_eq];exact hn2]
 simp only [V.cells,List.length_cons,List.length_nil,V.live,Bool.and_self,hg,addRow,cond_false,cond_true,lc_lg,aset_lp,hf]
 rfl
def Ar (loc:Lo) (d:Nat) (v:V) (k:IntKind) (l:List Nat):Prop :=
 (l=[]∧v=.nils)∨(l≠[]∧∃ g,v=.arr (.loc d g) 0 l.length none 1 false∧lg loc d=(g,.cells false (nl k l)))
theorem flat_nl (k:IntKind) (l:List Nat):flat (nl k l)=nl k l:=by
 unfold flat nl
 induction l with
 | nil=>rfl
 | cons x l ih=>rw [List.map_cons,List.flatMap_cons,ih];rfl
theorem chunk_nl (k:IntKind) (l:List Nat):chunk 1 false l.length (nl k l)=nl k l:=by
 unfold nl
 induction l with
 | nil=>rfl
 | cons x l ih =>
  simp only [List.length_cons,List.map_cons,chunk,cond_false,List.headD_cons,List.drop_succ_cons,List.drop_zero,ih]
  rfl
theorem getRow_loc {s g:Nat} {row:Row} {st:St} (h:lg st.loc s=(g,row)):getRow st (.loc s g)=some row:=by
 show (bif Nat.beq (st.lc s).1 g then some (st.lc s).2 else none)=_
 rw [lc_lg,h]
 simp
theorem setRow_loc (st:St) (s g:Nat) (row:Row):setRow st (.loc s g) row=⟨st.tm,lp st.loc s (g,row),st.hp⟩:=by
 show (⟨st.tm,aset st.loc s (g,row),st.hp⟩:St)=_
 rw [aset_lp]
theorem nl_append (k:IntKind) (a b:List Nat):nl k (a++b)=nl k a++nl k b:=by simp [nl]
theorem noLocL_nl (k:IntKind) (l:List Nat):V.noLocL (nl k l)=true:=by
 unfold nl
 induction l with
 | nil=>rfl
 | cons x l ih=>simp only [List.map_cons,V.noLocL,V.noLoc,ih,Bool.and_self]
theorem noRefsL_nl (k:IntKind) (l:List Nat):V.noRefsL (nl k l)=true:=by
 unfold nl
 induction l with
 | nil=>rfl
 | cons x l ih=>simp only [List.map_cons,V.noRefsL,V.noRefs,ih,Bool.and_self]
theorem fits_nl (k:IntKind) (l:List Nat):(nl k l).all (fun v=>Nat.beq v.cells.length 1&&v.cells.all V.cellOk)=true:=by
 unfold nl
 induction l with
 | nil=>rfl
 | cons x l ih=>simp only [List.map_cons,List.all_cons,ih,Bool.and_true];rfl
theorem gen_convert' {d x:Nat} {s t:TypeId} {ks kd:IntKind} (hd:o.dst=some d) (ho:o.op=.convert s t (.tmp x)) (h1:P.underlying s=some (.int ks)) (h2:P.underlying t=some (.int kd)) :
  gen P C call gl o t' tm loc hp j=cvt kd (gt t' x) (fun v=>j v loc hp):=by
 have stuck:(∀ k n,gt t' x≠.int k n)→gen P C call gl o t' tm loc hp j=none:=by
  intro hn
  refine gen_stuck ?_
  have hp1:locV P C gl (⟨t',loc,hp⟩:St).ρ (⟨t',loc,hp⟩:St).lc o=none:=by
   unfold locV
   simp only [ho,pureV,opd_gt,convV,h1,h2]
   cases hv:gt t' x<;>first | rfl | exact absurd hv (hn _ _)
  unfold stepV
  rw [hp1]
  unfold stepG
  simp only [ho,hd,convS,h1,h2]
 cases hv:gt t' x with
 | int k n=>exact gen_convert hd ho h1 h2 hv
 | _=>rw [stuck (fun k n=>by rw [hv];simp)];rfl
noncomputable def bx (d:Nat) (v:V) (l:Lo) (f:V→Lo→R):R:=bif v.live then f (.ptr (.loc d ((lg l d).1+1)) 0) (lp l d ((lg l d).1+1,.cells false v.cells)) else none
theorem bx_live {v:V} (hv:v.live=true) (d:Nat) (l:Lo) (f:V→Lo→R):bx d v l f=f (.ptr (.loc d ((lg l d).1+1)) 0) (lp l d ((lg l d).1+1,.cells false v.cells)):=by unfold bx;rw [hv];rfl
theorem bx_agg (cs:List V) (d:Nat) (l:Lo) (f:V→Lo→R):bx d (.agg cs) l f=f (.ptr (.loc d ((lg l d).1+1)) 0) (lp l d ((lg l d).1+1,.cells false cs)):=rfl
theorem gen_box' {d x:Nat} {t:TypeId} (hd:o.dst=some d) (ho:o.op=.box t (.tmp x)) (ha:C.isArr t=false) (hg:gl d=false) :
  gen P C call gl o t' tm loc hp j=bx d (gt t' x) loc (fun v l=>j v l hp):=by
 cases hl:(gt t' x).live with
 | true =>
  rw [bx_live hl]
  exact gen_box hd ho ha hg (opd_gt _ _) hl
 | false =>
  unfold bx
  rw [hl]
  refine gen_stuck ?_
  have hp1:locV P C gl (⟨t',loc,hp⟩:St).ρ (⟨t',loc,hp⟩:St).lc o=none:=by
   unfold locV
   simp only [ho,hd,ha,hg,opd_gt,hl,cond_false,Bool.false_or,Bool.not_false,cond_true]
  unfold stepV
  rw [hp1]
  unfold stepG
  have hv:gt t' x=.dead:=by
   cases h:gt t' x<;>rw [h] at hl<;>first | rfl | simp [V.live] at hl
  simp only [ho,hd,opd_gt,hv,exp,exp1,V.live,Bool.false_and,cond_false]
noncomputable def one (d:Nat) (v:V) (l:Lo) (f:V→Lo→R):R:=G.onInt v (fun k n=>f (.arr (.loc d ((lg l d).1+1)) 0 1 (some 1) 1 false) (lp l d ((lg l d).1+1,.cells false [.int k n]))) none
theorem one_int (d:Nat) (k:IntKind) (n:Nat) (l:Lo) (f:V→Lo→R):one d (.int k (.ofNat n)) l f=f (.arr (.loc d ((lg l d).1+1)) 0 1 (some 1) 1 false) (lp l d ((lg l d).1+1,.cells false (nl k [n]))):=rfl
noncomputable def stc (P:Program) (t g off:Nat) (x:V) (row:Nat × Row) (f:Nat × Row→R):R :=
 G.onCells row.2 (fun frz cs=>Bool.rec (motive:=fun _=>R)
  (bif Nat.beq g row.1&&F.allR V.cellOk x.cells&&F.lenIs P t (F.lenR x.cells) then
   G.onSome (F.setAt cs off x.cells) (fun cs'=>f (g,.cells false cs')) none else none) none frz) none
theorem stL_stc (t:TypeId) (s g off:Nat) (x:V) (loc:Lo) (j:Lo→R):stL P t s g off x loc j=stc P t g off x (lg loc s) (fun row=>j (lp loc s row)):=rfl
theorem stc_nl {t:TypeId} (hl:F.lenIs P t 1=true) (off:Nat) (d:List Nat) (h:off<d.length) (g:Nat) (k':IntKind) (n:Nat) (f:Nat × Row→R) :
  stc P t g off (.int k' (.ofNat n)) (g,.cells false (nl k' d)) f=f (g,.cells false (nl k' (d.set off n))):=by
 show (bif Nat.beq g g&&true&&F.lenIs P t 1 then G.onSome (F.setAt (nl k' d) off [.int k' (.ofNat n)]) _ none else none)=_
 rw [Nat.beq_refl,hl,F.e_setAt,setAt_nl k' d off n h]
 rfl
theorem stc_two {t:TypeId} (hl:F.lenIs P t 2=true) (g:Nat) (a b x y:V) (f:Nat × Row→R) (ha:a.cellOk=true) (hb:b.cellOk=true) :
  stc P t g 0 (.agg [a,b]) (g,.cells false [x,y]) f=f (g,.cells false [a,b]):=by
 show (bif Nat.beq g g&&F.allR V.cellOk [a,b]&&F.lenIs P t 2 then G.onSome (F.setAt [x,y] 0 [a,b]) _ none else none)=_
 rw [Nat.beq_refl,show F.allR V.cellOk [a,b]=true from by rw [F.allR_eq];simp [ha,hb],hl,F.e_setAt]
 rfl
theorem ldc_two {t:TypeId} (hl:F.layE P t=some (2,true)) (g:Nat) (frz:Bool) (a b:V):ldc P t g 0 (g,.cells frz [a,b])=some (.agg [a,b]):=by
 show (bif Nat.beq g g then G.part (F.layE P t) [a,b] 0 else none)=_
 rw [Nat.beq_refl,hl];rfl
theorem ldc_fst {t:TypeId} (hl:F.layE P t=some (1,false)) (g:Nat) (frz:Bool) (a:V) (l:List V):ldc P t g 0 (g,.cells frz (a::l))=some a:=by
 rw [ldc_cells hl];rfl
theorem ldc_snd {t:TypeId} (hl:F.layE P t=some (1,false)) (g:Nat) (frz:Bool) (a b:V) (l:List V):ldc P t g 1 (g,.cells frz (a::b::l))=some b:=by
 rw [ldc_cells hl];rfl
theorem ldc_nl {t:TypeId} (hl:F.layE P t=some (1,false)) (g:Nat) (frz:Bool) (k:IntKind) (d:List Nat) (i:Nat) (h:i<d.length):ldc P t g i (g,.cells frz (nl k d))=some (.int k (.ofNat (d.getD i 0))):=by
 rw [ldc_cells hl,nl_nth k d i h]
theorem slc_init {t e:TypeId} {ag:Bool} (he:F.elemT P t=some e) (hl:F.layE P e=some (1,ag)) (tok:Option Ref) (f:Bool) (k k':IntKind) (d:List Nat) (i:Nat) (h:i<d.length) :
  slc P t (.slice tok f 1 (nl k d)) none (some (.int k' (.ofNat i))) none=some (.slice none false 1 (nl k (d.take i))):=by
 show F.sliceV P t (.slice tok f 1 (nl k d)) none (some (.ofNat i)) none=_
 unfold F.sliceV
 simp only [he,hl,Nat.beq_refl,cond_true]
 unfold F.sliceImm
 simp only [Option.getD_some,F.toNatLe,F.lenR_eq,nl_length]
 rw [show Nat.ble i d.length=true from by rw [Nat.ble_eq];omega]
 simp only [cond_true,Option.getD_none]
 rw [show Nat.ble 0 i=true from Nat.ble_eq ▸ Nat.zero_le i]
 simp only [cond_true]
 rw [show Nat.beq i d.length=false from by
  cases hb:Nat.beq i d.length with
  | false=>rfl
  | true=>rw [Nat.beq_eq] at hb;omega]
 simp only [cond_false,F.takeR_eq,F.dropR_eq,List.drop_zero]
 simp [nl,List.map_take]
theorem gen_slots {t1 t2:Tm} (h:∀ x ∈ tmpsOf o,gt t1 x=gt t2 x):gen P C call gl o t1 tm loc hp j=gen P C call gl o t2 tm loc hp j:=by
 have hag:Agree (⟨t1,loc,hp⟩:St).ρ (St.ρ ((⟨t1,loc,hp⟩:St).as t2)) o:=by
  intro x hx
  cases x with
  | tmp t =>
   have ht:t ∈ tmpsOf o:=by unfold tmpsOf;rw [List.mem_filterMap];exact ⟨.tmp t,hx,rfl⟩
   have:=h t ht
   rw [gt_eq,gt_eq] at this
   exact this
  | _=>rfl
 have hs:=stepV_as (P:=P) (C:=C) (gl:=gl) hag
 have e2:(⟨t1,loc,hp⟩:St).as t2=⟨t2,loc,hp⟩:=rfl
 rw [e2] at hs
 unfold gen
 rw [F.e_oneV]
 unfold oneV
 rw [hs]
 cases stepV P C gl ⟨t1,loc,hp⟩ o with
 | none=>rfl
 | some r =>
  have key:∀ (st:St) (v:V),gtO (putV st o.dst v).tm o.dst=gtO (putV (st.as t2) o.dst v).tm o.dst∧(putV st o.dst v).loc=(putV (st.as t2) o.dst v).loc∧(putV st o.dst v).hp=(putV (st.as t2) o.dst v).hp:=by
   intro st v
   cases o.dst with
   | none=>exact ⟨rfl,rfl,rfl⟩
   | some d =>
    refine ⟨?_,rfl,rfl⟩
    show gt (aset st.tm d v) d=gt (aset t2 d v) d
    rw [gt_eq,gt_eq,aget_aset,aget_aset,if_pos rfl,if_pos rfl]
  cases r with
  | val v st =>
   show j (gtO (putV st o.dst v).tm o.dst) (putV st o.dst v).loc (putV st o.dst v).hp=j (gtO (putV (st.as t2) o.dst v).tm o.dst) (putV (st.as t2) o.dst v).loc (putV (st.as t2) o.dst v).hp
   rw [(key st v).1,(key st v).2.1,(key st v).2.2]
  | enter f args st =>
   simp only [Option.map_some,Res.as]
   show G.onSome (match call f args st.hp with
    | some (.val v h)=>some (Ex.normal,putV { st with hp:=h } o.dst v)
    | some (.panic v h)=>some (.panic v,{ st with hp:=h })
    | none=>none) _ none=G.onSome (match call f args st.hp with
    | some (.val v h)=>some (Ex.normal,putV { (st.as t2) with hp:=h } o.dst v)
    | some (.panic v h)=>some (.panic v,{ (st.as t2) with hp:=h })
    | none=>none) _ none
   cases call f args st.hp with
   | none=>rfl
   | some out =>
    cases out with
    | val v h =>
     have:=key { st with hp:=h } v
     show j (gtO (putV { st with hp:=h } o.dst v).tm o.dst) (putV { st with hp:=h } o.dst v).loc (putV { st with hp:=h } o.dst v).hp=j (gtO (putV { (st.as t2) with hp:=h } o.dst v).tm o.dst) (putV { (st.as t2) with hp:=h } o.dst v).loc (putV { (st.as t2) with hp:=h } o.dst v).hp
     rw [this.1,this.2.1,this.2.2];rfl
    | panic v h=>rfl
  | panic v st=>rfl
theorem getRow_arr {g:Nat} {f:Bool} {k:IntKind} {ys:List Nat} {d2:Nat} {li:Option Nat} (h:lg loc d2=(g,.cells f (nl k ys))):itemsOf ⟨t',loc,hp⟩ (.arr (.loc d2 g) 0 ys.length li 1 false)=some (nl k ys):=by
 have h2:getRow ⟨t',loc,hp⟩ (.loc d2 g)=some (.cells f (nl k ys)):=getRow_loc h
 simp only [itemsOf,h2,Nat.mul_one,Nat.zero_add,nl_length,List.drop_zero]
 rw [show Nat.ble ys.length ys.length=true from by rw [Nat.ble_eq];exact Nat.le_refl _]
 simp only [Nat.beq_refl,Bool.or_true,Bool.and_self,cond_true]
 have:=chunk_nl k ys
 rw [this]
structure ApI (P:Program) (o:Oper) (d x y t:Nat):Prop where
 dst:o.dst=some d
 op:∃ c,o.op=.call c∧c.callee=.builtin .append∧c.args = #[.tmp x,.tmp y]∧c.argTypes[0]? = some t∧notInt P c.argTypes[1]? = true
theorem gen_grow {d x y t e b : Nat} (hi : ApI P o d x y t) (hA : C.isArr t = true) (hg : gl d = false) (he : elemT P t = some e) (hl : layE P e = some (1, false)) (hb : byteE P e = some b) (hxy : x ≠ y)
    {k : IntKind} {l ys : List Nat} {v w : V} (hv : Ar loc d v k l) (hw : ∀ tm hp, itemsOf ⟨tm, loc, hp⟩ w = some (nl k ys)) (hys : ys ≠ []) (hn : (l.length + ys.length) * b ≤ 70368744177664) :
    ∃ v' loc', (∀ (call : CallF) (tm : Tm) (hp : Hp) (j : V → Lo → Hp → R), gen P C call gl o (pt (pt .lf x v) y w) tm loc hp j = j v' loc' hp) ∧ Ar loc' d v' k (l ++ ys) ∧ ∀ i, i ≠ d → lg loc' i = lg loc i := by
  obtain ⟨hd, c, ho, hc, ha, hty, hni⟩ := hi
  have hx : gt (pt (pt .lf x v) y w) x = v := by rw [gt_pt, if_neg (Ne.symm hxy), gt_pt, if_pos rfl]
  have hy : gt (pt (pt .lf x v) y w) y = w := by rw [gt_pt, if_pos rfl]
  have hp1 : ∀ (tm : Tm) hp, locV P C gl (⟨tm, loc, hp⟩ : St).ρ (⟨tm, loc, hp⟩ : St).lc o = none := by
    intro tm hp
    unfold locV
    simp only [ho, pureV, hc, ha, Option.map_none]
  have hne : ∀ {q : Prop}, nl k ys = [] → q := fun h => absurd (by simpa [nl] using h) hys
  have hmb : ∀ n, n ≤ 70368744177664 → Nat.ble n maxBytes = true := fun n h => by rw [Nat.ble_eq]; exact h
  rcases hv with ⟨rfl, rfl⟩ | ⟨hl0, g, rfl, hrow⟩
  · refine ⟨.arr (.loc d ((lg loc d).1 + 1)) 0 ys.length none 1 false, lp loc d ((lg loc d).1 + 1, .cells false (nl k ys)), fun call tm hp j => gen_val (st := ⟨pt (pt .lf x .nils) y w, lp loc d ((lg loc d).1 + 1, .cells false (nl k ys)), hp⟩) hd ?_, .inr ⟨by simpa using hys, (lg loc d).1 + 1, by simp, by rw [lg_lp, if_pos rfl]; simp⟩, fun i hi => by rw [lg_lp, if_neg (Ne.symm hi)]⟩
    unfold stepV
    rw [hp1]
    unfold stepG
    simp only [ho, callS, hc, hty, hd, opds, ha, List.map_cons, List.map_nil, opd_gt, hx, hy, hni, cond_true, appendV, he, hl, hb, hw, fits_nl]
    split
    · rename_i h0; exact hne h0
    · rw [hmb _ (by simpa [nl_length] using hn)]
      simp only [cond_true, hA, growArr, hg, Bool.false_and, cond_false, addRow, lc_lg, aset_lp, flat_nl, nl_length]
  · have hrow' : ∀ tm hp, getRow ⟨tm, loc, hp⟩ (.loc d g) = some (.cells false (nl k l)) := fun tm hp => getRow_loc hrow
    refine ⟨.arr (.loc d (g + 1)) 0 (l ++ ys).length none 1 false, lp (lp loc d (g, .gone)) d (g + 1, .cells false (nl k (l ++ ys))), fun call tm hp j => gen_val (st := ⟨pt (pt .lf x (.arr (.loc d g) 0 l.length none 1 false)) y w, lp (lp loc d (g, .gone)) d (g + 1, .cells false (nl k (l ++ ys))), hp⟩) hd ?_, .inr ⟨by simp [hl0], _, rfl, by rw [lg_lp, if_pos rfl]⟩, fun i hi => by rw [lg_lp, if_neg (Ne.symm hi), lg_lp, if_neg (Ne.symm hi)]⟩
    · unfold stepV
      rw [hp1]
      unfold stepG
      simp only [ho, callS, hc, hty, hd, opds, ha, List.map_cons, List.map_nil, opd_gt, hx, hy, hni, cond_true, appendV, he, hl, hb, hw, fits_nl, hrow', nl_length, Nat.beq_refl, beq_self_eq_true, Bool.and_self, Nat.zero_add, Nat.mul_one]
      rw [show Nat.ble l.length l.length = true from by rw [Nat.ble_eq]; exact Nat.le_refl _, hmb _ hn]
      simp only [Bool.and_self, cond_true]
      split
      · rename_i h0; exact hne h0
      · simp only [isLoc, Bool.not_true, Bool.false_and, cond_false]
        rw [show Nat.ble (l.length + ys.length) l.length = false from by
          cases hb : Nat.ble (l.length + ys.length) l.length with
          | false => rfl
          | true => rw [Nat.ble_eq] at hb; have : ys.length ≠ 0 := by simpa using hys
                    omega]
        simp only [cond_false, growArr, hg, Bool.false_and, setRow_loc, addRow, lc_lg, lg_lp, if_true, aset_lp, flat_nl, nl_append, List.length_append, cond_true]
theorem gen_push {d x y t e b d2:Nat} (hi:ApI P o d x y t) (hA:C.isArr t=true) (hg:gl d=false) (he:elemT P t=some e) (hl:layE P e=some (1,false)) (hb:byteE P e=some b) (hxy:x≠y) (h2:d2≠d)
  {loc:Lo} {k:IntKind} {l:List Nat} {v:V} (n:Nat) (hv:Ar loc d v k l) (hn:(l.length+1)*b≤70368744177664) :
  ∃ v' loc',(∀ (call:CallF) (tm:Tm) (hp:Hp) (j:V→Lo→Hp→R),gen P C call gl o (pt (pt .lf x v) y (.arr (.loc d2 ((lg loc d2).1+1)) 0 1 (some 1) 1 false)) tm (lp loc d2 ((lg loc d2).1+1,.cells false (nl k [n]))) hp j=j v' loc' hp)∧Ar loc' d v' k (l++[n])∧∀ i,i≠d→i≠d2→lg loc' i=lg loc i:=by
 have hv':Ar (lp loc d2 ((lg loc d2).1+1,.cells false (nl k [n]))) d v k l:=by
  rcases hv with h | ⟨h0,g,h1,h2'⟩
  ·exact .inl h
  ·exact .inr ⟨h0,g,h1,by rw [lg_lp,if_neg h2];exact h2'⟩
 obtain ⟨v',loc',h1,h3,h4⟩:=gen_grow (P:=P) (C:=C) (gl:=gl) (o:=o) hi hA hg he hl hb hxy (ys:=[n]) (w:=.arr (.loc d2 ((lg loc d2).1+1)) 0 1 (some 1) 1 false) hv' (fun tm hp=>getRow_arr (ys:=[n]) (by rw [lg_lp,if_pos rfl])) (by simp) hn
 exact ⟨v',loc',h1,h3,fun i a b=>by rw [h4 i a,lg_lp,if_neg (Ne.symm b)]⟩
def Tk (loc:Lo) (d:Nat) (v:V) (k:IntKind) (l:List Nat):Prop :=
 (l=[]∧v=.nils)∨(l≠[]∧∃ g,v=.slice (some (.loc d g)) false 1 (nl k l)∧lg loc d=(g,.tok))
theorem gen_pushT {d x y t e b:Nat} (hi:ApI P o d x y t) (hA:C.isArr t=false) (hg:gl d=false) (he:elemT P t=some e) (hl:layE P e=some (1,false)) (hb:byteE P e=some b) (hxy:x≠y)
  {k:IntKind} {l ys:List Nat} {v:V} {tk:Option Ref} {fu:Bool} (hv:Tk loc d v k l) (hys:ys≠[]) (hn:(l.length+ys.length)*b≤70368744177664) :
  ∃ v' loc',(∀ (call:CallF) (tm:Tm) (hp:Hp) (j:V→Lo→Hp→R),gen P C call gl o (pt (pt .lf x v) y (.slice tk fu 1 (nl k ys))) tm loc hp j=j v' loc' hp)∧Tk loc' d v' k (l++ys)∧∀ i,i≠d→lg loc' i=lg loc i:=by
 obtain ⟨hd,c,ho,hc,ha,hty,hni⟩:=hi
 have hx:gt (pt (pt .lf x v) y (.slice tk fu 1 (nl k ys))) x=v:=by rw [gt_pt,if_neg (Ne.symm hxy),gt_pt,if_pos rfl]
 have hy:gt (pt (pt .lf x v) y (.slice tk fu 1 (nl k ys))) y=.slice tk fu 1 (nl k ys):=by rw [gt_pt,if_pos rfl]
 have hp1:∀ (tm:Tm) hp,locV P C gl (⟨tm,loc,hp⟩:St).ρ (⟨tm,loc,hp⟩:St).lc o=none:=by
  intro tm hp
  unfold locV
  simp only [ho,pureV,hc,ha,Option.map_none]
 have hne:∀ {q:Prop},nl k ys=[]→q:=fun h=>absurd (by simpa [nl] using h) hys
 have hmb:∀ n,n≤70368744177664→Nat.ble n maxBytes=true:=fun n h=>by rw [Nat.ble_eq];exact h
 rcases hv with ⟨rfl,rfl⟩ | ⟨hl0,g,rfl,hrow⟩
 ·refine ⟨.slice (some (.loc d ((lg loc d).1+1))) false 1 (nl k ys),lp loc d ((lg loc d).1+1,.tok),fun call tm hp j=>gen_val (st:=⟨pt (pt .lf x .nils) y (.slice tk fu 1 (nl k ys)),lp loc d ((lg loc d).1+1,.tok),hp⟩) hd ?_,.inr ⟨by simpa using hys,(lg loc d).1+1,by simp,by rw [lg_lp,if_pos rfl]⟩,fun i hi=>by rw [lg_lp,if_neg (Ne.symm hi)]⟩
  ·unfold stepV
   rw [hp1]
   unfold stepG
   simp only [ho,callS,hc,hty,hd,opds,ha,List.map_cons,List.map_nil,opd_gt,hx,hy,hni,cond_true,appendV,he,hl,hb,itemsOf,fits_nl]
   split
   ·rename_i h0;exact hne h0
   ·rw [hmb _ (by simpa [nl_length] using hn)]
    simp only [cond_true,hA,cond_false,noRefsL_nl,growImm,hg,addRow,lc_lg,aset_lp]
 ·have hrow':∀ tm hp,getRow ⟨tm,loc,hp⟩ (.loc d g)=some .tok:=fun tm hp=>getRow_loc hrow
  refine ⟨.slice (some (.loc d (g+1))) false 1 (nl k (l++ys)),lp (lp loc d (g,.gone)) d (g+1,.tok),fun call tm hp j=>gen_val (st:=⟨pt (pt .lf x (.slice (some (.loc d g)) false 1 (nl k l))) y (.slice tk fu 1 (nl k ys)),lp (lp loc d (g,.gone)) d (g+1,.tok),hp⟩) hd ?_,.inr ⟨by simp [hl0],_,rfl,by rw [lg_lp,if_pos rfl]⟩,fun i hi=>by rw [lg_lp,if_neg (Ne.symm hi),lg_lp,if_neg (Ne.symm hi)]⟩
  ·unfold stepV
   rw [hp1]
   unfold stepG
   simp only [ho,callS,hc,hty,hd,opds,ha,List.map_cons,List.map_nil,opd_gt,hx,hy,hni,cond_true,appendV,he,hl,hb,itemsOf,fits_nl,hrow',nl_length,Nat.beq_refl]
   split
   ·rename_i h0;exact hne h0
   ·rw [hmb _ (by simpa [nl_length] using hn)]
    simp only [cond_true,hA,cond_false,noRefsL_nl,growImm,hg,setRow_loc,addRow,lc_lg,lg_lp,if_true,aset_lp,nl_append]
theorem mx_n (a b:Nat) (k k':IntKind):mxV (.int k (.ofNat a)) (.int k' (.ofNat b))=some (.int k (.ofNat (max a b))):=by
 show some (V.int k (Bool.rec (motive:=fun _=>Int) (.ofNat a) (.ofNat b) (F.ltI (.ofNat a) (.ofNat b))))=_
 rw [F.ltI_eq]
 by_cases h:a<b
 ·rw [show decide ((Int.ofNat a)<Int.ofNat b)=true from by simpa using h,Nat.max_eq_right (Nat.le_of_lt h)]
 ·rw [show decide ((Int.ofNat a)<Int.ofNat b)=false from by simpa using h,Nat.max_eq_left (by omega)]
theorem mn_n (a b:Nat) (k k':IntKind):mnV (.int k (.ofNat a)) (.int k' (.ofNat b))=some (.int k (.ofNat (min a b))):=by
 show some (V.int k (Bool.rec (motive:=fun _=>Int) (.ofNat a) (.ofNat b) (F.ltI (.ofNat b) (.ofNat a))))=_
 rw [F.ltI_eq]
 by_cases h:b<a
 ·rw [show decide ((Int.ofNat b)<Int.ofNat a)=true from by simpa using h,Nat.min_eq_right (Nat.le_of_lt h)]
 ·rw [show decide ((Int.ofNat b)<Int.ofNat a)=false from by simpa using h,Nat.min_eq_left (by omega)]
def Sl (k:IntKind) (v:V) (d:List Nat):Prop:=(∃ f,v=.slice none f 1 (nl k d))∨(v=.nils∧d=[])
theorem len_sl {k:IntKind} {v:V} {d:List Nat} (h:Sl k v d) (e:TypeId):len (some (.slice e)) v=some (.int .i64 (.ofNat d.length)):=by
 rcases h with ⟨f,rfl⟩ | ⟨rfl,rfl⟩
 ·rw [len_slice,nl_length]
 ·exact len_nils e
theorem ia_sl {t e:TypeId} {ag:Bool} (he:F.elemT P t=some e) (hl:F.layE P e=some (1,ag)) {k:IntKind} {v:V} {d:List Nat} (h:Sl k v d) (k':IntKind) (i:Nat) (hi:i<d.length) :
  ia P t v (.int k' (.ofNat i))=some (.iptr [.int k (.ofNat (d.getD i 0))]):=by
 rcases h with ⟨f,rfl⟩ | ⟨rfl,rfl⟩
 ·exact ia_slice he hl none f k k' d i hi
 ·simp at hi
theorem Ar.len {loc:Lo} {d:Nat} {v:V} {k:IntKind} {l:List Nat} (h:Ar loc d v k l) (e:TypeId):len (some (.slice e)) v=some (.int .i64 (.ofNat l.length)):=by
 rcases h with ⟨rfl,rfl⟩ | ⟨_,g,rfl,_⟩
 ·exact len_nils e
 ·rfl
theorem exp_Ar {loc:Lo} {d:Nat} {v:V} {k:IntKind} {l:List Nat} (h:Ar loc d v k l):∃ v' loc',(∀ (tm:Tm) (hp:Hp),AM.exp false ⟨tm,loc,hp⟩ v=some (v',⟨tm,loc',hp⟩))∧Sl k v' l∧∀ i,i≠d→lg loc' i=lg loc i:=by
 rcases h with ⟨rfl,rfl⟩ | ⟨h0,g,rfl,hr⟩
 ·exact ⟨.nils,loc,fun _ _=>rfl,.inr ⟨rfl,rfl⟩,fun _ _=>rfl⟩
 ·refine ⟨.slice none false 1 (nl k l),lp loc d (g,.cells true (nl k l)),fun tm hp=>?_,.inl ⟨false,rfl⟩,fun i hi=>by rw [lg_lp,if_neg (Ne.symm hi)]⟩
  have h2:getRow ⟨tm,loc,hp⟩ (.loc d g)=some (.cells false (nl k l)):=getRow_loc hr
  simp only [exp,exp1,isLoc,Bool.or_true,Bool.false_or,cond_true,freeze,h2]
  have h3:itemsOf ⟨tm,loc,hp⟩ (.arr (.loc d g) 0 l.length none 1 false)=some (nl k l):=getRow_arr hr
  rw [h3]
  simp only [noRefsL_nl,cond_true,setRow_loc]
def Kp (l:List Nat) (t t':Tm):Prop:=∀ j ∈ l,gt t' j=gt t j
theorem Kp_refl (l:List Nat) (t:Tm):Kp l t t:=fun _ _=>rfl
theorem Kp_pt {l:List Nat} {t t':Tm} {i:Nat} {v:V} (h:i ∉ l) (hk:Kp l t t'):Kp l t (pt t' i v):=fun j hj=>by
 rw [gt_pt,if_neg (fun e=>h (by rw [e];exact hj))]
 exact hk j hj
section
variable {P:Program} {kn:Kn} {tbl:Nat→Option Fc}
theorem ww_join {c d:RC} {s:St} {N:St→Prop} {X:Nat→St→Prop} {Q:St→Prop} {M:St→Prop} (h1:WW P kn tbl c s M (fun _ _=>False) (fun _=>False)) (h2:∀ s1,M s1→WW P kn tbl d s1 N X Q):WW P kn tbl (.seq c d) s N X Q :=
 ww_seq (ww_mono h1 h2 (fun _ _ h=>h.elim) (fun _ h=>h.elim))
theorem ww_joinX {c d:RC} {s:St} {N:St→Prop} {X:Nat→St→Prop} {Q:St→Prop} (M:St→Prop) (h1:WW P kn tbl c s M X Q) (h2:∀ s1,M s1→WW P kn tbl d s1 N X Q):WW P kn tbl (.seq c d) s N X Q :=
 ww_seq (ww_mono h1 h2 (fun _ _ h=>h) (fun _ h=>h))
end
structure Pl (v:V):Prop where
 cells:v.cells=[v]
 weak:v.weakB=v
 plain:v.plain=true
 ok:v.cellOk=true
 exp:∀ st,exp1 false st v=some (v,st)
 expT:∀ st,exp1 true st v=some (v,st)
 refs:v.noRefs=true
 live:v.live=true
 notAgg:∀ cs,v≠.agg cs
theorem Pl.bool (b:Bool):Pl (.bool b):=⟨rfl,rfl,rfl,rfl,fun _=>rfl,fun _=>rfl,rfl,rfl,fun _ h=>by cases h⟩
theorem Pl.nils:Pl .nils:=⟨rfl,rfl,rfl,rfl,fun _=>rfl,fun _=>rfl,rfl,rfl,fun _ h=>by cases h⟩
theorem Sl.pl {k:IntKind} {v:V} {d:List Nat} (h:Sl k v d):Pl v:=by
 rcases h with ⟨f,rfl⟩ | ⟨rfl,_⟩
 ·exact ⟨rfl,rfl,rfl,rfl,fun _=>rfl,fun _=>rfl,rfl,rfl,fun _ h=>by cases h⟩
 ·exact Pl.nils
theorem Pl.exp' {v:V} (h:Pl v) (st:St):AM.exp false st v=some (v,st):=by
 have:=h.exp st
 cases v with
 | agg cs=>exact absurd rfl (h.notAgg cs)
 | _=>exact this
theorem Pl.expF {v:V} (h:Pl v) (st:St):AM.exp true st v=some (v,st):=by
 have:=h.expT st
 cases v with
 | agg cs=>exact absurd rfl (h.notAgg cs)
 | _=>exact this
theorem exp_agg {cs:List V} (h:∀ v ∈ cs,Pl v) (st:St):AM.exp false st (.agg cs)=some (.agg cs,st):=by
 have key:∀ cs:List V,(∀ v ∈ cs,Pl v)→expL false st cs=some (cs,st):=by
  intro cs
  induction cs with
  | nil=>intro _;rfl
  | cons v l ih =>
   intro h
   unfold expL
   simp only [(h v (by simp)).exp st,ih (fun u hu=>h u (by simp [hu]))]
 show (expL false st cs).map _=_
 rw [key cs h];rfl
def Ex1 (v:V):Prop:=∀ st,AM.exp false st v=some (v,st)
def ExL:List V→Prop
 | []=>True
 | v::l=>Ex1 v∧ExL l
theorem exps_ex:∀ (l:List V) (st:St),ExL l→exps false st l=some (l,st)
 | [],_,_=>rfl
 | v::l,st,⟨h1,h2⟩=>by
  unfold exps
  simp only [h1 st,exps_ex l st h2]
theorem clp {call:CallF} {f:FuncId} {args:List V} {tm:Tm} {loc:Lo} {hp:Hp} {j:V→Lo→Hp→R} {v:V} {h':Hp} (he:ExL args) (hc:call f args hp=some (.val v h')):cl call f args tm loc hp j=j v loc h':=by
 have:=exps_ex args ⟨.lf,loc,hp⟩ he
 exact cl_val this hc
theorem gen_build2 {d x y:Nat} {t:TypeId} {f0 f1:Field} {z0 z1 v w:V} (hd:o.dst=some d) (ho:o.op=.build t #[(0,.tmp x),(1,.tmp y)]) (hu:P.underlying t=some (.struct #[f0,f1])) (hz:zeroV P t=some (.agg [z0,z1]))
  (h0:f0.offset=0) (h1:f1.offset=1) (s0:szOf P f0.type=some 1) (s1:szOf P f1.type=some 1) (hxy:x≠y) (hv:Pl v) (hw:Pl w) :
  gen P C call gl o (pt (pt .lf x v) y w) tm loc hp j=j (.agg [v,w]) loc hp:=by
 have hx:gt (pt (pt .lf x v) y w) x=v:=by rw [gt_pt,if_neg (Ne.symm hxy),gt_pt,if_pos rfl]
 have hy:gt (pt (pt .lf x v) y w) y=w:=by rw [gt_pt,if_pos rfl]
 refine gen_val (v:=.agg [v,w]) (st:=⟨pt (pt .lf x v) y w,loc,hp⟩) hd ?_
 have i0:(P.info? f0.type).isSome=true:=by
  unfold szOf at s0
  cases h:P.info? f0.type with
  | none=>rw [h] at s0;simp at s0
  | some i=>rfl
 have i1:(P.info? f1.type).isSome=true:=by
  unfold szOf at s1
  cases h:P.info? f1.type with
  | none=>rw [h] at s1;simp at s1
  | some i=>rfl
 have e0:fieldOf P t 0=some f0:=by unfold fieldOf;rw [hu];rfl
 have e1:fieldOf P t 1=some f1:=by unfold fieldOf;rw [hu];rfl
 have hp1:locV P C gl (⟨pt (pt .lf x v) y w,loc,hp⟩:St).ρ (⟨pt (pt .lf x v) y w,loc,hp⟩:St).lc o=some (.agg [v,w],none):=by
  unfold locV
  simp only [ho,pureV,hu,hz,V.live,Bool.true_and]
  have ea:(#[f0,f1]:Array Field).all (fun f=>(P.info? f.type).isSome)=true:=by simp [i0,i1]
  rw [ea]
  have c0:V.cells (.agg [z0,z1])=[z0,z1]:=rfl
  simp only [cond_true,fillP,e0,e1,opd_gt,hx,hy,hv.weak,hw.weak,hv.plain,hw.plain,hv.cells,hw.cells,s0,s1,h0,h1,Option.getD_some,List.length_cons,List.length_nil,c0]
  rfl
 unfold stepV
 rw [hp1];rfl
def two (P:Program) (t:TypeId):Bool:=match P.underlying t with
 | some (.struct fs)=>(match fs.toList with
  | [f0,f1]=>Nat.beq f0.offset 0&&Nat.beq f1.offset 1&&(match szOf P f0.type,szOf P f1.type with | some a,some b=>Nat.beq a 1&&Nat.beq b 1 | _,_=>false)
  | _=>false)
 | _=>false
theorem gen_two {d x y:Nat} {t:TypeId} {z0 z1 v w:V} (hd:o.dst=some d) (ho:o.op=.build t #[(0,.tmp x),(1,.tmp y)]) (h2:two P t=true) (hz:zeroV P t=some (.agg [z0,z1])) (hxy:x≠y) (hv:Pl v) (hw:Pl w) :
  gen P C call gl o (pt (pt .lf x v) y w) tm loc hp j=j (.agg [v,w]) loc hp:=by
 unfold two at h2
 split at h2
 ·rename_i fs hu
  split at h2
  ·rename_i f0 f1 hfs
   simp only [Bool.and_eq_true] at h2
   obtain ⟨⟨a0,a1⟩,a2⟩:=h2
   have e:fs = #[f0,f1]:=by apply Array.toList_inj.1;rw [hfs]
   subst e
   split at a2
   ·rename_i a b h3 h4
    simp only [Bool.and_eq_true] at a2
    have b1:a=1:=Nat.eq_of_beq_eq_true a2.1
    have b2:b=1:=Nat.eq_of_beq_eq_true a2.2
    subst b1;subst b2
    exact gen_build2 hd ho hu hz (Nat.eq_of_beq_eq_true a0) (Nat.eq_of_beq_eq_true a1) h3 h4 hxy hv hw
   ·simp at a2
  ·simp at h2
 ·simp at h2
theorem fin_cell {h:Hp} {a t d g:Nat} {f:Bool} {s:St} {x y:V} (hl:layE P t=some (2,true)) (hv:gt s.tm a=.ptr (.loc d g) 0) (hr:lg s.loc d=(g,.cells f [x,y])) (hx:Pl x) (hy:Pl y) (hd:s.hp.dirty=none) :
  fin P h [.cell a t] s=some (.val (.agg [x,y]) h):=by
 unfold fin
 have e1:resV P s [.cell a t]=some [.agg [x,y]]:=by
  simp only [resV,rho_gt,hv,getRow_loc hr,partV,hl]
  rfl
 rw [e1]
 simp only [exps,exp_agg (cs:=[x,y]) (by intro v hv;simp at hv;rcases hv with rfl | rfl<;>assumption)]
 have hc:cleanB h s.hp=true:=by unfold cleanB;rw [hd]
 unfold backHp
 rw [hc]
 simp only [V.noRefsL,V.noRefs,hx.refs,hy.refs,Bool.and_self,cond_true]
theorem wv_t (b:Bool):wv (.bool b) true=some b:=by cases b<;>rfl
theorem wv_f (b:Bool):wv (.bool b) false=some (!b):=by cases b<;>rfl
theorem slc_sl {t e:TypeId} {ag:Bool} (he:F.elemT P t=some e) (hl:F.layE P e=some (1,ag)) {k:IntKind} {v:V} {d:List Nat} (h:Sl k v d) (k':IntKind) (i:Nat) (hi:i<d.length) :
  slc P t v none (some (.int k' (.ofNat i))) none=some (.slice none false 1 (nl k (d.take i))):=by
 rcases h with ⟨f,rfl⟩ | ⟨rfl,rfl⟩
 ·exact slc_init he hl none f k k' d i hi
 ·simp at hi
theorem cells_agg (cs:List V):(V.agg cs).cells=cs:=rfl
theorem wrap_u32_int (n:Int):F.wrapI .u32 n=.ofNat (n % 4294967296).toNat:=by
 rw [F.wrapI_eq]
 have h:0≤n % 4294967296:=Int.emod_nonneg _ (by decide)
 show n % 4294967296=_
 exact (Int.toNat_of_nonneg h).symm
theorem i_sub32 {a b:Nat} (h:b≤4294967296):G.int2 .sub .u32 (.ofNat a) (.ofNat b)=some (.int .u32 (.ofNat ((a+4294967296 - b) % 4294967296))):=by
 show some (V.int .u32 (F.wrapI .u32 (Int.sub (.ofNat a) (.ofNat b))))=_
 rw [wrap_u32_int]
 have e:(Int.sub (.ofNat a) (.ofNat b) % 4294967296).toNat=(a+4294967296 - b) % 4294967296:=by
  show (((a:Int) - (b:Int)) % 4294967296).toNat=_
  omega
 rw [e]
theorem i_and32 {a b:Nat} (ha:a<4294967296) (hb:b<4294967296):G.int2 .and .u32 (.ofNat a) (.ofNat b)=some (.int .u32 (.ofNat (a &&& b))):=by
 show some (V.int .u32 (IntKind.u32.wrap (BitVec.ofInt 32 (Int.ofNat a) &&& BitVec.ofInt 32 (Int.ofNat b)).toNat))=_
 have e:(BitVec.ofInt 32 (Int.ofNat a) &&& BitVec.ofInt 32 (Int.ofNat b)).toNat=a &&& b:=by
  rw [BitVec.toNat_and]
  show (BitVec.ofInt 32 (a:Int)).toNat &&& (BitVec.ofInt 32 (b:Int)).toNat=_
  rw [BitVec.toNat_ofInt,BitVec.toNat_ofInt]
  congr 1<;>omega
 rw [e,←F.wrapI_eq]
 congr 2
 exact wrap_u32 (Nat.lt_of_le_of_lt Nat.and_le_left ha)
theorem i_xor32 {a b:Nat} (ha:a<4294967296) (hb:b<4294967296):G.int2 .xor .u32 (.ofNat a) (.ofNat b)=some (.int .u32 (.ofNat (a ^^^ b))):=by
 show some (V.int .u32 (IntKind.u32.wrap (BitVec.ofInt 32 (Int.ofNat a) ^^^ BitVec.ofInt 32 (Int.ofNat b)).toNat))=_
 have e:(BitVec.ofInt 32 (Int.ofNat a) ^^^ BitVec.ofInt 32 (Int.ofNat b)).toNat=a ^^^ b:=by
  rw [BitVec.toNat_xor]
  show (BitVec.ofInt 32 (a:Int)).toNat ^^^ (BitVec.ofInt 32 (b:Int)).toNat=_
  rw [BitVec.toNat_ofInt,BitVec.toNat_ofInt]
  congr 1<;>omega
 rw [e,←F.wrapI_eq]
 congr 2
 exact wrap_u32 (Nat.xor_lt_two_pow (n:=32) ha hb)
theorem un_xor32 {a:Nat} (ha:a<4294967296):G.un .xor (.int .u32 (.ofNat a))=some (.int .u32 (.ofNat (4294967295 ^^^ a))):=by
 show F.binInt .xor .u32 (if IntKind.u32.signed=true then -1 else IntKind.u32.max) (.ofNat a)=_
 have e0:(if IntKind.u32.signed=true then -1 else IntKind.u32.max)=Int.ofNat 4294967295:=rfl
 rw [e0]
 have e1:F.binInt .xor .u32 (Int.ofNat 4294967295) (Int.ofNat a)=binInt .xor .u32 (Int.ofNat 4294967295) (Int.ofNat a):=by rw [F.e_binInt]
 rw [e1]
 exact i_xor32 (a:=4294967295) (by decide) ha
def dn:Nat→Int
 | 0=>.negSucc 0
 | n+1=>.ofNat n
theorem i_dec {n:Nat} (h:n<9223372036854775808):G.int2 .sub .i64 (.ofNat n) (.ofNat 1)=some (.int .i64 (dn n)):=by
 cases n with
 | zero=>rfl
 | succ m =>
  rw [i_sub (by omega),wrap_i64 (by omega)]
  rfl
theorem i_geq_neg (k:IntKind) (m n:Nat):G.int2 .geq k (.negSucc m) (.ofNat n)=some (.bool false):=rfl
theorem i_sub_neg {k:IntKind} {a b:Nat} (h:a<b):G.int2 .sub k (.ofNat a) (.ofNat b)=some (.int k (F.wrapI k (.negSucc (b - a - 1)))):=by
 show some (V.int k (F.wrapI k (Int.sub (.ofNat a) (.ofNat b))))=_
 have:Int.sub (.ofNat a) (.ofNat b)=.negSucc (b - a - 1):=by
  show (a:Int) - (b:Int)=_
  omega
 rw [this]
theorem wrap_i64_neg {n:Nat} (h:n<9223372036854775808):F.wrapI .i64 (.negSucc n)=.negSucc n:=by
 show (bif true&&Nat.blt n 9223372036854775808 then Int.negSucc n else _)=_
 rw [show Nat.blt n 9223372036854775808=true from by rw [Nat.blt_eq];exact h];rfl
theorem mx_neg (k k':IntKind) (m:Nat):mxV (.int k (.negSucc m)) (.int k' (.negSucc 0))=some (.int k (.negSucc 0)):=by
 show some (V.int k (Bool.rec (motive:=fun _=>Int) (.negSucc m) (.negSucc 0) (F.ltI (.negSucc m) (.negSucc 0))))=_
 rw [F.ltI_eq]
 by_cases h:m=0
 ·subst h;rfl
 ·rw [show decide (Int.negSucc m<Int.negSucc 0)=true from by rw [decide_eq_true_iff];omega]
theorem mx_pos (k k':IntKind) (m n:Nat):mxV (.int k (.ofNat m)) (.int k' (.negSucc n))=some (.int k (.ofNat m)):=rfl
theorem mn_neg (k k':IntKind) (m n:Nat):mnV (.int k (.negSucc m)) (.int k' (.ofNat n))=some (.int k (.negSucc m)):=rfl
theorem fin_two {h:Hp} {a b:Nat} {s:St} {v w:V} (hv:gt s.tm a=v) (hw:gt s.tm b=w) (pv:Ex1 v) (pw:Ex1 w) (rv:v.noRefs=true) (rw':w.noRefs=true) (hd:s.hp.dirty=none) :
  fin P h [.tmp a,.tmp b] s=some (.val (.tuple [v,w]) h):=by
 unfold fin
 have e1:resV P s [.tmp a,.tmp b]=some [v,w]:=by simp only [resV,rho_gt,hv,hw,Option.map_some]
 rw [e1]
 have e2:=exps_ex [v,w] s ⟨pv,pw,trivial⟩
 simp only [e2]
 have hc:cleanB h s.hp=true:=by unfold cleanB;rw [hd]
 show some (Out.val (.tuple [v,w]) (backHp h s.hp [v,w]))=_
 unfold backHp
 rw [hc]
 simp only [V.noRefsL,rv,rw',Bool.and_self,cond_true]
theorem Ex1.int (k:IntKind) (n:Int):Ex1 (.int k n):=fun _=>rfl
theorem Pl.ex {v:V} (h:Pl v):Ex1 v:=h.exp'
theorem bin_sh (op:BinOp) (ho:op=.shr∨op=.shl) (t:TypeId) (cn:Bool) (k k':IntKind) (a b:Int):bin P op t cn (.int k a) (.int k' b)=G.int2 op k a b:=by
 show (bif Nat.beq (G.ikNum k) (G.ikNum k') then G.int2 op k a b else F.binV op (.int k a) (.int k' b))=_
 cases h:Nat.beq (G.ikNum k) (G.ikNum k') with
 | true=>rfl
 | false =>
  simp only [cond_false]
  rw [F.e_binV]
  rcases ho with rfl | rfl
  ·rfl
  ·rfl
theorem bin_shr32 (t:TypeId) (cn:Bool) (k':IntKind) (a b:Nat) (h:b≤32):bin P .shr t cn (.int .u32 (.ofNat a)) (.int k' (.ofNat b))=some (.int .u32 (.ofNat (a / 2 ^ b))):=by
 rw [bin_sh _ (.inl rfl),i_shr32 h]
theorem bin_shr64 (t:TypeId) (cn:Bool) (k':IntKind) (a b:Nat) (h:b≤64):bin P .shr t cn (.int .u64 (.ofNat a)) (.int k' (.ofNat b))=some (.int .u64 (.ofNat (a / 2 ^ b))):=by
 rw [bin_sh _ (.inl rfl),i_shr64 h]
theorem bin_shl64 (t:TypeId) (cn:Bool) (k':IntKind) (a b:Nat) (h:b≤64):bin P .shl t cn (.int .u64 (.ofNat a)) (.int k' (.ofNat b))=some (.int .u64 (F.wrapI .u64 (.ofNat (a*2 ^ b)))):=by
 rw [bin_sh _ (.inr rfl),i_shl64 h]
theorem clc0 {f:FuncId} {tm:Tm} {loc:Lo} {hp h':Hp} {j:V→Lo→Hp→R} {r:V} (hc:call f [] hp=some (.val r h')):cl call f [] tm loc hp j=j r loc h':=clp trivial hc
theorem clc1 {f:FuncId} {v:V} {tm:Tm} {loc:Lo} {hp h':Hp} {j:V→Lo→Hp→R} {r:V} (hc:call f [v] hp=some (.val r h')) (h1:Ex1 v):cl call f [v] tm loc hp j=j r loc h':=clp ⟨h1,trivial⟩ hc
theorem clc2 {f:FuncId} {v w:V} {tm:Tm} {loc:Lo} {hp h':Hp} {j:V→Lo→Hp→R} {r:V} (hc:call f [v,w] hp=some (.val r h')) (h1:Ex1 v) (h2:Ex1 w):cl call f [v,w] tm loc hp j=j r loc h':=clp ⟨h1,h2,trivial⟩ hc
theorem clc3 {f:FuncId} {v w u:V} {tm:Tm} {loc:Lo} {hp h':Hp} {j:V→Lo→Hp→R} {r:V} (hc:call f [v,w,u] hp=some (.val r h')) (h1:Ex1 v) (h2:Ex1 w) (h3:Ex1 u):cl call f [v,w,u] tm loc hp j=j r loc h':=clp ⟨h1,h2,h3,trivial⟩ hc
theorem Ex1.bool (b:Bool):Ex1 (.bool b):=fun _=>rfl
theorem Ex1.str (s:Str):Ex1 (.str s):=fun _=>rfl
theorem Sl.ex {k:IntKind} {v:V} {d:List Nat} (h:Sl k v d):Ex1 v:=h.pl.exp'
theorem ldF_loc (s g o:Nat):ldF (.ptr (.loc s g) o)=⟨[s],[],false,false,false,false⟩:=rfl
theorem ldF_iptr (cs:List V):ldF (.iptr cs)=ft0:=rfl
theorem settle_pure (h:Hp):F.settle h h ⟨[],[],true,true,false,false⟩ = ⟨[],[],true,false,false,false⟩:=by
 unfold F.settle
 rw [Nat.beq_refl,Nat.beq_refl];rfl
theorem clD_pure {f:FuncId} {args:List V} {loc:Lo} {hp:Hp} {j:JD} {x:XD} {r:V} (hc:call f args hp=some (.val r hp)) (he:ExL args) (hq:args.all quiet=true):clD call f args loc hp j x=j r ⟨[],[],true,false,false,false⟩ loc hp:=by
 unfold clD
 rw [F.allR_eq,hq,F.e_exps,exps_ex args _ he]
 show G.onSome (call f args hp) _ none=_
 rw [hc]
 show j r (F.settle hp hp ⟨[],[],true,true,false,false⟩) loc hp=_
 rw [settle_pure]
theorem cld1 {f:FuncId} {v:V} {loc:Lo} {hp:Hp} {j:JD} {x:XD} {r:V} (hc:call f [v] hp=some (.val r hp)) (h1:Ex1 v) (q1:quiet v=true):clD call f [v] loc hp j x=j r ⟨[],[],true,false,false,false⟩ loc hp:=clD_pure hc ⟨h1,trivial⟩ (by simp [q1])
theorem cld2 {f:FuncId} {v w:V} {loc:Lo} {hp:Hp} {j:JD} {x:XD} {r:V} (hc:call f [v,w] hp=some (.val r hp)) (h1:Ex1 v) (h2:Ex1 w) (q1:quiet v=true) (q2:quiet w=true):clD call f [v,w] loc hp j x=j r ⟨[],[],true,false,false,false⟩ loc hp:=clD_pure hc ⟨h1,h2,trivial⟩ (by simp [q1,q2])
theorem finD_ok {ops:List Oper} {P1 P2:List (Nat × Nat)} {fs:List Foot} {x:R} (h:chk ops P1 P2 (revA fs [])=true):finD ops P1 P2 fs x=x:=by
 show (bif chk ops P1 P2 (revA fs []) then x else none)=x
 rw [h];rfl
theorem genD_store {t:TypeId} {a x:Nat} {s g off:Nat} {J:JD} {X:XD} (ho:o.op=.store t (.tmp a) (.tmp x)) (hd:o.dst=none) (ha:gt t' a=.ptr (.loc s g) off) :
  genD P C call gl o t' loc hp J X=stc P t g off (gt t' x) (lg loc s) (fun row=>J (.tuple []) ⟨[s],[s],false,false,false,false⟩ (lp loc s row) hp):=by
 have hcase:∀ cs':List V,locV P C gl (⟨t',loc,hp⟩:St).ρ (⟨t',loc,hp⟩:St).lc o=some (.tuple [],some (s,g,.cells false cs'))→genD P C call gl o t' loc hp J X=J (.tuple []) ⟨[s],[s],false,false,false,false⟩ (lp loc s (g,.cells false cs')) hp:=by
  intro cs' hloc
  unfold genD
  rw [F.e_footV,F.e_oneV,F.e_rho,F.e_lcf]
  unfold footV
  rw [hloc]
  show G.onSome (oneV P C call gl ⟨t',loc,hp⟩ o) _ none=_
  unfold oneV stepV
  rw [hloc]
  simp only [applyL,putV,hd,aset_lp]
  show J (.tuple []) (F.settle hp hp ⟨[s],[s],false,false,false,false⟩) (lp loc s (g,.cells false cs')) hp=_
  have:F.settle hp hp ⟨[s],[s],false,false,false,false⟩ = ⟨[s],[s],false,false,false,false⟩:=by
   unfold F.settle
   rw [Nat.beq_refl,Nat.beq_refl];rfl
  rw [this]
 have hnone:locV P C gl (⟨t',loc,hp⟩:St).ρ (⟨t',loc,hp⟩:St).lc o=none→genD P C call gl o t' loc hp J X=none:=by
  intro hloc
  unfold genD
  rw [F.e_footV,F.e_rho,F.e_lcf]
  unfold footV
  rw [hloc]
  simp only [ho,opd_gt,ha]
  rfl
 unfold stc
 have hl:locV P C gl (⟨t',loc,hp⟩:St).ρ (⟨t',loc,hp⟩:St).lc o=(match lg loc s with
   | (g',.cells false cs)=>bif Nat.beq g g'&&(gt t' x).cells.all V.cellOk&&lenIs P t (gt t' x).cells.length then
     (match setAt cs off (gt t' x).cells with
     | some cs'=>some (.tuple [],some (s,g,.cells false cs'))
     | none=>none)
    else none
   | _=>none):=by
  unfold locV
  simp only [ho,opd_gt,ha,lc_lg]
  rcases lg loc s with ⟨g',row⟩
  cases row<;>first | rfl | (rename_i f cs;cases f<;>rfl)
 cases hrow:lg loc s with
 | mk g' row =>
  rw [hrow] at hl
  cases row with
  | cells frz cs =>
   cases frz with
   | true=>rw [hnone hl];rfl
   | false =>
    show _=(bif Nat.beq g g'&&F.allR V.cellOk (gt t' x).cells&&F.lenIs P t (F.lenR (gt t' x).cells) then G.onSome (F.setAt cs off (gt t' x).cells) _ none else none)
    rw [F.allR_eq,F.lenR_eq,F.e_lenIs,F.e_setAt]
    simp only [] at hl
    cases hb:(Nat.beq g g'&&(gt t' x).cells.all V.cellOk&&lenIs P t (gt t' x).cells.length) with
    | false=>rw [hb] at hl;rw [hnone hl];rfl
    | true =>
     rw [hb] at hl
     simp only [cond_true] at hl ⊢
     cases hs:setAt cs off (gt t' x).cells with
     | none=>rw [hs] at hl;rw [hnone hl];rfl
     | some cs'=>rw [hs] at hl;rw [hcase cs' hl];rfl
  | gone=>rw [hnone hl];rfl
  | tok=>rw [hnone hl];rfl
  | iter a b=>rw [hnone hl];rfl
  | mp a b=>rw [hnone hl];rfl
theorem exp_arr {tm:Tm} {loc:Lo} {hp:Hp} {d g:Nat} {li:Option Nat} {k:IntKind} {l:List Nat} {f0:Bool} (h:lg loc d=(g,.cells f0 (nl k l))) :
  AM.exp false ⟨tm,loc,hp⟩ (.arr (.loc d g) 0 l.length li 1 false)=some (.slice none false 1 (nl k l),⟨tm,lp loc d (g,.cells true (nl k l)),hp⟩):=by
 have h2:getRow ⟨tm,loc,hp⟩ (.loc d g)=some (.cells f0 (nl k l)):=getRow_loc h
 simp only [exp,exp1,isLoc,Bool.or_true,Bool.false_or,cond_true,freeze,h2]
 have h3:itemsOf ⟨tm,loc,hp⟩ (.arr (.loc d g) 0 l.length li 1 false)=some (nl k l):=getRow_arr h
 rw [h3]
 simp only [noRefsL_nl,cond_true,setRow_loc]
theorem cl_arr2 {f:FuncId} {d g:Nat} {li:Option Nat} {k:IntKind} {l:List Nat} {f0:Bool} {w:V} {tm:Tm} {loc:Lo} {hp h':Hp} {j:V→Lo→Hp→R} {r:V} {n:Nat} (hn:n=l.length) (h:lg loc d=(g,.cells f0 (nl k l)))
  (hc:call f [.slice none false 1 (nl k l),w] hp=some (.val r h')) (hw:Ex1 w):cl call f [.arr (.loc d g) 0 n li 1 false,w] tm loc hp j=j r (lp loc d (g,.cells true (nl k l))) h':=by
 subst hn
 refine cl_val (st:=⟨.lf,lp loc d (g,.cells true (nl k l)),hp⟩) (l:=[.slice none false 1 (nl k l),w]) ?_ hc
 have e2:=exps_ex [w] ⟨.lf,lp loc d (g,.cells true (nl k l)),hp⟩ ⟨hw,trivial⟩
 show exps false ⟨.lf,loc,hp⟩ (.arr (.loc d g) 0 l.length li 1 false::[w])=_
 rw [show ∀ (st:St) (v:V) (r:List V),exps false st (v::r)=(match exp false st v with
  | none=>none
  | some (v',st')=>match exps false st' r with
   | none=>none
   | some (l',st'')=>some (v'::l',st'')) from fun _ _ _=>rfl]
 rw [exp_arr h]
 simp only [e2]
def hset (h:Hp) (r:Nat) (row:Row):Hp:=⟨h.rows.set r row,lower h.dirty r,h.mods+1⟩
def hadd (h:Hp) (row:Row):Hp:=⟨h.rows++[row],h.dirty,h.mods⟩
theorem hset_at (h:Hp) {r:Nat} {row row0:Row} (hr:h.rows[r]? = some row0):(hset h r row).rows[r]? = some row:=by
 have:r<h.rows.length:=by
  rcases Nat.lt_or_ge r h.rows.length with h1 | h1
  ·exact h1
  ·rw [List.getElem?_eq_none h1] at hr;simp at hr
 show (h.rows.set r row)[r]? = _
 rw [List.getElem?_set_self this]
theorem hset_ne (h:Hp) {r i:Nat} {row:Row} (hi:i≠r):(hset h r row).rows[i]? = h.rows[i]?:=by
 show (h.rows.set r row)[i]? = _
 rw [List.getElem?_set_ne (Ne.symm hi)]
theorem hset_len (h:Hp) (r:Nat) (row:Row):(hset h r row).rows.length=h.rows.length:=by
 show (h.rows.set r row).length=_
 rw [List.length_set]
theorem hadd_at (h:Hp) (row:Row):(hadd h row).rows[h.rows.length]? = some row:=by
 show (h.rows++[row])[h.rows.length]? = _
 simp
theorem hadd_lt (h:Hp) {i:Nat} (row:Row) (hi:i<h.rows.length):(hadd h row).rows[i]? = h.rows[i]?:=by
 show (h.rows++[row])[i]? = _
 rw [List.getElem?_append_left hi]
theorem hadd_len (h:Hp) (row:Row):(hadd h row).rows.length=h.rows.length+1:=by
 show (h.rows++[row]).length=_
 simp
theorem getRow_glob {tm:Tm} {loc:Lo} {h:Hp} {r:Nat}:getRow ⟨tm,loc,h⟩ (.glob r)=h.rows[r]?:=rfl
theorem setRow_glob {tm:Tm} {loc:Lo} {h:Hp} {r:Nat} {row:Row}:setRow ⟨tm,loc,h⟩ (.glob r) row=⟨tm,loc,hset h r row⟩:=rfl
theorem gen_store_glob {t:TypeId} {a x r off:Nat} {k:IntKind} {n:Nat} {d:List Nat} (ho:o.op=.store t (.tmp a) (.tmp x)) (hd:o.dst=none) (hax:a≠x) (hl:lenIs P t 1=true)
  (hr:hp.rows[r]? = some (.cells false (nl k d))) (h:off<d.length) :
  gen P C call gl o (pt (pt .lf a (.ptr (.glob r) off)) x (.int k (.ofNat n))) tm loc hp j=j (.tuple []) loc (hset hp r (.cells false (nl k (d.set off n)))):=by
 have ha:gt (pt (pt .lf a (.ptr (.glob r) off)) x (.int k (.ofNat n))) a=.ptr (.glob r) off:=by rw [gt_pt,if_neg (Ne.symm hax),gt_pt,if_pos rfl]
 have hx:gt (pt (pt .lf a (.ptr (.glob r) off)) x (.int k (.ofNat n))) x=.int k (.ofNat n):=by rw [gt_pt,if_pos rfl]
 refine gen_none (v:=.tuple []) (st:=⟨pt (pt .lf a (.ptr (.glob r) off)) x (.int k (.ofNat n)),loc,hset hp r (.cells false (nl k (d.set off n)))⟩) hd ?_
 have hp1:locV P C gl (⟨pt (pt .lf a (.ptr (.glob r) off)) x (.int k (.ofNat n)),loc,hp⟩:St).ρ (⟨pt (pt .lf a (.ptr (.glob r) off)) x (.int k (.ofNat n)),loc,hp⟩:St).lc o=none:=by
  unfold locV
  simp only [ho,opd_gt,ha]
 unfold stepV
 rw [hp1]
 unfold stepG
 have he:exp false ⟨pt (pt .lf a (.ptr (.glob r) off)) x (.int k (.ofNat n)),loc,hp⟩ (.int k (.ofNat n))=some (.int k (.ofNat n),⟨pt (pt .lf a (.ptr (.glob r) off)) x (.int k (.ofNat n)),loc,hp⟩):=rfl
 simp only [ho,opd_gt,ha,hx,hr,he,V.cells,List.all_cons,V.cellOk,List.all_nil,Bool.and_self,List.length_cons,List.length_nil,Nat.zero_add,hl,cond_true,setAt_nl k d off n h,setRow_glob]
def Gr (h:Hp) (v:V) (k:IntKind) (l:List Nat):Prop :=
 (l=[]∧v=.nils)∨(l≠[]∧∃ r,v=.arr (.glob r) 0 l.length none 1 false∧h.rows[r]? = some (.cells false (nl k l)))
theorem gen_growGs {d x y t e b : Nat} (hi : ApI P o d x y t) (hA : C.isArr t = true) (hg : gl d = true) (he : elemT P t = some e) (hl : layE P e = some (1, false)) (hb : byteE P e = some b) (hxy : x ≠ y)
    {loc : Lo} {k : IntKind} {l ys : List Nat} {v w : V} (hv : Gr hp v k l) (hit : ∀ tm, itemsOf ⟨tm, loc, hp⟩ w = some (nl k ys)) (hys : ys ≠ []) (hn : (l.length + ys.length) * b ≤ 70368744177664) :
    ∃ h', (∀ (call : CallF) (tm : Tm) (j : V → Lo → Hp → R), gen P C call gl o (pt (pt .lf x v) y w) tm loc hp j = j (.arr (.glob hp.rows.length) 0 (l.length + ys.length) none 1 false) loc h') ∧
      h'.rows[hp.rows.length]? = some (.cells false (nl k (l ++ ys))) ∧ h'.rows.length = hp.rows.length + 1 ∧
      (∀ i, i < hp.rows.length → v ≠ .arr (.glob i) 0 l.length none 1 false → h'.rows[i]? = hp.rows[i]?) ∧ (h' = hadd hp (.cells false (nl k (l ++ ys))) ∨ ∃ r, v = .arr (.glob r) 0 l.length none 1 false ∧ h' = hadd (hset hp r .gone) (.cells false (nl k (l ++ ys)))) := by
  obtain ⟨hd, c, ho, hc, ha, hty, hni⟩ := hi
  have hx : gt (pt (pt .lf x v) y w) x = v := by rw [gt_pt, if_neg (Ne.symm hxy), gt_pt, if_pos rfl]
  have hy : gt (pt (pt .lf x v) y w) y = w := by rw [gt_pt, if_pos rfl]
  have hp1 : locV P C gl (⟨pt (pt .lf x v) y w, loc, hp⟩ : St).ρ (⟨pt (pt .lf x v) y w, loc, hp⟩ : St).lc o = none := by
    unfold locV
    simp only [ho, pureV, hc, ha, Option.map_none]
  have hne : ∀ {q : Prop}, nl k ys = [] → q := fun h => absurd (by simpa [nl] using h) hys
  have hmb : ∀ n, n ≤ 70368744177664 → Nat.ble n maxBytes = true := fun n h => by rw [Nat.ble_eq]; exact h
  rcases hv with ⟨rfl, rfl⟩ | ⟨hl0, r, rfl, hrow⟩
  · refine ⟨hadd hp (.cells false (nl k ys)), fun call tm j => gen_val (v := .arr (.glob hp.rows.length) 0 (([] : List Nat).length + ys.length) none 1 false) (st := ⟨pt (pt .lf x .nils) y w, loc, hadd hp (.cells false (nl k ys))⟩) hd ?_, hadd_at _ _, hadd_len _ _, fun i hi _ => hadd_lt _ _ hi, .inl rfl⟩
    unfold stepV
    rw [hp1]
    unfold stepG
    simp only [ho, callS, hc, hty, hd, opds, ha, List.map_cons, List.map_nil, opd_gt, hx, hy, hni, cond_true, appendV, he, hl, hb, hit, fits_nl]
    split
    · rename_i h0; exact hne h0
    · rw [hmb _ (by simpa [nl_length] using hn)]
      simp only [cond_true, hA, growArr, hg, Bool.true_and, addRow, flat_nl, noLocL_nl, Bool.not_true, cond_false, nl_length, List.length_nil, Nat.zero_add]
      rfl
  · refine ⟨hadd (hset hp r .gone) (.cells false (nl k (l ++ ys))), fun call tm j => gen_val (v := .arr (.glob hp.rows.length) 0 (l.length + ys.length) none 1 false) (st := ⟨pt (pt .lf x (.arr (.glob r) 0 l.length none 1 false)) y w, loc, hadd (hset hp r .gone) (.cells false (nl k (l ++ ys)))⟩) hd ?_, ?_, ?_, ?_, .inr ⟨r, rfl, rfl⟩⟩
    · unfold stepV
      rw [hp1]
      unfold stepG
      simp only [ho, callS, hc, hty, hd, opds, ha, List.map_cons, List.map_nil, opd_gt, hx, hy, hni, cond_true, appendV, he, hl, hb, hit, fits_nl, getRow_glob, hrow, nl_length, Nat.beq_refl, beq_self_eq_true, Bool.and_self, Nat.zero_add, Nat.mul_one]
      rw [show Nat.ble l.length l.length = true from by rw [Nat.ble_eq]; exact Nat.le_refl _, hmb _ hn]
      simp only [Bool.and_self, cond_true]
      split
      · rename_i h0; exact hne h0
      · simp only [isLoc, Bool.not_false, Bool.true_and, flat_nl, noLocL_nl, Bool.not_true, cond_false]
        rw [show Nat.ble (l.length + ys.length) l.length = false from by
          cases hb : Nat.ble (l.length + ys.length) l.length with
          | false => rfl
          | true => rw [Nat.ble_eq] at hb; have : ys.length ≠ 0 := by simpa using hys
                    omega]
        simp only [cond_false, growArr, hg, Bool.true_and, setRow_glob, addRow, cond_true, hset_len, ← nl_append, noLocL_nl, Bool.not_true]
        rfl
    · have := hadd_at (hset hp r .gone) (.cells false (nl k (l ++ ys)))
      rw [hset_len] at this; exact this
    · rw [hadd_len, hset_len]
    · intro i hi hne
      rw [hadd_lt _ _ (by rw [hset_len]; exact hi)]
      exact hset_ne _ (fun e => hne (by rw [e]))
theorem ldg_nl {t:TypeId} (hl:F.layE P t=some (1,false)) (frz:Bool) (k:IntKind) (d:List Nat) (i:Nat) (h:i<d.length):ldg P t i (some (.cells frz (nl k d)))=some (.int k (.ofNat (d.getD i 0))):=by
 rw [ldg_cells hl,nl_nth k d i h]
theorem gen_empty {d:Nat} {t e:TypeId} {z:V} (hd:o.dst=some d) (ho:o.op=.buildSlice t 0 #[]) (ha:C.isArr t=true) (hg:gl d=false) (he:elemT P t=some e) (hl:layE P e=some (1,false)) (hz:zeroV P e=some z) (hz1:z.live=true) (hz2:z.cells.length=1) :
  gen P C call gl o t' tm loc hp j=j (.arr (.loc d ((lg loc d).1+1)) 0 0 (some 0) 1 false) (lp loc d ((lg loc d).1+1,.cells false [])) hp:=by
 refine gen_val (v:=.arr (.loc d ((lg loc d).1+1)) 0 0 (some 0) 1 false) (st:=⟨t',lp loc d ((lg loc d).1+1,.cells false []),hp⟩) hd ?_
 have hp1:locV P C gl (⟨t',loc,hp⟩:St).ρ (⟨t',loc,hp⟩:St).lc o=none:=by
  unfold locV
  simp only [ho,pureV,he,hl,hz,ha,Bool.not_true,Bool.false_and,cond_false,Option.map_none]
 unfold stepV
 rw [hp1]
 unfold stepG
 simp only [ho,hd,he,hl,hz,opds,List.map_nil,exps,ha,hz1,hz2,hg,addRow,cond_false,lc_lg,aset_lp]
 rfl
theorem gen_clone {d x y t e b s g : Nat} (hi : ApI P o d x y t) (hA : C.isArr t = true) (hg : gl d = true) (he : elemT P t = some e) (hl : layE P e = some (1, false)) (hb : byteE P e = some b) (hxy : x ≠ y)
    {loc : Lo} {k : IntKind} {ys : List Nat} {w : V} (hs : lg loc s = (g, .cells false [])) (hit : ∀ tm, itemsOf ⟨tm, loc, hp⟩ w = some (nl k ys)) (hys : ys ≠ []) (hn : ys.length * b ≤ 70368744177664) (call : CallF) (tm : Tm) (j : V → Lo → Hp → R) :
    gen P C call gl o (pt (pt .lf x (.arr (.loc s g) 0 0 (some 0) 1 false)) y w) tm loc hp j = j (.arr (.glob hp.rows.length) 0 ys.length none 1 false) loc (hadd hp (.cells false (nl k ys))) := by
  obtain ⟨hd, c, ho, hc, ha, hty, hni⟩ := hi
  generalize hv : V.arr (.loc s g) 0 0 (some 0) 1 false = v
  have hx : gt (pt (pt .lf x v) y w) x = v := by rw [gt_pt, if_neg (Ne.symm hxy), gt_pt, if_pos rfl]
  have hy : gt (pt (pt .lf x v) y w) y = w := by rw [gt_pt, if_pos rfl]
  have hp1 : locV P C gl (⟨pt (pt .lf x v) y w, loc, hp⟩ : St).ρ (⟨pt (pt .lf x v) y w, loc, hp⟩ : St).lc o = none := by
    unfold locV
    simp only [ho, pureV, hc, ha, Option.map_none]
  have hne : ∀ {q : Prop}, nl k ys = [] → q := fun h => absurd (by simpa [nl] using h) hys
  have hmb : ∀ n, n ≤ 70368744177664 → Nat.ble n maxBytes = true := fun n h => by rw [Nat.ble_eq]; exact h
  have hrow' : ∀ tm hp, getRow ⟨tm, loc, hp⟩ (.loc s g) = some (.cells false []) := fun tm hp => getRow_loc hs
  refine gen_val (v := .arr (.glob hp.rows.length) 0 ys.length none 1 false) (st := ⟨pt (pt .lf x v) y w, loc, hadd hp (.cells false (nl k ys))⟩) hd ?_
  unfold stepV
  rw [hp1]
  unfold stepG
  simp only [ho, callS, hc, hty, hd, opds, ha, List.map_cons, List.map_nil, opd_gt, hx, hy, hni, cond_true, appendV, he, hl, hb, hit, fits_nl]
  subst hv
  simp only [Nat.beq_refl, beq_self_eq_true, Bool.and_self, cond_true, hrow', Nat.zero_mul, Nat.zero_add, List.length_nil, nl_length]
  rw [hmb _ hn]
  simp only [show Nat.ble 0 0 = true from rfl, Bool.and_self, cond_true]
  split
  · rename_i h0; exact hne h0
  · simp only [isLoc, Bool.not_true, Bool.false_and, cond_false]
    rw [show Nat.ble ys.length 0 = false from by
      cases hb : Nat.ble ys.length 0 with
      | false => rfl
      | true => rw [Nat.ble_eq] at hb; have : ys.length ≠ 0 := by simpa using hys
                omega]
    simp only [cond_false, growArr, hg, Bool.true_and, List.drop_nil, List.take_nil, List.nil_append, flat_nl, noLocL_nl, Bool.not_true, addRow, cond_true]
    rfl
theorem items_sl {k:IntKind} {v:V} {d:List Nat} (h:Sl k v d) (st:St):itemsOf st v=some (nl k d):=by
 rcases h with ⟨f,rfl⟩ | ⟨rfl,rfl⟩<;>rfl
theorem items_glob {tm:Tm} {loc:Lo} {h:Hp} {r off len:Nat} {li:Option Nat} {k:IntKind} {L:List Nat} {f:Bool} (hr:h.rows[r]? = some (.cells f (nl k L))) (hl:off+len≤L.length) :
  itemsOf ⟨tm,loc,h⟩ (.arr (.glob r) off len li 1 false)=some (nl k ((L.drop off).take len)):=by
 simp only [itemsOf,getRow_glob,hr,Nat.mul_one,nl_length]
 rw [show Nat.ble (off+len) L.length=true from by rw [Nat.ble_eq];exact hl]
 simp only [Nat.beq_refl,Bool.or_true,Bool.and_self,cond_true,Option.some.injEq]
 have e1:(nl k L).drop off=nl k (L.drop off):=by simp [nl]
 rw [e1]
 have key:∀ (n:Nat) (l:List Nat),n≤l.length→chunk 1 false n (nl k l)=nl k (l.take n):=by
  intro n
  induction n with
  | zero=>intro l _;rfl
  | succ n ih =>
   intro l hl
   cases l with
   | nil=>simp at hl
   | cons x l =>
    simp only [nl,List.map_cons,List.take_succ_cons,chunk,cond_false,List.headD_cons,List.drop_succ_cons,List.drop_zero]
    rw [show V.unagg (.int k (.ofNat x))=.int k (.ofNat x) from rfl]
    congr 1
    exact ih l (by simpa using hl)
 exact key len (L.drop off) (by simp;omega)
theorem Ex1.glob (r off len:Nat) (li:Option Nat) (sz:Nat) (ag:Bool):Ex1 (.arr (.glob r) off len li sz ag):=fun _=>rfl
theorem slc_arr {t e:TypeId} {ag0:Bool} (he:F.elemT P t=some e) (hl:F.layE P e=some (1,ag0)) (r:Ref) (off len:Nat) (ag:Bool) (k':IntKind) (i:Nat) (hi:i≤len) :
  slc P t (.arr r off len none 1 ag) none (some (.int k' (.ofNat i))) none=some (.arr r off i none 1 ag):=by
 show F.sliceV P t (.arr r off len none 1 ag) none (some (.ofNat i)) none=_
 unfold F.sliceV
 simp only [he,hl,Nat.beq_refl,cond_true]
 unfold F.sliceArr
 simp only [Option.getD_some,F.toNatLe]
 rw [show Nat.ble i len=true from by rw [Nat.ble_eq];exact hi]
 simp only [cond_true,Option.getD_none,show Nat.ble 0 i=true from Nat.ble_eq ▸ Nat.zero_le i,show (Nat.beq 0 0)=true from rfl,Bool.not_true,Bool.and_false,cond_false,Nat.zero_mul,Nat.add_zero,Nat.sub_zero]
theorem gen_two_arr {d x y:Nat} {t:TypeId} {z0 z1 w:V} {r n:Nat} {li:Option Nat} {k:IntKind} {L:List Nat} {f0:Bool} (hd:o.dst=some d) (ho:o.op=.build t #[(0,.tmp x),(1,.tmp y)]) (h2:two P t=true) (hz:zeroV P t=some (.agg [z0,z1])) (hxy:x≠y)
  (hr:hp.rows[r]? = some (.cells f0 (nl k L))) (hn:n≤L.length) (hw:Pl w) :
  gen P C call gl o (pt (pt .lf x (.arr (.glob r) 0 n li 1 false)) y w) tm loc hp j=j (.agg [.slice none false 1 (nl k (L.take n)),w]) loc (hset hp r (.cells true (nl k L))):=by
 unfold two at h2
 split at h2
 ·rename_i fs hu
  split at h2
  ·rename_i f0' f1 hfs
   simp only [Bool.and_eq_true] at h2
   obtain ⟨⟨a0,a1⟩,a2⟩:=h2
   have e:fs = #[f0',f1]:=by apply Array.toList_inj.1;rw [hfs]
   subst e
   split at a2
   ·rename_i a b s0 s1
    simp only [Bool.and_eq_true] at a2
    have b1:a=1:=Nat.eq_of_beq_eq_true a2.1
    have b2:b=1:=Nat.eq_of_beq_eq_true a2.2
    subst b1;subst b2
    have o0:f0'.offset=0:=Nat.eq_of_beq_eq_true a0
    have o1:f1.offset=1:=Nat.eq_of_beq_eq_true a1
    generalize hv:V.arr (.glob r) 0 n li 1 false=v
    have hx:gt (pt (pt .lf x v) y w) x=v:=by rw [gt_pt,if_neg (Ne.symm hxy),gt_pt,if_pos rfl]
    have hy:gt (pt (pt .lf x v) y w) y=w:=by rw [gt_pt,if_pos rfl]
    have i0:(P.info? f0'.type).isSome=true:=by
     unfold szOf at s0
     cases h:P.info? f0'.type with
     | none=>rw [h] at s0;simp at s0
     | some i=>rfl
    have i1:(P.info? f1.type).isSome=true:=by
     unfold szOf at s1
     cases h:P.info? f1.type with
     | none=>rw [h] at s1;simp at s1
     | some i=>rfl
    have e0:fieldOf P t 0=some f0':=by unfold fieldOf;rw [hu];rfl
    have e1:fieldOf P t 1=some f1:=by unfold fieldOf;rw [hu];rfl
    have ea:(#[f0',f1]:Array Field).all (fun f=>(P.info? f.type).isSome)=true:=by simp [i0,i1]
    have hplain:v.weakB.plain=false:=by subst hv;rfl
    refine gen_val (v:=.agg [.slice none false 1 (nl k (L.take n)),w]) (st:=⟨pt (pt .lf x v) y w,loc,hset hp r (.cells true (nl k L))⟩) hd ?_
    have hp1:locV P C gl (⟨pt (pt .lf x v) y w,loc,hp⟩:St).ρ (⟨pt (pt .lf x v) y w,loc,hp⟩:St).lc o=none:=by
     unfold locV
     simp only [ho,pureV,hu,hz,V.live,Bool.true_and]
     rw [ea]
     simp only [cond_true,fillP,e0,opd_gt,hx,hplain,Bool.false_and,cond_false,Option.map_none]
    unfold stepV
    rw [hp1]
    unfold stepG
    have hex:exps true ⟨pt (pt .lf x v) y w,loc,hp⟩ [v,w]=some ([.slice none false 1 (nl k (L.take n)),w],⟨pt (pt .lf x v) y w,loc,hset hp r (.cells true (nl k L))⟩):=by
     subst hv
     have h1:exp true ⟨pt (pt .lf x (.arr (.glob r) 0 n li 1 false)) y w,loc,hp⟩ (.arr (.glob r) 0 n li 1 false)=some (.slice none false 1 (nl k (L.take n)),⟨pt (pt .lf x (.arr (.glob r) 0 n li 1 false)) y w,loc,hset hp r (.cells true (nl k L))⟩):=by
      simp only [exp,exp1,Bool.true_or,cond_true,freeze,getRow_glob,hr]
      have h3:=items_glob (tm:=pt (pt .lf x (.arr (.glob r) 0 n li 1 false)) y w) (loc:=loc) (li:=li) hr (off:=0) (len:=n) (by omega)
      rw [List.drop_zero] at h3
      rw [h3]
      simp only [noRefsL_nl,cond_true,setRow_glob]
     rw [show ∀ (st:St) (v:V) (r:List V),exps true st (v::r)=(match exp true st v with
      | none=>none
      | some (v',st')=>match exps true st' r with
       | none=>none
       | some (l',st'')=>some (v'::l',st'')) from fun _ _ _=>rfl]
     rw [h1]
     simp only [exps,hw.expF]
    have ez:V.cells (.agg [z0,z1])=[z0,z1]:=rfl
    have pls:Pl (.slice none false 1 (nl k (L.take n))):=(Sl.pl (.inl ⟨false,rfl⟩:Sl k (.slice none false 1 (nl k (L.take n))) (L.take n)))
    simp only [ho,opds,List.map_cons,List.map_nil,opd_gt,hx,hy,hu,hz,hex,V.live,Bool.true_and]
    rw [ea]
    simp only [Bool.not_true,cond_false]
    show (match fillP P t (fun i=>[V.slice none false 1 (nl k (L.take n)),w].getD i .dead) [(0,.tmp 0),(1,.tmp 1)] (V.cells (.agg [z0,z1])) with
     | some cs=>some (Res.val (.agg cs) _)
     | none=>none)=_
    have ef:fillP P t (fun i=>[V.slice none false 1 (nl k (L.take n)),w].getD i .dead) [(0,.tmp 0),(1,.tmp 1)] (V.cells (.agg [z0,z1]))=some [.slice none false 1 (nl k (L.take n)),w]:=by
     have q0:AM.opd (fun i=>[V.slice none false 1 (nl k (L.take n)),w].getD i .dead) (.tmp 0)=.slice none false 1 (nl k (L.take n)):=rfl
     have q1:AM.opd (fun i=>[V.slice none false 1 (nl k (L.take n)),w].getD i .dead) (.tmp 1)=w:=rfl
     simp only [fillP,e0,e1,q0,q1,pls.weak,pls.plain,pls.cells,hw.weak,hw.plain,hw.cells,s0,s1,o0,o1,ez,Option.getD_some,List.length_cons,List.length_nil]
     rfl
    rw [ef]
   ·simp at a2
  ·simp at h2
 ·simp at h2
theorem fin_cellH {h:Hp} {a t d g:Nat} {f:Bool} {s:St} {x y:V} (hl:layE P t=some (2,true)) (hv:gt s.tm a=.ptr (.loc d g) 0) (hr:lg s.loc d=(g,.cells f [x,y])) (hx:Pl x) (hy:Pl y) :
  fin P h [.cell a t] s=some (.val (.agg [x,y]) (backHp h s.hp [.agg [x,y]])):=by
 unfold fin
 have e1:resV P s [.cell a t]=some [.agg [x,y]]:=by
  simp only [resV,rho_gt,hv,getRow_loc hr,partV,hl]
  rfl
 rw [e1]
 simp only [exps,exp_agg (cs:=[x,y]) (by intro v hv;simp at hv;rcases hv with rfl | rfl<;>assumption)]
def DG (n:Nat) (h:Hp):Prop:=∀ x,h.dirty=some x→n≤x
theorem DG.set {n:Nat} {h:Hp} (hd:DG n h) {r:Nat} (hr:n≤r) (row:Row):DG n (hset h r row):=by
 intro x hx
 have hx:lower h.dirty r=some x:=hx
 cases hq:h.dirty with
 | none=>rw [hq] at hx;simp [lower] at hx;omega
 | some y =>
  have:=hd y hq
  rw [hq] at hx
  simp [lower] at hx
  omega
theorem DG.add {n:Nat} {h:Hp} (hd:DG n h) (row:Row):DG n (hadd h row):=hd
theorem DG.back {n:Nat} {h h':Hp} (h1:DG n h) (h2:DG n h') (l:List V):DG n (backHp h h' l):=by
 unfold backHp
 cases cleanB h h' with
 | true =>
  cases V.noRefsL l with
  | true=>exact h1
  | false=>exact h1
 | false =>
  intro x hx
  simp only [cond_false] at hx
  cases ha:h.dirty with
  | none=>rw [ha] at hx;exact h2 x hx
  | some a =>
   cases hb:h'.dirty with
   | none=>rw [ha,hb] at hx;simp at hx;have:=h1 a ha;omega
   | some b =>
    rw [ha,hb] at hx
    have e1:=h1 a ha;have e2:=h2 b hb
    simp at hx
    omega
theorem back_rows {h h':Hp} {l:List V} (hl:V.noRefsL l=false):(backHp h h' l).rows=h'.rows:=by
 unfold backHp
 rw [hl]
 cases cleanB h h'<;>rfl
def Gs (h:Hp) (v:V) (k:IntKind) (l:List Nat):Prop :=
 (l=[]∧v=.nils)∨(∃ r L,v=.arr (.glob r) 0 l.length none 1 false∧h.rows[r]? = some (.cells false (nl k L))∧L.take l.length=l∧l.length≤L.length∧0<L.length)
theorem Gs.items {h:Hp} {v:V} {k:IntKind} {l:List Nat} (hv:Gs h v k l) (tm:Tm) (loc:Lo):itemsOf ⟨tm,loc,h⟩ v=some (nl k l):=by
 rcases hv with ⟨rfl,rfl⟩ | ⟨r,L,rfl,hr,ht,hl,_⟩
 ·rfl
 ·have:=items_glob (tm:=tm) (loc:=loc) (li:=none) hr (off:=0) (len:=l.length) (by omega)
  rw [List.drop_zero,ht] at this
  exact this
structure Pushed (hp h':Hp) (v v':V) (k:IntKind) (l l':List Nat):Prop where
 gs:Gs h' v' k l'
 len:hp.rows.length≤h'.rows.length
 same:∀ i,i<hp.rows.length→v≠.arr (.glob i) 0 l.length none 1 false→h'.rows[i]? = hp.rows[i]?
 dg:∀ n0,DG n0 hp→(∀ r,v=.arr (.glob r) 0 l.length none 1 false→n0≤r)→n0≤hp.rows.length→DG n0 h'∧∀ r,v'=.arr (.glob r) 0 l'.length none 1 false→n0≤r
theorem gen_pushG {d x y t e b:Nat} (hi:ApI P o d x y t) (hA:C.isArr t=true) (hg:gl d=true) (he:elemT P t=some e) (hl:layE P e=some (1,false)) (hb:byteE P e=some b) (hxy:x≠y)
  {loc:Lo} {k:IntKind} {l:List Nat} {v w:V} {n:Nat} (hv:Gs hp v k l) (hit:∀ tm,itemsOf ⟨tm,loc,hp⟩ w=some (nl k [n])) (hn:(l.length+1)*b≤70368744177664) :
  ∃ v' h',(∀ (call:CallF) (tm:Tm) (j:V→Lo→Hp→R),gen P C call gl o (pt (pt .lf x v) y w) tm loc hp j=j v' loc h')∧Pushed hp h' v v' k l (l++[n]):=by
 have grow:∀ (hv:Gr hp v k l),∃ v' h',(∀ (call:CallF) (tm:Tm) (j:V→Lo→Hp→R),gen P C call gl o (pt (pt .lf x v) y w) tm loc hp j=j v' loc h')∧Pushed hp h' v v' k l (l++[n]):=by
  intro hv
  obtain ⟨h',h1,h2,h3,h4,h5⟩:=gen_growGs (P:=P) (C:=C) (gl:=gl) (o:=o) hi hA hg he hl hb hxy hv hit (by simp) (by simpa using hn)
  refine ⟨_,h',h1,⟨.inr ⟨hp.rows.length,l++[n],by simp,h2,by rw [List.take_length],Nat.le_refl _,by simp⟩,by omega,h4,fun n0 a b c=>?_⟩⟩
  have e:DG n0 h':=by
   rcases h5 with rfl | ⟨r,hr,rfl⟩
   ·exact a
   ·exact DG.add (a.set (b r hr) .gone) _
  exact ⟨e,fun r hr=>by injection hr with h1;injection h1 with h1;omega⟩
 rcases hv with h | ⟨r,L,rfl,hrow,ht,hlL,hL0⟩
 ·exact grow (.inl h)
 ·by_cases hfull:l.length=L.length
  ·have e:L=l:=by rw [←ht,hfull,List.take_length]
   subst e
   exact grow (.inr ⟨by intro h;rw [h] at hL0;simp at hL0,r,rfl,hrow⟩)
  ·obtain ⟨hd,c,ho,hc,ha,hty,hni⟩:=hi
   generalize hvv:V.arr (.glob r) 0 l.length none 1 false=v at *
   have hx:gt (pt (pt .lf x v) y w) x=v:=by rw [gt_pt,if_neg (Ne.symm hxy),gt_pt,if_pos rfl]
   have hy:gt (pt (pt .lf x v) y w) y=w:=by rw [gt_pt,if_pos rfl]
   have hp1:locV P C gl (⟨pt (pt .lf x v) y w,loc,hp⟩:St).ρ (⟨pt (pt .lf x v) y w,loc,hp⟩:St).lc o=none:=by
    unfold locV
    simp only [ho,pureV,hc,ha,Option.map_none]
   have hmb:∀ n,n≤70368744177664→Nat.ble n maxBytes=true:=fun n h=>by rw [Nat.ble_eq];exact h
   refine ⟨.arr (.glob r) 0 (l.length+1) none 1 false,hset hp r (.cells false (nl k (L.set l.length n))),fun call tm j=>gen_val (st:=⟨pt (pt .lf x v) y w,loc,hset hp r (.cells false (nl k (L.set l.length n)))⟩) hd ?_,⟨.inr ⟨r,L.set l.length n,by simp,hset_at _ hrow,?_,by simp;omega,by simpa using hL0⟩,by rw [hset_len];exact Nat.le_refl _,fun i hi hne=>hset_ne _ (fun e=>hne (by rw [←hvv,e])),fun n0 a b c=>⟨a.set (b r hvv.symm) _,fun r' hr'=>by injection hr' with h1;injection h1 with h1;have:=b r hvv.symm;omega⟩⟩⟩
   ·unfold stepV
    rw [hp1]
    unfold stepG
    simp only [ho,callS,hc,hty,hd,opds,ha,List.map_cons,List.map_nil,opd_gt,hx,hy,hni,cond_true,appendV,he,hl,hb,hit,fits_nl]
    subst hvv
    simp only [getRow_glob,hrow,nl_length,Nat.beq_refl,beq_self_eq_true,Bool.and_self,Nat.zero_add,Nat.mul_one,List.length_cons,List.length_nil]
    rw [show Nat.ble l.length L.length=true from by rw [Nat.ble_eq];exact hlL,hmb _ hn]
    simp only [Bool.and_self,cond_true]
    rw [show nl k [n]=[V.int k (.ofNat n)] from rfl]
    simp only [isLoc,Bool.not_false,Bool.true_and]
    have hfl:flat [V.int k (Int.ofNat n)]=[V.int k (Int.ofNat n)]:=rfl
    rw [hfl,show (!V.noLocL [V.int k (Int.ofNat n)])=false from rfl]
    simp only [cond_false]
    rw [show Nat.ble (l.length+1) L.length=true from by rw [Nat.ble_eq];omega]
    simp only [cond_true,setAt_nl k L l.length n (by omega),setRow_glob]
   ·rw [List.length_append,List.length_cons,List.length_nil,List.take_add_one,List.getElem?_set_self (by omega),List.take_set,List.set_eq_of_length_le (by simp;omega),ht]
    rfl
theorem ldF_glob (r o:Nat):ldF (.ptr (.glob r) o)=⟨[],[],true,false,true,false⟩:=rfl
theorem genD_store_glob {t : TypeId} {a x r off n : Nat} {k : IntKind} {d : List Nat} {t' : Tm} {J : JD} {X : XD} (ho : o.op = .store t (.tmp a) (.tmp x)) (hd : o.dst = none) (hl : lenIs P t 1 = true) (ha : gt t' a = .ptr (.glob r) off) (hx : gt t' x = .int k (.ofNat n))
    (hr : hp.rows[r]? = some (.cells false (nl k d))) (h : off < d.length) :
    genD P C call gl o t' loc hp J X = J (.tuple []) ⟨[], [], true, true, false, false⟩ loc (hset hp r (.cells false (nl k (d.set off n)))) := by
  have hp1 : locV P C gl (⟨t', loc, hp⟩ : St).ρ (⟨t', loc, hp⟩ : St).lc o = none := by
    unfold locV
    simp only [ho, opd_gt, ha]
  have hf : footV P C gl (⟨t', loc, hp⟩ : St).ρ (⟨t', loc, hp⟩ : St).lc o = some ⟨[], [], true, true, false, false⟩ := by
    unfold footV
    rw [hp1]
    simp only [ho, opd_gt, ha, hx]
    rfl
  have hs : stepV P C gl ⟨t', loc, hp⟩ o = some (.val (.tuple []) ⟨t', loc, hset hp r (.cells false (nl k (d.set off n)))⟩) := by
    unfold stepV
    rw [hp1]
    unfold stepG
    have he : exp false ⟨t', loc, hp⟩ (.int k (.ofNat n)) = some (.int k (.ofNat n), ⟨t', loc, hp⟩) := rfl
    simp only [ho, opd_gt, ha, hx, hr, he, V.cells, List.all_cons, V.cellOk, List.all_nil, Bool.and_self, List.length_cons, List.length_nil, Nat.zero_add, hl, cond_true, setAt_nl k d off n h, setRow_glob]
  unfold genD
  rw [F.e_footV, F.e_oneV, F.e_rho, F.e_lcf, hf]
  show G.onSome (oneV P C call gl ⟨t', loc, hp⟩ o) _ none = _
  unfold oneV
  rw [hs]
  simp only [putV, hd]
  show J (.tuple []) (F.settle hp (hset hp r (.cells false (nl k (d.set off n)))) ⟨[], [], true, true, false, false⟩) loc (hset hp r (.cells false (nl k (d.set off n)))) = _
  have : F.settle hp (hset hp r (.cells false (nl k (d.set off n)))) ⟨[], [], true, true, false, false⟩ = ⟨[], [], true, true, false, false⟩ := by
    unfold F.settle
    have e : Nat.beq (hset hp r (.cells false (nl k (d.set off n)))).mods hp.mods = false := by
      cases hb : Nat.beq (hset hp r (.cells false (nl k (d.set off n)))).mods hp.mods with
      | false => rfl
      | true => have h2 : hp.mods + 1 = hp.mods := Nat.eq_of_beq_eq_true hb
                omega
    rw [e]; rfl
  rw [this]
theorem dc_true (i:Decidable True):@decide True i=true:=decide_eq_true trivial
theorem dc_false (i:Decidable False):@decide False i=false:=decide_eq_false (fun h=>h)
attribute [go_sem] ldF_glob ldF_loc ldF_iptr bin_shr32 bin_shr64 bin_shl64 i_sub32 i_and32 i_xor32 un_xor32 i_geq_neg wrap_i64_neg mx_neg mx_pos mn_neg dc_true dc_false cells_agg beq_self_eq_true Nat.zero_add Nat.reduceAdd mx_n mn_n gt_pt lg_lp lg_lf lg_unfold lp_unfold bin_n i_add i_mul i_lss i_gtr i_leq i_geq i_eql i_neq bO_some jn_eq brB_true brB_false wv_t wv_f pick_true pick_false un_not ext_tuple nth_zero nth_succ len_slice len_arr len_nils len_str nl_length ld_loc ld_glob cvt_int bx_agg one_int stL_stc wrap_i64 wrap_u64 wrap_u32 wrap_u8 wrap_i32 i_sub i_quo i_rem i_shr64 i_shr32 i_shl64 i_or64 i_or32
section
variable {P:Program} {kn:Kn} {tbl:Nat→Option Fc} {f:CallF→Tm→Lo→Hp→K→R} {s:St} {tm':Tm} {loc':Lo} {hp':Hp} {N:St→Prop} {X:Nat→St→Prop} {Q:St→Prop} {a b:RC} {p p1 p2 p3:Prop}
theorem sS  (h:p:=by simp -implicitDefEqProofs (disch:=omega) only [go_sem,reduceIte,Nat.reduceEqDiff]):p:=h
theorem sE  (hq:N ⟨tm',loc',hp'⟩) (h:∀ n k,f (fn P kn tbl n) s.tm s.loc s.hp k=k tm' loc' hp':=by intro  n k;simp -implicitDefEqProofs (disch:=omega) only [go_sem,reduceIte,Nat.reduceEqDiff];rfl):WW P kn tbl (.reg f) s N X Q:=ww_reg (h ) hq
theorem sR  (hq:WW P kn tbl b ⟨tm',loc',hp'⟩ N X Q) (h:∀ n k,f (fn P kn tbl n) s.tm s.loc s.hp k=k tm' loc' hp':=by intro  n k;simp -implicitDefEqProofs (disch:=omega) only [go_sem,reduceIte,Nat.reduceEqDiff];rfl):WW P kn tbl (.seq (.reg f) b) s N X Q:=ww_seq (ww_reg (h ) hq)
theorem sS1 (x1:p1) (h:p1→p:=by intro x1;simp -implicitDefEqProofs (disch:=omega) only [go_sem,reduceIte,Nat.reduceEqDiff,x1]):p:=h x1
theorem sE1 (x1:p1) (hq:N ⟨tm',loc',hp'⟩) (h:p1→∀ n k,f (fn P kn tbl n) s.tm s.loc s.hp k=k tm' loc' hp':=by intro x1 n k;simp -implicitDefEqProofs (disch:=omega) only [go_sem,reduceIte,Nat.reduceEqDiff,x1];rfl):WW P kn tbl (.reg f) s N X Q:=ww_reg (h x1) hq
theorem sR1 (x1:p1) (hq:WW P kn tbl b ⟨tm',loc',hp'⟩ N X Q) (h:p1→∀ n k,f (fn P kn tbl n) s.tm s.loc s.hp k=k tm' loc' hp':=by intro x1 n k;simp -implicitDefEqProofs (disch:=omega) only [go_sem,reduceIte,Nat.reduceEqDiff,x1];rfl):WW P kn tbl (.seq (.reg f) b) s N X Q:=ww_seq (ww_reg (h x1) hq)
theorem sQ1 (x1:p1) (hq:WW P kn tbl a ⟨tm',loc',hp'⟩ (fun s1=>WW P kn tbl b s1 N X Q) X Q) (h:p1→∀ n k,f (fn P kn tbl n) s.tm s.loc s.hp k=k tm' loc' hp':=by intro x1 n k;simp -implicitDefEqProofs (disch:=omega) only [go_sem,reduceIte,Nat.reduceEqDiff,x1];rfl):WW P kn tbl (.seq (.seq (.reg f) a) b) s N X Q:=ww_seq (ww_seq (ww_reg (h x1) hq))
theorem sS2 (x1:p1) (x2:p2) (h:p1→p2→p:=by intro x1 x2;simp -implicitDefEqProofs (disch:=omega) only [go_sem,reduceIte,Nat.reduceEqDiff,x1,x2]):p:=h x1 x2
theorem sE2 (x1:p1) (x2:p2) (hq:N ⟨tm',loc',hp'⟩) (h:p1→p2→∀ n k,f (fn P kn tbl n) s.tm s.loc s.hp k=k tm' loc' hp':=by intro x1 x2 n k;simp -implicitDefEqProofs (disch:=omega) only [go_sem,reduceIte,Nat.reduceEqDiff,x1,x2];rfl):WW P kn tbl (.reg f) s N X Q:=ww_reg (h x1 x2) hq
theorem sR2 (x1:p1) (x2:p2) (hq:WW P kn tbl b ⟨tm',loc',hp'⟩ N X Q) (h:p1→p2→∀ n k,f (fn P kn tbl n) s.tm s.loc s.hp k=k tm' loc' hp':=by intro x1 x2 n k;simp -implicitDefEqProofs (disch:=omega) only [go_sem,reduceIte,Nat.reduceEqDiff,x1,x2];rfl):WW P kn tbl (.seq (.reg f) b) s N X Q:=ww_seq (ww_reg (h x1 x2) hq)
theorem sQ2 (x1:p1) (x2:p2) (hq:WW P kn tbl a ⟨tm',loc',hp'⟩ (fun s1=>WW P kn tbl b s1 N X Q) X Q) (h:p1→p2→∀ n k,f (fn P kn tbl n) s.tm s.loc s.hp k=k tm' loc' hp':=by intro x1 x2 n k;simp -implicitDefEqProofs (disch:=omega) only [go_sem,reduceIte,Nat.reduceEqDiff,x1,x2];rfl):WW P kn tbl (.seq (.seq (.reg f) a) b) s N X Q:=ww_seq (ww_seq (ww_reg (h x1 x2) hq))
theorem sE3 (x1:p1) (x2:p2) (x3:p3) (hq:N ⟨tm',loc',hp'⟩) (h:p1→p2→p3→∀ n k,f (fn P kn tbl n) s.tm s.loc s.hp k=k tm' loc' hp':=by intro x1 x2 x3 n k;simp -implicitDefEqProofs (disch:=omega) only [go_sem,reduceIte,Nat.reduceEqDiff,x1,x2,x3];rfl):WW P kn tbl (.reg f) s N X Q:=ww_reg (h x1 x2 x3) hq
theorem sR3 (x1:p1) (x2:p2) (x3:p3) (hq:WW P kn tbl b ⟨tm',loc',hp'⟩ N X Q) (h:p1→p2→p3→∀ n k,f (fn P kn tbl n) s.tm s.loc s.hp k=k tm' loc' hp':=by intro x1 x2 x3 n k;simp -implicitDefEqProofs (disch:=omega) only [go_sem,reduceIte,Nat.reduceEqDiff,x1,x2,x3];rfl):WW P kn tbl (.seq (.reg f) b) s N X Q:=ww_seq (ww_reg (h x1 x2 x3) hq)
theorem sQ3 (x1:p1) (x2:p2) (x3:p3) (hq:WW P kn tbl a ⟨tm',loc',hp'⟩ (fun s1=>WW P kn tbl b s1 N X Q) X Q) (h:p1→p2→p3→∀ n k,f (fn P kn tbl n) s.tm s.loc s.hp k=k tm' loc' hp':=by intro x1 x2 x3 n k;simp -implicitDefEqProofs (disch:=omega) only [go_sem,reduceIte,Nat.reduceEqDiff,x1,x2,x3];rfl):WW P kn tbl (.seq (.seq (.reg f) a) b) s N X Q:=ww_seq (ww_seq (ww_reg (h x1 x2 x3) hq))
theorem sSG  (h:p:=by simp -implicitDefEqProofs (disch:=omega) only [go_sem,reduceIte,Nat.reduceEqDiff,gt_start,List.getD_cons_zero,List.getD_cons_succ]):p:=h
theorem sEG  (hq:N ⟨tm',loc',hp'⟩) (h:∀ n k,f (fn P kn tbl n) s.tm s.loc s.hp k=k tm' loc' hp':=by intro  n k;simp -implicitDefEqProofs (disch:=omega) only [go_sem,reduceIte,Nat.reduceEqDiff,gt_start,List.getD_cons_zero,List.getD_cons_succ];rfl):WW P kn tbl (.reg f) s N X Q:=ww_reg (h ) hq
theorem sRG  (hq:WW P kn tbl b ⟨tm',loc',hp'⟩ N X Q) (h:∀ n k,f (fn P kn tbl n) s.tm s.loc s.hp k=k tm' loc' hp':=by intro  n k;simp -implicitDefEqProofs (disch:=omega) only [go_sem,reduceIte,Nat.reduceEqDiff,gt_start,List.getD_cons_zero,List.getD_cons_succ];rfl):WW P kn tbl (.seq (.reg f) b) s N X Q:=ww_seq (ww_reg (h ) hq)
theorem sQG  (hq:WW P kn tbl a ⟨tm',loc',hp'⟩ (fun s1=>WW P kn tbl b s1 N X Q) X Q) (h:∀ n k,f (fn P kn tbl n) s.tm s.loc s.hp k=k tm' loc' hp':=by intro  n k;simp -implicitDefEqProofs (disch:=omega) only [go_sem,reduceIte,Nat.reduceEqDiff,gt_start,List.getD_cons_zero,List.getD_cons_succ];rfl):WW P kn tbl (.seq (.seq (.reg f) a) b) s N X Q:=ww_seq (ww_seq (ww_reg (h ) hq))
end
end Go.AM.S
end
section
namespace Go.AM.S
open Go Go.AM Go.Proofs
open _root_.Go.AM.G (R)
set_option maxRecDepth 100000
set_option linter.defProp false
noncomputable section
def go1 (F:Func) (f id i x:Nat) (v:V) (c:CallF) (t:Tm) (l:Lo) (h:Hp) (j:V→Lo→Hp→R):R:=gn F f id i c (pt .lf x v) t l h j
def go2 (F:Func) (f id i x y:Nat) (v w:V) (c:CallF) (t:Tm) (l:Lo) (h:Hp) (j:V→Lo→Hp→R):R:=gn F f id i c (pt (pt .lf x v) y w) t l h j
theorem gn_go1 {F:Func} {f id i x:Nat} {c:CallF} {t' t:Tm} {l:Lo} {h:Hp} {j:V→Lo→Hp→R} (ht:tmpsOf (opA F id i)=[x]):gn F f id i c t' t l h j=go1 F f id i x (gt t' x) c t l h j :=
 gen_slots (fun y hy=>by rw [ht] at hy;rw [List.mem_singleton.1 hy,gt_pt,if_pos rfl])
theorem gn_go1' {F:Func} {f id i x:Nat} {c:CallF} {t' t:Tm} {l:Lo} {h:Hp} {j:V→Lo→Hp→R} (ht:tmpsOf (opA F id i)=[x,x]):gn F f id i c t' t l h j=go1 F f id i x (gt t' x) c t l h j :=
 gen_slots (fun y hy=>by
  rw [ht] at hy
  have:y=x:=by simpa using hy
  rw [this,gt_pt,if_pos rfl])
theorem gn_go2 {F:Func} {f id i x y:Nat} {c:CallF} {t' t:Tm} {l:Lo} {h:Hp} {j:V→Lo→Hp→R} (ht:tmpsOf (opA F id i)=[x,y]) (hxy:x≠y):gn F f id i c t' t l h j=go2 F f id i x y (gt t' x) (gt t' y) c t l h j :=
 gen_slots (fun q hq=>by
  rw [ht] at hq
  rcases List.mem_cons.1 hq with rfl | hq
  ·rw [gt_pt,if_neg (Ne.symm hxy),gt_pt,if_pos rfl]
  ·rw [List.mem_singleton.1 hq,gt_pt,if_pos rfl])
abbrev M1 (F:Func) (f i k x:Nat):Prop:=∀ (c:CallF) (t' t:Tm) (l:Lo) (h:Hp) (j:V→Lo→Hp→R),gn F f i k c t' t l h j=go1 F f i k x (gt t' x) c t l h j
theorem mk1 {F:Func} {f i k x:Nat} (ht:tmpsOf (opA F i k)=[x]):M1 F f i k x:=fun _ _ _ _ _ _=>gn_go1 ht
theorem mk1d {F:Func} {f i k x:Nat} (ht:tmpsOf (opA F i k)=[x,x]):M1 F f i k x:=fun _ _ _ _ _ _=>gn_go1' ht
abbrev M2 (F:Func) (f i k x y:Nat):Prop:=∀ (c:CallF) (t' t:Tm) (l:Lo) (h:Hp) (j:V→Lo→Hp→R),gn F f i k c t' t l h j=go2 F f i k x y (gt t' x) (gt t' y) c t l h j
theorem mk2 {F:Func} {f i k x y:Nat} (ht:tmpsOf (opA F i k)=[x,y]) (hxy:x≠y):M2 F f i k x y:=fun _ _ _ _ _ _=>gn_go2 ht hxy
abbrev NC (F:Func) (f i k:Nat) (kd:IntKind) (x:Nat):Prop:=∀ (c:CallF) (t' t:Tm) (l:Lo) (h:Hp) (j:V→Lo→Hp→R),gn F f i k c t' t l h j=cvt kd (gt t' x) (fun v=>j v l h)
theorem mkC {F:Func} {f i k d x:Nat} {s t:TypeId} {ks kd:IntKind} (hd:(opA F i k).dst=some d) (ho:(opA F i k).op=.convert s t (.tmp x)) (h1:Pg.underlying s=some (.int ks)) (h2:Pg.underlying t=some (.int kd)):NC F f i k kd x:=fun _ _ _ _ _ _=>gen_convert' hd ho h1 h2
abbrev NB (F:Func) (f i k d x:Nat):Prop:=∀ (c:CallF) (t' t:Tm) (l:Lo) (h:Hp) (j:V→Lo→Hp→R),gn F f i k c t' t l h j=bx d (gt t' x) l (fun v l=>j v l h)
theorem mkB {F:Func} {f i k d x:Nat} {t:TypeId} (hd:(opA F i k).dst=some d) (ho:(opA F i k).op=.box t (.tmp x)) (ha:Cg.isArr t=false) (hg:Cg.glob f d=false):NB F f i k d x:=fun _ _ _ _ _ _=>gen_box' hd ho ha hg
abbrev PE (p:Tm→V→Tm) (i:Nat):Prop:=∀ (t:Tm) (v:V),p t v=pt t i v
abbrev GE (g:Tm→V) (i:Nat):Prop:=∀ t:Tm,g t=gt t i
abbrev DS (F:Func) (f i k a x ty:Nat):Prop:=∀ (s g off:Nat) (v:V) (c:CallF) (t:Tm) (l:Lo) (h:Hp) (J:JD) (X:XD),gD F f i k c (pt (pt t a (.ptr (.loc s g) off)) x v) l h J X=stc Pg ty g off v (lg l s) (fun row=>J (.tuple []) ⟨[s],[s],false,false,false,false⟩ (lp l s row) h)
theorem mkS {F:Func} {f i k a x ty:Nat} (ho:(opA F i k).op=.store ty (.tmp a) (.tmp x)) (hd:(opA F i k).dst=none) (hax:x≠a):DS F f i k a x ty:=fun s g off v c t l h J X=>by
 have h1:gt (pt (pt t a (.ptr (.loc s g) off)) x v) a=.ptr (.loc s g) off:=by rw [gt_pt,if_neg hax,gt_pt,if_pos rfl]
 have h2:gt (pt (pt t a (.ptr (.loc s g) off)) x v) x=v:=by rw [gt_pt,if_pos rfl]
 have h3:=genD_store (C:=Cg) (P:=Pg) (gl:=Cg.glob f) (call:=c) (loc:=l) (hp:=h) (J:=J) (X:=X) ho hd h1
 rw [h2] at h3
 exact h3
abbrev QO (F:Func) (f i k x d:Nat):Prop:=∀ (c:CallF) (t:Tm) (l:Lo) (h:Hp) (j:V→Lo→Hp→R) (q:IntKind) (n:Nat),go1 F f i k x (.int q (.ofNat n)) c t l h j=j (.arr (.loc d ((lg l d).1+1)) 0 1 (some 1) 1 false) (lp l d ((lg l d).1+1,.cells false (nl q [n]))) h
theorem mkO {F:Func} {f i k x d:Nat} {t e:TypeId} {k0:IntKind} {n0:Int} (hd:(opA F i k).dst=some d) (ho:(opA F i k).op=.buildSlice t 1 #[(0,.tmp x)]) (ha:Cg.isArr t=true) (hg:Cg.glob f d=false) (he:elemT Pg t=some e) (hl:layE Pg e=some (1,false)) (hz:zeroV Pg e=some (.int k0 n0)):QO F f i k x d :=
 fun c tm l h j q n=>gen_one1 (C:=Cg) (gl:=Cg.glob f) (call:=c) (tm:=tm) (loc:=l) (hp:=h) (j:=j) (t':=pt .lf x (.int q (.ofNat n))) (k:=q) (n:=n) (x:=.tmp x) hd ho ha hg he hl hz (by rw [opd_gt,gt_pt,if_pos rfl])
abbrev AP (F:Func) (f i k x y d:Nat):Prop:=∀ {loc:Lo} {q:IntKind} {l:List Nat} {v:V} (n:Nat) (hv:Ar loc d v q l) (hn:l.length≤1000000000),∃ v' loc',(∀ (c:CallF) (tm:Tm) (hp:Hp) (j:V→Lo→Hp→R),go2 F f i k x y v (.arr (.loc y ((lg loc y).1+1)) 0 1 (some 1) 1 false) c tm (lp loc y ((lg loc y).1+1,.cells false (nl q [n]))) hp j=j v' loc' hp)∧Ar loc' d v' q (l++[n])∧∀ i,i≠d→i≠y→lg loc' i=lg loc i
theorem mkP {F:Func} {f i k x y d:Nat} {t e b:Nat} (hi:ApI Pg (opA F i k) d x y t) (hA:Cg.isArr t=true) (hg:Cg.glob f d=false) (he:elemT Pg t=some e) (hl:layE Pg e=some (1,false)) (hb:byteE Pg e=some b) (hxy:x≠y) (hyd:y≠d) (hb8:b≤8):AP F f i k x y d:=fun {loc q l v} n hv hn=>gen_push hi hA hg he hl hb hxy hyd n hv (by have:=Nat.mul_le_mul_left (l.length+1) hb8;omega)
abbrev APT (F:Func) (f i k x y d:Nat):Prop:=∀ {loc:Lo} {q:IntKind} {l:List Nat} {v:V} (ys:List Nat) (tk:Option Ref) (fu:Bool) (hv:Tk loc d v q l) (hy:ys≠[]) (hn:l.length+ys.length≤1000000000),∃ v' loc',(∀ (c:CallF) (tm:Tm) (hp:Hp) (j:V→Lo→Hp→R),go2 F f i k x y v (.slice tk fu 1 (nl q ys)) c tm loc hp j=j v' loc' hp)∧Tk loc' d v' q (l++ys)∧∀ i,i≠d→lg loc' i=lg loc i
theorem mkPT {F:Func} {f i k x y d:Nat} {t e b:Nat} (hi:ApI Pg (opA F i k) d x y t) (hA:Cg.isArr t=false) (hg:Cg.glob f d=false) (he:elemT Pg t=some e) (hl:layE Pg e=some (1,false)) (hb:byteE Pg e=some b) (hxy:x≠y) (hb8:b≤8):APT F f i k x y d:=fun {loc q l v} ys tk fu hv hy hn=>gen_pushT hi hA hg he hl hb hxy hv hy (by have:=Nat.mul_le_mul_left (l.length+ys.length) hb8;omega)
theorem sto_loc (t s g off:Nat) (x:V) (loc:Lo) (hp:Hp) (j:V→Lo→Hp→R) (slow:R):sto t (.ptr (.loc s g) off) x loc hp j slow=stL Pg t s g off x loc (fun loc=>j (.tuple []) loc hp):=rfl
theorem sto_glob (t r off:Nat) (x:V) (loc:Lo) (hp:Hp) (j:V→Lo→Hp→R) (slow:R):sto t (.ptr (.glob r) off) x loc hp j slow=slow:=rfl
theorem jE_eq (c:List (Nat × V)) (f:List (Nat × V)→R):jE c f=f c:=rfl
theorem jF_eq (c:List Foot) (f:List Foot→R):jF c f=f c:=rfl
theorem I_eq (n:Nat):I n=.int .i64 (.ofNat n):=rfl
end
attribute [go_sem] sto_loc sto_glob I_eq jE_eq jF_eq
theorem g0_:GE g0 0:=fun _=>rfl
theorem g1_:GE g1 1:=fun _=>rfl
theorem g2_:GE g2 2:=fun _=>rfl
theorem g3_:GE g3 3:=fun _=>rfl
theorem g4_:GE g4 4:=fun _=>rfl
theorem g5_:GE g5 5:=fun _=>rfl
theorem g6_:GE g6 6:=fun _=>rfl
theorem g7_:GE g7 7:=fun _=>rfl
theorem g8_:GE g8 8:=fun _=>rfl
theorem g9_:GE g9 9:=fun _=>rfl
theorem g10_:GE g10 10:=fun _=>rfl
theorem g11_:GE g11 11:=fun _=>rfl
theorem g12_:GE g12 12:=fun _=>rfl
theorem g13_:GE g13 13:=fun _=>rfl
theorem g14_:GE g14 14:=fun _=>rfl
theorem g15_:GE g15 15:=fun _=>rfl
theorem g20_:GE g20 20:=fun _=>rfl
theorem g21_:GE g21 21:=fun _=>rfl
theorem g22_:GE g22 22:=fun _=>rfl
theorem g28_:GE g28 28:=fun _=>rfl
theorem g29_:GE g29 29:=fun _=>rfl
theorem g30_:GE g30 30:=fun _=>rfl
theorem g41_:GE g41 41:=fun _=>rfl
theorem g42_:GE g42 42:=fun _=>rfl
theorem g57_:GE g57 57:=fun _=>rfl
theorem g70_:GE g70 70:=fun _=>rfl
theorem g71_:GE g71 71:=fun _=>rfl
theorem p0_:PE p0 0:=fun _ _=>rfl
theorem p1_:PE p1 1:=fun _ _=>rfl
theorem p2_:PE p2 2:=fun _ _=>rfl
theorem p3_:PE p3 3:=fun _ _=>rfl
theorem p4_:PE p4 4:=fun _ _=>rfl
theorem p5_:PE p5 5:=fun _ _=>rfl
theorem p6_:PE p6 6:=fun _ _=>rfl
theorem p7_:PE p7 7:=fun _ _=>rfl
theorem p8_:PE p8 8:=fun _ _=>rfl
theorem p9_:PE p9 9:=fun _ _=>rfl
theorem p10_:PE p10 10:=fun _ _=>rfl
theorem p11_:PE p11 11:=fun _ _=>rfl
theorem p12_:PE p12 12:=fun _ _=>rfl
theorem p13_:PE p13 13:=fun _ _=>rfl
theorem p14_:PE p14 14:=fun _ _=>rfl
theorem p15_:PE p15 15:=fun _ _=>rfl
theorem p16_:PE p16 16:=fun _ _=>rfl
theorem p17_:PE p17 17:=fun _ _=>rfl
theorem p18_:PE p18 18:=fun _ _=>rfl
theorem p19_:PE p19 19:=fun _ _=>rfl
theorem p20_:PE p20 20:=fun _ _=>rfl
theorem p21_:PE p21 21:=fun _ _=>rfl
theorem p22_:PE p22 22:=fun _ _=>rfl
theorem p23_:PE p23 23:=fun _ _=>rfl
theorem p24_:PE p24 24:=fun _ _=>rfl
theorem p25_:PE p25 25:=fun _ _=>rfl
theorem p26_:PE p26 26:=fun _ _=>rfl
theorem p27_:PE p27 27:=fun _ _=>rfl
theorem p28_:PE p28 28:=fun _ _=>rfl
theorem p29_:PE p29 29:=fun _ _=>rfl
theorem p30_:PE p30 30:=fun _ _=>rfl
theorem p31_:PE p31 31:=fun _ _=>rfl
theorem p32_:PE p32 32:=fun _ _=>rfl
theorem p33_:PE p33 33:=fun _ _=>rfl
theorem p34_:PE p34 34:=fun _ _=>rfl
theorem p35_:PE p35 35:=fun _ _=>rfl
theorem p36_:PE p36 36:=fun _ _=>rfl
theorem p37_:PE p37 37:=fun _ _=>rfl
theorem p38_:PE p38 38:=fun _ _=>rfl
theorem p39_:PE p39 39:=fun _ _=>rfl
theorem p40_:PE p40 40:=fun _ _=>rfl
theorem p41_:PE p41 41:=fun _ _=>rfl
theorem p42_:PE p42 42:=fun _ _=>rfl
theorem p43_:PE p43 43:=fun _ _=>rfl
theorem p44_:PE p44 44:=fun _ _=>rfl
theorem p45_:PE p45 45:=fun _ _=>rfl
theorem p46_:PE p46 46:=fun _ _=>rfl
theorem p47_:PE p47 47:=fun _ _=>rfl
theorem p48_:PE p48 48:=fun _ _=>rfl
theorem p49_:PE p49 49:=fun _ _=>rfl
theorem p50_:PE p50 50:=fun _ _=>rfl
theorem p51_:PE p51 51:=fun _ _=>rfl
theorem p52_:PE p52 52:=fun _ _=>rfl
theorem p53_:PE p53 53:=fun _ _=>rfl
theorem p54_:PE p54 54:=fun _ _=>rfl
theorem p55_:PE p55 55:=fun _ _=>rfl
theorem p56_:PE p56 56:=fun _ _=>rfl
theorem p57_:PE p57 57:=fun _ _=>rfl
theorem p58_:PE p58 58:=fun _ _=>rfl
theorem p59_:PE p59 59:=fun _ _=>rfl
theorem p60_:PE p60 60:=fun _ _=>rfl
theorem p62_:PE p62 62:=fun _ _=>rfl
theorem p63_:PE p63 63:=fun _ _=>rfl
theorem p64_:PE p64 64:=fun _ _=>rfl
theorem p65_:PE p65 65:=fun _ _=>rfl
theorem p66_:PE p66 66:=fun _ _=>rfl
theorem p67_:PE p67 67:=fun _ _=>rfl
theorem p68_:PE p68 68:=fun _ _=>rfl
theorem p69_:PE p69 69:=fun _ _=>rfl
theorem p70_:PE p70 70:=fun _ _=>rfl
theorem p71_:PE p71 71:=fun _ _=>rfl
theorem p72_:PE p72 72:=fun _ _=>rfl
theorem p73_:PE p73 73:=fun _ _=>rfl
theorem p75_:PE p75 75:=fun _ _=>rfl
theorem p76_:PE p76 76:=fun _ _=>rfl
theorem p77_:PE p77 77:=fun _ _=>rfl
theorem p78_:PE p78 78:=fun _ _=>rfl
theorem p79_:PE p79 79:=fun _ _=>rfl
theorem p82_:PE p82 82:=fun _ _=>rfl
theorem p83_:PE p83 83:=fun _ _=>rfl
theorem p84_:PE p84 84:=fun _ _=>rfl
theorem p88_:PE p88 88:=fun _ _=>rfl
theorem p97_:PE p97 97:=fun _ _=>rfl
theorem p105_:PE p105 105:=fun _ _=>rfl
theorem p112_:PE p112 112:=fun _ _=>rfl
theorem p126_:PE p126 126:=fun _ _=>rfl
theorem p131_:PE p131 131:=fun _ _=>rfl
theorem p132_:PE p132 132:=fun _ _=>rfl
theorem p133_:PE p133 133:=fun _ _=>rfl
theorem U2:Pg.underlying 2=some (.int .i64):=by kernel_rfl
theorem L2:F.layE Pg 2=some (1,false):=by kernel_rfl
theorem N2:F.lenIs Pg 2 1=true:=by kernel_rfl
theorem U3:Pg.underlying 3=some (.int .i64):=by kernel_rfl
theorem L3:F.layE Pg 3=some (1,false):=by kernel_rfl
theorem Z3:F.zeroV Pg 3=some (.int .i64 (.ofNat 0)):=by kernel_rfl
theorem N3:F.lenIs Pg 3 1=true:=by kernel_rfl
theorem U4:Pg.underlying 4=some .bool:=by kernel_rfl
theorem L4:F.layE Pg 4=some (1,false):=by kernel_rfl
theorem N4:F.lenIs Pg 4 1=true:=by kernel_rfl
theorem U5:Pg.underlying 5=some (.int .u8):=by kernel_rfl
theorem L5:F.layE Pg 5=some (1,false):=by kernel_rfl
theorem N5:F.lenIs Pg 5 1=true:=by kernel_rfl
theorem U9:Pg.underlying 9=some .string:=by kernel_rfl
theorem L9:F.layE Pg 9=some (1,false):=by kernel_rfl
theorem Z9:F.zeroV Pg 9=some (.str ⟨0,0⟩):=by kernel_rfl
theorem N9:F.lenIs Pg 9 1=true:=by kernel_rfl
theorem U21:Pg.underlying 21=some (.int .i32):=by kernel_rfl
theorem L21:F.layE Pg 21=some (1,false):=by kernel_rfl
theorem N21:F.lenIs Pg 21 1=true:=by kernel_rfl
theorem U24:Pg.underlying 24=some (.slice 86):=by kernel_rfl
theorem E24:F.elemT Pg 24=some 86:=by kernel_rfl
theorem L24:F.layE Pg 24=some (1,false):=by kernel_rfl
theorem N24:F.lenIs Pg 24 1=true:=by kernel_rfl
theorem L26:F.layE Pg 26=some (2,true):=by kernel_rfl
theorem Z26:F.zeroV Pg 26=some (.agg [.nils,(.bool false)]):=by kernel_rfl
theorem S26:F.szOf Pg 26=some 2:=by kernel_rfl
theorem N26:F.lenIs Pg 26 2=true:=by kernel_rfl
theorem U29:Pg.underlying 29=some (.slice 3):=by kernel_rfl
theorem E29:F.elemT Pg 29=some 3:=by kernel_rfl
theorem L29:F.layE Pg 29=some (1,false):=by kernel_rfl
theorem N29:F.lenIs Pg 29 1=true:=by kernel_rfl
theorem L31:F.layE Pg 31=some (2,true):=by kernel_rfl
theorem Z31:F.zeroV Pg 31=some (.agg [(.bool false),.nils]):=by kernel_rfl
theorem S31:F.szOf Pg 31=some 2:=by kernel_rfl
theorem N31:F.lenIs Pg 31 2=true:=by kernel_rfl
theorem U51:Pg.underlying 51=some (.slice 5):=by kernel_rfl
theorem E51:F.elemT Pg 51=some 5:=by kernel_rfl
theorem L51:F.layE Pg 51=some (1,false):=by kernel_rfl
theorem N51:F.lenIs Pg 51 1=true:=by kernel_rfl
theorem U79:Pg.underlying 79=some (.slice 9):=by kernel_rfl
theorem E79:F.elemT Pg 79=some 9:=by kernel_rfl
theorem L79:F.layE Pg 79=some (1,false):=by kernel_rfl
theorem N79:F.lenIs Pg 79 1=true:=by kernel_rfl
theorem U80:Pg.underlying 80=some (.int .u64):=by kernel_rfl
theorem L80:F.layE Pg 80=some (1,false):=by kernel_rfl
theorem N80:F.lenIs Pg 80 1=true:=by kernel_rfl
theorem U86:Pg.underlying 86=some (.int .u32):=by kernel_rfl
theorem L86:F.layE Pg 86=some (1,false):=by kernel_rfl
theorem N86:F.lenIs Pg 86 1=true:=by kernel_rfl
theorem U87:Pg.underlying 87=some (.int .u64):=by kernel_rfl
theorem L87:F.layE Pg 87=some (1,false):=by kernel_rfl
theorem N87:F.lenIs Pg 87 1=true:=by kernel_rfl
theorem FA26_0:∀ (r:Ref) (o:Nat),fa Pg 26 (.ptr r o) 0=some (.ptr r (o+0)):=fun r o=>by kernel_rfl
theorem FA26_1:∀ (r:Ref) (o:Nat),fa Pg 26 (.ptr r o) 1=some (.ptr r (o+1)):=fun r o=>by kernel_rfl
theorem FA31_0:∀ (r:Ref) (o:Nat),fa Pg 31 (.ptr r o) 0=some (.ptr r (o+0)):=fun r o=>by kernel_rfl
theorem FA31_1:∀ (r:Ref) (o:Nat),fa Pg 31 (.ptr r o) 1=some (.ptr r (o+1)):=fun r o=>by kernel_rfl
theorem ia24 {k:IntKind} {v:V} {d:List Nat} (h:Sl k v d) (k':IntKind) (i:Nat) (hi:i<d.length):ia Pg 24 v (.int k' (.ofNat i))=some (.iptr [.int k (.ofNat (d.getD i 0))]):=ia_sl E24 L86 h k' i hi
theorem ia29 {k:IntKind} {v:V} {d:List Nat} (h:Sl k v d) (k':IntKind) (i:Nat) (hi:i<d.length):ia Pg 29 v (.int k' (.ofNat i))=some (.iptr [.int k (.ofNat (d.getD i 0))]):=ia_sl E29 L3 h k' i hi
theorem sl24 {k:IntKind} {v:V} {d:List Nat} (h:Sl k v d) (k':IntKind) (i:Nat) (hi:i<d.length):slc Pg 24 v none (some (.int k' (.ofNat i))) none=some (.slice none false 1 (nl k (d.take i))):=slc_sl E24 L86 h k' i hi
theorem sl29 {k:IntKind} {v:V} {d:List Nat} (h:Sl k v d) (k':IntKind) (i:Nat) (hi:i<d.length):slc Pg 29 v none (some (.int k' (.ofNat i))) none=some (.slice none false 1 (nl k (d.take i))):=slc_sl E29 L3 h k' i hi
theorem q15_6_0:∀ (c:CallF) (t' t:Tm) (l:Lo) (h:Hp) (j:V→Lo→Hp→R),gn Try.f15 15 6 0 c t' t l h j=j (.agg [.nils,(.bool false)]) l h:=fun c t' t l h j=>gen_val (C:=Cg) (gl:=Cg.glob 15) (call:=c) (tm:=t) (loc:=l) (hp:=h) (j:=j) (t':=t') (o:=opA Try.f15 6 0) (d:=39) (v:=(.agg [.nils,(.bool false)])) (st:=⟨t',l,h⟩) (by kernel_rfl) (by kernel_rfl)
theorem m15_9_1:M1 Try.f15 15 9 1 40:=mk1 (by kernel_rfl)
theorem m15_10_0:M1 Try.f15 15 10 0 41:=mk1 (by kernel_rfl)
theorem q15_13_0:∀ (c:CallF) (t' t:Tm) (l:Lo) (h:Hp) (j:V→Lo→Hp→R),gn Try.f15 15 13 0 c t' t l h j=j (.agg [.nils,(.bool false)]) l h:=fun c t' t l h j=>gen_val (C:=Cg) (gl:=Cg.glob 15) (call:=c) (tm:=t) (loc:=l) (hp:=h) (j:=j) (t':=t') (o:=opA Try.f15 13 0) (d:=52) (v:=(.agg [.nils,(.bool false)])) (st:=⟨t',l,h⟩) (by kernel_rfl) (by kernel_rfl)
theorem n15_14_4:NC Try.f15 15 14 4 .u64 56:=mkC (d:=57) (s:=21) (t:=80) (by kernel_rfl) (by kernel_rfl) U21 U80
theorem q16_2_0:∀ (c:CallF) (t' t:Tm) (l:Lo) (h:Hp) (j:V→Lo→Hp→R),gn Try.f16 16 2 0 c t' t l h j=j (.agg [(.bool false),.nils]) l h:=fun c t' t l h j=>gen_val (C:=Cg) (gl:=Cg.glob 16) (call:=c) (tm:=t) (loc:=l) (hp:=h) (j:=j) (t':=t') (o:=opA Try.f16 2 0) (d:=12) (v:=(.agg [(.bool false),.nils])) (st:=⟨t',l,h⟩) (by kernel_rfl) (by kernel_rfl)
theorem n16_14_6:NC Try.f16 16 14 6 .i64 38:=mkC (d:=39) (s:=5) (t:=3) (by kernel_rfl) (by kernel_rfl) U5 U3
theorem m16_15_3:M2 Try.f16 16 15 3 41 43:=mk2 (by kernel_rfl) (by decide)
theorem i16_15_3:ApI Pg (opA Try.f16 15 3) 44 41 43 29:=⟨by kernel_rfl,{ callee:=.builtin .append,args:=#[.tmp 41,.tmp 43],argTypes:=#[29,29] },by kernel_rfl,rfl,rfl,rfl,by kernel_rfl⟩
theorem a16_15_3:APT Try.f16 16 15 3 41 43 44:=mkPT i16_15_3 (by kernel_rfl) (by kernel_rfl) (e:=3) (by kernel_rfl) (by kernel_rfl) (b:=8) (by kernel_rfl) (by decide) (by decide)
theorem n17_0_0:NB Try.f17 17 0 0 2 0:=mkB (t:=26) (by kernel_rfl) (by kernel_rfl) (by kernel_rfl) (by kernel_rfl)
theorem n17_0_1:NB Try.f17 17 0 1 3 1:=mkB (t:=31) (by kernel_rfl) (by kernel_rfl) (by kernel_rfl) (by kernel_rfl)
theorem n18_0_0:NB Try.f18 18 0 0 1 0:=mkB (t:=26) (by kernel_rfl) (by kernel_rfl) (by kernel_rfl) (by kernel_rfl)
theorem n18_10_6:NC Try.f18 18 10 6 .u64 29:=mkC (d:=30) (s:=86) (t:=80) (by kernel_rfl) (by kernel_rfl) U86 U80
theorem n18_11_4:NC Try.f18 18 11 4 .u32 35:=mkC (d:=36) (s:=80) (t:=86) (by kernel_rfl) (by kernel_rfl) U80 U86
theorem m18_11_6:M2 Try.f18 18 11 6 37 36:=mk2 (by kernel_rfl) (by decide)
theorem w18_11_6 {r off n:Nat} {d:List Nat} {h:Hp} (hr:h.rows[r]? = some (.cells false (nl .u32 d))) (ho:off<d.length) (c:CallF) (t:Tm) (l:Lo) (j:V→Lo→Hp→R):go2 Try.f18 18 11 6 37 36 (.ptr (.glob r) off) (.int .u32 (.ofNat n)) c t l h j=j (.tuple []) l (hset h r (.cells false (nl .u32 (d.set off n)))):=gen_store_glob (C:=Cg) (gl:=Cg.glob 18) (call:=c) (o:=opA Try.f18 11 6) (t:=86) (by kernel_rfl) (by kernel_rfl) (by decide) (by kernel_rfl) hr ho
theorem n18_17_4:NC Try.f18 18 17 4 .u8 62:=mkC (d:=63) (s:=80) (t:=5) (by kernel_rfl) (by kernel_rfl) U80 U5
theorem m18_17_5:M1 Try.f18 18 17 5 63:=mk1 (by kernel_rfl)
theorem q18_17_5:QO Try.f18 18 17 5 63 64:=mkO (t:=51) (e:=5) (by kernel_rfl) (by kernel_rfl) (by kernel_rfl) (by kernel_rfl) (by kernel_rfl) (by kernel_rfl) (show zeroV Pg 5=some (.int .u8 (.ofNat 0)) by kernel_rfl)
theorem m18_17_6:M2 Try.f18 18 17 6 59 64:=mk2 (by kernel_rfl) (by decide)
theorem i18_17_6:ApI Pg (opA Try.f18 17 6) 65 59 64 51:=⟨by kernel_rfl,{ callee:=.builtin .append,args:=#[.tmp 59,.tmp 64],argTypes:=#[51,51] },by kernel_rfl,rfl,rfl,rfl,by kernel_rfl⟩
theorem a18_17_6 {loc:Lo} {k:IntKind} {l:List Nat} {v w:V} {n:Nat} {hp:Hp} (hv:Gs hp v k l) (hw:∀ tm,itemsOf ⟨tm,loc,hp⟩ w=some (nl k [n])) (hn:l.length≤1000000000):∃ v' h',(∀ (c:CallF) (tm:Tm) (j:V→Lo→Hp→R),go2 Try.f18 18 17 6 59 64 v w c tm loc hp j=j v' loc h')∧Pushed hp h' v v' k l (l++[n]):=gen_pushG i18_17_6 (by kernel_rfl) (by kernel_rfl) (e:=5) (by kernel_rfl) (by kernel_rfl) (b:=1) (by kernel_rfl) (by decide) hv hw (by omega)
theorem q18_23_1:∀ (c:CallF) (t' t:Tm) (l:Lo) (h:Hp) (j:V→Lo→Hp→R),gn Try.f18 18 23 1 c t' t l h j=j (.arr (.loc 84 ((lg l 84).1+1)) 0 1 (some 1) 1 false) (lp l 84 ((lg l 84).1+1,.cells false (nl .u8 [45]))) h:=fun c t' t l h j=>gen_one1 (C:=Cg) (gl:=Cg.glob 18) (call:=c) (tm:=t) (loc:=l) (hp:=h) (j:=j) (t':=t') (k:=.u8) (n:=45) (o:=opA Try.f18 23 1) (d:=84) (x:=.const (.int .u8 45)) (t:=51) (e:=5) (by kernel_rfl) (by kernel_rfl) (by kernel_rfl) (by kernel_rfl) (by kernel_rfl) (by kernel_rfl) (show zeroV Pg 5=some (.int .u8 (.ofNat 0)) by kernel_rfl) rfl
theorem m18_23_2:M2 Try.f18 18 23 2 83 84:=mk2 (by kernel_rfl) (by decide)
theorem i18_23_2:ApI Pg (opA Try.f18 23 2) 85 83 84 51:=⟨by kernel_rfl,{ callee:=.builtin .append,args:=#[.tmp 83,.tmp 84],argTypes:=#[51,51] },by kernel_rfl,rfl,rfl,rfl,by kernel_rfl⟩
theorem a18_23_2 {loc:Lo} {k:IntKind} {l:List Nat} {v w:V} {n:Nat} {hp:Hp} (hv:Gs hp v k l) (hw:∀ tm,itemsOf ⟨tm,loc,hp⟩ w=some (nl k [n])) (hn:l.length≤1000000000):∃ v' h',(∀ (c:CallF) (tm:Tm) (j:V→Lo→Hp→R),go2 Try.f18 18 23 2 83 84 v w c tm loc hp j=j v' loc h')∧Pushed hp h' v v' k l (l++[n]):=gen_pushG i18_23_2 (by kernel_rfl) (by kernel_rfl) (e:=5) (by kernel_rfl) (by kernel_rfl) (b:=1) (by kernel_rfl) (by decide) hv hw (by omega)
theorem m18_25_1:M1 Try.f18 18 25 1 88:=mk1 (by kernel_rfl)
theorem n21_1_1:NC Try.f21 21 1 1 .u64 4:=mkC (d:=5) (s:=2) (t:=80) (by kernel_rfl) (by kernel_rfl) U2 U80
theorem n21_4_1:NC Try.f21 21 4 1 .u32 10:=mkC (d:=11) (s:=80) (t:=86) (by kernel_rfl) (by kernel_rfl) U80 U86
theorem n21_4_4:NC Try.f21 21 4 4 .u32 13:=mkC (d:=14) (s:=80) (t:=86) (by kernel_rfl) (by kernel_rfl) U80 U86
theorem m21_4_5:M2 Try.f21 21 4 5 11 14:=mk2 (by kernel_rfl) (by decide)
theorem n22_2_1:NC Try.f22 22 2 1 .u64 8:=mkC (d:=9) (s:=2) (t:=80) (by kernel_rfl) (by kernel_rfl) U2 U80
theorem n22_7_3:NC Try.f22 22 7 3 .i64 17:=mkC (d:=18) (s:=80) (t:=3) (by kernel_rfl) (by kernel_rfl) U80 U3
theorem m22_7_5:M2 Try.f22 22 7 5 15 19:=mk2 (by kernel_rfl) (by decide)
theorem i22_7_5:ApI Pg (opA Try.f22 7 5) 20 15 19 29:=⟨by kernel_rfl,{ callee:=.builtin .append,args:=#[.tmp 15,.tmp 19],argTypes:=#[29,29] },by kernel_rfl,rfl,rfl,rfl,by kernel_rfl⟩
theorem a22_7_5:APT Try.f22 22 7 5 15 19 20:=mkPT i22_7_5 (by kernel_rfl) (by kernel_rfl) (e:=3) (by kernel_rfl) (by kernel_rfl) (b:=8) (by kernel_rfl) (by decide) (by decide)
theorem m22_9_2:M2 Try.f22 22 9 2 23 24:=mk2 (by kernel_rfl) (by decide)
theorem n23_0_0:NB Try.f23 23 0 0 1 0:=mkB (t:=31) (by kernel_rfl) (by kernel_rfl) (by kernel_rfl) (by kernel_rfl)
theorem n23_11_4:NC Try.f23 23 11 4 .u8 44:=mkC (d:=45) (s:=3) (t:=5) (by kernel_rfl) (by kernel_rfl) U3 U5
theorem m23_11_5:M1 Try.f23 23 11 5 45:=mk1 (by kernel_rfl)
theorem q23_11_5:QO Try.f23 23 11 5 45 46:=mkO (t:=51) (e:=5) (by kernel_rfl) (by kernel_rfl) (by kernel_rfl) (by kernel_rfl) (by kernel_rfl) (by kernel_rfl) (show zeroV Pg 5=some (.int .u8 (.ofNat 0)) by kernel_rfl)
theorem m23_11_6:M2 Try.f23 23 11 6 41 46:=mk2 (by kernel_rfl) (by decide)
theorem i23_11_6:ApI Pg (opA Try.f23 11 6) 47 41 46 51:=⟨by kernel_rfl,{ callee:=.builtin .append,args:=#[.tmp 41,.tmp 46],argTypes:=#[51,51] },by kernel_rfl,rfl,rfl,rfl,by kernel_rfl⟩
theorem a23_11_6:AP Try.f23 23 11 6 41 46 47:=mkP i23_11_6 (by kernel_rfl) (by kernel_rfl) (e:=5) (by kernel_rfl) (by kernel_rfl) (b:=1) (by kernel_rfl) (by decide) (by decide) (by decide)
theorem q23_14_1:∀ (c:CallF) (t' t:Tm) (l:Lo) (h:Hp) (j:V→Lo→Hp→R),gn Try.f23 23 14 1 c t' t l h j=j (.arr (.loc 53 ((lg l 53).1+1)) 0 1 (some 1) 1 false) (lp l 53 ((lg l 53).1+1,.cells false (nl .u8 [45]))) h:=fun c t' t l h j=>gen_one1 (C:=Cg) (gl:=Cg.glob 23) (call:=c) (tm:=t) (loc:=l) (hp:=h) (j:=j) (t':=t') (k:=.u8) (n:=45) (o:=opA Try.f23 14 1) (d:=53) (x:=.const (.int .u8 45)) (t:=51) (e:=5) (by kernel_rfl) (by kernel_rfl) (by kernel_rfl) (by kernel_rfl) (by kernel_rfl) (by kernel_rfl) (show zeroV Pg 5=some (.int .u8 (.ofNat 0)) by kernel_rfl) rfl
theorem m23_14_2:M2 Try.f23 23 14 2 52 53:=mk2 (by kernel_rfl) (by decide)
theorem i23_14_2:ApI Pg (opA Try.f23 14 2) 54 52 53 51:=⟨by kernel_rfl,{ callee:=.builtin .append,args:=#[.tmp 52,.tmp 53],argTypes:=#[51,51] },by kernel_rfl,rfl,rfl,rfl,by kernel_rfl⟩
theorem m23_19_1:M1 Try.f23 23 19 1 79:=mk1 (by kernel_rfl)
theorem m24_6_4:M1 Try.f24 24 6 4 38:=mk1 (by kernel_rfl)
theorem q24_6_4:QO Try.f24 24 6 4 38 39:=mkO (t:=51) (e:=5) (by kernel_rfl) (by kernel_rfl) (by kernel_rfl) (by kernel_rfl) (by kernel_rfl) (by kernel_rfl) (show zeroV Pg 5=some (.int .u8 (.ofNat 0)) by kernel_rfl)
theorem m24_6_5:M2 Try.f24 24 6 5 35 39:=mk2 (by kernel_rfl) (by decide)
theorem i24_6_5:ApI Pg (opA Try.f24 6 5) 40 35 39 51:=⟨by kernel_rfl,{ callee:=.builtin .append,args:=#[.tmp 35,.tmp 39],argTypes:=#[51,51] },by kernel_rfl,rfl,rfl,rfl,by kernel_rfl⟩
theorem a24_6_5:AP Try.f24 24 6 5 35 39 40:=mkP i24_6_5 (by kernel_rfl) (by kernel_rfl) (e:=5) (by kernel_rfl) (by kernel_rfl) (b:=1) (by kernel_rfl) (by decide) (by decide) (by decide)
theorem q24_8_0:∀ (c:CallF) (t' t:Tm) (l:Lo) (h:Hp) (j:V→Lo→Hp→R),gn Try.f24 24 8 0 c t' t l h j=j (.arr (.loc 44 ((lg l 44).1+1)) 0 1 (some 1) 1 false) (lp l 44 ((lg l 44).1+1,.cells false (nl .u8 [48]))) h:=fun c t' t l h j=>gen_one1 (C:=Cg) (gl:=Cg.glob 24) (call:=c) (tm:=t) (loc:=l) (hp:=h) (j:=j) (t':=t') (k:=.u8) (n:=48) (o:=opA Try.f24 8 0) (d:=44) (x:=.const (.int .u8 48)) (t:=51) (e:=5) (by kernel_rfl) (by kernel_rfl) (by kernel_rfl) (by kernel_rfl) (by kernel_rfl) (by kernel_rfl) (show zeroV Pg 5=some (.int .u8 (.ofNat 0)) by kernel_rfl) rfl
theorem q24_10_0:∀ (c:CallF) (t' t:Tm) (l:Lo) (h:Hp) (j:V→Lo→Hp→R),gn Try.f24 24 10 0 c t' t l h j=j (.arr (.loc 48 ((lg l 48).1+1)) 0 1 (some 1) 1 false) (lp l 48 ((lg l 48).1+1,.cells false (nl .u8 [45]))) h:=fun c t' t l h j=>gen_one1 (C:=Cg) (gl:=Cg.glob 24) (call:=c) (tm:=t) (loc:=l) (hp:=h) (j:=j) (t':=t') (k:=.u8) (n:=45) (o:=opA Try.f24 10 0) (d:=48) (x:=.const (.int .u8 45)) (t:=51) (e:=5) (by kernel_rfl) (by kernel_rfl) (by kernel_rfl) (by kernel_rfl) (by kernel_rfl) (by kernel_rfl) (show zeroV Pg 5=some (.int .u8 (.ofNat 0)) by kernel_rfl) rfl
theorem m24_10_2:M2 Try.f24 24 10 2 48 49:=mk2 (by kernel_rfl) (by decide)
theorem i24_10_2:ApI Pg (opA Try.f24 10 2) 50 48 49 51:=⟨by kernel_rfl,{ callee:=.builtin .append,args:=#[.tmp 48,.tmp 49],argTypes:=#[51,51] },by kernel_rfl,rfl,rfl,rfl,by kernel_rfl⟩
theorem m24_11_1:M1 Try.f24 24 11 1 52:=mk1 (by kernel_rfl)
theorem n25_0_0:NB Try.f25 25 0 0 2 0:=mkB (t:=26) (by kernel_rfl) (by kernel_rfl) (by kernel_rfl) (by kernel_rfl)
theorem n25_0_1:NB Try.f25 25 0 1 3 1:=mkB (t:=26) (by kernel_rfl) (by kernel_rfl) (by kernel_rfl) (by kernel_rfl)
theorem n26_0_0:NB Try.f26 26 0 0 2 0:=mkB (t:=31) (by kernel_rfl) (by kernel_rfl) (by kernel_rfl) (by kernel_rfl)
theorem n26_0_1:NB Try.f26 26 0 1 3 1:=mkB (t:=31) (by kernel_rfl) (by kernel_rfl) (by kernel_rfl) (by kernel_rfl)
theorem n27_0_0:NB Try.f27 27 0 0 2 0:=mkB (t:=26) (by kernel_rfl) (by kernel_rfl) (by kernel_rfl) (by kernel_rfl)
theorem n27_0_1:NB Try.f27 27 0 1 3 1:=mkB (t:=26) (by kernel_rfl) (by kernel_rfl) (by kernel_rfl) (by kernel_rfl)
theorem n28_0_0:NB Try.f28 28 0 0 2 0:=mkB (t:=31) (by kernel_rfl) (by kernel_rfl) (by kernel_rfl) (by kernel_rfl)
theorem n28_0_1:NB Try.f28 28 0 1 3 1:=mkB (t:=31) (by kernel_rfl) (by kernel_rfl) (by kernel_rfl) (by kernel_rfl)
theorem n29_0_0:NB Try.f29 29 0 0 2 0:=mkB (t:=26) (by kernel_rfl) (by kernel_rfl) (by kernel_rfl) (by kernel_rfl)
theorem n29_0_1:NB Try.f29 29 0 1 3 1:=mkB (t:=26) (by kernel_rfl) (by kernel_rfl) (by kernel_rfl) (by kernel_rfl)
theorem m29_1_7:M1 Try.f29 29 1 7 17:=mk1d (by kernel_rfl)
theorem q29_1_7:∀ (c:CallF) (t:Tm) (l:Lo) (h:Hp) (j:V→Lo→Hp→R) (k:IntKind) (n:Nat),n≤1000000000→go1 Try.f29 29 1 7 17 (.int k (.ofNat n)) c t l h j=j (.arr (.loc 18 ((lg l 18).1+1)) 0 n (some n) 1 false) (lp l 18 ((lg l 18).1+1,.cells false (nl .u32 (List.replicate n 0)))) h:=fun c t l h j k n hn=>gen_make (C:=Cg) (gl:=Cg.glob 29) (call:=c) (tm:=t) (loc:=l) (hp:=h) (j:=j) (t':=pt .lf 17 (.int k (.ofNat n))) (k1:=k) (n:=n) (o:=opA Try.f29 1 7) (d:=18) (x:=17) (t:=24) (e:=86) (b:=4) (by kernel_rfl) (by kernel_rfl) (by kernel_rfl) (by kernel_rfl) (by kernel_rfl) (by kernel_rfl) (by kernel_rfl) (by rw [gt_pt,if_pos rfl]) (by omega) (by omega)
theorem n29_9_2:NC Try.f29 29 9 2 .u64 36:=mkC (d:=37) (s:=86) (t:=80) (by kernel_rfl) (by kernel_rfl) U86 U80
theorem n29_9_4:NC Try.f29 29 9 4 .u64 38:=mkC (d:=39) (s:=86) (t:=80) (by kernel_rfl) (by kernel_rfl) U86 U80
theorem n29_9_12:NC Try.f29 29 9 12 .u64 46:=mkC (d:=47) (s:=86) (t:=80) (by kernel_rfl) (by kernel_rfl) U86 U80
theorem n29_10_5:NC Try.f29 29 10 5 .u32 54:=mkC (d:=55) (s:=80) (t:=86) (by kernel_rfl) (by kernel_rfl) U80 U86
theorem m29_10_7:M2 Try.f29 29 10 7 56 55:=mk2 (by kernel_rfl) (by decide)
theorem n29_13_7:NC Try.f29 29 13 7 .u32 66:=mkC (d:=67) (s:=80) (t:=86) (by kernel_rfl) (by kernel_rfl) U80 U86
theorem m29_13_9:M2 Try.f29 29 13 9 68 67:=mk2 (by kernel_rfl) (by decide)
theorem n31_0_0:NB Try.f31 31 0 0 1 0:=mkB (t:=26) (by kernel_rfl) (by kernel_rfl) (by kernel_rfl) (by kernel_rfl)
theorem n32_0_0:NB Try.f32 32 0 0 1 0:=mkB (t:=31) (by kernel_rfl) (by kernel_rfl) (by kernel_rfl) (by kernel_rfl)
theorem m32_1_11:M2 Try.f32 32 1 11 11 13:=mk2 (by kernel_rfl) (by decide)
theorem b32_1_11 {v w:V} (hv:Pl v) (hw:Pl w) (c:CallF) (t:Tm) (l:Lo) (h:Hp) (j:V→Lo→Hp→R):go2 Try.f32 32 1 11 11 13 v w c t l h j=j (.agg [v,w]) l h:=gen_two (C:=Cg) (gl:=Cg.glob 32) (call:=c) (o:=opA Try.f32 1 11) (d:=14) (t:=31) (by kernel_rfl) (by kernel_rfl) (by kernel_rfl) (show zeroV Pg 31=some (.agg [(.bool false),.nils]) by kernel_rfl) (by decide) hv hw
theorem n33_0_0:NB Try.f33 33 0 0 2 0:=mkB (t:=26) (by kernel_rfl) (by kernel_rfl) (by kernel_rfl) (by kernel_rfl)
theorem n33_0_1:NB Try.f33 33 0 1 3 1:=mkB (t:=26) (by kernel_rfl) (by kernel_rfl) (by kernel_rfl) (by kernel_rfl)
theorem n35_0_0:NB Try.f35 35 0 0 1 0:=mkB (t:=26) (by kernel_rfl) (by kernel_rfl) (by kernel_rfl) (by kernel_rfl)
theorem q35_1_1:∀ (c:CallF) (t' t:Tm) (l:Lo) (h:Hp) (j:V→Lo→Hp→R),gn Try.f35 35 1 1 c t' t l h j=j (.agg [.nils,(.bool false)]) l h:=fun c t' t l h j=>gen_val (C:=Cg) (gl:=Cg.glob 35) (call:=c) (tm:=t) (loc:=l) (hp:=h) (j:=j) (t':=t') (o:=opA Try.f35 1 1) (d:=4) (v:=(.agg [.nils,(.bool false)])) (st:=⟨t',l,h⟩) (by kernel_rfl) (by kernel_rfl)
theorem n37_0_0:NB Try.f37 37 0 0 2 0:=mkB (t:=26) (by kernel_rfl) (by kernel_rfl) (by kernel_rfl) (by kernel_rfl)
theorem n37_0_1:NB Try.f37 37 0 1 3 1:=mkB (t:=26) (by kernel_rfl) (by kernel_rfl) (by kernel_rfl) (by kernel_rfl)
theorem q37_3_0:∀ (c:CallF) (t' t:Tm) (l:Lo) (h:Hp) (j:V→Lo→Hp→R),gn Try.f37 37 3 0 c t' t l h j=j (.agg [.nils,(.bool false)]) l h:=fun c t' t l h j=>gen_val (C:=Cg) (gl:=Cg.glob 37) (call:=c) (tm:=t) (loc:=l) (hp:=h) (j:=j) (t':=t') (o:=opA Try.f37 3 0) (d:=17) (v:=(.agg [.nils,(.bool false)])) (st:=⟨t',l,h⟩) (by kernel_rfl) (by kernel_rfl)
theorem n38_0_0:NB Try.f38 38 0 0 2 0:=mkB (t:=31) (by kernel_rfl) (by kernel_rfl) (by kernel_rfl) (by kernel_rfl)
theorem n38_0_1:NB Try.f38 38 0 1 3 1:=mkB (t:=31) (by kernel_rfl) (by kernel_rfl) (by kernel_rfl) (by kernel_rfl)
theorem n39_0_0:NB Try.f39 39 0 0 2 0:=mkB (t:=26) (by kernel_rfl) (by kernel_rfl) (by kernel_rfl) (by kernel_rfl)
theorem n39_0_1:NB Try.f39 39 0 1 3 1:=mkB (t:=26) (by kernel_rfl) (by kernel_rfl) (by kernel_rfl) (by kernel_rfl)
theorem n40_0_0:NB Try.f40 40 0 0 2 0:=mkB (t:=31) (by kernel_rfl) (by kernel_rfl) (by kernel_rfl) (by kernel_rfl)
theorem n40_0_1:NB Try.f40 40 0 1 3 1:=mkB (t:=31) (by kernel_rfl) (by kernel_rfl) (by kernel_rfl) (by kernel_rfl)
theorem n64_4_2:NC Try.f64 64 4 2 .u64 17:=mkC (d:=18) (s:=86) (t:=80) (by kernel_rfl) (by kernel_rfl) U86 U80
theorem n64_5_3:NC Try.f64 64 5 3 .u32 24:=mkC (d:=25) (s:=80) (t:=86) (by kernel_rfl) (by kernel_rfl) U80 U86
theorem m64_5_5:M2 Try.f64 64 5 5 26 25:=mk2 (by kernel_rfl) (by decide)
theorem w64_5_5 {r off n:Nat} {d:List Nat} {h:Hp} (hr:h.rows[r]? = some (.cells false (nl .u32 d))) (ho:off<d.length) (c:CallF) (t:Tm) (l:Lo) (j:V→Lo→Hp→R):go2 Try.f64 64 5 5 26 25 (.ptr (.glob r) off) (.int .u32 (.ofNat n)) c t l h j=j (.tuple []) l (hset h r (.cells false (nl .u32 (d.set off n)))):=gen_store_glob (C:=Cg) (gl:=Cg.glob 64) (call:=c) (o:=opA Try.f64 5 5) (t:=86) (by kernel_rfl) (by kernel_rfl) (by decide) (by kernel_rfl) hr ho
theorem n64_9_2:NC Try.f64 64 9 2 .u32 33:=mkC (d:=34) (s:=80) (t:=86) (by kernel_rfl) (by kernel_rfl) U80 U86
theorem m64_9_3:M1 Try.f64 64 9 3 34:=mk1 (by kernel_rfl)
theorem q64_9_3:QO Try.f64 64 9 3 34 35:=mkO (t:=24) (e:=86) (by kernel_rfl) (by kernel_rfl) (by kernel_rfl) (by kernel_rfl) (by kernel_rfl) (by kernel_rfl) (show zeroV Pg 86=some (.int .u32 (.ofNat 0)) by kernel_rfl)
theorem m64_9_4:M2 Try.f64 64 9 4 32 35:=mk2 (by kernel_rfl) (by decide)
theorem i64_9_4:ApI Pg (opA Try.f64 9 4) 36 32 35 24:=⟨by kernel_rfl,{ callee:=.builtin .append,args:=#[.tmp 32,.tmp 35],argTypes:=#[24,24] },by kernel_rfl,rfl,rfl,rfl,by kernel_rfl⟩
theorem a64_9_4 {loc:Lo} {k:IntKind} {l ys:List Nat} {v w:V} {hp:Hp} (hv:Gr hp v k l) (hw:∀ tm,itemsOf ⟨tm,loc,hp⟩ w=some (nl k ys)) (hy:ys≠[]) (hn:l.length+ys.length≤1000000000):∃ h',(∀ (c:CallF) (tm:Tm) (j:V→Lo→Hp→R),go2 Try.f64 64 9 4 32 35 v w c tm loc hp j=j (.arr (.glob hp.rows.length) 0 (l.length+ys.length) none 1 false) loc h')∧h'.rows[hp.rows.length]? = some (.cells false (nl k (l++ys)))∧h'.rows.length=hp.rows.length+1∧(∀ i,i<hp.rows.length→v≠.arr (.glob i) 0 l.length none 1 false→h'.rows[i]? = hp.rows[i]?)∧(h'=hadd hp (.cells false (nl k (l++ys)))∨∃ r,v=.arr (.glob r) 0 l.length none 1 false∧h'=hadd (hset hp r .gone) (.cells false (nl k (l++ys)))):=gen_growGs i64_9_4 (by kernel_rfl) (by kernel_rfl) (e:=86) (by kernel_rfl) (by kernel_rfl) (b:=4) (by kernel_rfl) (by decide) hv hw hy (by omega)
theorem m65_3_7:M2 Try.f65 65 3 7 22 28:=mk2 (by kernel_rfl) (by decide)
theorem b65_3_7 {v w:V} (hv:Pl v) (hw:Pl w) (c:CallF) (t:Tm) (l:Lo) (h:Hp) (j:V→Lo→Hp→R):go2 Try.f65 65 3 7 22 28 v w c t l h j=j (.agg [v,w]) l h:=gen_two (C:=Cg) (gl:=Cg.glob 65) (call:=c) (o:=opA Try.f65 3 7) (d:=29) (t:=26) (by kernel_rfl) (by kernel_rfl) (by kernel_rfl) (show zeroV Pg 26=some (.agg [.nils,(.bool false)]) by kernel_rfl) (by decide) hv hw
theorem bb65_3_7 {w:V} {r n:Nat} {li:Option Nat} {L:List Nat} {f0:Bool} {h:Hp} (hr:h.rows[r]? = some (.cells f0 (nl .u32 L))) (hn:n≤L.length) (hw:Pl w) (c:CallF) (t:Tm) (l:Lo) (j:V→Lo→Hp→R):go2 Try.f65 65 3 7 22 28 (.arr (.glob r) 0 n li 1 false) w c t l h j=j (.agg [.slice none false 1 (nl .u32 (L.take n)),w]) l (hset h r (.cells true (nl .u32 L))):=gen_two_arr (C:=Cg) (gl:=Cg.glob 65) (call:=c) (o:=opA Try.f65 3 7) (d:=29) (t:=26) (by kernel_rfl) (by kernel_rfl) (by kernel_rfl) (show zeroV Pg 26=some (.agg [.nils,(.bool false)]) by kernel_rfl) (by decide) hr hn hw
theorem m67_3_7:M2 Try.f67 67 3 7 27 28:=mk2 (by kernel_rfl) (by decide)
theorem b67_3_7 {v w:V} (hv:Pl v) (hw:Pl w) (c:CallF) (t:Tm) (l:Lo) (h:Hp) (j:V→Lo→Hp→R):go2 Try.f67 67 3 7 27 28 v w c t l h j=j (.agg [v,w]) l h:=gen_two (C:=Cg) (gl:=Cg.glob 67) (call:=c) (o:=opA Try.f67 3 7) (d:=29) (t:=31) (by kernel_rfl) (by kernel_rfl) (by kernel_rfl) (show zeroV Pg 31=some (.agg [(.bool false),.nils]) by kernel_rfl) (by decide) hv hw
theorem m68_3_2:M2 Try.f68 68 3 2 5 6:=mk2 (by kernel_rfl) (by decide)
theorem i68_3_2:ApI Pg (opA Try.f68 3 2) 7 5 6 24:=⟨by kernel_rfl,{ callee:=.builtin .append,args:=#[.tmp 5,.tmp 6],argTypes:=#[24,24] },by kernel_rfl,rfl,rfl,rfl,by kernel_rfl⟩
theorem n71_7_5:NC Try.f71 71 7 5 .u64 25:=mkC (d:=26) (s:=86) (t:=80) (by kernel_rfl) (by kernel_rfl) U86 U80
theorem n71_9_5:NC Try.f71 71 9 5 .u64 36:=mkC (d:=37) (s:=86) (t:=80) (by kernel_rfl) (by kernel_rfl) U86 U80
theorem n71_10_2:NC Try.f71 71 10 2 .u32 40:=mkC (d:=41) (s:=80) (t:=86) (by kernel_rfl) (by kernel_rfl) U80 U86
theorem m71_10_3:M1 Try.f71 71 10 3 41:=mk1 (by kernel_rfl)
theorem q71_10_3:QO Try.f71 71 10 3 41 42:=mkO (t:=24) (e:=86) (by kernel_rfl) (by kernel_rfl) (by kernel_rfl) (by kernel_rfl) (by kernel_rfl) (by kernel_rfl) (show zeroV Pg 86=some (.int .u32 (.ofNat 0)) by kernel_rfl)
theorem m71_10_4:M2 Try.f71 71 10 4 39 42:=mk2 (by kernel_rfl) (by decide)
theorem i71_10_4:ApI Pg (opA Try.f71 10 4) 43 39 42 24:=⟨by kernel_rfl,{ callee:=.builtin .append,args:=#[.tmp 39,.tmp 42],argTypes:=#[24,24] },by kernel_rfl,rfl,rfl,rfl,by kernel_rfl⟩
theorem a71_10_4:AP Try.f71 71 10 4 39 42 43:=mkP i71_10_4 (by kernel_rfl) (by kernel_rfl) (e:=86) (by kernel_rfl) (by kernel_rfl) (b:=4) (by kernel_rfl) (by decide) (by decide) (by decide)
theorem m73_10_2:M1 Try.f73 73 10 2 33:=mk1 (by kernel_rfl)
theorem q73_10_2:QO Try.f73 73 10 2 33 34:=mkO (t:=24) (e:=86) (by kernel_rfl) (by kernel_rfl) (by kernel_rfl) (by kernel_rfl) (by kernel_rfl) (by kernel_rfl) (show zeroV Pg 86=some (.int .u32 (.ofNat 0)) by kernel_rfl)
theorem m73_10_3:M2 Try.f73 73 10 3 32 34:=mk2 (by kernel_rfl) (by decide)
theorem i73_10_3:ApI Pg (opA Try.f73 10 3) 35 32 34 24:=⟨by kernel_rfl,{ callee:=.builtin .append,args:=#[.tmp 32,.tmp 34],argTypes:=#[24,24] },by kernel_rfl,rfl,rfl,rfl,by kernel_rfl⟩
theorem a73_10_3:AP Try.f73 73 10 3 32 34 35:=mkP i73_10_3 (by kernel_rfl) (by kernel_rfl) (e:=86) (by kernel_rfl) (by kernel_rfl) (b:=4) (by kernel_rfl) (by decide) (by decide) (by decide)
theorem m74_10_4:M2 Try.f74 74 10 4 44 47:=mk2 (by kernel_rfl) (by decide)
theorem i74_10_4:ApI Pg (opA Try.f74 10 4) 48 44 47 29:=⟨by kernel_rfl,{ callee:=.builtin .append,args:=#[.tmp 44,.tmp 47],argTypes:=#[29,29] },by kernel_rfl,rfl,rfl,rfl,by kernel_rfl⟩
theorem a74_10_4:APT Try.f74 74 10 4 44 47 48:=mkPT i74_10_4 (by kernel_rfl) (by kernel_rfl) (e:=3) (by kernel_rfl) (by kernel_rfl) (b:=8) (by kernel_rfl) (by decide) (by decide)
theorem m76_12_3:M2 Try.f76 76 12 3 35 37:=mk2 (by kernel_rfl) (by decide)
theorem i76_12_3:ApI Pg (opA Try.f76 12 3) 38 35 37 29:=⟨by kernel_rfl,{ callee:=.builtin .append,args:=#[.tmp 35,.tmp 37],argTypes:=#[29,29] },by kernel_rfl,rfl,rfl,rfl,by kernel_rfl⟩
theorem a76_12_3:APT Try.f76 76 12 3 35 37 38:=mkPT i76_12_3 (by kernel_rfl) (by kernel_rfl) (e:=3) (by kernel_rfl) (by kernel_rfl) (b:=8) (by kernel_rfl) (by decide) (by decide)
theorem m78_2_2:M1 Try.f78 78 2 2 20:=mk1d (by kernel_rfl)
theorem q78_2_2:∀ (c:CallF) (t:Tm) (l:Lo) (h:Hp) (j:V→Lo→Hp→R) (k:IntKind) (n:Nat),n≤1000000000→go1 Try.f78 78 2 2 20 (.int k (.ofNat n)) c t l h j=j (.arr (.loc 21 ((lg l 21).1+1)) 0 n (some n) 1 false) (lp l 21 ((lg l 21).1+1,.cells false (nl .u32 (List.replicate n 0)))) h:=fun c t l h j k n hn=>gen_make (C:=Cg) (gl:=Cg.glob 78) (call:=c) (tm:=t) (loc:=l) (hp:=h) (j:=j) (t':=pt .lf 20 (.int k (.ofNat n))) (k1:=k) (n:=n) (o:=opA Try.f78 2 2) (d:=21) (x:=20) (t:=24) (e:=86) (b:=4) (by kernel_rfl) (by kernel_rfl) (by kernel_rfl) (by kernel_rfl) (by kernel_rfl) (by kernel_rfl) (by kernel_rfl) (by rw [gt_pt,if_pos rfl]) (by omega) (by omega)
theorem n78_6_6:NC Try.f78 78 6 6 .u64 34:=mkC (d:=35) (s:=86) (t:=80) (by kernel_rfl) (by kernel_rfl) U86 U80
theorem n78_7_6:NC Try.f78 78 7 6 .u64 42:=mkC (d:=43) (s:=86) (t:=80) (by kernel_rfl) (by kernel_rfl) U86 U80
theorem n78_7_8:NC Try.f78 78 7 8 .u32 44:=mkC (d:=45) (s:=80) (t:=86) (by kernel_rfl) (by kernel_rfl) U80 U86
theorem m78_7_10:M2 Try.f78 78 7 10 46 45:=mk2 (by kernel_rfl) (by decide)
theorem n78_8_4:NC Try.f78 78 8 4 .u64 50:=mkC (d:=51) (s:=86) (t:=80) (by kernel_rfl) (by kernel_rfl) U86 U80
theorem n78_9_2:NC Try.f78 78 9 2 .u32 54:=mkC (d:=55) (s:=80) (t:=86) (by kernel_rfl) (by kernel_rfl) U80 U86
theorem m78_9_3:M1 Try.f78 78 9 3 55:=mk1 (by kernel_rfl)
theorem q78_9_3:QO Try.f78 78 9 3 55 56:=mkO (t:=24) (e:=86) (by kernel_rfl) (by kernel_rfl) (by kernel_rfl) (by kernel_rfl) (by kernel_rfl) (by kernel_rfl) (show zeroV Pg 86=some (.int .u32 (.ofNat 0)) by kernel_rfl)
theorem n78_10_7:NC Try.f78 78 10 7 .u64 65:=mkC (d:=66) (s:=3) (t:=87) (by kernel_rfl) (by kernel_rfl) U3 U87
theorem m78_13_2:M1 Try.f78 78 13 2 77:=mk1d (by kernel_rfl)
theorem q78_13_2:∀ (c:CallF) (t:Tm) (l:Lo) (h:Hp) (j:V→Lo→Hp→R) (k:IntKind) (n:Nat),n≤1000000000→go1 Try.f78 78 13 2 77 (.int k (.ofNat n)) c t l h j=j (.arr (.loc 78 ((lg l 78).1+1)) 0 n (some n) 1 false) (lp l 78 ((lg l 78).1+1,.cells false (nl .u32 (List.replicate n 0)))) h:=fun c t l h j k n hn=>gen_make (C:=Cg) (gl:=Cg.glob 78) (call:=c) (tm:=t) (loc:=l) (hp:=h) (j:=j) (t':=pt .lf 77 (.int k (.ofNat n))) (k1:=k) (n:=n) (o:=opA Try.f78 13 2) (d:=78) (x:=77) (t:=24) (e:=86) (b:=4) (by kernel_rfl) (by kernel_rfl) (by kernel_rfl) (by kernel_rfl) (by kernel_rfl) (by kernel_rfl) (by kernel_rfl) (by rw [gt_pt,if_pos rfl]) (by omega) (by omega)
theorem n78_19_5:NC Try.f78 78 19 5 .u64 112:=mkC (d:=113) (s:=86) (t:=80) (by kernel_rfl) (by kernel_rfl) U86 U80
theorem n78_22_3:NC Try.f78 78 22 3 .u32 131:=mkC (d:=132) (s:=80) (t:=86) (by kernel_rfl) (by kernel_rfl) U80 U86
theorem m78_22_5:M2 Try.f78 78 22 5 133 132:=mk2 (by kernel_rfl) (by decide)
theorem m79_5_6:M2 Try.f79 79 5 6 23 24:=mk2 (by kernel_rfl) (by decide)
theorem i79_5_6:ApI Pg (opA Try.f79 5 6) 25 23 24 29:=⟨by kernel_rfl,{ callee:=.builtin .append,args:=#[.tmp 23,.tmp 24],argTypes:=#[29,29] },by kernel_rfl,rfl,rfl,rfl,by kernel_rfl⟩
theorem m79_12_3:M2 Try.f79 79 12 3 45 46:=mk2 (by kernel_rfl) (by decide)
theorem i79_12_3:ApI Pg (opA Try.f79 12 3) 47 45 46 29:=⟨by kernel_rfl,{ callee:=.builtin .append,args:=#[.tmp 45,.tmp 46],argTypes:=#[29,29] },by kernel_rfl,rfl,rfl,rfl,by kernel_rfl⟩
theorem m85_1_3:M1 Try.f85 85 1 3 11:=mk1d (by kernel_rfl)
theorem n85_5_1:NC Try.f85 85 5 1 .u64 20:=mkC (d:=21) (s:=86) (t:=80) (by kernel_rfl) (by kernel_rfl) U86 U80
theorem n85_6_5:NC Try.f85 85 6 5 .u32 28:=mkC (d:=29) (s:=80) (t:=86) (by kernel_rfl) (by kernel_rfl) U80 U86
theorem m85_6_8:M2 Try.f85 85 6 8 31 30:=mk2 (by kernel_rfl) (by decide)
theorem w85_6_8 {r off n:Nat} {d:List Nat} {h:Hp} (hr:h.rows[r]? = some (.cells false (nl .u32 d))) (ho:off<d.length) (c:CallF) (t:Tm) (l:Lo) (j:V→Lo→Hp→R):go2 Try.f85 85 6 8 31 30 (.ptr (.glob r) off) (.int .u32 (.ofNat n)) c t l h j=j (.tuple []) l (hset h r (.cells false (nl .u32 (d.set off n)))):=gen_store_glob (C:=Cg) (gl:=Cg.glob 85) (call:=c) (o:=opA Try.f85 6 8) (t:=86) (by kernel_rfl) (by kernel_rfl) (by decide) (by kernel_rfl) hr ho
theorem n85_7_5:NC Try.f85 85 7 5 .u32 36:=mkC (d:=37) (s:=80) (t:=86) (by kernel_rfl) (by kernel_rfl) U80 U86
theorem m85_7_7:M2 Try.f85 85 7 7 38 37:=mk2 (by kernel_rfl) (by decide)
theorem w85_7_7 {r off n:Nat} {d:List Nat} {h:Hp} (hr:h.rows[r]? = some (.cells false (nl .u32 d))) (ho:off<d.length) (c:CallF) (t:Tm) (l:Lo) (j:V→Lo→Hp→R):go2 Try.f85 85 7 7 38 37 (.ptr (.glob r) off) (.int .u32 (.ofNat n)) c t l h j=j (.tuple []) l (hset h r (.cells false (nl .u32 (d.set off n)))):=gen_store_glob (C:=Cg) (gl:=Cg.glob 85) (call:=c) (o:=opA Try.f85 7 7) (t:=86) (by kernel_rfl) (by kernel_rfl) (by decide) (by kernel_rfl) hr ho
theorem m86_7_2:M2 Try.f86 86 7 2 28 29:=mk2 (by kernel_rfl) (by decide)
theorem m87_1_2:M1 Try.f87 87 1 2 10:=mk1d (by kernel_rfl)
theorem q87_1_2:∀ (c:CallF) (t:Tm) (l:Lo) (h:Hp) (j:V→Lo→Hp→R) (k:IntKind) (n:Nat),n≤1000000000→go1 Try.f87 87 1 2 10 (.int k (.ofNat n)) c t l h j=j (.arr (.loc 11 ((lg l 11).1+1)) 0 n (some n) 1 false) (lp l 11 ((lg l 11).1+1,.cells false (nl .u32 (List.replicate n 0)))) h:=fun c t l h j k n hn=>gen_make (C:=Cg) (gl:=Cg.glob 87) (call:=c) (tm:=t) (loc:=l) (hp:=h) (j:=j) (t':=pt .lf 10 (.int k (.ofNat n))) (k1:=k) (n:=n) (o:=opA Try.f87 1 2) (d:=11) (x:=10) (t:=24) (e:=86) (b:=4) (by kernel_rfl) (by kernel_rfl) (by kernel_rfl) (by kernel_rfl) (by kernel_rfl) (by kernel_rfl) (by kernel_rfl) (by rw [gt_pt,if_pos rfl]) (by omega) (by omega)
theorem n87_5_1:NC Try.f87 87 5 1 .u64 19:=mkC (d:=20) (s:=86) (t:=80) (by kernel_rfl) (by kernel_rfl) U86 U80
theorem n87_6_6:NC Try.f87 87 6 6 .u32 29:=mkC (d:=30) (s:=80) (t:=86) (by kernel_rfl) (by kernel_rfl) U80 U86
theorem m87_6_9:M2 Try.f87 87 6 9 32 31:=mk2 (by kernel_rfl) (by decide)
theorem n87_8_6:NC Try.f87 87 8 6 .u32 40:=mkC (d:=41) (s:=80) (t:=86) (by kernel_rfl) (by kernel_rfl) U80 U86
theorem m87_8_9:M2 Try.f87 87 8 9 43 42:=mk2 (by kernel_rfl) (by decide)
theorem m88_8_4:M2 Try.f88 88 8 4 30 33:=mk2 (by kernel_rfl) (by decide)
theorem i88_8_4:ApI Pg (opA Try.f88 8 4) 34 30 33 29:=⟨by kernel_rfl,{ callee:=.builtin .append,args:=#[.tmp 30,.tmp 33],argTypes:=#[29,29] },by kernel_rfl,rfl,rfl,rfl,by kernel_rfl⟩
theorem a88_8_4:APT Try.f88 88 8 4 30 33 34:=mkPT i88_8_4 (by kernel_rfl) (by kernel_rfl) (e:=3) (by kernel_rfl) (by kernel_rfl) (b:=8) (by kernel_rfl) (by decide) (by decide)
theorem n89_7_2:NC Try.f89 89 7 2 .u8 14:=mkC (d:=15) (s:=86) (t:=5) (by kernel_rfl) (by kernel_rfl) U86 U5
theorem n89_7_4:NC Try.f89 89 7 4 .i64 16:=mkC (d:=17) (s:=5) (t:=3) (by kernel_rfl) (by kernel_rfl) U5 U3
def r_ld_iptr_L2:=ld_iptr L2
def r_ldc_fst_L2:=ldc_fst L2
def r_ldc_snd_L2:=ldc_snd L2
def r_ldc_nl_L2:=ldc_nl L2
def r_ldg_cells_L2:=ldg_cells L2
def r_stc_nl_N2:=stc_nl N2
def r_ld_iptr_L3:=ld_iptr L3
def r_ldc_fst_L3:=ldc_fst L3
def r_ldc_snd_L3:=ldc_snd L3
def r_ldc_nl_L3:=ldc_nl L3
def r_ldg_cells_L3:=ldg_cells L3
def r_stc_nl_N3:=stc_nl N3
def r_ld_iptr_L4:=ld_iptr L4
def r_ldc_fst_L4:=ldc_fst L4
def r_ldc_snd_L4:=ldc_snd L4
def r_ldc_nl_L4:=ldc_nl L4
def r_ldg_cells_L4:=ldg_cells L4
def r_stc_nl_N4:=stc_nl N4
def r_ld_iptr_L5:=ld_iptr L5
def r_ldc_fst_L5:=ldc_fst L5
def r_ldc_snd_L5:=ldc_snd L5
def r_ldc_nl_L5:=ldc_nl L5
def r_ldg_cells_L5:=ldg_cells L5
def r_stc_nl_N5:=stc_nl N5
def r_ld_iptr_L9:=ld_iptr L9
def r_ldc_fst_L9:=ldc_fst L9
def r_ldc_snd_L9:=ldc_snd L9
def r_ldc_nl_L9:=ldc_nl L9
def r_ldg_cells_L9:=ldg_cells L9
def r_stc_nl_N9:=stc_nl N9
def r_ld_iptr_L21:=ld_iptr L21
def r_ldc_fst_L21:=ldc_fst L21
def r_ldc_snd_L21:=ldc_snd L21
def r_ldc_nl_L21:=ldc_nl L21
def r_ldg_cells_L21:=ldg_cells L21
def r_stc_nl_N21:=stc_nl N21
def r_ia_slice_E24_L86:=ia_slice E24 L86
def r_ia_arr_E24_L86:=ia_arr E24 L86
def r_slc_init_E24_L86:=slc_init E24 L86
def r_slc_arr_E24_L86:=slc_arr E24 L86
def r_ld_iptr_L24:=ld_iptr L24
def r_ldc_fst_L24:=ldc_fst L24
def r_ldc_snd_L24:=ldc_snd L24
def r_ldc_nl_L24:=ldc_nl L24
def r_ldg_cells_L24:=ldg_cells L24
def r_stc_nl_N24:=stc_nl N24
def r_ldc_two_L26:=ldc_two L26
def r_stc_two_N26:=stc_two N26
def r_al_eq_Z26_S26_rfl_rfl:=al_eq Z26 S26 rfl rfl
def r_ia_slice_E29_L3:=ia_slice E29 L3
def r_ia_arr_E29_L3:=ia_arr E29 L3
def r_slc_init_E29_L3:=slc_init E29 L3
def r_slc_arr_E29_L3:=slc_arr E29 L3
def r_ld_iptr_L29:=ld_iptr L29
def r_ldc_fst_L29:=ldc_fst L29
def r_ldc_snd_L29:=ldc_snd L29
def r_ldc_nl_L29:=ldc_nl L29
def r_ldg_cells_L29:=ldg_cells L29
def r_stc_nl_N29:=stc_nl N29
def r_ldc_two_L31:=ldc_two L31
def r_stc_two_N31:=stc_two N31
def r_al_eq_Z31_S31_rfl_rfl:=al_eq Z31 S31 rfl rfl
def r_ia_slice_E51_L5:=ia_slice E51 L5
def r_ia_arr_E51_L5:=ia_arr E51 L5
def r_slc_init_E51_L5:=slc_init E51 L5
def r_slc_arr_E51_L5:=slc_arr E51 L5
def r_ld_iptr_L51:=ld_iptr L51
def r_ldc_fst_L51:=ldc_fst L51
def r_ldc_snd_L51:=ldc_snd L51
def r_ldc_nl_L51:=ldc_nl L51
def r_ldg_cells_L51:=ldg_cells L51
def r_stc_nl_N51:=stc_nl N51
def r_ia_slice_E79_L9:=ia_slice E79 L9
def r_ia_arr_E79_L9:=ia_arr E79 L9
def r_slc_init_E79_L9:=slc_init E79 L9
def r_slc_arr_E79_L9:=slc_arr E79 L9
def r_ld_iptr_L79:=ld_iptr L79
def r_ldc_fst_L79:=ldc_fst L79
def r_ldc_snd_L79:=ldc_snd L79
def r_ldc_nl_L79:=ldc_nl L79
def r_ldg_cells_L79:=ldg_cells L79
def r_stc_nl_N79:=stc_nl N79
def r_ld_iptr_L80:=ld_iptr L80
def r_ldc_fst_L80:=ldc_fst L80
def r_ldc_snd_L80:=ldc_snd L80
def r_ldc_nl_L80:=ldc_nl L80
def r_ldg_cells_L80:=ldg_cells L80
def r_stc_nl_N80:=stc_nl N80
def r_ld_iptr_L86:=ld_iptr L86
def r_ldc_fst_L86:=ldc_fst L86
def r_ldc_snd_L86:=ldc_snd L86
def r_ldc_nl_L86:=ldc_nl L86
def r_ldg_cells_L86:=ldg_cells L86
def r_stc_nl_N86:=stc_nl N86
def r_ld_iptr_L87:=ld_iptr L87
def r_ldc_fst_L87:=ldc_fst L87
def r_ldc_snd_L87:=ldc_snd L87
def r_ldc_nl_L87:=ldc_nl L87
def r_ldg_cells_L87:=ldg_cells L87
def r_stc_nl_N87:=stc_nl N87
theorem dd23_18_13:DS Try.f23 23 18 13 77 72 5:=mkS (by kernel_rfl) (by kernel_rfl) (by decide)
theorem dd23_18_15:DS Try.f23 23 18 15 78 76 5:=mkS (by kernel_rfl) (by kernel_rfl) (by decide)
theorem dd24_12_4:DS Try.f24 24 12 4 2 57 26:=mkS (by kernel_rfl) (by kernel_rfl) (by decide)
theorem dd24_12_5:DS Try.f24 24 12 5 3 60 31:=mkS (by kernel_rfl) (by kernel_rfl) (by decide)
theorem dd25_2_8:DS Try.f25 25 2 8 4 18 26:=mkS (by kernel_rfl) (by kernel_rfl) (by decide)
theorem dd25_4_8:DS Try.f25 25 4 8 4 33 26:=mkS (by kernel_rfl) (by kernel_rfl) (by decide)
theorem dd25_5_8:DS Try.f25 25 5 8 4 41 26:=mkS (by kernel_rfl) (by kernel_rfl) (by decide)
theorem dd26_2_8:DS Try.f26 26 2 8 4 17 31:=mkS (by kernel_rfl) (by kernel_rfl) (by decide)
theorem dd26_4_8:DS Try.f26 26 4 8 4 31 31:=mkS (by kernel_rfl) (by kernel_rfl) (by decide)
theorem dd26_5_8:DS Try.f26 26 5 8 4 39 31:=mkS (by kernel_rfl) (by kernel_rfl) (by decide)
theorem dd27_1_4:DS Try.f27 27 1 4 4 8 26:=mkS (by kernel_rfl) (by kernel_rfl) (by decide)
theorem dd28_1_4:DS Try.f28 28 1 4 4 8 31:=mkS (by kernel_rfl) (by kernel_rfl) (by decide)
theorem dd37_2_2:DS Try.f37 37 2 2 4 15 26:=mkS (by kernel_rfl) (by kernel_rfl) (by decide)
theorem dd37_2_3:DS Try.f37 37 2 3 5 16 26:=mkS (by kernel_rfl) (by kernel_rfl) (by decide)
theorem dd37_8_5:DS Try.f37 37 8 5 7 56 26:=mkS (by kernel_rfl) (by kernel_rfl) (by decide)
theorem dd37_13_2:DS Try.f37 37 13 2 4 64 26:=mkS (by kernel_rfl) (by kernel_rfl) (by decide)
theorem dd37_13_3:DS Try.f37 37 13 3 5 65 26:=mkS (by kernel_rfl) (by kernel_rfl) (by decide)
theorem dd38_2_2:DS Try.f38 38 2 2 4 14 31:=mkS (by kernel_rfl) (by kernel_rfl) (by decide)
theorem dd38_2_3:DS Try.f38 38 2 3 5 15 31:=mkS (by kernel_rfl) (by kernel_rfl) (by decide)
theorem dd38_4_13:DS Try.f38 38 4 13 8 30 31:=mkS (by kernel_rfl) (by kernel_rfl) (by decide)
theorem dd38_4_14:DS Try.f38 38 4 14 9 34 31:=mkS (by kernel_rfl) (by kernel_rfl) (by decide)
theorem dd38_8_3:DS Try.f38 38 8 3 8 46 31:=mkS (by kernel_rfl) (by kernel_rfl) (by decide)
theorem dd38_9_3:DS Try.f38 38 9 3 8 49 31:=mkS (by kernel_rfl) (by kernel_rfl) (by decide)
theorem dd38_10_2:DS Try.f38 38 10 2 4 50 31:=mkS (by kernel_rfl) (by kernel_rfl) (by decide)
theorem dd38_10_3:DS Try.f38 38 10 3 5 51 31:=mkS (by kernel_rfl) (by kernel_rfl) (by decide)
theorem dd39_1_6:DS Try.f39 39 1 6 2 9 26:=mkS (by kernel_rfl) (by kernel_rfl) (by decide)
theorem dd39_1_7:DS Try.f39 39 1 7 3 12 26:=mkS (by kernel_rfl) (by kernel_rfl) (by decide)
theorem dd39_4_2:DS Try.f39 39 4 2 2 23 26:=mkS (by kernel_rfl) (by kernel_rfl) (by decide)
theorem dd39_4_3:DS Try.f39 39 4 3 3 24 26:=mkS (by kernel_rfl) (by kernel_rfl) (by decide)
theorem dd40_1_8:DS Try.f40 40 1 8 5 11 31:=mkS (by kernel_rfl) (by kernel_rfl) (by decide)
theorem dd40_1_9:DS Try.f40 40 1 9 6 14 31:=mkS (by kernel_rfl) (by kernel_rfl) (by decide)
theorem dd40_4_2:DS Try.f40 40 4 2 5 25 31:=mkS (by kernel_rfl) (by kernel_rfl) (by decide)
theorem dd40_4_3:DS Try.f40 40 4 3 6 26 31:=mkS (by kernel_rfl) (by kernel_rfl) (by decide)
theorem dd69_3_13:DS Try.f69 69 3 13 26 21 5:=mkS (by kernel_rfl) (by kernel_rfl) (by decide)
theorem dg69_3_13 {r off n:Nat} {d:List Nat} {h:Hp} (hr:h.rows[r]? = some (.cells false (nl .u8 d))) (ho:off<d.length) (c:CallF) (t:Tm) (l:Lo) (J:JD) (X:XD):gD Try.f69 69 3 13 c (pt (pt t 26 (.ptr (.glob r) off)) 21 (.int .u8 (.ofNat n))) l h J X=J (.tuple []) ⟨[],[],true,true,false,false⟩ l (hset h r (.cells false (nl .u8 (d.set off n)))):=genD_store_glob (C:=Cg) (a:=26) (x:=21) (hp:=h) (loc:=l) (J:=J) (X:=X) (t':=pt (pt t 26 (.ptr (.glob r) off)) 21 (.int .u8 (.ofNat n))) (gl:=Cg.glob 69) (call:=c) (o:=opA Try.f69 3 13) (t:=5) (by kernel_rfl) (by kernel_rfl) (by kernel_rfl) (by rw [gt_pt,if_neg (by decide),gt_pt,if_pos rfl]) (by rw [gt_pt,if_pos rfl]) hr ho
theorem dd69_3_15:DS Try.f69 69 3 15 27 25 5:=mkS (by kernel_rfl) (by kernel_rfl) (by decide)
theorem dg69_3_15 {r off n:Nat} {d:List Nat} {h:Hp} (hr:h.rows[r]? = some (.cells false (nl .u8 d))) (ho:off<d.length) (c:CallF) (t:Tm) (l:Lo) (J:JD) (X:XD):gD Try.f69 69 3 15 c (pt (pt t 27 (.ptr (.glob r) off)) 25 (.int .u8 (.ofNat n))) l h J X=J (.tuple []) ⟨[],[],true,true,false,false⟩ l (hset h r (.cells false (nl .u8 (d.set off n)))):=genD_store_glob (C:=Cg) (a:=27) (x:=25) (hp:=h) (loc:=l) (J:=J) (X:=X) (t':=pt (pt t 27 (.ptr (.glob r) off)) 25 (.int .u8 (.ofNat n))) (gl:=Cg.glob 69) (call:=c) (o:=opA Try.f69 3 15) (t:=5) (by kernel_rfl) (by kernel_rfl) (by kernel_rfl) (by rw [gt_pt,if_neg (by decide),gt_pt,if_pos rfl]) (by rw [gt_pt,if_pos rfl]) hr ho
attribute [go_sem] g0_ g1_ g2_ g3_ g4_ g5_ g6_ g7_ g8_ g9_ g10_ g11_ g12_ g13_ g14_ g15_ g20_ g21_ g22_ g28_ g29_ g30_ g41_ g42_ g57_ g70_ g71_ p0_ p1_ p2_ p3_ p4_ p5_ p6_ p7_ p8_ p9_ p10_ p11_ p12_ p13_ p14_ p15_ p16_ p17_ p18_ p19_ p20_ p21_ p22_ p23_ p24_ p25_ p26_ p27_ p28_ p29_ p30_ p31_ p32_ p33_ p34_ p35_ p36_ p37_ p38_ p39_ p40_ p41_ p42_ p43_ p44_ p45_ p46_ p47_ p48_ p49_ p50_ p51_ p52_ p53_ p54_ p55_ p56_ p57_ p58_ p59_ p60_ p62_ p63_ p64_ p65_ p66_ p67_ p68_ p69_ p70_ p71_ p72_ p73_ p75_ p76_ p77_ p78_ p79_ p82_ p83_ p84_ p88_ p97_ p105_ p112_ p126_ p131_ p132_ p133_ U2 U3 U4 U5 U9 U21 U24 U29 U51 U79 U80 U86 U87 r_ld_iptr_L2 r_ldc_fst_L2 r_ldc_snd_L2 r_ldc_nl_L2 r_ldg_cells_L2 r_stc_nl_N2 r_ld_iptr_L3 r_ldc_fst_L3 r_ldc_snd_L3 r_ldc_nl_L3 r_ldg_cells_L3 r_stc_nl_N3 r_ld_iptr_L4 r_ldc_fst_L4 r_ldc_snd_L4 r_ldc_nl_L4 r_ldg_cells_L4 r_stc_nl_N4 r_ld_iptr_L5 r_ldc_fst_L5 r_ldc_snd_L5 r_ldc_nl_L5 r_ldg_cells_L5 r_stc_nl_N5 r_ld_iptr_L9 r_ldc_fst_L9 r_ldc_snd_L9 r_ldc_nl_L9 r_ldg_cells_L9 r_stc_nl_N9 r_ld_iptr_L21 r_ldc_fst_L21 r_ldc_snd_L21 r_ldc_nl_L21 r_ldg_cells_L21 r_stc_nl_N21 r_ia_slice_E24_L86 r_ia_arr_E24_L86 r_slc_init_E24_L86 r_slc_arr_E24_L86 r_ld_iptr_L24 r_ldc_fst_L24 r_ldc_snd_L24 r_ldc_nl_L24 r_ldg_cells_L24 r_stc_nl_N24 r_ldc_two_L26 r_stc_two_N26 r_al_eq_Z26_S26_rfl_rfl r_ia_slice_E29_L3 r_ia_arr_E29_L3 r_slc_init_E29_L3 r_slc_arr_E29_L3 r_ld_iptr_L29 r_ldc_fst_L29 r_ldc_snd_L29 r_ldc_nl_L29 r_ldg_cells_L29 r_stc_nl_N29 r_ldc_two_L31 r_stc_two_N31 r_al_eq_Z31_S31_rfl_rfl r_ia_slice_E51_L5 r_ia_arr_E51_L5 r_slc_init_E51_L5 r_slc_arr_E51_L5 r_ld_iptr_L51 r_ldc_fst_L51 r_ldc_snd_L51 r_ldc_nl_L51 r_ldg_cells_L51 r_stc_nl_N51 r_ia_slice_E79_L9 r_ia_arr_E79_L9 r_slc_init_E79_L9 r_slc_arr_E79_L9 r_ld_iptr_L79 r_ldc_fst_L79 r_ldc_snd_L79 r_ldc_nl_L79 r_ldg_cells_L79 r_stc_nl_N79 r_ld_iptr_L80 r_ldc_fst_L80 r_ldc_snd_L80 r_ldc_nl_L80 r_ldg_cells_L80 r_stc_nl_N80 r_ld_iptr_L86 r_ldc_fst_L86 r_ldc_snd_L86 r_ldc_nl_L86 r_ldg_cells_L86 r_stc_nl_N86 r_ld_iptr_L87 r_ldc_fst_L87 r_ldc_snd_L87 r_ldc_nl_L87 r_ldg_cells_L87 r_stc_nl_N87 FA26_0 FA26_1 FA31_0 FA31_1 q15_6_0 m15_9_1 m15_10_0 q15_13_0 n15_14_4 q16_2_0 n16_14_6 m16_15_3 n17_0_0 n17_0_1 n18_0_0 n18_10_6 n18_11_4 m18_11_6 n18_17_4 m18_17_5 q18_17_5 m18_17_6 q18_23_1 m18_23_2 m18_25_1 n21_1_1 n21_4_1 n21_4_4 m21_4_5 n22_2_1 n22_7_3 m22_7_5 m22_9_2 n23_0_0 n23_11_4 m23_11_5 q23_11_5 m23_11_6 q23_14_1 m23_14_2 m23_19_1 m24_6_4 q24_6_4 m24_6_5 q24_8_0 q24_10_0 m24_10_2 m24_11_1 n25_0_0 n25_0_1 n26_0_0 n26_0_1 n27_0_0 n27_0_1 n28_0_0 n28_0_1 n29_0_0 n29_0_1 m29_1_7 q29_1_7 n29_9_2 n29_9_4 n29_9_12 n29_10_5 m29_10_7 n29_13_7 m29_13_9 n31_0_0 n32_0_0 m32_1_11 n33_0_0 n33_0_1 n35_0_0 q35_1_1 n37_0_0 n37_0_1 q37_3_0 n38_0_0 n38_0_1 n39_0_0 n39_0_1 n40_0_0 n40_0_1 n64_4_2 n64_5_3 m64_5_5 n64_9_2 m64_9_3 q64_9_3 m64_9_4 m65_3_7 m67_3_7 m68_3_2 n71_7_5 n71_9_5 n71_10_2 m71_10_3 q71_10_3 m71_10_4 m73_10_2 q73_10_2 m73_10_3 m74_10_4 m76_12_3 m78_2_2 q78_2_2 n78_6_6 n78_7_6 n78_7_8 m78_7_10 n78_8_4 n78_9_2 m78_9_3 q78_9_3 n78_10_7 m78_13_2 q78_13_2 n78_19_5 n78_22_3 m78_22_5 m79_5_6 m79_12_3 m85_1_3 n85_5_1 n85_6_5 m85_6_8 n85_7_5 m85_7_7 m86_7_2 m87_1_2 q87_1_2 n87_5_1 n87_6_6 m87_6_9 n87_8_6 m87_8_9 m88_8_4 n89_7_2 n89_7_4 dd23_18_13 dd23_18_15 dd24_12_4 dd24_12_5 dd25_2_8 dd25_4_8 dd25_5_8 dd26_2_8 dd26_4_8 dd26_5_8 dd27_1_4 dd28_1_4 dd37_2_2 dd37_2_3 dd37_8_5 dd37_13_2 dd37_13_3 dd38_2_2 dd38_2_3 dd38_4_13 dd38_4_14 dd38_8_3 dd38_9_3 dd38_10_2 dd38_10_3 dd39_1_6 dd39_1_7 dd39_4_2 dd39_4_3 dd40_1_8 dd40_1_9 dd40_4_2 dd40_4_3 dd69_3_13 dd69_3_15
end Go.AM.S
end
section
namespace NumL
def vl (B:Nat):List Nat→Nat
 | []=>0
 | x::l=>x+B*vl B l
def Dg (B:Nat) (l:List Nat):Prop:=∀ x ∈ l,x<B
theorem vl_append (B:Nat) (a b:List Nat):vl B (a++b)=vl B a+B ^ a.length*vl B b:=by
 induction a with
 | nil=>simp [vl]
 | cons x a ih =>
  simp only [List.cons_append,vl,ih,List.length_cons,Nat.pow_succ,Nat.mul_add]
  have:B*(B ^ a.length*vl B b)=B ^ a.length*B*vl B b:=by rw [←Nat.mul_assoc,Nat.mul_comm B]
  omega
theorem vl_one (B x:Nat):vl B [x]=x:=by simp [vl]
theorem vl_lt {B:Nat} (hB:0<B) {l:List Nat} (h:Dg B l):vl B l<B ^ l.length:=by
 induction l with
 | nil=>simp [vl]
 | cons x l ih =>
  have h1:x<B:=h x (by simp)
  have h2:=ih (fun y hy=>h y (by simp [hy]))
  simp only [vl,List.length_cons,Nat.pow_succ]
  have h3:B*vl B l+B≤B*B ^ l.length:=by
   have:=Nat.mul_le_mul_left B (Nat.succ_le_of_lt h2)
   rw [Nat.mul_succ] at this;exact this
  rw [Nat.mul_comm (B ^ l.length)]
  omega
theorem vl_take_succ (B:Nat) (l:List Nat) (i:Nat) (h:i<l.length):vl B (l.take (i+1))=vl B (l.take i)+B ^ i*l.getD i 0:=by
 have e:l.take (i+1)=l.take i++[l.getD i 0]:=by
  rw [List.take_add_one,List.getD_eq_getElem?_getD,List.getElem?_eq_getElem h];simp
 rw [e,vl_append,vl_one,List.length_take,Nat.min_eq_left (Nat.le_of_lt h)]
theorem Dg.nil (B:Nat):Dg B []:=fun x hx=>by simp at hx
theorem Dg.snoc {B:Nat} {l:List Nat} (h:Dg B l) {x:Nat} (hx:x<B):Dg B (l++[x]):=by
 intro y hy
 rcases List.mem_append.1 hy with h1 | h1
 ·exact h y h1
 ·rw [List.mem_singleton.1 h1];exact hx
theorem Dg.get {B:Nat} (hB:0<B) {l:List Nat} (h:Dg B l) (i:Nat):l.getD i 0<B:=by
 rw [List.getD_eq_getElem?_getD]
 cases he:l[i]? with
 | none=>exact hB
 | some x=>exact h x (List.mem_of_getElem? he)
theorem Dg.take {B:Nat} {l:List Nat} (h:Dg B l) (n:Nat):Dg B (l.take n):=fun x hx=>h x (List.mem_of_mem_take hx)
theorem Dg.drop {B:Nat} {l:List Nat} (h:Dg B l) (n:Nat):Dg B (l.drop n):=fun x hx=>h x (List.mem_of_mem_drop hx)
theorem Dg.set {B:Nat} {l:List Nat} (h:Dg B l) (i:Nat) {x:Nat} (hx:x<B):Dg B (l.set i x):=by
 intro y hy
 rcases List.mem_or_eq_of_mem_set hy with h1 | h1
 ·exact h y h1
 ·rw [h1];exact hx
theorem vl_take_ge (B:Nat) (l:List Nat) (i:Nat) (h:l.length≤i):vl B (l.take i)=vl B l:=by rw [List.take_of_length_le h]
theorem getD_ge {a:List Nat} {i:Nat} (h:¬i<a.length):a.getD i 0=0:=by rw [List.getD_eq_getElem?_getD,List.getElem?_eq_none (by omega)];rfl
theorem vl_take_next (B:Nat) (a:List Nat) (i:Nat):vl B (a.take (i+1))=vl B (a.take i)+B ^ i*a.getD i 0:=by
 by_cases h:i<a.length
 ·exact vl_take_succ B a i h
 ·rw [List.take_of_length_le (by omega),List.take_of_length_le (by omega),getD_ge h];simp
theorem plus_step {B:Nat} (hB:0<B) {out:List Nat} {i n x y p q:Nat} (hl:out.length=i) (hv:vl B out+B ^ i*n=p+q):vl B (out++[(n+x+y) % B])+B ^ (i+1)*((n+x+y) / B)=(p+B ^ i*x)+(q+B ^ i*y):=by
 rw [vl_append,vl_one,hl,Nat.pow_succ,Nat.mul_assoc,Nat.add_assoc,←Nat.mul_add,Nat.mod_add_div,Nat.mul_add,Nat.mul_add]
 omega
theorem top_none {B:Nat} {v w k n i:Nat} (hi:i=k+1) (hB:2≤B) (h1:v<B ^ k) (h2:w<B ^ k) {u:Nat} (h:u+B ^ i*n=v+w):n=0:=by
 rcases Nat.eq_zero_or_pos n with h0 | h0
 ·exact h0
 ·exfalso
  subst hi
  have h3:B ^ (k+1)*1≤B ^ (k+1)*n:=Nat.mul_le_mul_left _ h0
  rw [Nat.mul_one,Nat.pow_succ] at h3
  have h4:B ^ k*2≤B ^ k*B:=Nat.mul_le_mul_left _ hB
  rw [Nat.pow_succ] at h
  omega
theorem vl_lt_of {B:Nat} (hB:0<B) {l:List Nat} (h:Dg B l) {k:Nat} (hk:l.length≤k):vl B l<B ^ k:=Nat.lt_of_lt_of_le (vl_lt hB h) (Nat.pow_le_pow_right hB hk)
end NumL
end
section
namespace Go.AM.S
open Go Go.AM Go.Proofs NumL
open _root_.Go.AM.G (R)
noncomputable abbrev kn0:Kn:=fun _=>none
abbrev B:Nat:=4294967296
def Gives (f:FuncId) (args:List V) (p:V→Prop):Prop:=∀ h:Hp,∃ v,Runs Pg kn0 tbl f args h (.val v h)∧p v
theorem back_id (h h':Hp) (vs:List V) (h1:h'.dirty=none) (h2:V.noRefsL vs=true):backHp h h' vs=h:=by
 unfold backHp cleanB
 rw [h1,h2];rfl
theorem gives_of {f:FuncId} {rc:RC} {res:List ResultVar} {args:List V} {p:V→Prop} (ht:tbl f=some ⟨rc,res⟩)
  (hw:∀ (h:Hp) (Q:St→Prop),(∀ s v,fin Pg h res s=some (.val v h)→p v→Q s)→WW Pg kn0 tbl rc ⟨startTm args,.lf,⟨h.rows,none,h.mods⟩⟩ (fun _=>False) (fun _ _=>False) Q):Gives f args p:=by
 intro h
 obtain ⟨o,h1,v,rfl,h2⟩:=runs_ex (Post:=fun o=>∃ v,o=.val v h∧p v) (kn:=kn0) rfl ht (ww_mono (hw h (fun s=>∃ v,fin Pg h res s=some (.val v h)∧p v) (fun s v a b=>⟨v,a,b⟩)) (fun s hs=>hs.elim) (fun _ _ h=>h) (fun s ⟨v,h1,h2⟩=>⟨_,h1,v,rfl,h2⟩))
 exact ⟨v,h1,h2⟩
theorem ww_if {t:Nat} {a b:RC} {s:St} {N:St→Prop} {X:Nat→St→Prop} {Q:St→Prop} {p:Prop} [Decidable p] (hx:gt s.tm t=.bool (decide p)) (h1:p→WW Pg kn0 tbl a s N X Q) (h2:¬p→WW Pg kn0 tbl b s N X Q):WW Pg kn0 tbl (.cond (.tmp t) a b) s N X Q:=by
 by_cases h:p
 ·exact ww_true (by rw [hx,decide_eq_true h]) (h1 h)
 ·exact ww_false (by rw [hx,decide_eq_false h]) (h2 h)
theorem ww_for {c:RC} {id:Nat} {s:St} {N:St→Prop} {X:Nat→St→Prop} {Q:St→Prop} (I:Nat→St→Prop) (m:Nat) (hi:I m s)
  (hb:∀ m s,I m s→WW Pg kn0 tbl c s (fun s'=>∃ m',m'<m∧I m' s') (fun i s=>if i=id then N s else X i s) Q):WW Pg kn0 tbl (.block id (.loop c)) s N X Q :=
 ww_block (ww_loop I hb m hi)
theorem fin_tmp {h:Hp} {t:Nat} {s:St} {v v':V} {st:St} (hv:gt s.tm t=v) (he:AM.exp false s v=some (v',st)) (hh:st.hp.dirty=none) (hr:v'.noRefs=true):fin Pg h [.tmp t] s=some (.val v' h):=by
 unfold fin
 simp only [resV,rho_gt,hv,Option.map_some,exps,he]
 rw [back_id h st.hp [v'] hh (by simp [V.noRefsL,hr])]
theorem Sl.noRefs {k:IntKind} {v:V} {d:List Nat} (h:Sl k v d):v.noRefs=true:=by
 rcases h with ⟨f,rfl⟩ | ⟨rfl,_⟩<;>rfl
end Go.AM.S
end
section
namespace Go.AM.S
open Go Go.AM Go.Proofs NumL
open _root_.Go.AM.G (R)
set_option maxRecDepth 100000
theorem tbl65:tbl 65=some ⟨rc65,[.cell 4 26]⟩:=by kernel_rfl
def Cn (d:List Nat):Prop:=∀ i,d.length=i+1→d.getD i 0≠0
def Tr0 (a d:List Nat):Prop:=∃ n,a=d++List.replicate n 0
theorem Tr0.refl (a:List Nat):Tr0 a a:=⟨0,by simp⟩
theorem Tr0.next {a d:List Nat} (h:Tr0 a d) (h0:0<d.length) (hz:d.getD (d.length - 1) 0=0):Tr0 a (d.take (d.length - 1)):=by
 obtain ⟨n,rfl⟩:=h
 refine ⟨n+1,?_⟩
 have e:d=d.take (d.length - 1)++[0]:=by
  conv=>lhs;rw [←List.take_append_drop (d.length - 1) d]
  congr 1
  have e2:(d.drop (d.length - 1)).length=1:=by simp;omega
  obtain ⟨x,hx⟩:=List.length_eq_one_iff.1 e2
  rw [hx]
  have e3:d[d.length - 1]? = some x:=by
   have:=congrArg (fun l=>l[0]?) hx
   simpa using this
  rw [List.getD_eq_getElem?_getD,e3] at hz
  simp at hz
  rw [hz]
 conv=>lhs;rw [e]
 rw [List.append_assoc];rfl
theorem vl_zeros (B n:Nat):vl B (List.replicate n 0)=0:=by
 induction n with
 | zero=>rfl
 | succ n ih=>simp only [List.replicate_succ,vl,ih,Nat.mul_zero,Nat.add_zero]
theorem Tr0.vl {a d:List Nat} (h:Tr0 a d) (B:Nat):NumL.vl B d=NumL.vl B a:=by
 obtain ⟨n,rfl⟩:=h
 rw [vl_append,vl_zeros];simp
theorem Tr0.dg {a d:List Nat} (h:Tr0 a d) {B:Nat} (hd:Dg B a):Dg B d:=by
 obtain ⟨n,rfl⟩:=h
 exact fun x hx=>hd x (by simp [hx])
theorem Tr0.len {a d:List Nat} (h:Tr0 a d):d.length≤a.length:=by
 obtain ⟨n,rfl⟩:=h
 simp
def NI (v:V) (d:List Nat) (b:Bool):Prop:=(∃ s,v=.agg [s,.bool b]∧Sl .u32 s d)∧Dg B d∧Cn d∧(d=[]→b=false)
theorem made_spec {va:V} {a:List Nat} (ha:Sl .u32 va a) (da:Dg B a) (la:a.length≤1000000000) (ng:Bool) :
  Gives 65 [va,.bool ng] fun r=>∃ d,NI r d (ng && !d.isEmpty)∧Tr0 a d:=by
 refine gives_of tbl65 fun h Q hQ=>?_
 unfold rc65
 refine sR ?_
 refine ww_seq (ww_for (fun m s=>∃ d v,m=d.length∧gt s.tm 0=v∧Sl .u32 v d∧Tr0 a d∧gt s.tm 1=.bool ng∧gt s.tm 4=.ptr (.loc 4 1) 0∧lg s.loc 4=(1,.cells false [.nils,.bool false])∧s.hp=⟨h.rows,none,h.mods⟩) a.length ⟨a,va,rfl,(by simp -implicitDefEqProofs (disch:=omega) only [go_sem,reduceIte,Nat.reduceEqDiff,gt_start,List.getD_cons_zero]),ha,Tr0.refl a,sSG,sS,sS,rfl⟩ ?_)
 intro m s ⟨d,v,hm,h0,hv,ht,h1,h4,hl4,hhp⟩
 have hln:=ht.len
 have stop:Cn d→gt (pt s.tm 16 (.bool false)) 16=.bool false→WW Pg kn0 tbl (.seq (.reg fun c t l h k=>jn (fun v0 l0 h0=>jn (fun v1 l1 h1=>jn (fun v2 l2 h2=>bO (pick (g1 t) v2 (.bool false)) fun v3=>gn Try.f65 65 3 7 c (p28 (p22 t (g0 t)) v3) t l2 h2 (fun v4 l4 h4=>jn (fun v5 l5 h5=>k t l5 h5) fun j5=>sto 26 (g4 t) v4 l4 h4 j5 (gn Try.f65 65 3 8 c (p29 (p4 t (g4 t)) v4) t l4 h4 j5))) fun j2=>brB (wv (g1 t) true) (j2 (.tuple []) l1 h1) (bO (bin Pg .gtr 3 true v1 (I 0)) fun v3=>j2 v3 l1 h1)) fun j1=>brB (wv (g1 t) true) (j1 (.tuple []) l0 h0) (bO (len (Pg.underlying 24) v0) fun v2=>j1 v2 l0 h0)) fun j0=>brB (wv (g1 t) true) (j0 (.tuple []) l h) (j0 (g0 t) l h))
 .ret) ⟨pt s.tm 16 (.bool false),s.loc,s.hp⟩ (fun _=>False) (fun _ _=>False) Q:=by
  intro hcn _
  have key:∀ b:Bool,b=(ng && !d.isEmpty)→NI (.agg [v,.bool b]) d (ng && !d.isEmpty):=by
   intro b hb
   subst hb
   exact ⟨⟨v,rfl,hv⟩,ht.dg da,hcn,fun e=>by subst e;simp⟩
  cases ng with
  | false =>
   refine ww_seq (ww_reg (fun n k=>by simp -implicitDefEqProofs (disch:=omega) only [go_sem,reduceIte,Nat.reduceEqDiff,h0,h1,h4,hl4,b65_3_7 hv.pl (Pl.bool false),stc_two N26 1 v (.bool false) .nils (.bool false) _ hv.pl.ok rfl];rfl) ?_)
   exact ww_ret (hQ _ _ (fin_cell (x:=v) (y:=.bool false) (f:=false) (d:=4) (g:=1) (by kernel_rfl) (sS1 h4) (sS1 hl4) hv.pl (Pl.bool _) (by rw [hhp])) ⟨d,key false (by simp),ht⟩)
  | true =>
   refine ww_seq (ww_reg (fun n k=>by simp -implicitDefEqProofs (disch:=omega) only [go_sem,reduceIte,Nat.reduceEqDiff,h0,h1,h4,hl4,len_sl hv,b65_3_7 hv.pl (Pl.bool _),stc_two N26 1 v (.bool (decide (0<d.length))) .nils (.bool false) _ hv.pl.ok rfl];rfl) ?_)
   refine ww_ret (hQ _ _ (fin_cell (x:=v) (y:=.bool (decide (0<d.length))) (f:=false) (d:=4) (g:=1) (by kernel_rfl) (sS1 h4) (sS1 hl4) hv.pl (Pl.bool _) (by rw [hhp])) ⟨d,key _ ?_,ht⟩)
   cases d with
   | nil=>rfl
   | cons x l=>simp
 rcases Nat.eq_zero_or_pos d.length with hd | hd
 ·refine ww_seq (ww_seq (ww_reg (fun n k=>by simp -implicitDefEqProofs (disch:=omega) only [go_sem,reduceIte,Nat.reduceEqDiff,h0,len_sl hv,d_false];rfl) ?_))
  refine ww_false sS (ww_exit ?_)
  rw [if_pos rfl]
  exact stop (fun i hi=>by omega) sS
 ·have hx:d.getD (d.length - 1) 0<4294967296:=(ht.dg da).get (by decide) _
  by_cases hz:d.getD (d.length - 1) 0=0
  ·refine ww_seq (ww_seq (ww_reg (fun n k=>by simp -implicitDefEqProofs (disch:=omega) only [go_sem,reduceIte,Nat.reduceEqDiff,h0,len_sl hv,d_true,ia24 hv,hz];rfl) ?_))
   refine ww_true sS (ww_skip (ww_block ?_))
   refine ww_reg (fun n k=>by simp -implicitDefEqProofs (disch:=omega) only [go_sem,reduceIte,Nat.reduceEqDiff,h0,len_sl hv,sl24 hv];rfl) ?_
   exact ⟨d.length - 1,by omega,d.take (d.length - 1),_,by simp,sS,.inl ⟨false,rfl⟩,ht.next hd hz,(sS1 h1),(sS1 h4),(sS1 hl4),hhp⟩
  ·refine ww_seq (ww_seq (ww_reg (fun n k=>by simp -implicitDefEqProofs (disch:=omega) only [go_sem,reduceIte,Nat.reduceEqDiff,h0,len_sl hv,d_true,ia24 hv,d_false];rfl) ?_))
   refine ww_false sS (ww_exit ?_)
   rw [if_pos rfl]
   exact stop (fun i hi=>by rw [show i=d.length - 1 by omega];exact hz) sS
end Go.AM.S
end
section
namespace Go.AM.S
open Go Go.AM Go.Proofs NumL
open _root_.Go.AM.G (R)
set_option maxRecDepth 100000
theorem tbl83:tbl 83=some ⟨rc83,[.tmp 6,.tmp 7]⟩:=by kernel_rfl
theorem top_bit {n:Nat} (h:n<4294967296):n / 2 ^ 31=(n.testBit 31).toNat:=by
 rw [Nat.testBit_eq_decide_div_mod_eq]
 have:n / 2 ^ 31<2:=by omega
 rcases Nat.lt_or_ge (n / 2 ^ 31) 1 with h1 | h1
 ·have e:n / 2 ^ 31=0:=by omega
  rw [e];rfl
 ·have e:n / 2 ^ 31=1:=by omega
  rw [e];rfl
theorem bit_of {n:Nat} (h:n<4294967296):n.testBit 31=decide (2147483648≤n):=by
 rw [Nat.testBit_eq_decide_div_mod_eq]
 congr 1
 apply propext
 omega
theorem borrow {x y w:Nat} (hx:x<4294967296) (hy:y<4294967296) (hw:w≤1) :
  ((((4294967295 ^^^ x) &&& y) ||| ((4294967295 ^^^ (x ^^^ y)) &&& (((x+4294967296 - y) % 4294967296+4294967296 - w) % 4294967296))) / 2 ^ 31)=if x<y+w then 1 else 0:=by
 have hd:((x+4294967296 - y) % 4294967296+4294967296 - w) % 4294967296<4294967296:=Nat.mod_lt _ (by decide)
 have h1:(4294967295 ^^^ x)<4294967296:=Nat.xor_lt_two_pow (n:=32) (by decide) hx
 have h2:(4294967295 ^^^ (x ^^^ y))<4294967296:=Nat.xor_lt_two_pow (n:=32) (by decide) (Nat.xor_lt_two_pow (n:=32) hx hy)
 rw [top_bit (Nat.or_lt_two_pow (n:=32) (Nat.lt_of_le_of_lt Nat.and_le_left h1) (Nat.lt_of_le_of_lt Nat.and_le_left h2))]
 simp only [Nat.testBit_or,Nat.testBit_and,Nat.testBit_xor,bit_of hx,bit_of hy,bit_of hd]
 have e31:Nat.testBit 4294967295 31=true:=by decide
 rw [e31]
 by_cases a:2147483648≤x<;>by_cases b:2147483648≤y<;>by_cases c:2147483648≤((x+4294967296 - y) % 4294967296+4294967296 - w) % 4294967296<;>simp only [a,b,c,decide_true,decide_false]<;>split<;>first | rfl | (exfalso;omega)
theorem sub32_spec {x y w:Nat} (hx:x<4294967296) (hy:y<4294967296) (hw:w≤1) :
  Gives 83 [.int .u32 (.ofNat x),.int .u32 (.ofNat y),.int .u32 (.ofNat w)] fun r=>∃ d c,r=.tuple [.int .u32 (.ofNat d),.int .u32 (.ofNat c)]∧d<4294967296∧c≤1∧x+4294967296*c=d+y+w:=by
 refine gives_of tbl83 fun h Q hQ=>?_
 unfold rc83
 have h1:(4294967295 ^^^ x)<4294967296:=Nat.xor_lt_two_pow (n:=32) (by decide) hx
 have h0:(x ^^^ y)<4294967296:=Nat.xor_lt_two_pow (n:=32) hx hy
 have h2:(4294967295 ^^^ (x ^^^ y))<4294967296:=Nat.xor_lt_two_pow (n:=32) (by decide) h0
 have hd:((x+4294967296 - y) % 4294967296+4294967296 - w) % 4294967296<4294967296:=Nat.mod_lt _ (by decide)
 have h3:((4294967295 ^^^ x) &&& y)<4294967296:=Nat.lt_of_le_of_lt Nat.and_le_left h1
 have h4:((4294967295 ^^^ (x ^^^ y)) &&& (((x+4294967296 - y) % 4294967296+4294967296 - w) % 4294967296))<4294967296:=Nat.lt_of_le_of_lt Nat.and_le_left h2
 refine sR ?_
 refine sRG ?_
 refine ww_seq (ww_reg (fun n k=>by simp -implicitDefEqProofs (disch:=omega) only [go_sem,reduceIte,Nat.reduceEqDiff,gt_start,List.getD_cons_zero,List.getD_cons_succ,i_and32 h1 hy,i_and32 h2 hd,i_or32 h3 h4,borrow hx hy hw];rfl) ?_)
 refine ww_ret (hQ _ _ (fin_two (a:=6) (b:=7) (v:=.int .u32 (.ofNat (((x+4294967296 - y) % 4294967296+4294967296 - w) % 4294967296))) (w:=.int .u32 (.ofNat (if x<y+w then 1 else 0))) sS sS (Ex1.int _ _) (Ex1.int _ _) rfl rfl rfl) ⟨_,_,rfl,hd,?_,?_⟩)
 ·split<;>omega
 ·split<;>omega
end Go.AM.S
end
section
namespace Go.AM.S
open Go Go.AM Go.Proofs NumL
open _root_.Go.AM.G (R)
set_option maxRecDepth 100000
theorem tbl72:tbl 72=some ⟨rc72,[.tmp 4]⟩:=by kernel_rfl
theorem vl_split (B:Nat) (a:List Nat) (i:Nat):vl B a=vl B (a.take i)+B ^ (min i a.length)*vl B (a.drop i):=by
 conv=>lhs;rw [←List.take_append_drop i a]
 rw [vl_append,List.length_take]
theorem vl_drop_cons (B:Nat) (a:List Nat) (i:Nat) (h:i<a.length):vl B (a.drop i)=a.getD i 0+B*vl B (a.drop (i+1)):=by
 rw [List.drop_eq_getElem_cons h]
 simp only [vl]
 congr 1
 rw [List.getD_eq_getElem?_getD,List.getElem?_eq_getElem h];rfl
theorem vl_at (B:Nat) (a:List Nat) (i:Nat) (h:i<a.length):vl B a=vl B (a.take i)+B ^ i*(a.getD i 0+B*vl B (a.drop (i+1))):=by
 rw [vl_split B a i,vl_drop_cons B a i h,Nat.min_eq_left (Nat.le_of_lt h)]
theorem vl_lt_at {B:Nat} (hB:0<B) {a b:List Nat} (da:Dg B a) {i:Nat} (ha:i<a.length) (hb:i<b.length) (he:a.drop (i+1)=b.drop (i+1)) (h:a.getD i 0<b.getD i 0):vl B a<vl B b:=by
 rw [vl_at B a i ha,vl_at B b i hb,he]
 have h1:vl B (a.take i)<B ^ i:=vl_lt_of hB (da.take i) (by simp;omega)
 have h2:B ^ i*(a.getD i 0+B*vl B (b.drop (i+1))+1)≤B ^ i*(b.getD i 0+B*vl B (b.drop (i+1))):=Nat.mul_le_mul_left _ (by omega)
 rw [Nat.mul_add,Nat.mul_one] at h2
 omega
theorem vl_ge {B:Nat} {d:List Nat} (hc:Cn d) (hd:d≠[]):B ^ (d.length - 1)≤vl B d:=by
 have hp:0<d.length:=List.length_pos_iff.2 hd
 rw [vl_at B d (d.length - 1) (by omega)]
 have h1:=hc (d.length - 1) (by omega)
 have h2:B ^ (d.length - 1)*1≤B ^ (d.length - 1)*(d.getD (d.length - 1) 0+B*vl B (d.drop (d.length - 1+1))):=Nat.mul_le_mul_left _ (by omega)
 omega
theorem vl_lt_len {B:Nat} (hB:0<B) {a b:List Nat} (da:Dg B a) (cb:Cn b) (h:a.length<b.length):vl B a<vl B b:=by
 have h1:=vl_lt_of hB da (k:=b.length - 1) (by omega)
 have h2:=vl_ge (B:=B) cb (by intro e;subst e;simp at h)
 omega
def cmpI (x y:Nat):Int:=if x<y then .negSucc 0 else if y<x then .ofNat 1 else .ofNat 0
theorem getD_drop (a:List Nat) (i:Nat):a.drop i=if i<a.length then a.getD i 0::a.drop (i+1) else []:=by
 split
 ·rename_i h
  rw [List.drop_eq_getElem_cons h,List.getD_eq_getElem?_getD,List.getElem?_eq_getElem h];rfl
 ·exact List.drop_eq_nil_of_le (by omega)
theorem compare_spec {va vb:V} {a b:List Nat} (ha:Sl .u32 va a) (hb:Sl .u32 vb b) (da:Dg B a) (db:Dg B b) (ca:Cn a) (cb:Cn b) (la:a.length≤1000000000) (lb:b.length≤1000000000) :
  Gives 72 [va,vb] fun r=>r=.int .i64 (cmpI (vl B a) (vl B b)):=by
 refine gives_of tbl72 fun h Q hQ=>?_
 unfold rc72
 refine sR ?_
 rcases Nat.lt_trichotomy a.length b.length with hl | hl | hl
 ·refine ww_seq (ww_seq (ww_reg (fun n k=>by simp -implicitDefEqProofs (disch:=omega) only [go_sem,reduceIte,Nat.reduceEqDiff,gt_start,List.getD_cons_zero,List.getD_cons_succ,len_sl ha,len_sl hb,d_true];rfl) ?_))
  refine ww_true sS ?_
  refine ww_seq (ww_reg (fun n k=>by simp -implicitDefEqProofs (disch:=omega) only [go_sem,reduceIte,Nat.reduceEqDiff,gt_start,List.getD_cons_zero,List.getD_cons_succ,len_sl ha,len_sl hb,i_sub_neg];rfl) ?_)
  refine ww_ret (hQ _ _ (fin_tmp (v:=.int .i64 (.negSucc 0)) sS (Ex1.int _ _ _) rfl rfl) ?_)
  unfold cmpI
  rw [if_pos (vl_lt_len (by decide) da cb hl)]
 ·refine ww_seq (ww_seq (ww_reg (fun n k=>by simp -implicitDefEqProofs (disch:=omega) only [go_sem,reduceIte,Nat.reduceEqDiff,gt_start,List.getD_cons_zero,List.getD_cons_succ,len_sl ha,len_sl hb,d_false];rfl) ?_))
  refine ww_false sS (ww_skip ?_)
  refine ww_seq (ww_seq (ww_reg (fun n k=>by simp -implicitDefEqProofs (disch:=omega) only [go_sem,reduceIte,Nat.reduceEqDiff,gt_start,List.getD_cons_zero,List.getD_cons_succ,len_sl ha,i_dec];rfl) ?_))
  refine ww_for (fun m s=>m≤a.length∧gt s.tm 5=.int .i64 (dn m)∧a.drop m=b.drop m∧gt s.tm 0=va∧gt s.tm 1=vb∧s.hp=⟨h.rows,none,h.mods⟩) a.length ⟨Nat.le_refl _,sS,?_,(by simp -implicitDefEqProofs (disch:=omega) only [go_sem,reduceIte,Nat.reduceEqDiff,gt_start,List.getD_cons_zero]),sSG,rfl⟩ ?_
  ·rw [List.drop_eq_nil_of_le (Nat.le_refl _),List.drop_eq_nil_of_le (by omega)]
  intro m s ⟨hm,h5,he,h0,h1,hhp⟩
  cases m with
  | zero =>
   refine ww_seq (ww_seq (ww_reg (fun n k=>by simp -implicitDefEqProofs (disch:=omega) only [go_sem,reduceIte,Nat.reduceEqDiff,h5,dn];rfl) ?_))
   refine ww_false sS (ww_exit ?_)
   rw [if_pos rfl]
   refine sR ?_
   refine ww_ret (hQ _ _ (fin_tmp (v:=.int .i64 (.ofNat 0)) sS (Ex1.int _ _ _) (by rw [hhp]) rfl) ?_)
   have e:a=b:=by simpa using he
   subst e
   simp [cmpI]
  | succ i =>
   have h5':gt s.tm 5=.int .i64 (.ofNat i):=h5
   refine ww_seq (ww_seq (ww_reg (fun n k=>by simp -implicitDefEqProofs (disch:=omega) only [go_sem,reduceIte,Nat.reduceEqDiff,h5',d_true];rfl) ?_))
   refine ww_true sS (ww_skip ?_)
   refine ww_seq (ww_block (ww_block ?_))
   refine ww_seq (ww_reg (fun n k=>by simp -implicitDefEqProofs (disch:=omega) only [go_sem,reduceIte,Nat.reduceEqDiff,h0,h1,h5',ia24 ha,ia24 hb];rfl) ?_)
   refine ww_if (by simp only [gt_pt,reduceIte];rfl) (fun hx=>?_) (fun hx=>?_)
   ·refine sR ?_
    refine ww_ret (hQ _ _ (fin_tmp (v:=.int .i64 (.negSucc 0)) sS (Ex1.int _ _ _) (by rw [hhp]) rfl) ?_)
    unfold cmpI
    rw [if_pos (vl_lt_at (by decide) da (by omega) (by omega) he hx)]
   ·refine ww_seq (ww_reg (fun n k=>by simp -implicitDefEqProofs (disch:=omega) only [go_sem,reduceIte,Nat.reduceEqDiff,h0,h1,h5',ia24 ha,ia24 hb];rfl) ?_)
    refine ww_if (by simp only [gt_pt,reduceIte];rfl) (fun hy=>?_) (fun hy=>ww_skip ?_)
    ·refine sR ?_
     refine ww_ret (hQ _ _ (fin_tmp (v:=.int .i64 (.ofNat 1)) sS (Ex1.int _ _ _) (by rw [hhp]) rfl) ?_)
     have hlt:=vl_lt_at (B:=B) (by decide) db (by omega) (by omega) he.symm hy
     unfold cmpI
     rw [if_neg (by omega),if_pos hlt]
    ·refine ww_reg (fun n k=>by simp -implicitDefEqProofs (disch:=omega) only [go_sem,reduceIte,Nat.reduceEqDiff,h5',i_dec];rfl) ?_
     refine ⟨i,by omega,by omega,sS,?_,(sS1 h0),(sS1 h1),hhp⟩
     rw [getD_drop a i,getD_drop b i,if_pos (by omega),if_pos (by omega),he]
     congr 1
     omega
 ·refine ww_seq (ww_seq (ww_reg (fun n k=>by simp -implicitDefEqProofs (disch:=omega) only [go_sem,reduceIte,Nat.reduceEqDiff,gt_start,List.getD_cons_zero,List.getD_cons_succ,len_sl ha,len_sl hb,d_true];rfl) ?_))
  refine ww_true sS ?_
  have hmin:min (a.length - b.length) 1=1:=by omega
  refine ww_seq (ww_reg (fun n k=>by simp -implicitDefEqProofs (disch:=omega) only [go_sem,reduceIte,Nat.reduceEqDiff,gt_start,List.getD_cons_zero,List.getD_cons_succ,len_sl ha,len_sl hb,hmin];rfl) ?_)
  refine ww_ret (hQ _ _ (fin_tmp (v:=.int .i64 (.ofNat 1)) sS (Ex1.int _ _ _) rfl rfl) ?_)
  have hlt:=vl_lt_len (B:=B) (by decide) db ca hl
  unfold cmpI
  rw [if_neg (by omega),if_pos hlt]
end Go.AM.S
end
section
namespace Go.AM.S
open Go Go.AM Go.Proofs NumL
open _root_.Go.AM.G (R)
set_option maxRecDepth 100000
theorem tbl73:tbl 73=some ⟨rc73,[.tmp 4]⟩:=by kernel_rfl
structure I73 (va vb:V) (a b:List Nat) (h:Hp) (m:Nat) (s:St) (i n:Nat) (out:List Nat):Prop where
 m:m+i=a.length
 h1:gt s.tm 1=vb
 h10:gt s.tm 10=va
 h11:gt s.tm 11=.int .i64 (.ofNat a.length)
 h12:gt s.tm 12=.int .i64 (.ofNat i)
 h6:gt s.tm 6=.int .u32 (.ofNat n)
 hp:s.hp=h
 h5:Ar s.loc 35 (gt s.tm 5) .u32 out
 len:out.length=i
 dg:Dg B out
 n1:n≤1
 v:vl B (a.take i)+B ^ i*n=vl B out+vl B (b.take i)
theorem minus_step {B:Nat} {out:List Nat} {i n x y d c p q:Nat} (hl:out.length=i) (hv:p+B ^ i*n=vl B out+q) (he:x+B*c=d+y+n):(p+B ^ i*x)+B ^ (i+1)*c=vl B (out++[d])+(q+B ^ i*y):=by
 rw [vl_append,vl_one,hl,Nat.pow_succ,Nat.mul_assoc]
 have h1:B ^ i*(x+B*c)=B ^ i*(d+y+n):=by rw [he]
 simp only [Nat.mul_add] at h1
 omega
theorem minus_spec {va vb:V} {a b:List Nat} (ha:Sl .u32 va a) (hb:Sl .u32 vb b) (da:Dg B a) (db:Dg B b) (la:a.length≤1000000) (lb:b.length≤a.length) (hle:vl B b≤vl B a) :
  Gives 73 [va,vb] fun r=>∃ c,Sl .u32 r c∧Dg B c∧vl B c+vl B b=vl B a∧c.length=a.length:=by
 refine gives_of tbl73 fun h Q hQ=>?_
 unfold rc73
 refine sR ?_
 refine sR ?_
 refine sR ?_
 refine ww_seq (ww_seq (ww_reg (fun n k=>by simp -implicitDefEqProofs (disch:=omega) only [go_sem,reduceIte,Nat.reduceEqDiff,gt_start,List.getD_cons_zero,List.getD_cons_succ,len_sl ha];rfl) ?_))
 refine ww_for (fun m s=>∃ i n out,I73 va vb a b ⟨h.rows,none,h.mods⟩ m s i n out) a.length ⟨0,0,[],rfl,sSG,(by simp -implicitDefEqProofs (disch:=omega) only [go_sem,reduceIte,Nat.reduceEqDiff,gt_start,List.getD_cons_zero]),sS,sS,sS,rfl,.inl ⟨rfl,sS⟩,rfl,Dg.nil B,by decide,by simp [vl]⟩ ?_
 intro m s ⟨i,n,out,hm,h1,h10,h11,h12,h6,hhp,h5,hlen,hdg,hn,hv⟩
 refine sR2 h11 h12 ?_
 refine ww_seq (ww_if (by simp only [gt_pt,reduceIte];rfl) (fun hi=>ww_skip ?_) (fun hi=>ww_exit ?_))
 ·have da1:a.getD i 0<4294967296:=da.get (by decide) i
  have db1:b.getD i 0<4294967296:=db.get (by decide) i
  refine ww_seq (ww_block ?_)
  refine ww_seq (ww_reg (fun n k=>by simp -implicitDefEqProofs (disch:=omega) only [go_sem,reduceIte,Nat.reduceEqDiff,h10,h12,ia24 ha];rfl) ?_)
  refine sR ?_
  refine ww_join (M:=fun s1=>gt s1.tm 9=.int .u32 (.ofNat (b.getD i 0))∧gt s1.tm 8=.int .u32 (.ofNat (a.getD i 0))∧Kp [1,5,6,10,11,12] s.tm s1.tm∧s1.loc=s.loc∧s1.hp=s.hp) ?_ (fun s1 ⟨a9,a8,ak,al,ah⟩=>?_)
  ·refine ww_seq (ww_reg (fun n k=>by simp -implicitDefEqProofs (disch:=omega) only [go_sem,reduceIte,Nat.reduceEqDiff,h1,len_sl hb];rfl) ?_)
   refine ww_if (by simp only [gt_pt,reduceIte];rfl) (fun hia=>?_) (fun hia=>ww_skip ?_)
   ·refine ww_reg (fun n k=>by simp -implicitDefEqProofs (disch:=omega) only [go_sem,reduceIte,Nat.reduceEqDiff,h1,ia24 hb];rfl) ?_
    exact ⟨sS,sS,(by (try dsimp only);repeat (first | with_reducible exact Kp_refl _ _ | with_reducible refine Kp_pt (by decide) ?_)),rfl,rfl⟩
   ·exact ⟨(by simp -implicitDefEqProofs (disch:=omega) only [go_sem,reduceIte,Nat.reduceEqDiff,getD_ge hia]),sS,(by (try dsimp only);repeat (first | with_reducible exact Kp_refl _ _ | with_reducible refine Kp_pt (by decide) ?_)),rfl,rfl⟩
  have k5:=ak 5 (by decide);have k6:=(ak 6 (by decide)).trans h6;have k12:=(ak 12 (by decide)).trans h12
  obtain ⟨r,hr,d,c,hrr,hd,hc,he⟩:=sub32_spec da1 db1 hn s1.hp
  subst hrr
  obtain ⟨v5,l5,happ,hAr,hfr⟩:=a73_10_3 d h5 (by omega)
  refine ww_seq (ww_call (hr) (fun n hn k=>by simp -implicitDefEqProofs (disch:=omega) only [go_sem,reduceIte,Nat.reduceEqDiff,a8,a9,k6,clc3 hn (Ex1.int _ _) (Ex1.int _ _) (Ex1.int _ _)];rfl) ?_)
  refine ww_reg (fun n k=>by simp -implicitDefEqProofs (disch:=omega) only [go_sem,reduceIte,Nat.reduceEqDiff,k5,al,happ];rfl) ?_
  refine sE1 k12 ?_
  refine ⟨m - 1,by omega,i+1,c,out++[d],by omega,?_,?_,?_,sS,sS,ah.trans hhp,?_,by simp [hlen],hdg.snoc hd,hc,?_⟩
  ·exact (by simp -implicitDefEqProofs (disch:=omega) only [go_sem,reduceIte,Nat.reduceEqDiff,ak 1 (by decide),h1])
  ·exact (by simp -implicitDefEqProofs (disch:=omega) only [go_sem,reduceIte,Nat.reduceEqDiff,ak 10 (by decide),h10])
  ·exact (by simp -implicitDefEqProofs (disch:=omega) only [go_sem,reduceIte,Nat.reduceEqDiff,ak 11 (by decide),h11])
  ·dsimp only
   rw [show ∀ t,gt (pt (pt t 5 v5) 12 (.int .i64 (.ofNat (i+1)))) 5=v5 from fun t=>sS]
   exact hAr
  ·rw [vl_take_next,vl_take_next]
   exact minus_step hlen hv he
 ·rw [if_pos rfl]
  refine sR ?_
  obtain ⟨r,l',hex,hsl,_⟩:=exp_Ar h5
  rw [vl_take_ge _ _ _ (by omega),vl_take_ge _ _ _ (by omega)] at hv
  have hlt:=vl_lt_of (B:=B) (by decide) hdg (k:=i) (by omega)
  have hn0:n=0:=by
   rcases Nat.eq_zero_or_pos n with h0 | h0
   ·exact h0
   ·exfalso
    have:B ^ i*1≤B ^ i*n:=Nat.mul_le_mul_left _ h0
    omega
  subst hn0
  exact ww_ret (hQ _ r (fin_tmp (v:=gt s.tm 5) sS (hex _ _) (by rw [hhp]) hsl.noRefs) ⟨out,hsl,hdg,by simpa using hv.symm,by omega⟩)
end Go.AM.S
end
section
namespace Go.AM.S
open Go Go.AM Go.Proofs NumL
open _root_.Go.AM.G (R)
set_option maxRecDepth 100000
def zv (d:List Nat) (b:Bool):Int:=bif b then -(vl B d:Int) else (vl B d:Int)
def IsI (k:Nat) (v:V) (z:Int):Prop:=∃ d b,NI v d b∧z=zv d b∧d.length≤k
theorem IsI.mono {k l:Nat} {v:V} {z:Int} (h:IsI k v z) (hl:k≤l):IsI l v z:=by
 obtain ⟨d,b,h1,h2,h3⟩:=h
 exact ⟨d,b,h1,h2,by omega⟩
theorem NI.quiet {v:V} {d:List Nat} {b:Bool} (h:NI v d b):AM.quiet v=true:=by
 obtain ⟨⟨s,rfl,hs⟩,_⟩:=h
 rcases hs with ⟨f,rfl⟩ | ⟨rfl,_⟩<;>rfl
theorem NI.ex {v:V} {d:List Nat} {b:Bool} (h:NI v d b):Ex1 v:=by
 obtain ⟨⟨s,rfl,hs⟩,_⟩:=h
 exact fun st=>exp_agg (by intro u hu;simp at hu;rcases hu with rfl | rfl;exact hs.pl;exact Pl.bool _) st
theorem Sl.quiet {k:IntKind} {v:V} {d:List Nat} (h:Sl k v d):AM.quiet v=true:=by
 rcases h with ⟨f,rfl⟩ | ⟨rfl,_⟩<;>rfl
theorem vl_zero {d:List Nat} (hc:Cn d):vl B d=0↔d=[]:=by
 constructor
 ·intro h
  rcases Classical.em (d=[]) with e | e
  ·exact e
  ·have h1:=vl_ge (B:=B) hc e
   have h2:0<B ^ (d.length - 1):=Nat.pow_pos (by decide)
   omega
 ·intro h;subst h;rfl
theorem zv_neg_iff {d:List Nat} {b:Bool} (hc:Cn d) (h0:d=[]→b=false):zv d b<0↔b=true:=by
 cases b with
 | false=>simp only [zv,cond_false,Bool.false_eq_true,iff_false];omega
 | true =>
  have:d≠[]:=fun e=>by have:=h0 e;cases this
  have h1:vl B d≠0:=fun e=>this ((vl_zero hc).1 e)
  simp only [zv,cond_true,iff_true];omega
theorem tbl31:tbl 31=some ⟨rc31,[.cell 2 26]⟩:=by kernel_rfl
theorem exI {s:V} {d:List Nat} (hs:Sl .u32 s d) (b:Bool):Ex1 (.agg [s,.bool b]):=fun st=>exp_agg (by intro u hu;simp at hu;rcases hu with rfl | rfl;exact hs.pl;exact Pl.bool _) st
theorem neg_spec {k:Nat} {va:V} {x:Int} (ha:IsI k va x) (hk:k≤1000000):Gives 31 [va] fun r=>IsI k r (-x):=by
 obtain ⟨d,b,⟨⟨s,rfl,hs⟩,dd,cd,h0⟩,hx,hl⟩:=ha
 refine gives_of tbl31 fun h Q hQ=>?_
 unfold rc31
 refine sRG ?_
 obtain ⟨r,hr,e,⟨⟨s2,rfl,hs2⟩,de,ce,he0⟩,ht⟩:=made_spec hs dd (by omega) (!b) ⟨h.rows,none,h.mods⟩
 have hlen:=ht.len
 refine ww_seq (ww_call (hr) (fun n hn k=>by simp -implicitDefEqProofs (disch:=omega) only [go_sem,reduceIte,Nat.reduceEqDiff,gt_start,List.getD_cons_zero,List.getD_cons_succ,ldc_fst L24,ldc_snd L4,clc2 hn hs.ex (Ex1.bool _),stc_two N26 1 s2 (.bool (!b && !e.isEmpty)) .nils (.bool false) _ hs2.pl.ok rfl];rfl) ?_)
 refine ww_ret (hQ _ _ (fin_cell (x:=s2) (y:=.bool (!b && !e.isEmpty)) (f:=false) (d:=2) (g:=1) (by kernel_rfl) sS sS hs2.pl (Pl.bool _) rfl) ⟨e,_,⟨⟨s2,rfl,hs2⟩,de,ce,he0⟩,?_,by omega⟩)
 subst hx
 have hv:=ht.vl B
 unfold zv
 cases b with
 | true=>simp [hv]
 | false =>
  cases e with
  | nil=>simp [←hv,vl]
  | cons y l=>simp [hv]
end Go.AM.S
end
section
namespace Go.AM.S
open Go Go.AM Go.Proofs NumL
open _root_.Go.AM.G (R)
set_option maxRecDepth 100000
theorem tbl77:tbl 77=some ⟨rc77,[.tmp 2]⟩:=by kernel_rfl
theorem truth_spec (b:Bool):Gives 77 [.bool b] fun r=>r=.int .i64 (.ofNat (bif b then 1 else 0)):=by
 refine gives_of tbl77 fun h Q hQ=>?_
 unfold rc77
 refine sR ?_
 cases b with
 | true =>
  refine sQG ?_
  refine ww_true sS ?_
  refine sR ?_
  exact ww_ret (hQ _ _ (fin_tmp (v:=.int .i64 (.ofNat 1)) sS (Ex1.int _ _ _) rfl rfl) rfl)
 | false =>
  refine sQG ?_
  refine ww_false sS (ww_skip ?_)
  refine sR ?_
  exact ww_ret (hQ _ _ (fin_tmp (v:=.int .i64 (.ofNat 0)) sS (Ex1.int _ _ _) rfl rfl) rfl)
def cmpZ (x y:Int):Int:=if x<y then .negSucc 0 else if y<x then .ofNat 1 else .ofNat 0
theorem tbl33:tbl 33=some ⟨rc33,[.tmp 4]⟩:=by kernel_rfl
theorem bin_eqb (t:TypeId) (cn:Bool) (a b:Bool) (h:Pg.underlying t=some .bool):bin Pg .eql t cn (.bool a) (.bool b)=some (.bool (a == b)):=by
 show F.eqV .eql (Pg.underlying t) cn (.bool a) (.bool b)=_
 rw [h];rfl
theorem bin_neb (t:TypeId) (cn:Bool) (a b:Bool) (h:Pg.underlying t=some .bool):bin Pg .neq t cn (.bool a) (.bool b)=some (.bool (!(a == b))):=by
 show F.eqV .neq (Pg.underlying t) cn (.bool a) (.bool b)=_
 rw [h];rfl
theorem cmp_spec {k l:Nat} {va vb:V} {x y:Int} (ha:IsI k va x) (hb:IsI l vb y) (hk:k≤1000000) (hl:l≤1000000):Gives 33 [va,vb] fun r=>r=.int .i64 (cmpZ x y):=by
 obtain ⟨d,b,⟨⟨s,rfl,hs⟩,dd,cd,h0⟩,rfl,hdl⟩:=ha
 obtain ⟨e,c,⟨⟨u,rfl,hu⟩,de,ce,he0⟩,rfl,hel⟩:=hb
 have n1:=zv_neg_iff cd h0
 have n2:=zv_neg_iff ce he0
 refine gives_of tbl33 fun h Q hQ=>?_
 unfold rc33
 refine sRG ?_
 have done:∀ (t:Tm) (lo:Lo) (z:Int),z=cmpZ (zv d b) (zv e c)→Q ⟨pt t 4 (.int .i64 z),lo,⟨h.rows,none,h.mods⟩⟩:=fun t lo z hz=>by
  subst hz
  exact hQ _ _ (fin_tmp (v:=.int .i64 (cmpZ (zv d b) (zv e c))) sS (Ex1.int _ _ _) rfl rfl) rfl
 cases b with
 | true =>
  cases c with
  | true =>
   have neb:bin Pg .neq 4 false (.bool true) (.bool true)=some (.bool false):=bin_neb 4 false true true U4
   refine ww_seq (ww_block ?_)
   refine ww_seq (ww_reg (fun n k=>by simp -implicitDefEqProofs (disch:=omega) only [go_sem,reduceIte,Nat.reduceEqDiff,gt_start,List.getD_cons_zero,List.getD_cons_succ,ldc_snd L4,neb];rfl) ?_)
   refine ww_false sS ?_
   refine ww_seq (ww_reg (fun n k=>by simp -implicitDefEqProofs (disch:=omega) only [go_sem,reduceIte,Nat.reduceEqDiff,gt_start,List.getD_cons_zero,List.getD_cons_succ,ldc_snd L4];rfl) ?_)
   refine ww_true sS ?_
   obtain ⟨r,hr,rfl⟩:=compare_spec hu hs de dd ce cd (by omega) (by omega) ⟨h.rows,none,h.mods⟩
   refine ww_seq (ww_call (hr) (fun n hn k=>by simp -implicitDefEqProofs (disch:=omega) only [go_sem,reduceIte,Nat.reduceEqDiff,gt_start,List.getD_cons_zero,List.getD_cons_succ,ldc_fst L24,clc2 hn hu.ex hs.ex];rfl) ?_)
   refine ww_ret (done _ _ _ ?_)
   unfold cmpI cmpZ zv
   simp only [cond_true]
   split<;>split<;>first | rfl | omega | (split<;>first | rfl | omega)
  | false =>
   have neb:bin Pg .neq 4 false (.bool true) (.bool false)=some (.bool true):=bin_neb 4 false true false U4
   refine ww_seq (ww_block ?_)
   refine ww_seq (ww_reg (fun n k=>by simp -implicitDefEqProofs (disch:=omega) only [go_sem,reduceIte,Nat.reduceEqDiff,gt_start,List.getD_cons_zero,List.getD_cons_succ,ldc_snd L4,neb];rfl) ?_)
   refine ww_true sS ?_
   obtain ⟨r,hr,rfl⟩:=truth_spec true ⟨h.rows,none,h.mods⟩
   refine ww_seq (ww_call (hr) (fun n hn k=>by simp -implicitDefEqProofs (disch:=omega) only [go_sem,reduceIte,Nat.reduceEqDiff,gt_start,List.getD_cons_zero,List.getD_cons_succ,ldc_snd L4,clc1 hn (Ex1.bool _),cond_true,Nat.mul_one,i_sub_neg,Nat.reduceSub];rfl) ?_)
   refine ww_ret (done _ _ _ ?_)
   have h1:=n1.2 rfl
   have h2:¬zv e false<0:=fun h=>by have:=n2.1 h;cases this
   unfold cmpZ
   rw [if_pos (by omega)]
 | false =>
  cases c with
  | true =>
   have neb:bin Pg .neq 4 false (.bool false) (.bool true)=some (.bool true):=bin_neb 4 false false true U4
   refine ww_seq (ww_block ?_)
   refine ww_seq (ww_reg (fun n k=>by simp -implicitDefEqProofs (disch:=omega) only [go_sem,reduceIte,Nat.reduceEqDiff,gt_start,List.getD_cons_zero,List.getD_cons_succ,ldc_snd L4,neb];rfl) ?_)
   refine ww_true sS ?_
   obtain ⟨r,hr,rfl⟩:=truth_spec false ⟨h.rows,none,h.mods⟩
   refine ww_seq (ww_call (hr) (fun n hn k=>by simp -implicitDefEqProofs (disch:=omega) only [go_sem,reduceIte,Nat.reduceEqDiff,gt_start,List.getD_cons_zero,List.getD_cons_succ,ldc_snd L4,clc1 hn (Ex1.bool _),cond_false,Nat.mul_zero,Nat.reduceSub];rfl) ?_)
   refine ww_ret (done _ _ _ ?_)
   have h1:=n2.2 rfl
   have h2:¬zv d false<0:=fun h=>by have:=n1.1 h;cases this
   unfold cmpZ
   rw [if_neg (by omega),if_pos (by omega)]
  | false =>
   have neb:bin Pg .neq 4 false (.bool false) (.bool false)=some (.bool false):=bin_neb 4 false false false U4
   refine ww_seq (ww_block ?_)
   refine ww_seq (ww_reg (fun n k=>by simp -implicitDefEqProofs (disch:=omega) only [go_sem,reduceIte,Nat.reduceEqDiff,gt_start,List.getD_cons_zero,List.getD_cons_succ,ldc_snd L4,neb];rfl) ?_)
   refine ww_false sS ?_
   refine ww_seq (ww_reg (fun n k=>by simp -implicitDefEqProofs (disch:=omega) only [go_sem,reduceIte,Nat.reduceEqDiff,gt_start,List.getD_cons_zero,List.getD_cons_succ,ldc_snd L4];rfl) ?_)
   refine ww_false sS (ww_skip ?_)
   obtain ⟨r,hr,rfl⟩:=compare_spec hs hu dd de cd ce (by omega) (by omega) ⟨h.rows,none,h.mods⟩
   refine ww_seq (ww_call (hr) (fun n hn k=>by simp -implicitDefEqProofs (disch:=omega) only [go_sem,reduceIte,Nat.reduceEqDiff,gt_start,List.getD_cons_zero,List.getD_cons_succ,ldc_fst L24,clc2 hn hs.ex hu.ex];rfl) ?_)
   refine ww_ret (done _ _ _ ?_)
   unfold cmpI cmpZ zv
   simp only [cond_false]
   split<;>split<;>first | rfl | omega | (split<;>first | rfl | omega)
end Go.AM.S
end
section
namespace Go.AM.S
open Go Go.AM Go.Proofs NumL
open _root_.Go.AM.G (R)
set_option maxRecDepth 100000
theorem tbl71:tbl 71=some ⟨rc71,[.tmp 4]⟩:=by kernel_rfl
structure I71 (va vb:V) (a b:List Nat) (h:Hp) (m:Nat) (s:St) (i n:Nat) (out:List Nat):Prop where
 m:m+i=max a.length b.length+1
 h0:gt s.tm 0=va
 h1:gt s.tm 1=vb
 h14:gt s.tm 14=.int .i64 (.ofNat i)
 h13:gt s.tm 13=.int .i64 (.ofNat (max a.length b.length+1))
 h6:gt s.tm 6=.int .u64 (.ofNat n)
 hp:s.hp=h
 h5:Ar s.loc 43 (gt s.tm 5) .u32 out
 len:out.length=i
 dg:Dg B out
 n1:n≤1
 v:vl B out+B ^ i*n=vl B (a.take i)+vl B (b.take i)
theorem plus_spec {va vb:V} {a b:List Nat} (ha:Sl .u32 va a) (hb:Sl .u32 vb b) (da:Dg B a) (db:Dg B b) (la:a.length≤1000000) (lb:b.length≤1000000) :
  Gives 71 [va,vb] fun r=>∃ c,Sl .u32 r c∧Dg B c∧vl B c=vl B a+vl B b∧c.length=max a.length b.length+1:=by
 refine gives_of tbl71 fun h Q hQ=>?_
 unfold rc71
 refine sR ?_
 refine sR ?_
 refine sR ?_
 refine ww_seq (ww_seq (ww_reg (fun n k=>by simp -implicitDefEqProofs (disch:=omega) only [go_sem,reduceIte,Nat.reduceEqDiff,gt_start,List.getD_cons_zero,List.getD_cons_succ,len_sl ha,len_sl hb];rfl) ?_))
 refine ww_for (fun m s=>∃ i n out,I71 va vb a b ⟨h.rows,none,h.mods⟩ m s i n out) (max a.length b.length+1) ⟨0,0,[],rfl,(by simp -implicitDefEqProofs (disch:=omega) only [go_sem,reduceIte,Nat.reduceEqDiff,gt_start,List.getD_cons_zero]),sSG,sS,sS,sS,rfl,.inl ⟨rfl,sS⟩,rfl,Dg.nil B,by decide,by simp [vl]⟩ ?_
 intro m s ⟨i,n,out,hm,h0,h1,h14,h13,h6,hhp,h5,hlen,hdg,hn,hv⟩
 refine sR2 h14 h13 ?_
 refine ww_seq (ww_if (by simp only [gt_pt,reduceIte];rfl) (fun hi=>ww_skip ?_) (fun hi=>ww_exit ?_))
 ·have da1:a.getD i 0<4294967296:=da.get (by decide) i
  have db1:b.getD i 0<4294967296:=db.get (by decide) i
  obtain ⟨v5,l5,happ,hAr,hfr⟩:=a71_10_4 ((n+a.getD i 0+b.getD i 0) % 4294967296) h5 (by omega)
  refine ww_seq (ww_block ?_)
  refine sR1 h14 ?_
  refine ww_join (M:=fun s1=>gt s1.tm 6=.int .u64 (.ofNat (n+a.getD i 0))∧gt s1.tm 7=.int .i64 (.ofNat i)∧Kp [0,1,5,13,14] s.tm s1.tm∧s1.loc=s.loc∧s1.hp=s.hp) ?_ (fun s1 ⟨a6,a7,ak,al,ah⟩=>?_)
  ·refine ww_seq (ww_reg (fun n k=>by simp -implicitDefEqProofs (disch:=omega) only [go_sem,reduceIte,Nat.reduceEqDiff,h0,len_sl ha];rfl) ?_)
   refine ww_if (by simp only [gt_pt,reduceIte];rfl) (fun hia=>?_) (fun hia=>ww_skip ?_)
   ·refine ww_reg (fun n k=>by simp -implicitDefEqProofs (disch:=omega) only [go_sem,reduceIte,Nat.reduceEqDiff,h0,h6,ia24 ha];rfl) ?_
    exact ⟨sS,sS,(by (try dsimp only);repeat (first | with_reducible exact Kp_refl _ _ | with_reducible refine Kp_pt (by decide) ?_)),rfl,rfl⟩
   ·exact ⟨(by simp -implicitDefEqProofs (disch:=omega) only [go_sem,reduceIte,Nat.reduceEqDiff,h6,getD_ge hia,Nat.add_zero]),sS,(by (try dsimp only);repeat (first | with_reducible exact Kp_refl _ _ | with_reducible refine Kp_pt (by decide) ?_)),rfl,rfl⟩
  have k5:=ak 5 (by decide);have k1:=ak 1 (by decide);have k14:=ak 14 (by decide)
  refine ww_join (M:=fun s2=>gt s2.tm 6=.int .u64 (.ofNat (n+a.getD i 0+b.getD i 0))∧Kp [0,1,5,13,14] s1.tm s2.tm∧s2.loc=s.loc∧s2.hp=s.hp) ?_ (fun s2 ⟨b6,bk,bl,bh⟩=>?_)
  ·refine ww_seq (ww_reg (fun n k=>by simp -implicitDefEqProofs (disch:=omega) only [go_sem,reduceIte,Nat.reduceEqDiff,k1,h1,a7,len_sl hb];rfl) ?_)
   refine ww_if (by simp only [gt_pt,reduceIte];rfl) (fun hia=>?_) (fun hia=>ww_skip ?_)
   ·refine ww_reg (fun n k=>by simp -implicitDefEqProofs (disch:=omega) only [go_sem,reduceIte,Nat.reduceEqDiff,k1,h1,a6,a7,ia24 hb];rfl) ?_
    exact ⟨sS,(by (try dsimp only);repeat (first | with_reducible exact Kp_refl _ _ | with_reducible refine Kp_pt (by decide) ?_)),al,ah⟩
   ·exact ⟨(by simp -implicitDefEqProofs (disch:=omega) only [go_sem,reduceIte,Nat.reduceEqDiff,a6,getD_ge hia,Nat.add_zero]),(by (try dsimp only);repeat (first | with_reducible exact Kp_refl _ _ | with_reducible refine Kp_pt (by decide) ?_)),al,ah⟩
  have j5:=(bk 5 (by decide)).trans k5;have j14:=(bk 14 (by decide)).trans (k14.trans h14)
  refine ww_seq (ww_reg (fun n k=>by simp -implicitDefEqProofs (disch:=omega) only [go_sem,reduceIte,Nat.reduceEqDiff,b6,j5,bl,wrap_u32_mod,happ];rfl) ?_)
  refine ww_reg (fun n k=>by simp -implicitDefEqProofs (disch:=omega) only [go_sem,reduceIte,Nat.reduceEqDiff,b6,Nat.reducePow];rfl) ?_
  refine sE1 j14 ?_
  refine ⟨m - 1,by omega,i+1,(n+a.getD i 0+b.getD i 0) / 4294967296,out++[(n+a.getD i 0+b.getD i 0) % 4294967296],by omega,?_,?_,sS,?_,sS,bh.trans hhp,?_,by simp [hlen],hdg.snoc (Nat.mod_lt _ (by decide)),by omega,?_⟩
  ·exact (by simp -implicitDefEqProofs (disch:=omega) only [go_sem,reduceIte,Nat.reduceEqDiff,bk 0 (by decide),ak 0 (by decide),h0])
  ·exact (by simp -implicitDefEqProofs (disch:=omega) only [go_sem,reduceIte,Nat.reduceEqDiff,bk 1 (by decide),k1,h1])
  ·exact (by simp -implicitDefEqProofs (disch:=omega) only [go_sem,reduceIte,Nat.reduceEqDiff,bk 13 (by decide),ak 13 (by decide),h13])
  ·have e:gt (pt (pt (pt s2.tm 5 v5) 6 (V.int IntKind.u64 (Int.ofNat ((n+a.getD i 0+b.getD i 0) / 4294967296)))) 14 (V.int IntKind.i64 (Int.ofNat (i+1)))) 5=v5:=sS
   rw [e];exact hAr
  ·rw [vl_take_next,vl_take_next]
   exact plus_step (by decide) hlen hv
 ·rw [if_pos rfl]
  refine sR ?_
  obtain ⟨r,l',hex,hsl,_⟩:=exp_Ar h5
  rw [vl_take_ge _ _ _ (by omega),vl_take_ge _ _ _ (by omega)] at hv
  have hn0:=top_none (k:=max a.length b.length) (by omega) (by decide) (vl_lt_of (by decide) da (by omega)) (vl_lt_of (by decide) db (by omega)) hv
  refine ww_ret (hQ _ r (fin_tmp (v:=gt s.tm 5) sS (hex _ _) (by rw [hhp]) hsl.noRefs) ⟨out,hsl,hdg,by rw [hn0] at hv;simpa using hv,by omega⟩)
end Go.AM.S
end
section
namespace Go.AM.S
open Go Go.AM Go.Proofs NumL
open _root_.Go.AM.G (R)
set_option maxRecDepth 100000
theorem tbl35:tbl 35=some ⟨rc35,[.tmp 2]⟩:=by kernel_rfl
theorem tbl25:tbl 25=some ⟨rc25,[.cell 4 26]⟩:=by kernel_rfl
theorem tbl27:tbl 27=some ⟨rc27,[.cell 4 26]⟩:=by kernel_rfl
theorem zeroI:IsI 0 (.agg [.nils,.bool false]) 0:=⟨[],false,⟨⟨.nils,rfl,.inr ⟨rfl,rfl⟩⟩,Dg.nil B,fun i h=>by simp at h,fun _=>rfl⟩,rfl,Nat.le_refl _⟩
def sgn (x:Int):Int:=cmpZ x 0
theorem sign_spec {k:Nat} {va:V} {x:Int} (ha:IsI k va x) (hk:k≤1000000):Gives 35 [va] fun r=>r=.int .i64 (sgn x):=by
 have ha0:=ha
 obtain ⟨d,b,⟨⟨s,rfl,hs⟩,dd,cd,h0⟩,hx,hdl⟩:=ha
 refine gives_of tbl35 fun h Q hQ=>?_
 unfold rc35
 refine sRG ?_
 obtain ⟨r,hr,rfl⟩:=cmp_spec ha0 zeroI hk (by omega) ⟨h.rows,none,h.mods⟩
 refine ww_seq (ww_call (hr) (fun n hn k=>by simp -implicitDefEqProofs (disch:=omega) only [go_sem,reduceIte,Nat.reduceEqDiff,gt_start,List.getD_cons_zero,List.getD_cons_succ,ldc_two L26,clc2 hn (exI hs b) (exI (.inr ⟨rfl,rfl⟩) false)];rfl) ?_)
 exact ww_ret (hQ _ _ (fin_tmp (v:=.int .i64 (cmpZ x 0)) sS (Ex1.int _ _ _) rfl rfl) rfl)
theorem zv_same {d e f:List Nat} {b:Bool} (hf:vl B f=vl B d+vl B e):zv f (b && !f.isEmpty)=zv d b+zv e b:=by
 cases b with
 | false=>simp only [zv,Bool.false_and,cond_false];omega
 | true =>
  cases f with
  | nil=>simp only [vl] at hf;simp only [zv,Bool.true_and,List.isEmpty_nil,Bool.not_true,cond_false,cond_true,vl];omega
  | cons x l=>simp only [zv,Bool.true_and,List.isEmpty_cons,Bool.not_false,cond_true];omega
theorem zv_diff {d e f:List Nat} {b:Bool} (hf:vl B f+vl B e=vl B d):zv f (b && !f.isEmpty)=zv d b+zv e (!b):=by
 cases b with
 | false=>simp only [zv,Bool.false_and,cond_false,Bool.not_false,cond_true];omega
 | true =>
  cases f with
  | nil=>simp only [vl] at hf;simp only [zv,Bool.true_and,List.isEmpty_nil,Bool.not_true,cond_false,cond_true,vl];omega
  | cons x l=>simp only [zv,Bool.true_and,List.isEmpty_cons,Bool.not_false,cond_true,Bool.not_true,cond_false];omega
theorem add_spec {k l:Nat} {va vb:V} {x y:Int} (ha:IsI k va x) (hb:IsI l vb y) (hk:k≤1000000) (hl:l≤1000000):Gives 25 [va,vb] fun r=>IsI (max k l+1) r (x+y):=by
 obtain ⟨d,b,⟨⟨s,rfl,hs⟩,dd,cd,h0⟩,rfl,hdl⟩:=ha
 obtain ⟨e,c,⟨⟨u,rfl,hu⟩,de,ce,he0⟩,rfl,hel⟩:=hb
 refine gives_of tbl25 fun h Q hQ=>?_
 unfold rc25
 refine sRG ?_
 refine ww_seq (ww_block ?_)
 have fin:∀ (s2:V) (f:List Nat) (g:Bool) (st:St),NI (.agg [s2,.bool g]) f g→zv f g=zv d b+zv e c→f.length≤max k l+1→gt st.tm 4=.ptr (.loc 4 1) 0→lg st.loc 4=(1,.cells false [s2,.bool g])→st.hp=⟨h.rows,none,h.mods⟩→Q st:=by
  intro s2 f g st hn hz hf h4 hr hh
  obtain ⟨⟨s3,e3,hs3⟩,q⟩:=hn
  obtain rfl:s2=s3:=by simpa using e3
  exact hQ _ _ (fin_cell (x:=s2) (y:=.bool g) (f:=false) (d:=4) (g:=1) (by kernel_rfl) h4 hr hs3.pl (Pl.bool _) (by rw [hh])) ⟨f,g,⟨⟨s2,rfl,hs3⟩,q⟩,hz.symm,hf⟩
 by_cases hbc:b=c
 ·subst hbc
  have eqb:bin Pg .eql 4 false (.bool b) (.bool b)=some (.bool true):=by rw [bin_eqb 4 false b b U4,beq_self_eq_true]
  refine ww_seq (ww_reg (fun n k=>by simp -implicitDefEqProofs (disch:=omega) only [go_sem,reduceIte,Nat.reduceEqDiff,gt_start,List.getD_cons_zero,List.getD_cons_succ,ldc_snd L4,eqb];rfl) ?_)
  refine ww_true sS ?_
  obtain ⟨p,hp,m,hm,dm,hvm,hlm⟩:=plus_spec hs hu dd de (by omega) (by omega) ⟨h.rows,none,h.mods⟩
  obtain ⟨r,hr,f,⟨⟨s2,rfl,hs2⟩,df,cf,hf0⟩,ht⟩:=made_spec hm dm (by omega) b ⟨h.rows,none,h.mods⟩
  have hlen:=ht.len
  refine ww_seq (ww_call (hp.and hr) (fun n hn k=>by
   simp -implicitDefEqProofs (disch:=omega) only [go_sem,reduceIte,Nat.reduceEqDiff,gt_start,List.getD_cons_zero,List.getD_cons_succ,ldc_fst L24,ldc_snd L4,cld2 hn.1 hs.ex hu.ex hs.quiet hu.quiet,cld2 hn.2 hm.ex (Ex1.bool _) hm.quiet rfl,stc_two N26 1 s2 (.bool (b && !f.isEmpty)) .nils (.bool false) _ hs2.pl.ok rfl]
   exact finD_ok (by kernel_rfl)) ?_)
  exact ww_ret (fin s2 f _ _ ⟨⟨s2,rfl,hs2⟩,df,cf,hf0⟩ (zv_same (by rw [ht.vl,hvm])) (by omega) sS sS rfl)
 ·have ec:c = !b:=by cases b<;>cases c<;>first | rfl | exact absurd rfl hbc
  have eqb:bin Pg .eql 4 false (.bool b) (.bool c)=some (.bool false):=by
   rw [bin_eqb 4 false b c U4,ec];cases b<;>rfl
  refine ww_seq (ww_reg (fun n k=>by simp -implicitDefEqProofs (disch:=omega) only [go_sem,reduceIte,Nat.reduceEqDiff,gt_start,List.getD_cons_zero,List.getD_cons_succ,ldc_snd L4,eqb];rfl) ?_)
  refine ww_false sS ?_
  obtain ⟨q,hq,rfl⟩:=compare_spec hs hu dd de cd ce (by omega) (by omega) ⟨h.rows,none,h.mods⟩
  rcases Nat.lt_or_ge (vl B d) (vl B e) with hlt | hge
  ·have hcmp:cmpI (vl B d) (vl B e)=.negSucc 0:=by unfold cmpI;rw [if_pos hlt]
   rw [hcmp] at hq
   refine ww_seq (ww_call (hq) (fun n hn k=>by simp -implicitDefEqProofs (disch:=omega) only [go_sem,reduceIte,Nat.reduceEqDiff,gt_start,List.getD_cons_zero,List.getD_cons_succ,ldc_fst L24,clc2 hn hs.ex hu.ex];rfl) ?_)
   refine ww_false sS (ww_skip ?_)
   have hle:d.length≤e.length:=by
    rcases Nat.lt_or_ge e.length d.length with h1 | h1
    ·have:=vl_lt_len (B:=B) (by decide) de cd h1;omega
    ·exact h1
   obtain ⟨p,hp,m,hm,dm,hvm,hlm⟩:=minus_spec hu hs de dd (by omega) hle (by omega) ⟨h.rows,none,h.mods⟩
   obtain ⟨r,hr,f,⟨⟨s2,rfl,hs2⟩,df,cf,hf0⟩,ht⟩:=made_spec hm dm (by omega) c ⟨h.rows,none,h.mods⟩
   have hlen:=ht.len
   refine ww_seq (ww_call (hp.and hr) (fun n hn k=>by
    simp -implicitDefEqProofs (disch:=omega) only [go_sem,reduceIte,Nat.reduceEqDiff,gt_start,List.getD_cons_zero,List.getD_cons_succ,ldc_fst L24,ldc_snd L4,cld2 hn.1 hu.ex hs.ex hu.quiet hs.quiet,cld2 hn.2 hm.ex (Ex1.bool _) hm.quiet rfl,stc_two N26 1 s2 (.bool (c && !f.isEmpty)) .nils (.bool false) _ hs2.pl.ok rfl]
    exact finD_ok (by kernel_rfl)) ?_)
   refine ww_ret (fin s2 f _ _ ⟨⟨s2,rfl,hs2⟩,df,cf,hf0⟩ ?_ (by omega) sS sS rfl)
   rw [zv_diff (d:=e) (e:=d) (by rw [ht.vl,hvm]),ec,Int.add_comm]
   cases b<;>rfl
  ·have hcmp:∃ n,cmpI (vl B d) (vl B e)=.ofNat n:=by unfold cmpI;rw [if_neg (by omega)];split<;>exact ⟨_,rfl⟩
   obtain ⟨n0,hcmp⟩:=hcmp
   rw [hcmp] at hq
   refine ww_seq (ww_call (hq) (fun n hn k=>by simp -implicitDefEqProofs (disch:=omega) only [go_sem,reduceIte,Nat.reduceEqDiff,gt_start,List.getD_cons_zero,List.getD_cons_succ,ldc_fst L24,clc2 hn hs.ex hu.ex,d_true];rfl) ?_)
   refine ww_true sS ?_
   have hle:e.length≤d.length:=by
    rcases Nat.lt_or_ge d.length e.length with h1 | h1
    ·have:=vl_lt_len (B:=B) (by decide) dd ce h1;omega
    ·exact h1
   obtain ⟨p,hp,m,hm,dm,hvm,hlm⟩:=minus_spec hs hu dd de (by omega) hle (by omega) ⟨h.rows,none,h.mods⟩
   obtain ⟨r,hr,f,⟨⟨s2,rfl,hs2⟩,df,cf,hf0⟩,ht⟩:=made_spec hm dm (by omega) b ⟨h.rows,none,h.mods⟩
   have hlen:=ht.len
   refine ww_seq (ww_call (hp.and hr) (fun n hn k=>by
    simp -implicitDefEqProofs (disch:=omega) only [go_sem,reduceIte,Nat.reduceEqDiff,gt_start,List.getD_cons_zero,List.getD_cons_succ,ldc_fst L24,ldc_snd L4,cld2 hn.1 hs.ex hu.ex hs.quiet hu.quiet,cld2 hn.2 hm.ex (Ex1.bool _) hm.quiet rfl,stc_two N26 1 s2 (.bool (b && !f.isEmpty)) .nils (.bool false) _ hs2.pl.ok rfl]
    exact finD_ok (by kernel_rfl)) ?_)
   refine ww_ret (fin s2 f _ _ ⟨⟨s2,rfl,hs2⟩,df,cf,hf0⟩ ?_ (by omega) sS sS rfl)
   rw [zv_diff (d:=d) (e:=e) (by rw [ht.vl,hvm]),ec]
end Go.AM.S
end
section
namespace Go.AM.S
open Go Go.AM Go.Proofs NumL
open _root_.Go.AM.G (R)
set_option maxRecDepth 100000
theorem IsI.form {k:Nat} {v:V} {x:Int} (h:IsI k v x):∃ s b,v=.agg [s,.bool b]∧Pl s∧Ex1 v∧quiet v=true:=by
 obtain ⟨d,b,hn,_,_⟩:=h
 have h1:=hn.ex;have h2:=hn.quiet
 obtain ⟨⟨s,rfl,hs⟩,_⟩:=hn
 exact ⟨s,b,rfl,hs.pl,h1,h2⟩
theorem sub_spec {k l:Nat} {va vb:V} {x y:Int} (ha:IsI k va x) (hb:IsI l vb y) (hk:k≤1000000) (hl:l≤1000000):Gives 27 [va,vb] fun r=>IsI (max k l+1) r (x - y):=by
 obtain ⟨s,b,rfl,ps,es,qs⟩:=ha.form
 obtain ⟨u,c,rfl,pu,eu,qu⟩:=hb.form
 refine gives_of tbl27 fun h Q hQ=>?_
 unfold rc27
 refine sRG ?_
 obtain ⟨p,hp,hpI⟩:=neg_spec hb hl ⟨h.rows,none,h.mods⟩
 obtain ⟨r,hr,hrI⟩:=add_spec ha hpI hk hl ⟨h.rows,none,h.mods⟩
 obtain ⟨s1,b1,rfl,ps1,es1,qs1⟩:=hpI.form
 obtain ⟨s2,b2,rfl,ps2,es2,qs2⟩:=hrI.form
 refine ww_seq (ww_call (hp.and hr) (fun n hn k=>by
  simp -implicitDefEqProofs (disch:=omega) only [go_sem,reduceIte,Nat.reduceEqDiff,gt_start,List.getD_cons_zero,List.getD_cons_succ,ldc_two L26,cld1 hn.1 eu qu,cld2 hn.2 es es1 qs qs1,stc_two N26 1 s2 (.bool b2) .nils (.bool false) _ ps2.ok rfl]
  exact finD_ok (by kernel_rfl)) ?_)
 exact ww_ret (hQ _ _ (fin_cell (x:=s2) (y:=.bool b2) (f:=false) (d:=4) (g:=1) (by kernel_rfl) sS sS ps2 (Pl.bool _) rfl) (by rw [Int.sub_eq_add_neg];exact hrI))
end Go.AM.S
end
section
namespace Go.AM.S
open Go Go.AM Go.Proofs NumL
open _root_.Go.AM.G (R)
set_option maxRecDepth 100000
theorem tbl29:tbl 29=some ⟨rc29,[.cell 4 26]⟩:=by kernel_rfl
theorem vl_set (B:Nat):∀ (l:List Nat) (i v:Nat),i<l.length→vl B (l.set i v)+B ^ i*l.getD i 0=vl B l+B ^ i*v:=by
 intro l
 induction l with
 | nil=>intro i v h;simp at h
 | cons x l ih =>
  intro i v h
  cases i with
  | zero=>simp only [List.set_cons_zero,vl,List.getD_cons_zero,Nat.pow_zero,Nat.one_mul];omega
  | succ i =>
   have:=ih i v (by simpa using h)
   simp only [List.set_cons_succ,vl,List.getD_cons_succ,Nat.pow_succ]
   have h2:B*(vl B (l.set i v)+B ^ i*l.getD i 0)=B*(vl B l+B ^ i*v):=by rw [this]
   simp only [Nat.mul_add] at h2
   rw [show B ^ i*B*l.getD i 0=B*(B ^ i*l.getD i 0) by rw [Nat.mul_comm (B ^ i) B,Nat.mul_assoc],show B ^ i*B*v=B*(B ^ i*v) by rw [Nat.mul_comm (B ^ i) B,Nat.mul_assoc]]
   omega
structure IMul (s u:V) (b c:Bool) (N:Nat) (h:Hp) (out:List Nat) (st:St):Prop where
 h2:gt st.tm 2=.ptr (.loc 2 1) 0
 h3:gt st.tm 3=.ptr (.loc 3 1) 0
 h4:gt st.tm 4=.ptr (.loc 4 1) 0
 h5:gt st.tm 5=.arr (.loc 18 1) 0 N (some N) 1 false
 l2:lg st.loc 2=(1,.cells false [s,.bool b])
 l3:lg st.loc 3=(1,.cells false [u,.bool c])
 l4:lg st.loc 4=(1,.cells false [.nils,.bool false])
 l18:lg st.loc 18=(1,.cells false (nl .u32 out))
 len:out.length=N
 dg:Dg B out
 hp:st.hp=h
theorem mul_step {B t0 v2 o o' n n' x y i k:Nat} (h1:v2+B ^ (i+k)*o=t0+B ^ (i+k)*o') (h2:n+(x*y+o)=o'+B*n') {q p:Nat} (h3:t0+B ^ (i+k)*n=q+B ^ i*(x*p)) :
  v2+B ^ (i+(k+1))*n'=q+B ^ i*(x*(p+B ^ k*y)):=by
 have e1:B ^ (i+k)*(n+(x*y+o))=B ^ (i+k)*(o'+B*n'):=by rw [h2]
 simp only [Nat.mul_add] at e1
 have e2:B ^ (i+(k+1))*n'=B ^ (i+k)*(B*n'):=by rw [←Nat.add_assoc,Nat.pow_succ,Nat.mul_assoc]
 have e3:B ^ i*(x*(p+B ^ k*y))=B ^ i*(x*p)+B ^ (i+k)*(x*y):=by
  rw [Nat.mul_add,Nat.mul_add,Nat.pow_add,Nat.mul_assoc]
  congr 1
  rw [←Nat.mul_assoc x,Nat.mul_comm x,Nat.mul_assoc]
 rw [e2,e3]
 omega
theorem getD_set_ne (l:List Nat) (i j v:Nat) (h:i≠j):(l.set i v).getD j 0=l.getD j 0:=by
 rw [List.getD_eq_getElem?_getD,List.getD_eq_getElem?_getD,List.getElem?_set_ne h]
theorem mul_bound {x y:Nat} (hx:x<4294967296) (hy:y<4294967296):x*y≤18446744065119617025:=by
 have:=Nat.mul_le_mul (show x≤4294967295 by omega) (show y≤4294967295 by omega)
 omega
theorem mul_spec {k l:Nat} {va vb:V} {x y:Int} (ha:IsI k va x) (hb:IsI l vb y) (hk:k≤1000000) (hl:l≤1000000):Gives 29 [va,vb] fun r=>IsI (k+l) r (x*y):=by
 obtain ⟨d,b,⟨⟨s,rfl,hs⟩,dd,cd,h0⟩,rfl,hdl⟩:=ha
 obtain ⟨e,c,⟨⟨u,rfl,hu⟩,de,ce,he0⟩,rfl,hel⟩:=hb
 refine gives_of tbl29 fun h Q hQ=>?_
 unfold rc29
 refine sRG ?_
 refine ww_seq (ww_reg (fun n k=>by simp -implicitDefEqProofs (disch:=omega) only [go_sem,reduceIte,Nat.reduceEqDiff,gt_start,List.getD_cons_zero,List.getD_cons_succ,ldc_fst L24,len_sl hs,len_sl hu];rfl) ?_)
 refine ww_seq (ww_seq (ww_reg (fun n k=>by simp -implicitDefEqProofs (disch:=omega) only [go_sem,reduceIte,Nat.reduceEqDiff,gt_start,List.getD_cons_zero,List.getD_cons_succ,ldc_fst L24,len_sl hs];rfl) ?_))
 refine ww_for (fun m st=>∃ i out,m+i=d.length∧IMul s u b c (d.length+e.length) ⟨h.rows,none,h.mods⟩ out st∧gt st.tm 20=s∧gt st.tm 21=.int .i64 (.ofNat d.length)∧gt st.tm 22=.int .i64 (.ofNat i)∧vl B out=vl B (d.take i)*vl B e∧∀ j,i+e.length≤j→out.getD j 0=0) d.length ⟨0,List.replicate (d.length+e.length) 0,rfl,⟨sS,sS,sS,sS,sS,sS,sS,sS,by simp,fun x hx=>by rw [List.eq_of_mem_replicate hx];decide,rfl⟩,sS,sS,sS,by rw [vl_zeros];simp [vl],fun j _=>by rw [List.getD_eq_getElem?_getD,List.getElem?_replicate];split<;>rfl⟩ ?_
 intro m st ⟨i,out,hm,H,h20,h21,h22,hv,hz⟩
 obtain ⟨h2,h3,h4,h5,l2,l3,l4,l18,hlen,hdg,hhp⟩:=H
 refine sR2 h21 h22 ?_
 refine ww_seq (ww_if (by simp only [gt_pt,reduceIte];rfl) (fun hi=>ww_skip ?_) (fun hi=>ww_exit ?_))
 ·have hx:d.getD i 0<4294967296:=dd.get (by decide) i
  refine ww_seq (ww_block ?_)
  refine ww_seq (ww_reg (fun n k=>by simp -implicitDefEqProofs (disch:=omega) only [go_sem,reduceIte,Nat.reduceEqDiff,h20,h22,ia24 hs];rfl) ?_)
  refine sR ?_
  refine ww_seq (ww_seq ?_)
  refine ww_reg (fun n k=>by simp -implicitDefEqProofs (disch:=omega) only [go_sem,reduceIte,Nat.reduceEqDiff,h3,l3,ldc_fst L24,len_sl hu];rfl) ?_
  refine ww_for (fun m2 s1=>∃ k o2 n,m2+k=e.length∧IMul s u b c (d.length+e.length) ⟨h.rows,none,h.mods⟩ o2 s1∧gt s1.tm 20=s∧gt s1.tm 21=.int .i64 (.ofNat d.length)∧gt s1.tm 22=.int .i64 (.ofNat i)∧gt s1.tm 6=.int .i64 (.ofNat i)∧gt s1.tm 7=.int .u32 (.ofNat (d.getD i 0))∧gt s1.tm 8=.int .u64 (.ofNat n)∧gt s1.tm 28=u∧gt s1.tm 29=.int .i64 (.ofNat e.length)∧gt s1.tm 30=.int .i64 (.ofNat k)∧n<4294967296∧vl B o2+B ^ (i+k)*n=vl B out+B ^ i*(d.getD i 0*vl B (e.take k))∧∀ j,i+e.length≤j→o2.getD j 0=0) e.length ⟨0,out,0,rfl,⟨(sS1 h2),(sS1 h3),(sS1 h4),(sS1 h5),(sS1 l2),(sS1 l3),(sS1 l4),(sS1 l18),hlen,hdg,hhp⟩,(sS1 h20),(sS1 h21),(sS1 h22),sS,sS,sS,sS,sS,sS,by decide,by simp [vl],hz⟩ ?_
  intro m2 s1 ⟨k,o2,n,hm2,H2,j20,j21,j22,j6,j7,j8,j28,j29,j30,hn,hv2,hz2⟩
  obtain ⟨i2,i3,i4,i5,k2,k3,k4,k18,hlen2,hdg2,hhp2⟩:=H2
  refine sR2 j29 j30 ?_
  refine ww_seq (ww_if (by simp only [gt_pt,reduceIte];rfl) (fun hk2=>ww_skip ?_) (fun hk2=>ww_exit ?_))
  ·have hy:e.getD k 0<4294967296:=de.get (by decide) k
   have ho:o2.getD (i+k) 0<4294967296:=hdg2.get (by decide) _
   have hxy:=mul_bound hx hy
   refine ww_seq (ww_block ?_)
   refine ww_seq (ww_reg (fun n k=>by simp -implicitDefEqProofs (disch:=omega) only [go_sem,reduceIte,Nat.reduceEqDiff,j28,j30,ia24 hu];rfl) ?_)
   refine ww_seq (ww_reg (fun n k=>by simp -implicitDefEqProofs (disch:=omega) only [go_sem,reduceIte,Nat.reduceEqDiff,j6,j7,j8,i5,k18];rfl) ?_)
   refine ww_seq (ww_reg (fun n k=>by simp -implicitDefEqProofs (disch:=omega) only [go_sem,reduceIte,Nat.reduceEqDiff,j6,i5,k18,wrap_u32_mod];rfl) ?_)
   refine ww_reg (fun n k=>by simp -implicitDefEqProofs (disch:=omega) only [go_sem,reduceIte,Nat.reduceEqDiff,Nat.reducePow];rfl) ?_
   refine sE1 j30 ?_
   refine ⟨m2 - 1,by omega,k+1,o2.set (i+k) ((n+(d.getD i 0*e.getD k 0+o2.getD (i+k) 0)) % 4294967296),(n+(d.getD i 0*e.getD k 0+o2.getD (i+k) 0)) / 4294967296,by omega,⟨(sS1 i2),(sS1 i3),(sS1 i4),(sS1 i5),(sS1 k2),(sS1 k3),(sS1 k4),sS,by simp [hlen2],hdg2.set _ (Nat.mod_lt _ (by decide)),hhp2⟩,(sS1 j20),(sS1 j21),(sS1 j22),(sS1 j6),(sS1 j7),sS,(sS1 j28),(sS1 j29),sS,by omega,?_,fun j hj=>by rw [getD_set_ne _ _ _ _ (by omega)];exact hz2 j hj⟩
   rw [vl_take_next]
   exact mul_step (vl_set B o2 (i+k) _ (by omega)) (by show n+(d.getD i 0*e.getD k 0+o2.getD (i+k) 0)=(n+(d.getD i 0*e.getD k 0+o2.getD (i+k) 0)) % 4294967296+4294967296*((n+(d.getD i 0*e.getD k 0+o2.getD (i+k) 0)) / 4294967296);omega) hv2
  ·rw [if_pos rfl]
   refine ww_reg (fun n k=>by simp -implicitDefEqProofs (disch:=omega) only [go_sem,reduceIte,Nat.reduceEqDiff,i3,k3,i5,k18,j6,j8,ldc_fst L24,len_sl hu];rfl) ?_
   refine sE1 j22 ?_
   have ek:k=e.length:=by omega
   refine ⟨m - 1,by omega,i+1,o2.set (i+e.length) n,by omega,⟨(sS1 i2),(sS1 i3),(sS1 i4),(sS1 i5),(sS1 k2),(sS1 k3),(sS1 k4),sS,by simp [hlen2],hdg2.set _ hn,hhp2⟩,(sS1 j20),(sS1 j21),sS,?_,fun j hj=>by rw [getD_set_ne _ _ _ _ (by omega)];exact hz2 j (by omega)⟩
   have e1:=vl_set B o2 (i+e.length) n (by omega)
   rw [hz2 (i+e.length) (Nat.le_refl _),Nat.mul_zero,Nat.add_zero] at e1
   rw [e1,vl_take_next,Nat.add_mul,←hv,Nat.mul_assoc]
   subst ek
   rw [List.take_length] at hv2
   exact hv2
 ·rw [if_pos rfl]
  have hid:i=d.length:=by omega
  subst hid
  rw [List.take_length] at hv
  obtain ⟨r,hr,f,⟨⟨s2,rfl,hs2⟩,df,cf,hf0⟩,ht⟩:=made_spec (a:=out) (.inl ⟨false,rfl⟩) hdg (by omega) (!(b == c)) ⟨h.rows,none,h.mods⟩
  have hlen3:=ht.len
  refine ww_seq (ww_call (hr) (fun n hn k=>by simp -implicitDefEqProofs (disch:=omega) only [go_sem,reduceIte,Nat.reduceEqDiff,h2,h3,h4,h5,l2,l3,l4,hhp,ldc_snd L4,bin_neb 4 false b c U4,cl_arr2 hlen.symm l18 hn (Ex1.bool _),stc_two N26 1 s2 (.bool (!(b == c) && !f.isEmpty)) .nils (.bool false) _ hs2.pl.ok rfl];rfl) ?_)
  refine ww_ret (hQ _ _ (fin_cell (x:=s2) (y:=.bool (!(b == c) && !f.isEmpty)) (f:=false) (d:=4) (g:=1) (by kernel_rfl) (sS1 h4) sS hs2.pl (Pl.bool _) rfl) ⟨f,_,⟨⟨s2,rfl,hs2⟩,df,cf,hf0⟩,?_,by omega⟩)
  have e3:=ht.vl B
  rw [hv] at e3
  have e4:(vl B f:Int)=(vl B d:Int)*(vl B e:Int):=by rw [e3];simp
  cases f with
  | nil =>
   have e5:(vl B d:Int)*(vl B e:Int)=0:=by rw [←e4];rfl
   cases b<;>cases c<;>simp only [zv,vl,cond_true,cond_false,Int.neg_mul,Int.mul_neg,Int.neg_neg,e5]<;>rfl
  | cons x0 l0=>cases b<;>cases c<;>simp only [zv,cond_true,cond_false,Int.neg_mul,Int.mul_neg,Int.neg_neg,e4]<;>simp [e4]
end Go.AM.S
end
section
namespace Go.AM.S
open Go Go.AM Go.Proofs NumL
open _root_.Go.AM.G (R)
set_option maxRecDepth 100000
theorem tbl68:tbl 68=some ⟨rc68,[.tmp 2]⟩:=by kernel_rfl
theorem n68_3_0 (c:CallF) (t' t:Tm) (l:Lo) (h:Hp) (j:V→Lo→Hp→R):gn Try.f68 68 3 0 c t' t l h j=j (.arr (.loc 5 ((lg l 5).1+1)) 0 0 (some 0) 1 false) (lp l 5 ((lg l 5).1+1,.cells false [])) h :=
 gen_empty (C:=Cg) (gl:=Cg.glob 68) (call:=c) (o:=opA Try.f68 3 0) (d:=5) (t:=24) (e:=86) (by kernel_rfl) (by kernel_rfl) (by kernel_rfl) (by kernel_rfl) (by kernel_rfl) (by kernel_rfl) (show zeroV Pg 86=some (.int .u32 (.ofNat 0)) by kernel_rfl) rfl rfl
theorem c68_3_2 {loc:Lo} {hp:Hp} {ys:List Nat} {w:V} {g:Nat} (hs:lg loc 5=(g,.cells false [])) (hit:∀ tm,itemsOf ⟨tm,loc,hp⟩ w=some (nl .u32 ys)) (hys:ys≠[]) (hn:ys.length≤1000000000) (call:CallF) (tm:Tm) (j:V→Lo→Hp→R) :
  go2 Try.f68 68 3 2 5 6 (.arr (.loc 5 g) 0 0 (some 0) 1 false) w call tm loc hp j=j (.arr (.glob hp.rows.length) 0 ys.length none 1 false) loc (hadd hp (.cells false (nl .u32 ys))) :=
 gen_clone (C:=Cg) (gl:=Cg.glob 68) (e:=86) (b:=4) i68_3_2 (by kernel_rfl) (by kernel_rfl) (by kernel_rfl) (by kernel_rfl) (by kernel_rfl) (by decide) hs hit hys (by omega) call tm j
theorem ne_nil {v:V} (h:v≠.nils) (hv:(∃ k d,Sl k v d)∨∃ r o n li,v=.arr r o n li 1 false) (cn:Bool):bin Pg .eql 24 cn v .nils=some (.bool false):=by
 have hu:Pg.underlying 24=some (.slice 86):=U24
 rcases hv with ⟨k,d,⟨f,rfl⟩ | ⟨rfl,_⟩⟩ | ⟨r,o,n,li,rfl⟩
 ·show F.eqV .eql (Pg.underlying 24) cn (.slice none f 1 (nl k d)) .nils=_
  rw [hu];rfl
 ·exact absurd rfl h
 ·show F.eqV .eql (Pg.underlying 24) cn (.arr r o n li 1 false) .nils=_
  rw [hu];rfl
theorem clone_runs {va:V} {ys:List Nat} (h:Hp) (hne:va≠.nils) (hv:(∃ k d,Sl k va d)∨∃ r o n li,va=.arr r o n li 1 false) (hys:ys≠[]) (hn:ys.length≤1000000000)
  (hit:∀ (tm:Tm) (loc:Lo),itemsOf ⟨tm,loc,⟨h.rows,none,h.mods⟩⟩ va=some (nl .u32 ys)) :
  Runs Pg kn0 tbl 68 [va] h (.val (.arr (.glob h.rows.length) 0 ys.length none 1 false) (hadd h (.cells false (nl .u32 ys)))):=by
 suffices hw:WW Pg kn0 tbl rc68 ⟨startTm [va],.lf,⟨h.rows,none,h.mods⟩⟩ (fun s=>∃ o,fin Pg h [.tmp 2] s=some o∧o=.val (.arr (.glob h.rows.length) 0 ys.length none 1 false) (hadd h (.cells false (nl .u32 ys)))) (fun _ _=>False) (fun s=>∃ o,fin Pg h [.tmp 2] s=some o∧o=.val (.arr (.glob h.rows.length) 0 ys.length none 1 false) (hadd h (.cells false (nl .u32 ys)))) by
  obtain ⟨o,h1,h2⟩:=runs_ex (kn:=kn0) (h:=h) rfl tbl68 hw
  subst h2
  exact h1
 unfold rc68
 refine sR ?_
 refine ww_seq (ww_seq (ww_reg (fun n k=>by simp -implicitDefEqProofs (disch:=omega) only [go_sem,reduceIte,Nat.reduceEqDiff,gt_start,List.getD_cons_zero,List.getD_cons_succ,ne_nil hne hv];rfl) ?_))
 refine ww_false sS (ww_skip ?_)
 refine ww_seq (ww_reg (fun n k=>by simp -implicitDefEqProofs (disch:=omega) only [go_sem,reduceIte,Nat.reduceEqDiff,gt_start,List.getD_cons_zero,List.getD_cons_succ,n68_3_0,c68_3_2 (loc:=lp .lf 5 (1,.cells false [])) (g:=1) (by rw [lg_lp,if_pos rfl]) (fun tm=>hit tm _) hys hn];rfl) ?_)
 refine ww_ret ⟨_,?_,rfl⟩
 unfold fin
 simp only [resV,rho_gt,Option.map_some]
 rw [show ∀ t,gt (pt t 2 (.arr (.glob h.rows.length) 0 ys.length none 1 false)) 2=.arr (.glob h.rows.length) 0 ys.length none 1 false from fun t=>sS]
 rfl
end Go.AM.S
end
section
namespace Go.AM.S
open Go Go.AM Go.Proofs NumL
open _root_.Go.AM.G (R)
set_option maxRecDepth 100000
theorem tbl64:tbl 64=some ⟨rc64,[.tmp 6]⟩:=by kernel_rfl
theorem take_set_lt (l:List Nat) (i v:Nat):(l.set i v).take i=l.take i:=by
 rw [List.take_set]
 exact List.set_eq_of_length_le (by simp;omega)
theorem getD_set_eq (l:List Nat) (i v:Nat) (h:i<l.length):(l.set i v).getD i 0=v:=by
 rw [List.getD_eq_getElem?_getD,List.getElem?_set_self h];rfl
structure HG (n:Nat) (h:Hp) (v:V) (l:Nat) (s:Hp):Prop where
 len:h.rows.length≤s.rows.length
 same:∀ i,i<h.rows.length→v≠.arr (.glob i) 0 l none 1 false→s.rows[i]? = h.rows[i]?
 dg:DG n s
theorem nth_rows {h:Hp} {r:Nat} {row:Row} (hr:h.rows[r]? = some row):F.nthR h.rows r=some row:=by rw [F.nthR_eq];exact hr
theorem len_gr {h:Hp} {v:V} {k:IntKind} {d:List Nat} (hv:Gr h v k d) (e:TypeId):len (some (.slice e)) v=some (.int .i64 (.ofNat d.length)):=by
 rcases hv with ⟨rfl,rfl⟩ | ⟨_,r,rfl,_⟩
 ·exact len_nils e
 ·rfl
theorem grown_runs {n:Nat} {h:Hp} {v:V} {d:List Nat} (T M:Nat) (hv:Gr h v .u32 d) (dd:Dg B d) (hl:d.length≤1000000) (hT:T<4294967296) (hM:M<4294967296) (hn:DG n h) (hvn:∀ r,v=.arr (.glob r) 0 d.length none 1 false→n≤r) (hlen:n≤h.rows.length) :
  ∃ v' h' d',Runs Pg kn0 tbl 64 [v,.int .u64 (.ofNat T),.int .u64 (.ofNat M)] h (.val v' h')∧Gr h' v' .u32 d'∧Dg B d'∧vl B d'=vl B d*T+M∧d'.length≤d.length+1∧HG n h v d.length h'∧(∀ r,v'=.arr (.glob r) 0 d'.length none 1 false→n≤r)∧d.length≤d'.length:=by
 let Post:Out→Prop:=fun o=>∃ v' h' d',o=.val v' h'∧Gr h' v' .u32 d'∧Dg B d'∧vl B d'=vl B d*T+M∧d'.length≤d.length+1∧HG n h v d.length h'∧(∀ r,v'=.arr (.glob r) 0 d'.length none 1 false→n≤r)∧d.length≤d'.length
 suffices hw:WW Pg kn0 tbl rc64 ⟨startTm [v,.int .u64 (.ofNat T),.int .u64 (.ofNat M)],.lf,⟨h.rows,none,h.mods⟩⟩ (fun s=>∃ o,fin Pg h [.tmp 6] s=some o∧Post o) (fun _ _=>False) (fun s=>∃ o,fin Pg h [.tmp 6] s=some o∧Post o) by
  obtain ⟨o,h1,v',h',d',rfl,h2⟩:=runs_ex (kn:=kn0) (h:=h) rfl tbl64 hw
  exact ⟨v',h',d',h1,h2⟩
 have fin1:∀ (s:St) (v':V) (d':List Nat),gt s.tm 6=v'→Gr s.hp v' .u32 d'→Dg B d'→vl B d'=vl B d*T+M→d'.length≤d.length+1→HG n h v d.length s.hp→(∀ r,v'=.arr (.glob r) 0 d'.length none 1 false→n≤r)→d.length≤d'.length→(v'=.nils→s.hp.dirty=none)→∃ o,fin Pg h [.tmp 6] s=some o∧Post o:=by
  intro s v' d' h6 hg' hd' hvl hlen' hH hvn' hle' hnil
  have hr6:resV Pg s [.tmp 6]=some [v']:=by simp only [resV,rho_gt,h6,Option.map_some]
  rcases hg' with ⟨rfl,rfl⟩ | ⟨hd0,r,rfl,hrow⟩
  ·refine ⟨.val .nils h,?_,.nils,h,[],rfl,.inl ⟨rfl,rfl⟩,hd',hvl,by simp,⟨Nat.le_refl _,fun _ _ _=>rfl,hn⟩,(fun r e=>by cases e),hle'⟩
   unfold fin
   rw [hr6]
   show some (Out.val .nils (backHp h s.hp [.nils]))=_
   rw [back_id h s.hp [.nils] (hnil rfl) rfl]
  ·refine ⟨.val (.arr (.glob r) 0 d'.length none 1 false) (backHp h s.hp [.arr (.glob r) 0 d'.length none 1 false]),?_,_,_,d',rfl,.inr ⟨hd0,r,rfl,?_⟩,hd',hvl,hlen',⟨?_,?_,hn.back hH.dg _⟩,hvn',hle'⟩
   ·unfold fin
    rw [hr6];rfl
   ·rw [back_rows rfl];exact hrow
   ·rw [back_rows rfl];exact hH.len
   ·rw [back_rows rfl];exact hH.same
 unfold rc64
 refine sR ?_
 refine ww_seq (ww_seq (ww_reg (fun n k=>by simp -implicitDefEqProofs (disch:=omega) only [go_sem,reduceIte,Nat.reduceEqDiff,gt_start,List.getD_cons_zero,List.getD_cons_succ,len_gr hv];rfl) ?_))
 refine ww_mono (N:=fun s=>∃ cur c,gt s.tm 0=v∧gt s.tm 2=.int .u64 (.ofNat c)∧Gr s.hp v .u32 cur∧cur.length=d.length∧Dg B cur∧c<4294967296∧vl B cur+B ^ d.length*c=vl B d*T+M∧HG n h v d.length s.hp∧s.hp.rows.length=h.rows.length∧(d=[]→s.hp.dirty=none)) (X:=fun _ _=>False) (Q:=fun _=>False) ?_ ?_ (fun _ _ h=>h.elim) (fun _ h=>h.elim)
 ·refine ww_for (fun m s=>∃ i cur c,m+i=d.length∧gt s.tm 0=v∧gt s.tm 1=.int .u64 (.ofNat T)∧gt s.tm 2=.int .u64 (.ofNat c)∧gt s.tm 9=v∧gt s.tm 10=.int .i64 (.ofNat d.length)∧gt s.tm 11=.int .i64 (.ofNat i)∧Gr s.hp v .u32 cur∧cur.length=d.length∧Dg B cur∧c<4294967296∧vl B (cur.take i)+B ^ i*c=vl B (d.take i)*T+M∧(∀ j,i≤j→cur.getD j 0=d.getD j 0)∧HG n h v d.length s.hp∧s.hp.rows.length=h.rows.length∧(d=[]→s.hp.dirty=none)) d.length ⟨0,d,M,rfl,sSG,sSG,sSG,sSG,sSG,sS,hv,rfl,dd,hM,by simp [vl],fun _ _=>rfl,⟨Nat.le_refl _,fun _ _ _=>rfl,fun x hx=>by cases hx⟩,rfl,fun _=>rfl⟩ ?_
  intro m s ⟨i,cur,c,hm,h0,h1,h2,h9,h10,h11,hg,hcl,hcd,hc,hvl,hrest,hH,hrl,hnil⟩
  refine sR2 h10 h11 ?_
  refine ww_seq (ww_if (by simp only [gt_pt,reduceIte];rfl) (fun hi=>ww_skip ?_) (fun hi=>ww_exit ?_))
  ·rcases hg with ⟨hcur,_⟩ | ⟨hc0,r,rfl,hrow⟩
   ·exfalso;rw [hcur] at hcl;simp at hcl;omega
   have hnr:=hvn r (by rw [hcl])
   have hx:cur.getD i 0<4294967296:=hcd.get (by decide) i
   have hxT:=mul_bound hx hT
   refine ww_seq (ww_block ?_)
   refine ww_seq (ww_reg (fun n k=>by simp -implicitDefEqProofs (disch:=omega) only [go_sem,reduceIte,Nat.reduceEqDiff,h9,h11,nth_rows hrow,ldg_nl L86];rfl) ?_)
   refine sR2 h1 h2 ?_
   refine ww_seq (ww_reg (fun n k=>by simp -implicitDefEqProofs (disch:=omega) only [go_sem,reduceIte,Nat.reduceEqDiff,h0,nth_rows hrow,wrap_u32_mod,w64_5_5 hrow];rfl) ?_)
   refine ww_reg (fun n k=>by simp -implicitDefEqProofs (disch:=omega) only [go_sem,reduceIte,Nat.reduceEqDiff,Nat.reducePow];rfl) ?_
   refine sE1 h11 ?_
   refine ⟨m - 1,by omega,i+1,cur.set i ((c+cur.getD i 0*T) % 4294967296),(c+cur.getD i 0*T) / 4294967296,by omega,(sS1 h0),(sS1 h1),sS,(sS1 h9),(sS1 h10),sS,.inr ⟨fun e=>hc0 ((List.set_eq_nil_iff _ _).1 e),r,by simp,hset_at _ hrow⟩,by simp [hcl],hcd.set _ (Nat.mod_lt _ (by decide)),by omega,?_,fun j hj=>by rw [getD_set_ne _ _ _ _ (by omega)];exact hrest j (by omega),⟨by rw [hset_len];exact hH.len,fun j hj hne=>by rw [hset_ne _ (fun e=>hne (by rw [e,hcl]))];exact hH.same j hj hne,hH.dg.set hnr _⟩,by rw [hset_len];exact hrl,fun e=>by subst e;simp at hi⟩
   rw [vl_take_next,vl_take_next,take_set_lt,getD_set_eq _ _ _ (by omega),←hrest i (Nat.le_refl _),Nat.pow_succ,Nat.mul_assoc,Nat.add_mul,Nat.mul_assoc]
   have e1:B ^ i*(c+cur.getD i 0*T)=B ^ i*((c+cur.getD i 0*T) % 4294967296+4294967296*((c+cur.getD i 0*T) / 4294967296)):=by rw [Nat.mod_add_div]
   simp only [Nat.mul_add] at e1
   have e2:B ^ i*(B*((c+cur.getD i 0*T) / 4294967296))=B ^ i*(4294967296*((c+cur.getD i 0*T) / 4294967296)):=rfl
   omega
  ·rw [if_pos rfl]
   have ei:i=d.length:=by omega
   subst ei
   rw [List.take_length] at hvl
   rw [List.take_of_length_le (by omega)] at hvl
   exact ⟨cur,c,(sS1 h0),(sS1 h2),hg,hcl,hcd,hc,hvl,hH,hrl,hnil⟩
 ·intro s ⟨cur,c,h0,h2,hg,hcl,hcd,hc,hvl,hH,hrl,hnil⟩
  refine sQ1 h2 ?_
  refine ww_if (by simp only [gt_pt,reduceIte];rfl) (fun hc0=>?_) (fun hc0=>ww_skip ?_)
  ·obtain ⟨h',happ,hrow',hlen',hsame',hform⟩:=a64_9_4 (loc:=lp s.loc 35 ((lg s.loc 35).1+1,.cells false (nl .u32 [c]))) (w:=.arr (.loc 35 ((lg s.loc 35).1+1)) 0 1 (some 1) 1 false) (ys:=[c]) hg (fun tm=>getRow_arr (ys:=[c]) (by rw [lg_lp,if_pos rfl])) (by simp) (by simp;omega)
   have hdg':DG n h':=by
    rcases hform with rfl | ⟨r,hr,rfl⟩
    ·exact hH.dg
    ·exact DG.add (hH.dg.set (hvn r (by rw [hr,hcl])) .gone) (.cells false (nl .u32 (cur++[c])))
   refine sE3 h0 h2 happ ?_
   refine sR ?_
   refine ww_ret (fin1 _ (.arr (.glob s.hp.rows.length) 0 (cur++[c]).length none 1 false) (cur++[c]) (by simp -implicitDefEqProofs (disch:=omega) only [go_sem,reduceIte,Nat.reduceEqDiff,List.length_append,List.length_cons,List.length_nil]) (.inr ⟨by simp,_,rfl,hrow'⟩) (hcd.snoc hc) ?_ (by simp;omega) ⟨by rw [hlen'];have:=hH.len;omega,fun j hj hne=>?_,hdg'⟩ (fun r e=>?_) (by simp;omega) (fun e=>by cases e))
   ·rw [vl_append,vl_one,hcl];exact hvl
   ·rw [hsame' j (by have:=hH.len;omega) (by rw [hcl];exact hne)]
    exact hH.same j hj hne
   ·have:s.hp.rows.length=r:=by cases e;rfl
    omega
  ·have ec:c=0:=by omega
   subst ec
   refine sR1 h0 ?_
   refine ww_ret (fin1 _ v cur sS hg hcd (by simpa using hvl) (by omega) hH (fun r e=>hvn r (by rw [e,hcl])) (by omega) (fun e=>hnil ?_))
   rcases hg with ⟨hcur,_⟩ | ⟨_,r,hr,_⟩
   ·rw [hcur] at hcl;exact List.length_eq_zero_iff.1 hcl.symm
   ·rw [hr] at e;cases e
end Go.AM.S
end
section
namespace Go.AM.S
open Go Go.AM Go.Proofs NumL
open _root_.Go.AM.G (R)
set_option maxRecDepth 100000
theorem made_glob {n:Nat} {h:Hp} {r0:Nat} {a:List Nat} (hr:h.rows[r0]? = some (.cells false (nl .u32 a))) (da:Dg B a) (la:a.length≤1000000000) (ng:Bool) (hn:DG n h) (hnr:n≤r0) :
  ∃ r h' d,Runs Pg kn0 tbl 65 [.arr (.glob r0) 0 a.length none 1 false,.bool ng] h (.val r h')∧NI r d (ng && !d.isEmpty)∧Tr0 a d∧HG n h (.arr (.glob r0) 0 a.length none 1 false) a.length h'∧h'.rows.length=h.rows.length:=by
 let Post:Out→Prop:=fun o=>∃ r h' d,o=.val r h'∧NI r d (ng && !d.isEmpty)∧Tr0 a d∧HG n h (.arr (.glob r0) 0 a.length none 1 false) a.length h'∧h'.rows.length=h.rows.length
 suffices hw:WW Pg kn0 tbl rc65 ⟨startTm [.arr (.glob r0) 0 a.length none 1 false,.bool ng],.lf,⟨h.rows,none,h.mods⟩⟩ (fun s=>∃ o,fin Pg h [.cell 4 26] s=some o∧Post o) (fun _ _=>False) (fun s=>∃ o,fin Pg h [.cell 4 26] s=some o∧Post o) by
  obtain ⟨o,h1,r,h',d,rfl,h2⟩:=runs_ex (kn:=kn0) (h:=h) rfl tbl65 hw
  exact ⟨r,h',d,h1,h2⟩
 unfold rc65
 refine sR ?_
 refine ww_seq (ww_for (fun m s=>∃ d,m=d.length∧gt s.tm 0=.arr (.glob r0) 0 d.length none 1 false∧Tr0 a d∧gt s.tm 1=.bool ng∧gt s.tm 4=.ptr (.loc 4 1) 0∧lg s.loc 4=(1,.cells false [.nils,.bool false])∧s.hp=⟨h.rows,none,h.mods⟩) a.length ⟨a,rfl,sSG,Tr0.refl a,sSG,sS,sS,rfl⟩ ?_)
 intro m s ⟨d,hm,h0,ht,h1,h4,hl4,hhp⟩
 have hln:=ht.len
 have hrr:s.hp.rows[r0]? = some (.cells false (nl .u32 a)):=by rw [hhp];exact hr
 have htake:a.take d.length=d:=by obtain ⟨q,rfl⟩:=ht;simp
 have hget:∀ i,i<d.length→a.getD i 0=d.getD i 0:=by
  intro i hi
  obtain ⟨q,rfl⟩:=ht
  rw [List.getD_eq_getElem?_getD,List.getD_eq_getElem?_getD,List.getElem?_append_left hi]
 have stop:Cn d→WW Pg kn0 tbl (.seq (.reg fun c t l h k=>jn (fun v0 l0 h0=>jn (fun v1 l1 h1=>jn (fun v2 l2 h2=>bO (pick (g1 t) v2 (.bool false)) fun v3=>gn Try.f65 65 3 7 c (p28 (p22 t (g0 t)) v3) t l2 h2 (fun v4 l4 h4=>jn (fun v5 l5 h5=>k t l5 h5) fun j5=>sto 26 (g4 t) v4 l4 h4 j5 (gn Try.f65 65 3 8 c (p29 (p4 t (g4 t)) v4) t l4 h4 j5))) fun j2=>brB (wv (g1 t) true) (j2 (.tuple []) l1 h1) (bO (bin Pg .gtr 3 true v1 (I 0)) fun v3=>j2 v3 l1 h1)) fun j1=>brB (wv (g1 t) true) (j1 (.tuple []) l0 h0) (bO (len (Pg.underlying 24) v0) fun v2=>j1 v2 l0 h0)) fun j0=>brB (wv (g1 t) true) (j0 (.tuple []) l h) (j0 (g0 t) l h))
 .ret) ⟨pt s.tm 16 (.bool false),s.loc,s.hp⟩ (fun s=>∃ o,fin Pg h [.cell 4 26] s=some o∧Post o) (fun _ _=>False) (fun s=>∃ o,fin Pg h [.cell 4 26] s=some o∧Post o):=by
  intro hcn
  have hsl:Sl .u32 (.slice none false 1 (nl .u32 (a.take d.length))) d:=.inl ⟨false,by rw [htake]⟩
  have key:∀ b:Bool,b=(ng && !d.isEmpty)→∃ o,fin Pg h [.cell 4 26] ⟨pt s.tm 16 (.bool false),lp s.loc 4 (1,.cells false [.slice none false 1 (nl .u32 (a.take d.length)),.bool b]),hset s.hp r0 (.cells true (nl .u32 a))⟩ = some o∧Post o:=by
   intro b hb
   refine ⟨_,fin_cellH (x:=.slice none false 1 (nl .u32 (a.take d.length))) (y:=.bool b) (f:=false) (d:=4) (g:=1) (by kernel_rfl) (sS1 h4) sS hsl.pl (Pl.bool _),_,_,d,rfl,?_,ht,?_,?_⟩
   ·subst hb
    exact ⟨⟨_,rfl,hsl⟩,ht.dg da,hcn,fun e=>by subst e;simp⟩
   ·have hc:(hset s.hp r0 (.cells true (nl .u32 a))).rows.length=h.rows.length:=by rw [hset_len,hhp]
    have hd2:DG n (hset s.hp r0 (.cells true (nl .u32 a))):=DG.set (n:=n) (h:=s.hp) (by rw [hhp];exact fun x hx=>by cases hx) hnr _
    refine ⟨?_,?_,hn.back hd2 _⟩
    ·unfold backHp
     cases cleanB h (hset s.hp r0 (.cells true (nl .u32 a))) with
     | true=>cases V.noRefsL [.agg [.slice none false 1 (nl .u32 (a.take d.length)),.bool b]] with
      | true=>exact Nat.le_refl _
      | false=>exact Nat.le_of_eq hc.symm
     | false=>exact Nat.le_of_eq hc.symm
    ·intro i hi hne
     have e1:(hset s.hp r0 (.cells true (nl .u32 a))).rows[i]? = h.rows[i]?:=by
      rw [hset_ne _ (fun e=>hne (by rw [e])),hhp]
     unfold backHp
     cases cleanB h (hset s.hp r0 (.cells true (nl .u32 a))) with
     | true=>cases V.noRefsL [.agg [.slice none false 1 (nl .u32 (a.take d.length)),.bool b]] with
      | true=>rfl
      | false=>exact e1
     | false=>exact e1
   ·have hc:(hset s.hp r0 (.cells true (nl .u32 a))).rows.length=h.rows.length:=by rw [hset_len,hhp]
    unfold backHp
    cases cleanB h (hset s.hp r0 (.cells true (nl .u32 a))) with
    | true=>cases V.noRefsL [.agg [.slice none false 1 (nl .u32 (a.take d.length)),.bool b]] with
     | true=>rfl
     | false=>exact hc
    | false=>exact hc
  cases ng with
  | false =>
   refine ww_seq (ww_reg (fun n k=>by simp -implicitDefEqProofs (disch:=omega) only [go_sem,reduceIte,Nat.reduceEqDiff,h0,h1,h4,hl4,bb65_3_7 hrr hln (Pl.bool false),stc_two N26 1 (.slice none false 1 (nl .u32 (a.take d.length))) (.bool false) .nils (.bool false) _ rfl rfl];rfl) ?_)
   exact ww_ret (key false (by simp))
  | true =>
   refine ww_seq (ww_reg (fun n k=>by simp -implicitDefEqProofs (disch:=omega) only [go_sem,reduceIte,Nat.reduceEqDiff,h0,h1,h4,hl4,bb65_3_7 hrr hln (Pl.bool (decide (0<d.length))),stc_two N26 1 (.slice none false 1 (nl .u32 (a.take d.length))) (.bool (decide (0<d.length))) .nils (.bool false) _ rfl rfl];rfl) ?_)
   refine ww_ret (key _ ?_)
   cases d with
   | nil=>rfl
   | cons x l=>simp
 rcases Nat.eq_zero_or_pos d.length with hd | hd
 ·refine ww_seq (ww_seq (ww_reg (fun n k=>by simp -implicitDefEqProofs (disch:=omega) only [go_sem,reduceIte,Nat.reduceEqDiff,h0,d_false];rfl) ?_))
  refine ww_false sS (ww_exit ?_)
  rw [if_pos rfl]
  exact stop (fun i hi=>by omega)
 ·have hx:d.getD (d.length - 1) 0<4294967296:=(ht.dg da).get (by decide) _
  have hg1:=hget (d.length - 1) (by omega)
  by_cases hz:d.getD (d.length - 1) 0=0
  ·refine ww_seq (ww_seq (ww_reg (fun n k=>by simp -implicitDefEqProofs (disch:=omega) only [go_sem,reduceIte,Nat.reduceEqDiff,h0,d_true,nth_rows hrr,ldg_nl L86,hg1,hz];rfl) ?_))
   refine ww_true sS (ww_skip (ww_block ?_))
   refine sE1 h0 ?_
   exact ⟨d.length - 1,by omega,d.take (d.length - 1),by simp,(by simp -implicitDefEqProofs (disch:=omega) only [go_sem,reduceIte,Nat.reduceEqDiff,List.length_take,Nat.min_eq_left]),ht.next hd hz,(sS1 h1),(sS1 h4),(sS1 hl4),hhp⟩
  ·refine ww_seq (ww_seq (ww_reg (fun n k=>by simp -implicitDefEqProofs (disch:=omega) only [go_sem,reduceIte,Nat.reduceEqDiff,h0,d_true,nth_rows hrr,ldg_nl L86,hg1,d_false];rfl) ?_))
   refine ww_false sS (ww_exit ?_)
   rw [if_pos rfl]
   exact stop (fun i hi=>by rw [show i=d.length - 1 by omega];exact hz)
end Go.AM.S
end
section
namespace Go.AM.S
open Go Go.AM Go.Proofs NumL
open _root_.Go.AM.G (R)
def sl (l:List Nat):Str:=⟨l.length,vl 256 l⟩
theorem p8_pow (n:Nat):AM.p8 n=256 ^ n:=by
 show 2 ^ (8*n)=_
 rw [show (256:Nat)=2 ^ 8 from rfl,←Nat.pow_mul]
theorem vl_div (B:Nat) (hB:0<B) (l:List Nat) (h:Dg B l) (i:Nat):vl B l / B ^ i=vl B (l.drop i):=by
 by_cases hi:i≤l.length
 ·conv=>lhs;rw [←List.take_append_drop i l]
  rw [vl_append,List.length_take,Nat.min_eq_left hi,Nat.add_mul_div_left _ _ (Nat.pow_pos hB),Nat.div_eq_of_lt (vl_lt_of hB (h.take i) (by simp;omega)),Nat.zero_add]
 ·rw [List.drop_eq_nil_of_le (by omega),Nat.div_eq_of_lt (vl_lt_of hB h (by omega))];rfl
theorem vl_mod (B:Nat) (hB:0<B) (l:List Nat) (h:Dg B l) (i:Nat):vl B l % B ^ i=vl B (l.take i):=by
 by_cases hi:i≤l.length
 ·conv=>lhs;rw [←List.take_append_drop i l]
  rw [vl_append,List.length_take,Nat.min_eq_left hi,Nat.add_mul_mod_self_left,Nat.mod_eq_of_lt (vl_lt_of hB (h.take i) (by simp;omega))]
 ·rw [List.take_of_length_le (by omega),Nat.mod_eq_of_lt (vl_lt_of hB h (by omega))]
theorem sl_n (l:List Nat):(sl l).n=l.length:=rfl
theorem sl_get {l:List Nat} (h:Dg 256 l) (i:Nat):(sl l).get i=l.getD i 0:=by
 show Nat.mod (Nat.shiftRight (vl 256 l) (Nat.mul 8 i)) 256=_
 rw [shr8,p8_pow,vl_div 256 (by decide) l h i]
 by_cases hi:i<l.length
 ·rw [List.drop_eq_getElem_cons hi]
  simp only [vl]
  have e:l[i]=l.getD i 0:=by rw [List.getD_eq_getElem?_getD,List.getElem?_eq_getElem hi];rfl
  rw [e]
  have:l.getD i 0<256:=h.get (by decide) i
  show (l.getD i 0+256*vl 256 (l.drop (i+1))) % 256=_
  omega
 ·rw [List.drop_eq_nil_of_le (by omega),List.getD_eq_getElem?_getD,List.getElem?_eq_none (by omega)];rfl
theorem sl_cut {l:List Nat} (h:Dg 256 l) (k m:Nat) (hk:k≤m) (hm:m≤l.length):(sl l).cut k m=sl ((l.take m).drop k):=by
 unfold Str.cut sl
 congr 1
 ·simp;omega
 ·show Nat.mod (Nat.shiftRight (vl 256 l) (Nat.mul 8 k)) (AM.p8 (Nat.sub m k))=_
  rw [shr8,p8_pow,p8_pow,vl_div 256 (by decide) l h k]
  show vl 256 (l.drop k) % 256 ^ (m - k)=_
  rw [vl_mod 256 (by decide) _ (h.drop k),List.drop_take]
theorem vl_inj' (B:Nat):∀ (a b:List Nat),Dg B a→Dg B b→a.length=b.length→vl B a=vl B b→a=b:=by
 intro a
 induction a with
 | nil=>intro b _ _ hl _;exact (List.length_eq_zero_iff.1 hl.symm).symm
 | cons x a ih =>
  intro b da db hl hv
  cases b with
  | nil=>simp at hl
  | cons y b =>
   have hx:x<B:=da x (by simp)
   have hy:y<B:=db y (by simp)
   simp only [vl] at hv
   have e1:x=y:=by
    have h1:(x+B*vl B a) % B=(y+B*vl B b) % B:=by rw [hv]
    rwa [Nat.add_mul_mod_self_left,Nat.add_mul_mod_self_left,Nat.mod_eq_of_lt hx,Nat.mod_eq_of_lt hy] at h1
   subst e1
   have e2:vl B a=vl B b:=by
    have h1:B*vl B a=B*vl B b:=by omega
    exact Nat.eq_of_mul_eq_mul_left (by omega) h1
   rw [ih b (fun z hz=>da z (by simp [hz])) (fun z hz=>db z (by simp [hz])) (by simpa using hl) e2]
theorem sl_same {a b:List Nat} (ha:Dg 256 a) (hb:Dg 256 b):(sl a).same (sl b)=decide (a=b):=by
 rw [Bool.eq_iff_iff,decide_eq_true_iff]
 unfold Str.same sl
 rw [Bool.and_eq_true,Nat.beq_eq,Nat.beq_eq]
 show _∧vl 256 a % AM.p8 a.length=vl 256 b % AM.p8 b.length↔_
 rw [p8_pow,p8_pow,Nat.mod_eq_of_lt (vl_lt (by decide) ha),Nat.mod_eq_of_lt (vl_lt (by decide) hb)]
 constructor
 ·intro ⟨h1,h2⟩;exact vl_inj' 256 a b ha hb h1 h2
 ·intro h;subst h;exact ⟨rfl,rfl⟩
theorem pk_vl (l:List UInt8):pk l=vl 256 (l.map UInt8.toNat):=by
 induction l with
 | nil=>rfl
 | cons b l ih=>simp only [pk,List.map_cons,vl,ih]
theorem ofL_sl (l:List UInt8):Str.ofL l=sl (l.map UInt8.toNat):=by
 unfold Str.ofL sl
 rw [pk_vl,List.length_map]
theorem rune_ascii {l:List Nat} (h:Dg 256 l) (i:Nat) (ha:l.getD i 0<128):(sl l).rune i=(l.getD i 0,1):=by
 unfold Str.rune
 rw [sl_get h i,show Nat.blt (l.getD i 0) 128=true from by rw [Nat.blt_eq];exact ha]
 rfl
theorem rune_big {l:List Nat} (h:Dg 256 l) (i:Nat) (hi:i<l.length) (ha:¬l.getD i 0<128):128≤((sl l).rune i).1∧((sl l).rune i).1<2147483648:=by
 have hs:=Str.rune_spec (sl l) (i:=i) hi
 rw [hs]
 obtain ⟨b,h1,h2⟩:=(sl l).get_spec hi
 rw [sl_get h i] at h2
 have h3:((sl l).bytes.get! (i+0)).toNat=l.getD i 0:=by
  have:(sl l).bytes.data[i]? = some b:=by rw [←Array.getElem?_toList];exact h1
  have h4:(sl l).bytes.get! (i+0)=b:=by
   show (sl l).bytes.data[i+0]! = b
   rw [Nat.add_zero,getElem!_def,this]
  rw [h4];exact h2.symm
 unfold Utf8.decode
 simp only [h3]
 rw [if_neg ha]
 have b1:∀ k,((sl l).bytes.get! (i+k)).toNat<256:=fun k=>((sl l).bytes.get! (i+k)).toNat_lt
 have c1:=b1 1;have c2:=b1 2;have c3:=b1 3
 have e:Utf8.runeError=65533:=rfl
 have hl:l.getD i 0<256:=h.get (by decide) i
 split
 ·split
  ·rename_i hc;exact ⟨hc,by show _<2147483648;omega⟩
  ·rw [e];exact ⟨by decide,by decide⟩
 ·split
  ·split
   ·rename_i hc
    simp only [Bool.and_eq_true,decide_eq_true_eq] at hc
    exact ⟨by have:=hc.1;show 128≤_;omega,by show _<2147483648;omega⟩
   ·rw [e];exact ⟨by decide,by decide⟩
  ·split
   ·split
    ·rename_i hc
     simp only [Bool.and_eq_true,decide_eq_true_eq] at hc
     exact ⟨by have:=hc.1;show 128≤_;omega,by show _<2147483648;omega⟩
    ·rw [e];exact ⟨by decide,by decide⟩
   ·rw [e];exact ⟨by decide,by decide⟩
section
variable {P:Program} {C:Cfg} {call:CallF} {gl:Nat→Bool} {o:Oper} {tm:Tm} {loc:Lo} {hp:Hp} {j:V→Lo→Hp→R}
theorem gen_range {d x:Nat} {t:TypeId} {s:Str} (hd:o.dst=some d) (ho:o.op=.range t (.tmp x)) (hu:P.underlying t=some .string) (hg:gl d=false) :
  gen P C call gl o (pt .lf x (.str s)) tm loc hp j=j (.ptr (.loc d ((lg loc d).1+1)) 0) (lp loc d ((lg loc d).1+1,.iter s 0)) hp:=by
 refine gen_val (v:=.ptr (.loc d ((lg loc d).1+1)) 0) (st:=⟨pt .lf x (.str s),lp loc d ((lg loc d).1+1,.iter s 0),hp⟩) hd ?_
 have hx:gt (pt .lf x (.str s)) x=.str s:=by rw [gt_pt,if_pos rfl]
 have hp1:locV P C gl (⟨pt .lf x (.str s),loc,hp⟩:St).ρ (⟨pt .lf x (.str s),loc,hp⟩:St).lc o=some (.ptr (.loc d ((lg loc d).1+1)) 0,some (d,(lg loc d).1+1,.iter s 0)):=by
  unfold locV
  simp only [ho,hu,opd_gt,hx,hd,hg,cond_false,lc_lg]
 unfold stepV
 rw [hp1]
 simp only [applyL,aset_lp]
theorem gen_next {d x s g pos:Nat} {u:Str} (hd:o.dst=some d) (ho:o.op=.next (.tmp x) true) (hr:lg loc s=(g,.iter u pos)) (hlt:pos<u.n) :
  gen P C call gl o (pt .lf x (.ptr (.loc s g) 0)) tm loc hp j=j (.tuple [.bool true,.int .i64 (.ofNat pos),.int .i32 (.ofNat (u.rune pos).1)]) (lp loc s (g,.iter u (pos+(u.rune pos).2))) hp:=by
 have hx:gt (pt .lf x (.ptr (.loc s g) 0)) x=.ptr (.loc s g) 0:=by rw [gt_pt,if_pos rfl]
 refine gen_val (v:=.tuple [.bool true,.int .i64 (.ofNat pos),.int .i32 (.ofNat (u.rune pos).1)]) (st:=⟨pt .lf x (.ptr (.loc s g) 0),lp loc s (g,.iter u (pos+(u.rune pos).2)),hp⟩) hd ?_
 have hp1:locV P C gl (⟨pt .lf x (.ptr (.loc s g) 0),loc,hp⟩:St).ρ (⟨pt .lf x (.ptr (.loc s g) 0),loc,hp⟩:St).lc o=none:=by
  unfold locV
  simp only [ho,pureV,Option.map_none]
 unfold stepV
 rw [hp1]
 unfold stepG
 have hrow:getRow ⟨pt .lf x (.ptr (.loc s g) 0),loc,hp⟩ (.loc s g)=some (.iter u pos):=getRow_loc hr
 simp only [ho,opd_gt,hx,hrow]
 rw [show Nat.blt pos u.n=true from by rw [Nat.blt_eq];exact hlt]
 simp only [cond_true,setRow_loc]
 rfl
theorem gen_next_end {d x s g pos:Nat} {u:Str} (hd:o.dst=some d) (ho:o.op=.next (.tmp x) true) (hr:lg loc s=(g,.iter u pos)) (hlt:¬pos<u.n) :
  gen P C call gl o (pt .lf x (.ptr (.loc s g) 0)) tm loc hp j=j (.tuple [.bool false]) loc hp:=by
 have hx:gt (pt .lf x (.ptr (.loc s g) 0)) x=.ptr (.loc s g) 0:=by rw [gt_pt,if_pos rfl]
 refine gen_val (v:=.tuple [.bool false]) (st:=⟨pt .lf x (.ptr (.loc s g) 0),loc,hp⟩) hd ?_
 have hp1:locV P C gl (⟨pt .lf x (.ptr (.loc s g) 0),loc,hp⟩:St).ρ (⟨pt .lf x (.ptr (.loc s g) 0),loc,hp⟩:St).lc o=none:=by
  unfold locV
  simp only [ho,pureV,Option.map_none]
 unfold stepV
 rw [hp1]
 unfold stepG
 have hrow:getRow ⟨pt .lf x (.ptr (.loc s g) 0),loc,hp⟩ (.loc s g)=some (.iter u pos):=getRow_loc hr
 simp only [ho,opd_gt,hx,hrow]
 rw [show Nat.blt pos u.n=false from by
  cases h:Nat.blt pos u.n with
  | false=>rfl
  | true=>exact absurd (by rwa [Nat.blt_eq] at h) hlt]
 rfl
theorem bytesOf_nl (l:List Nat):bytesOf (nl .u8 l)=some (l.map UInt8.ofNat):=by
 unfold nl
 induction l with
 | nil=>rfl
 | cons x l ih=>simp only [List.map_cons,bytesOf,ih,Option.map_some];rfl
theorem ofL_bytes {l:List Nat} (h:Dg 256 l):Str.ofL (l.map UInt8.ofNat)=sl l:=by
 rw [ofL_sl]
 congr 1
 rw [List.map_map]
 conv=>rhs;rw [←List.map_id l]
 refine List.map_congr_left (fun x hx=>?_)
 have:x<256:=h x hx
 show (UInt8.ofNat x).toNat=x
 rw [UInt8.toNat_ofNat']
 exact Nat.mod_eq_of_lt this
theorem gen_text {d x:Nat} {s t e:TypeId} {w:V} {l:List Nat} (hd:o.dst=some d) (ho:o.op=.convert s t (.tmp x)) (h1:P.underlying s=some (.slice e)) (h2:P.underlying t=some .string) (h3:P.underlying e=some (.int .u8)) (hw:∀ q,w≠.str q)
  (hi:∀ tm,itemsOf ⟨tm,loc,hp⟩ w=some (nl .u8 l)) (hl:Dg 256 l) :
  gen P C call gl o (pt .lf x w) tm loc hp j=j (.str (sl l)) loc hp:=by
 have hx:gt (pt .lf x w) x=w:=by rw [gt_pt,if_pos rfl]
 refine gen_val (v:=.str (sl l)) (st:=⟨pt .lf x w,loc,hp⟩) hd ?_
 have hp1:locV P C gl (⟨pt .lf x w,loc,hp⟩:St).ρ (⟨pt .lf x w,loc,hp⟩:St).lc o=none:=by
  unfold locV
  simp only [ho,pureV,opd_gt,hx,convV,h1,h2]
  rfl
 unfold stepV
 rw [hp1]
 unfold stepG
 simp only [ho,hd,convS,h1,h2,h3,opd_gt,hx,hi]
 cases w with
 | str q=>exact absurd rfl (hw q)
 | _=>simp only [bytesOf_nl,Option.map_some,ofL_bytes hl]
end
theorem idx_sl {l:List Nat} (h:Dg 256 l) (k:IntKind) (i:Nat) (hi:i<l.length):idx Pg 9 (.str (sl l)) (.int k (.ofNat i))=some (.int .u8 (.ofNat (l.getD i 0))):=by
 have hu:G.isStr (Pg.underlying 9)=true:=by rw [U9];rfl
 show (bif G.isStr (Pg.underlying 9) then (bif Nat.blt i l.length then some (V.int .u8 (.ofNat ((sl l).get i))) else none) else none)=_
 rw [hu,show Nat.blt i l.length=true from by rw [Nat.blt_eq];exact hi,sl_get h i]
 rfl
theorem slc_str' {P:Program} {t:TypeId} (hu:P.underlying t=some .string) {l:List Nat} (h:Dg 256 l) (k:IntKind) (i:Nat) (hi:i≤l.length):slc P t (.str (sl l)) (some (.int k (.ofNat i))) none none=some (.str (sl (l.drop i))):=by
 have e0:slc P t (.str (sl l)) (some (.int k (.ofNat i))) none none=F.sliceV P t (.str (sl l)) (some (.ofNat i)) none none:=rfl
 rw [e0]
 unfold F.sliceV
 simp only [hu]
 unfold F.sliceStr
 simp only [Option.getD_none,Option.getD_some,F.toNatLe,sl_n]
 have e1:Nat.ble l.length l.length=true:=by rw [Nat.ble_eq];exact Nat.le_refl _
 have e2:Nat.ble i l.length=true:=by rw [Nat.ble_eq];exact hi
 show (match (bif Nat.ble l.length l.length then some l.length else none) with
  | none=>none
  | some h=>match (bif Nat.ble i h then some i else none) with
   | none=>none
   | some k=>some (V.str ((sl l).cut k h)))=_
 rw [e1]
 simp only [cond_true,e2]
 rw [sl_cut h i l.length hi (Nat.le_refl _),List.take_length]
theorem slc_str {l:List Nat} (h:Dg 256 l) (k:IntKind) (i:Nat) (hi:i≤l.length):slc Pg 9 (.str (sl l)) (some (.int k (.ofNat i))) none none=some (.str (sl (l.drop i))):=slc_str' U9 h k i hi
theorem eq_str (t:TypeId) (cn:Bool) {a b:List Nat} (ha:Dg 256 a) (hb:Dg 256 b):bin Pg .eql t cn (.str (sl a)) (.str (sl b))=some (.bool (decide (a=b))):=by
 show some (V.bool ((sl a).same (sl b)))=_
 rw [sl_same ha hb]
theorem eq_nil (t:TypeId) (cn:Bool) {a:List Nat} (ha:Dg 256 a):bin Pg .eql t cn (.str (sl a)) (.str ⟨0,0⟩)=some (.bool (decide (a=[]))):=eq_str t cn ha (b:=[]) (Dg.nil 256)
attribute [go_sem] sl_n
end Go.AM.S
end
section
namespace Go.AM.S
open Go Go.AM Go.Proofs NumL
open _root_.Go.AM.G (R)
set_option maxRecDepth 100000
theorem tbl15:tbl 15=some ⟨rc15,[.cell 2 26,.tmp 3]⟩:=by kernel_rfl
theorem clean_dg {h s:Hp} (hd:DG h.rows.length s):cleanB h s=true:=by
 unfold cleanB
 cases hq:s.dirty with
 | none=>rfl
 | some d=>have:=hd d hq;simp only [Nat.ble_eq];exact this
theorem fin_cell_tmp {h:Hp} {a t b d g:Nat} {f:Bool} {s:St} {x y w:V} (hl:layE Pg t=some (2,true)) (hv:gt s.tm a=.ptr (.loc d g) 0) (hr:lg s.loc d=(g,.cells f [x,y])) (hx:Pl x) (hy:Pl y) (hb:gt s.tm b=w) (hw:Pl w) (hc:DG h.rows.length s.hp) :
  fin Pg h [.cell a t,.tmp b] s=some (.val (.tuple [.agg [x,y],w]) h):=by
 unfold fin
 have e1:resV Pg s [.cell a t,.tmp b]=some [.agg [x,y],w]:=by
  simp only [resV,rho_gt,hv,hb,getRow_loc hr,partV,hl,Option.map_some]
  rfl
 rw [e1]
 have e2:=exps_ex [.agg [x,y],w] s ⟨exp_agg (cs:=[x,y]) (by intro v hv;simp at hv;rcases hv with rfl | rfl<;>assumption),hw.ex,trivial⟩
 simp only [e2]
 unfold backHp
 rw [clean_dg hc]
 simp only [V.noRefsL,V.noRefs,hx.refs,hy.refs,hw.refs,Bool.and_self,cond_true]
def dv (l:List Nat):Nat:=l.foldl (fun n b=>10*n+(b - 48)) 0
theorem dv_snoc (l:List Nat) (b:Nat):dv (l++[b])=10*dv l+(b - 48):=by simp [dv]
def ng (l:List Nat):Bool:=decide (l.getD 0 0=45)
def bodyN (l:List Nat):List Nat:=bif ng l then l.drop 1 else l
def badB (l:List Nat):Bool:=(bodyN l).isEmpty || (decide ((bodyN l).getD 0 0=48)&&(decide (1<(bodyN l).length) || ng l))
def Dec (l:List Nat):Prop:=∀ b ∈ l,48≤b∧b≤57
instance (l:List Nat):Decidable (Dec l):=by unfold Dec;infer_instance
def goodB (l:List Nat):Bool:=!badB l&&decide (Dec (bodyN l))
def zOf (l:List Nat):Int:=bif goodB l then (bif ng l then -(dv (bodyN l):Int) else (dv (bodyN l):Int)) else 0
theorem ng_len {l:List Nat} (h:ng l=true):1≤l.length:=by
 cases l with
 | nil=>simp [ng] at h
 | cons x l=>simp
theorem bodyN_dg {l:List Nat} (h:Dg 256 l):Dg 256 (bodyN l):=by
 unfold bodyN
 cases ng l with
 | true=>exact h.drop 1
 | false=>exact h
theorem bodyN_len (l:List Nat):(bodyN l).length≤l.length:=by
 unfold bodyN
 cases ng l<;>simp
theorem take_snoc (r:List Nat) (i:Nat) (h:i<r.length):r.take (i+1)=r.take i++[r.getD i 0]:=by
 rw [List.take_add_one,List.getD_eq_getElem?_getD,List.getElem?_eq_getElem h];simp
theorem Dec.snoc {l:List Nat} (h:Dec l) {b:Nat} (h1:48≤b) (h2:b≤57):Dec (l++[b]):=by
 intro x hx
 rcases List.mem_append.1 hx with hx | hx
 ·exact h x hx
 ·rw [List.mem_singleton.1 hx];exact ⟨h1,h2⟩
theorem rg15 (l:Lo) (h:Hp) (c:CallF) (t:Tm) (j:V→Lo→Hp→R) (s:Str):go1 Try.f15 15 9 1 40 (.str s) c t l h j=j (.ptr (.loc 41 ((lg l 41).1+1)) 0) (lp l 41 ((lg l 41).1+1,.iter s 0)) h :=
 gen_range (C:=Cg) (gl:=Cg.glob 15) (call:=c) (tm:=t) (loc:=l) (hp:=h) (j:=j) (x:=40) (s:=s) (o:=opA Try.f15 9 1) (d:=41) (t:=9) (by kernel_rfl) (by kernel_rfl) U9 (by kernel_rfl)
theorem nx15 {l:Lo} {g pos:Nat} {u:Str} (hr:lg l 41=(g,.iter u pos)) (hlt:pos<u.n) (h:Hp) (c:CallF) (t:Tm) (j:V→Lo→Hp→R):go1 Try.f15 15 10 0 41 (.ptr (.loc 41 g) 0) c t l h j=j (.tuple [.bool true,.int .i64 (.ofNat pos),.int .i32 (.ofNat (u.rune pos).1)]) (lp l 41 (g,.iter u (pos+(u.rune pos).2))) h :=
 gen_next (C:=Cg) (gl:=Cg.glob 15) (call:=c) (tm:=t) (loc:=l) (hp:=h) (j:=j) (x:=41) (o:=opA Try.f15 10 0) (d:=42) (by kernel_rfl) (by kernel_rfl) hr hlt
theorem nz15 {l:Lo} {g pos:Nat} {u:Str} (hr:lg l 41=(g,.iter u pos)) (hlt:¬pos<u.n) (h:Hp) (c:CallF) (t:Tm) (j:V→Lo→Hp→R):go1 Try.f15 15 10 0 41 (.ptr (.loc 41 g) 0) c t l h j=j (.tuple [.bool false]) l h :=
 gen_next_end (C:=Cg) (gl:=Cg.glob 15) (call:=c) (tm:=t) (loc:=l) (hp:=h) (j:=j) (x:=41) (o:=opA Try.f15 10 0) (d:=42) (by kernel_rfl) (by kernel_rfl) hr hlt
theorem Gr.ex {h:Hp} {v:V} {k:IntKind} {l:List Nat} (hv:Gr h v k l):Ex1 v:=by
 rcases hv with ⟨_,rfl⟩ | ⟨_,r,rfl,_⟩
 ·exact Pl.nils.ex
 ·exact Ex1.glob _ _ _ _ _ _
structure IP (l:List Nat) (h:Hp) (s:St) (i c n:Nat) (lv:V) (D:List Nat):Prop where
 h2:gt s.tm 2=.ptr (.loc 2 1) 0
 h4:gt s.tm 4=.bool (ng l)
 h5:gt s.tm 5=.str (sl (bodyN l))
 h6:gt s.tm 6=lv
 h7:gt s.tm 7=.int .u64 (.ofNat n)
 h8:gt s.tm 8=.int .i64 (.ofNat c)
 h41:gt s.tm 41=.ptr (.loc 41 1) 0
 l2:lg s.loc 2=(1,.cells false [.nils,.bool false])
 l41:lg s.loc 41=(1,.iter (sl (bodyN l)) i)
 hi:i≤(bodyN l).length
 gr:Gr s.hp lv .u32 D
 dg:Dg B D
 len:D.length≤i+1
 c9:c<9
 nc:n<10 ^ c
 v:vl B D*10 ^ c+n=dv ((bodyN l).take i)
 dec:Dec ((bodyN l).take i)
 last:i=(bodyN l).length→c=0
 hdg:DG h.rows.length s.hp
 hrl:h.rows.length≤s.hp.rows.length
 lvn:∀ r,lv=.arr (.glob r) 0 D.length none 1 false→h.rows.length≤r
theorem parse_spec {l:List Nat} (hd:Dg 256 l) (hl:l.length≤1000):Gives 15 [.str (sl l)] fun r=>∃ v,r=.tuple [v,.bool (goodB l)]∧IsI 1002 v (zOf l):=by
 have rd:=bodyN_dg hd
 have rl:=bodyN_len l
 refine gives_of tbl15 fun h Q hQ=>?_
 have bad:∀ st:St,goodB l=false→gt st.tm 2=.ptr (.loc 2 1) 0→lg st.loc 2=(1,.cells false [.nils,.bool false])→gt st.tm 3=.bool false→DG h.rows.length st.hp→Q st:=by
  intro st hg h2 l2 h3 hdg
  refine hQ st _ (fin_cell_tmp (x:=.nils) (y:=.bool false) (w:=.bool false) (f:=false) (d:=2) (g:=1) (by kernel_rfl) h2 l2 Pl.nils (Pl.bool _) h3 (Pl.bool _) hdg) ⟨_,by rw [hg],?_⟩
  have e:zOf l=0:=by unfold zOf;rw [hg];rfl
  rw [e]
  exact zeroI.mono (by omega)
 unfold rc15
 refine sRG ?_
 refine ww_join (M:=fun s=>gt s.tm 4=.bool (ng l)∧Kp [0,2,3] (pt (pt (startTm [.str (sl l)]) 2 (.ptr (.loc 2 1) 0)) 3 (.bool false)) s.tm∧s.loc=lp .lf 2 (1,.cells false [.nils,.bool false])∧s.hp=⟨h.rows,none,h.mods⟩) ?_ (fun s ⟨a4,ak,al,ah⟩=>?_)
 ·rcases Nat.eq_zero_or_pos l.length with h0 | h0
  ·have e:l=[]:=List.length_eq_zero_iff.1 h0
   refine ww_reg (fun n k=>by simp -implicitDefEqProofs (disch:=omega) only [go_sem,reduceIte,Nat.reduceEqDiff,gt_start,List.getD_cons_zero,List.getD_cons_succ,d_false];rfl) ?_
   exact ⟨by rw [e,show ng []=false from rfl];exact sS,(by (try dsimp only);repeat (first | with_reducible exact Kp_refl _ _ | with_reducible refine Kp_pt (by decide) ?_)),rfl,rfl⟩
  ·refine ww_reg (fun n k=>by simp -implicitDefEqProofs (disch:=omega) only [go_sem,reduceIte,Nat.reduceEqDiff,gt_start,List.getD_cons_zero,List.getD_cons_succ,d_true,idx_sl hd];rfl) ?_
   exact ⟨(by simp -implicitDefEqProofs (disch:=omega) only [go_sem,reduceIte,Nat.reduceEqDiff,ng]),(by (try dsimp only);repeat (first | with_reducible exact Kp_refl _ _ | with_reducible refine Kp_pt (by decide) ?_)),rfl,rfl⟩
 have a0:gt s.tm 0=.str (sl l):=(ak 0 (by decide)).trans sSG
 have a2:gt s.tm 2=.ptr (.loc 2 1) 0:=(ak 2 (by decide)).trans sS
 have al2:lg s.loc 2=(1,.cells false [.nils,.bool false]):=by rw [al];exact sS
 refine sR1 a0 ?_
 refine ww_join (M:=fun s2=>gt s2.tm 5=.str (sl (bodyN l))∧Kp [2,3,4] s.tm s2.tm∧s2.loc=s.loc∧s2.hp=s.hp) ?_ (fun s2 ⟨b5,bk,bl,bh⟩=>?_)
 ·refine sR1 a4 ?_
  cases hng:ng l with
  | true =>
   have hlen:=ng_len hng
   have eb:bodyN l=l.drop 1:=by unfold bodyN;rw [hng];rfl
   refine ww_true (sS2 a4 hng) ?_
   refine ww_reg (fun n k=>by simp -implicitDefEqProofs (disch:=omega) only [go_sem,reduceIte,Nat.reduceEqDiff,a0,slc_str hd];rfl) ?_
   exact ⟨by rw [eb];exact sS,(by (try dsimp only);repeat (first | with_reducible exact Kp_refl _ _ | with_reducible refine Kp_pt (by decide) ?_)),rfl,rfl⟩
  | false =>
   have eb:bodyN l=l:=by unfold bodyN;rw [hng];rfl
   refine ww_false (sS2 a4 hng) (ww_skip ?_)
   exact ⟨by rw [eb];exact sS,(by (try dsimp only);repeat (first | with_reducible exact Kp_refl _ _ | with_reducible refine Kp_pt (by decide) ?_)),rfl,rfl⟩
 have b4:=(bk 4 (by decide)).trans a4;have b2:=(bk 2 (by decide)).trans a2
 have bl2:lg s2.loc 2=(1,.cells false [.nils,.bool false]):=by rw [bl];exact al2
 have bhd:DG h.rows.length s2.hp:=by rw [bh,ah];exact fun x hx=>by cases hx
 have b3:gt s2.tm 3=.bool false:=(bk 3 (by decide)).trans ((ak 3 (by decide)).trans sS)
 refine ww_joinX (fun s3=>badB l=false∧Kp [2,3,4,5] s2.tm s3.tm∧s3.loc=s2.loc∧s3.hp=s2.hp) ?_ (fun s3 ⟨hbad,ck,cl',ch⟩=>?_)
 ·have quit:∀ tm,Kp [2,3] s2.tm tm→badB l=true→WW Pg kn0 tbl (.seq (.reg fun c t l h k=>gn Try.f15 15 6 0 c t t l h (fun v0 l0 h0=>jn (fun v1 l1 h1=>k (p3 t (.bool false)) l1 h1) fun j1=>sto 26 (g2 t) v0 l0 h0 j1 (gn Try.f15 15 6 1 c (p39 (p2 t (g2 t)) v0) t l0 h0 j1))) .ret) ⟨tm,s2.loc,s2.hp⟩ (fun s3=>badB l=false∧Kp [2,3,4,5] s2.tm s3.tm∧s3.loc=s2.loc∧s3.hp=s2.hp) (fun _ _=>False) Q:=by
   intro tm hk hb
   have q2:=(hk 2 (by decide)).trans b2
   refine ww_seq (ww_reg (fun n k=>by simp -implicitDefEqProofs (disch:=omega) only [go_sem,reduceIte,Nat.reduceEqDiff,q2,bl2,stc_two N26 1 .nils (.bool false) .nils (.bool false) _ rfl rfl];rfl) ?_)
   exact ww_ret (bad _ (by unfold goodB;rw [hb];rfl) (sS1 q2) sS sS bhd)
  by_cases hr:bodyN l=[]
  ·have hb:badB l=true:=by unfold badB;rw [hr];rfl
   refine ww_seq (ww_reg (fun n k=>by simp -implicitDefEqProofs (disch:=omega) only [go_sem,reduceIte,Nat.reduceEqDiff,b5,eq_nil 9 true rd,hr];rfl) ?_)
   refine ww_true sS ?_
   exact quit _ (by (try dsimp only);repeat (first | with_reducible exact Kp_refl _ _ | with_reducible refine Kp_pt (by decide) ?_)) hb
  ·have hdec:decide (bodyN l=[])=false:=decide_eq_false hr
   have hlen:0<(bodyN l).length:=List.length_pos_iff.2 hr
   have hemp:(bodyN l).isEmpty=false:=by cases h:bodyN l with | nil=>exact absurd h hr | cons x t=>rfl
   by_cases h48:(bodyN l).getD 0 0=48
   ·by_cases h1:1<(bodyN l).length
    ·have hb:badB l=true:=by unfold badB;rw [hemp,decide_eq_true h48,decide_eq_true h1];rfl
     refine ww_seq (ww_reg (fun n k=>by simp -implicitDefEqProofs (disch:=omega) only [go_sem,reduceIte,Nat.reduceEqDiff,b4,b5,eq_nil 9 true rd,hdec,Bool.not_false,idx_sl rd,h48,d_true];rfl) ?_)
     refine ww_true sS ?_
     exact quit _ (by (try dsimp only);repeat (first | with_reducible exact Kp_refl _ _ | with_reducible refine Kp_pt (by decide) ?_)) hb
    ·cases hng:ng l with
     | true =>
      have hb:badB l=true:=by unfold badB;rw [hemp,decide_eq_true h48,hng];simp
      refine ww_seq (ww_reg (fun n k=>by simp -implicitDefEqProofs (disch:=omega) only [go_sem,reduceIte,Nat.reduceEqDiff,b4,b5,eq_nil 9 true rd,hdec,Bool.not_false,idx_sl rd,h48,d_false,hng];rfl) ?_)
      refine ww_true sS ?_
      exact quit _ (by (try dsimp only);repeat (first | with_reducible exact Kp_refl _ _ | with_reducible refine Kp_pt (by decide) ?_)) hb
     | false =>
      have hb:badB l=false:=by unfold badB;rw [hemp,decide_eq_true h48,hng,decide_eq_false h1];rfl
      refine ww_seq (ww_reg (fun n k=>by simp -implicitDefEqProofs (disch:=omega) only [go_sem,reduceIte,Nat.reduceEqDiff,b4,b5,eq_nil 9 true rd,hdec,Bool.not_false,idx_sl rd,h48,d_false,hng];rfl) ?_)
      refine ww_false sS (ww_skip ?_)
      exact ⟨hb,(by (try dsimp only);repeat (first | with_reducible exact Kp_refl _ _ | with_reducible refine Kp_pt (by decide) ?_)),rfl,rfl⟩
   ·have hb:badB l=false:=by unfold badB;rw [hemp,decide_eq_false h48];rfl
    have hd48:decide ((bodyN l).getD 0 0=48)=false:=decide_eq_false h48
    refine ww_seq (ww_reg (fun n k=>by simp -implicitDefEqProofs (disch:=omega) only [go_sem,reduceIte,Nat.reduceEqDiff,b4,b5,eq_nil 9 true rd,hdec,Bool.not_false,Bool.not_true,idx_sl rd,hd48];rfl) ?_)
    refine ww_false sS (ww_skip ?_)
    exact ⟨hb,(by (try dsimp only);repeat (first | with_reducible exact Kp_refl _ _ | with_reducible refine Kp_pt (by decide) ?_)),rfl,rfl⟩
 ·have c2:=(ck 2 (by decide)).trans b2;have c3:=(ck 3 (by decide)).trans b3;have c4:=(ck 4 (by decide)).trans b4;have c5:=(ck 5 (by decide)).trans b5
  have cl2:lg s3.loc 2=(1,.cells false [.nils,.bool false]):=by rw [cl'];exact bl2
  have cl41:lg s3.loc 41=(0,.gone):=by rw [cl',bl,al];exact sS
  have chd:DG h.rows.length s3.hp:=by rw [ch];exact bhd
  have hrl0:s3.hp.rows.length=h.rows.length:=by rw [ch,bh,ah]
  have hpos:0<(bodyN l).length:=by
   rcases Nat.eq_zero_or_pos (bodyN l).length with h0 | h0
   ·have e:=List.length_eq_zero_iff.1 h0
    unfold badB at hbad;rw [e] at hbad;simp at hbad
   ·exact h0
  refine sR ?_
  refine sR ?_
  refine sQ3 c5 cl41 rg15 ?_
  refine ww_for (fun m s=>∃ i c n lv D,m+i=(bodyN l).length∧IP l h s i c n lv D∧gt s.tm 3=.bool false) (bodyN l).length ⟨0,0,0,.nils,[],rfl,⟨(sS1 c2),(sS1 c4),(sS1 c5),sS,sS,sS,sS,(sS1 cl2),sS,Nat.zero_le _,.inl ⟨rfl,rfl⟩,Dg.nil B,by simp,by decide,by decide,rfl,fun x hx=>by simp at hx,fun e=>rfl,chd,Nat.le_of_eq hrl0.symm,fun r e=>by cases e⟩,(sS1 c3)⟩ ?_
  intro m s ⟨i,c,n,lv,D,hm,H,h3⟩
  obtain ⟨h2,h4,h5,h6,h7,h8,h41,l2,l41,hi,gr,dg,hDl,c9,nc,hv,dec,last,hdg,hrl,lvn⟩:=H
  by_cases hlt:i<(bodyN l).length
  ·generalize hrn:((sl (bodyN l)).rune i)=rw1 at *
   have nx:=nx15 l41 hlt
   rw [hrn] at nx
   refine ww_seq (ww_reg (fun n k=>by simp -implicitDefEqProofs (disch:=omega) only [go_sem,reduceIte,Nat.reduceEqDiff,h41,nx];rfl) ?_)
   refine ww_seq (ww_true sS (ww_skip ?_))
   refine ww_block ?_
   refine sR ?_
   have hb:(bodyN l).getD i 0<256:=rd.get (by decide) i
   by_cases hdig:48≤(bodyN l).getD i 0∧(bodyN l).getD i 0≤57
   ·have era:rw1=((bodyN l).getD i 0,1):=by rw [←hrn];exact rune_ascii rd i (by omega)
    subst era
    have hn8:n<100000000:=Nat.lt_of_lt_of_le nc (Nat.pow_le_pow_right (by decide) (show c≤8 by omega))
    refine ww_seq (ww_seq (ww_reg (fun n k=>by simp -implicitDefEqProofs (disch:=omega) only [go_sem,reduceIte,Nat.reduceEqDiff,d_false,Bool.not_false];rfl) ?_))
    refine ww_false sS (ww_skip ?_)
    refine sR1 h7 ?_
    refine sR1 h8 ?_
    have hdv:dv ((bodyN l).take (i+1))=10*dv ((bodyN l).take i)+((bodyN l).getD i 0 - 48):=by rw [take_snoc _ _ hlt,dv_snoc]
    have hdec:Dec ((bodyN l).take (i+1)):=by rw [take_snoc _ _ hlt];exact dec.snoc hdig.1 hdig.2
    have hnc:10*n+((bodyN l).getD i 0 - 48)<10 ^ (c+1):=by rw [Nat.pow_succ];omega
    have hvv:vl B D*10 ^ (c+1)+(10*n+((bodyN l).getD i 0 - 48))=dv ((bodyN l).take (i+1)):=by
     rw [hdv,←hv,Nat.pow_succ,←Nat.mul_assoc];omega
    refine ww_joinX (fun s4=>gt s4.tm 69=.bool (decide (c+1=9∨i+1=(bodyN l).length))∧gt s4.tm 7=.int .u64 (.ofNat (10*n+((bodyN l).getD i 0 - 48)))∧gt s4.tm 8=.int .i64 (.ofNat (c+1))∧Kp [2,3,4,5,6,41] s.tm s4.tm∧s4.loc=lp s.loc 41 (1,.iter (sl (bodyN l)) (i+1))∧s4.hp=s.hp) ?_ (fun s4 ⟨e69,e7,e8,ek,el,eh⟩=>?_)
    ·by_cases h9:c+1=9
     ·refine ww_reg (fun n k=>by simp -implicitDefEqProofs (disch:=omega) only [go_sem,reduceIte,Nat.reduceEqDiff,h8,d_true,Bool.not_true];rfl) ?_
      exact ⟨(by simp -implicitDefEqProofs (disch:=omega) only [go_sem,reduceIte,Nat.reduceEqDiff,d_true]),sS,sS,(by (try dsimp only);repeat (first | with_reducible exact Kp_refl _ _ | with_reducible refine Kp_pt (by decide) ?_)),rfl,rfl⟩
     ·have hd9:decide (c=8)=false:=decide_eq_false (by omega)
      refine ww_reg (fun n k=>by simp -implicitDefEqProofs (disch:=omega) only [go_sem,reduceIte,Nat.reduceEqDiff,h5,h8,hd9,Bool.not_false];rfl) ?_
      refine ⟨?_,sS,sS,(by (try dsimp only);repeat (first | with_reducible exact Kp_refl _ _ | with_reducible refine Kp_pt (by decide) ?_)),rfl,rfl⟩
      have e:decide (c+1=9∨i+1=(bodyN l).length)=decide (i=(bodyN l).length - 1):=by
       congr 1;apply propext;omega
      rw [e]
      exact sS
    ·have k2:=(ek 2 (by decide)).trans h2;have k3:=(ek 3 (by decide)).trans h3;have k4:=(ek 4 (by decide)).trans h4;have k5:=(ek 5 (by decide)).trans h5
     have k6:=(ek 6 (by decide)).trans h6;have k41:=(ek 41 (by decide)).trans h41
     have m2:lg s4.loc 2=(1,.cells false [.nils,.bool false]):=by rw [el];exact (sS1 l2)
     have m41:lg s4.loc 41=(1,.iter (sl (bodyN l)) (i+1)):=by rw [el];exact sS
     refine ww_if e69 (fun hf=>?_) (fun hf=>ww_skip ?_)
     ·refine sR ?_
      refine ww_join (M:=fun s5=>gt s5.tm 11=.int .u64 (.ofNat (10 ^ (c+1)))∧Kp [2,3,4,5,6,7,8,41] s4.tm s5.tm∧s5.loc=s4.loc∧s5.hp=s4.hp) ?_ (fun s5 ⟨f11,fk,fl,fh⟩=>?_)
      ·refine sR1 e8 ?_
       refine ww_for (fun m5 s6=>∃ k,m5+k=c+1∧gt s6.tm 11=.int .u64 (.ofNat (10 ^ k))∧gt s6.tm 70=.int .i64 (.ofNat (c+1))∧gt s6.tm 71=.int .i64 (.ofNat k)∧Kp [2,3,4,5,6,7,8,41] s4.tm s6.tm∧s6.loc=s4.loc∧s6.hp=s4.hp) (c+1) ⟨0,rfl,(by simp -implicitDefEqProofs (disch:=omega) only [go_sem,reduceIte,Nat.reduceEqDiff,Nat.pow_zero]),sS,sS,(by (try dsimp only);repeat (first | with_reducible exact Kp_refl _ _ | with_reducible refine Kp_pt (by decide) ?_)),rfl,rfl⟩ ?_
       intro m5 s6 ⟨k,hk,g11,g70,g71,gk,gl,gh⟩
       refine sR2 g70 g71 ?_
       refine ww_seq (ww_if (by simp only [gt_pt,reduceIte];rfl) (fun hkc=>ww_skip ?_) (fun hkc=>ww_exit ?_))
       ·have h10:10 ^ k≤100000000:=Nat.pow_le_pow_right (n:=10) (by decide) (show k≤8 by omega)
        refine ww_seq (ww_block ?_)
        refine sE1 g11 ?_
        refine sE1 g71 ?_
        refine ⟨m5 - 1,by omega,k+1,by omega,?_,(sS1 g70),sS,?_,gl,gh⟩
        ·exact (by simp -implicitDefEqProofs (disch:=omega) only [go_sem,reduceIte,Nat.reduceEqDiff,Nat.pow_succ])
        ·intro j hj
         have:=gk j hj
         rw [gt_pt,if_neg (by intro e;subst e;simp at hj),gt_pt,if_neg (by intro e;subst e;simp at hj),gt_pt,if_neg (by intro e;subst e;simp at hj)]
         exact this
       ·rw [if_pos rfl]
        have ek':k=c+1:=by omega
        subst ek'
        refine ⟨(sS1 g11),?_,gl,gh⟩
        intro j hj
        rw [gt_pt,if_neg (by intro e;subst e;simp at hj)]
        exact gk j hj
      ·have hT:10 ^ (c+1)<4294967296:=Nat.lt_of_le_of_lt (Nat.pow_le_pow_right (n:=10) (by decide) (show c+1≤9 by omega)) (by decide)
       have p6:=(fk 6 (by decide)).trans k6;have p7:=(fk 7 (by decide)).trans e7
       have hp5:s5.hp=s.hp:=fh.trans eh
       obtain ⟨v',h',D',hrun,gr',dg',hv',hl',hH,hvn',hle'⟩:=grown_runs (n:=h.rows.length) (h:=s5.hp) (10 ^ (c+1)) (10*n+((bodyN l).getD i 0 - 48)) (by rw [hp5];exact gr) dg (by omega) hT (by omega) (by rw [hp5];exact hdg) lvn (by rw [hp5];exact hrl)
       refine ww_seq (ww_call (hrun) (fun n hn k=>by simp -implicitDefEqProofs (disch:=omega) only [go_sem,reduceIte,Nat.reduceEqDiff,p6,p7,f11,clc3 hn gr.ex (Ex1.int _ _) (Ex1.int _ _)];rfl) ?_)
       refine sE ?_
       have q:=fun j hj=>fk j hj
       refine ⟨m - 1,by omega,i+1,0,0,v',D',by omega,⟨(by simp -implicitDefEqProofs (disch:=omega) only [go_sem,reduceIte,Nat.reduceEqDiff,q 2 (by decide),k2]),(by simp -implicitDefEqProofs (disch:=omega) only [go_sem,reduceIte,Nat.reduceEqDiff,q 4 (by decide),k4]),(by simp -implicitDefEqProofs (disch:=omega) only [go_sem,reduceIte,Nat.reduceEqDiff,q 5 (by decide),k5]),sS,sS,sS,(by simp -implicitDefEqProofs (disch:=omega) only [go_sem,reduceIte,Nat.reduceEqDiff,q 41 (by decide),k41]),by rw [fl];exact m2,by rw [fl];exact m41,hlt,gr',dg',by omega,by decide,by decide,?_,hdec,fun _=>rfl,hH.dg,by have:=hH.len;rw [hp5] at this;exact Nat.le_trans hrl this,hvn'⟩,(by simp -implicitDefEqProofs (disch:=omega) only [go_sem,reduceIte,Nat.reduceEqDiff,q 3 (by decide),k3])⟩
       rw [Nat.pow_zero,Nat.mul_one,Nat.add_zero,hv']
       exact hvv
     ·have hf':¬(c+1=9)∧¬(i+1=(bodyN l).length):=by omega
      exact ⟨m - 1,by omega,i+1,c+1,_,lv,D,by omega,⟨k2,k4,k5,k6,e7,e8,k41,m2,m41,hlt,by rw [eh];exact gr,dg,by omega,by omega,hnc,hvv,hdec,fun e=>absurd e hf'.2,by rw [eh];exact hdg,by rw [eh];exact hrl,lvn⟩,k3⟩
   ·have hbad2:goodB l=false:=by
     unfold goodB
     rw [decide_eq_false (show ¬Dec (bodyN l) from fun hD=>hdig (hD _ (by rw [List.getD_eq_getElem?_getD,List.getElem?_eq_getElem hlt];exact List.getElem_mem hlt)))]
     simp
    have hcase:rw1.1<48∨57<rw1.1:=by
     by_cases ha:(bodyN l).getD i 0<128
     ·have era:rw1=((bodyN l).getD i 0,1):=by rw [←hrn];exact rune_ascii rd i ha
      subst era
      show (bodyN l).getD i 0<48∨57<(bodyN l).getD i 0
      omega
     ·have:=rune_big rd i hlt ha
      rw [hrn] at this
      omega
    rcases hcase with hc | hc
    ·refine ww_seq (ww_seq (ww_reg (fun n k=>by simp -implicitDefEqProofs (disch:=omega) only [go_sem,reduceIte,Nat.reduceEqDiff,d_true,Bool.not_true];rfl) ?_))
     refine ww_true sS ?_
     refine ww_seq (ww_reg (fun n k=>by simp -implicitDefEqProofs (disch:=omega) only [go_sem,reduceIte,Nat.reduceEqDiff,h2,l2,stc_two N26 1 .nils (.bool false) .nils (.bool false) _ rfl rfl];rfl) ?_)
     exact ww_ret (bad _ hbad2 (sS1 h2) sS sS hdg)
    ·have hf:¬rw1.1<48:=by omega
     refine ww_seq (ww_seq (ww_reg (fun n k=>by simp -implicitDefEqProofs (disch:=omega) only [go_sem,reduceIte,Nat.reduceEqDiff,d_true,d_false,Bool.not_false];rfl) ?_))
     refine ww_true sS ?_
     refine ww_seq (ww_reg (fun n k=>by simp -implicitDefEqProofs (disch:=omega) only [go_sem,reduceIte,Nat.reduceEqDiff,h2,l2,stc_two N26 1 .nils (.bool false) .nils (.bool false) _ rfl rfl];rfl) ?_)
     exact ww_ret (bad _ hbad2 (sS1 h2) sS sS hdg)
  ·refine ww_seq (ww_reg (fun n k=>by simp -implicitDefEqProofs (disch:=omega) only [go_sem,reduceIte,Nat.reduceEqDiff,h41,nz15 l41 hlt];rfl) ?_)
   refine ww_seq (ww_false sS (ww_exit ?_))
   rw [if_pos rfl]
   have ei:i=(bodyN l).length:=by omega
   have ec:=last ei
   subst ec
   have en:n=0:=by rw [Nat.pow_zero] at nc;omega
   subst en
   rw [ei,List.take_length,Nat.pow_zero,Nat.mul_one,Nat.add_zero] at hv
   rw [ei,List.take_length] at dec
   have hgood:goodB l=true:=by unfold goodB;rw [hbad,decide_eq_true dec];rfl
   have fin2:∀ (st:St) (w:V) (d:List Nat),NI w d (ng l && !d.isEmpty)→Tr0 D d→(∃ x y,w=.agg [x,y]∧lg st.loc 2=(1,.cells false [x,y]))→gt st.tm 2=.ptr (.loc 2 1) 0→gt st.tm 3=.bool true→DG h.rows.length st.hp→Q st:=by
    intro st w d hn ht ⟨x,y,e1,e2⟩ j2 j3 jd
    obtain ⟨⟨s1,e3,hs1⟩,q1⟩:=hn
    subst e1
    obtain ⟨e4,e5⟩:x=s1∧y=.bool (ng l && !d.isEmpty):=by simpa using e3
    subst e4;subst e5
    refine hQ st _ (fin_cell_tmp (x:=x) (y:=.bool (ng l && !d.isEmpty)) (w:=.bool true) (f:=false) (d:=2) (g:=1) (by kernel_rfl) j2 e2 hs1.pl (Pl.bool _) j3 (Pl.bool _) jd) ⟨_,by rw [hgood],d,_,⟨⟨x,rfl,hs1⟩,q1⟩,?_,by have:=ht.len;omega⟩
    have e6:=ht.vl B
    rw [hv] at e6
    unfold zOf zv
    rw [hgood]
    cases hng:ng l with
    | false=>simp only [Bool.false_and,cond_false,cond_true,e6]
    | true =>
     cases d with
     | nil=>simp only [vl] at e6;simp only [List.isEmpty_nil,Bool.not_true,Bool.and_false,cond_false,cond_true,vl,←e6];rfl
     | cons x0 l0=>simp only [List.isEmpty_cons,Bool.not_false,Bool.and_self,cond_true,e6]
   rcases gr with ⟨eD,elv⟩ | ⟨hD0,r0,elv,hrow⟩
   ·subst eD;subst elv
    obtain ⟨w,hr,d,hw,ht⟩:=made_spec (va:=.nils) (a:=[]) (.inr ⟨rfl,rfl⟩) (Dg.nil B) (by simp) (ng l) s.hp
    have hw0:=hw
    obtain ⟨⟨x,rfl,hx⟩,_⟩:=hw
    refine ww_seq (ww_call (hr) (fun n hn k=>by simp -implicitDefEqProofs (disch:=omega) only [go_sem,reduceIte,Nat.reduceEqDiff,h2,h4,h6,l2,clc2 hn Pl.nils.ex (Ex1.bool _),stc_two N26 1 x (.bool (ng l && !d.isEmpty)) .nils (.bool false) _ hx.pl.ok rfl];rfl) ?_)
    exact ww_ret (fin2 _ _ d hw0 ht ⟨_,_,rfl,sS⟩ (sS1 h2) sS hdg)
   ·subst elv
    have hnr:=lvn r0 rfl
    obtain ⟨w,h',d,hr,hw,ht,hH,_⟩:=made_glob (n:=h.rows.length) hrow dg (by omega) (ng l) hdg hnr
    have hw0:=hw
    obtain ⟨⟨x,rfl,hx⟩,_⟩:=hw
    refine ww_seq (ww_call (hr) (fun n hn k=>by simp -implicitDefEqProofs (disch:=omega) only [go_sem,reduceIte,Nat.reduceEqDiff,h2,h4,h6,l2,clc2 hn (Ex1.glob _ _ _ _ _ _) (Ex1.bool _),stc_two N26 1 x (.bool (ng l && !d.isEmpty)) .nils (.bool false) _ hx.pl.ok rfl];rfl) ?_)
    exact ww_ret (fin2 _ _ d hw0 ht ⟨_,_,rfl,sS⟩ (sS1 h2) sS hH.dg)
end Go.AM.S
end
section
namespace Go.AM.S
open Go Go.AM Go.Proofs NumL
open _root_.Go.AM.G (R)
set_option maxRecDepth 100000
theorem tbl69:tbl 69=some ⟨rc69,[]⟩:=by kernel_rfl
theorem list_ext_getD {a b:List Nat} (hl:a.length=b.length) (h:∀ i,i<a.length→a.getD i 0=b.getD i 0):a=b:=by
 apply List.ext_getElem hl
 intro i h1 h2
 have:=h i h1
 rw [List.getD_eq_getElem?_getD,List.getD_eq_getElem?_getD,List.getElem?_eq_getElem h1,List.getElem?_eq_getElem h2] at this
 simpa using this
theorem getD_rev (l:List Nat) (i:Nat) (h:i<l.length):l.reverse.getD i 0=l.getD (l.length - 1 - i) 0:=by
 rw [List.getD_eq_getElem?_getD,List.getD_eq_getElem?_getD,List.getElem?_reverse h]
theorem getD_take (l:List Nat) (n i:Nat) (h:i<n):(l.take n).getD i 0=l.getD i 0:=by
 rw [List.getD_eq_getElem?_getD,List.getD_eq_getElem?_getD,List.getElem?_take,if_pos h]
theorem reverse_runs {n:Nat} {h:Hp} {r0:Nat} {L l:List Nat} (hr:h.rows[r0]? = some (.cells false (nl .u8 L))) (ht:L.take l.length=l) (hlL:l.length≤L.length) (hl:0<l.length) (hb:l.length≤1000000) (hn:DG n h) (hnr:n≤r0) :
  ∃ h' L',Runs Pg kn0 tbl 69 [.arr (.glob r0) 0 l.length none 1 false] h (.val (.tuple []) h')∧h'.rows[r0]? = some (.cells false (nl .u8 L'))∧L'.take l.length=l.reverse∧L'.length=L.length∧DG n h'∧h'.rows.length=h.rows.length∧∀ i,i≠r0→h'.rows[i]? = h.rows[i]?:=by
 have hr0:r0<h.rows.length:=by
  rcases Nat.lt_or_ge r0 h.rows.length with h1 | h1
  ·exact h1
  ·rw [List.getElem?_eq_none h1] at hr;simp at hr
 let Post:Out→Prop:=fun o=>∃ h' L',o=.val (.tuple []) h'∧h'.rows[r0]? = some (.cells false (nl .u8 L'))∧L'.take l.length=l.reverse∧L'.length=L.length∧DG n h'∧h'.rows.length=h.rows.length∧∀ i,i≠r0→h'.rows[i]? = h.rows[i]?
 suffices hw:WW Pg kn0 tbl rc69 ⟨startTm [.arr (.glob r0) 0 l.length none 1 false],.lf,⟨h.rows,none,h.mods⟩⟩ (fun s=>∃ o,fin Pg h [] s=some o∧Post o) (fun _ _=>False) (fun s=>∃ o,fin Pg h [] s=some o∧Post o) by
  obtain ⟨o,h1,h',L',rfl,h2⟩:=runs_ex (kn:=kn0) (h:=h) rfl tbl69 hw
  exact ⟨h',L',h1,h2⟩
 have hget:∀ i,i<l.length→L.getD i 0=l.getD i 0:=fun i hi=>by rw [←getD_take L l.length i hi,ht]
 unfold rc69
 refine sRG ?_
 refine ww_for (fun m s=>∃ i j cur,m=j+1 - i∧i+j+1=l.length∧gt s.tm 0=.arr (.glob r0) 0 l.length none 1 false∧gt s.tm 2=.int .i64 (.ofNat i)∧gt s.tm 3=.int .i64 (.ofNat j)∧s.hp.rows[r0]? = some (.cells false (nl .u8 cur))∧cur.length=L.length∧(∀ p,p<l.length→cur.getD p 0=if p<i∨j<p then l.getD (l.length - 1 - p) 0 else l.getD p 0)∧DG n s.hp∧s.hp.rows.length=h.rows.length∧(∀ i,i≠r0→s.hp.rows[i]? = h.rows[i]?)∧(s.hp.dirty=none→cur=L∧s.hp=⟨h.rows,none,h.mods⟩)∧(∀ x,s.hp.dirty=some x→x=r0)) (l.length - 1+1) ⟨0,l.length - 1,L,rfl,by omega,sSG,sS,sS,hr,rfl,fun p hp=>by rw [if_neg (by omega)];exact hget p hp,(fun x hx=>by cases hx),rfl,fun _ _=>rfl,fun _=>⟨rfl,rfl⟩,fun x hx=>by cases hx⟩ ?_
 intro m s ⟨i,j,cur,hm,hij,h0,h2,h3,hrow,hcl,hval,hdg,hrl,hsame,hclean,hdirt⟩
 refine sQ2 h2 h3 ?_
 refine ww_if (by simp only [gt_pt,reduceIte];rfl) (fun hlt=>ww_skip ?_) (fun hlt=>ww_exit ?_)
 ·have hrow2:(hset s.hp r0 (.cells false (nl .u8 (cur.set i (cur.getD j 0))))).rows[r0]? = some (.cells false (nl .u8 (cur.set i (cur.getD j 0)))):=hset_at _ hrow
  refine ww_seq (ww_block ?_)
  refine ww_reg (fun n k=>by
   simp -implicitDefEqProofs (disch:=omega) only [go_sem,reduceIte,Nat.reduceEqDiff,h0,h2,h3,nth_rows hrow,ldg_nl L5,dg69_3_13 hrow (show i<cur.length by omega),dg69_3_15 hrow2 (show j<(cur.set i (cur.getD j 0)).length by rw [List.length_set];omega)]
   exact finD_ok (by kernel_rfl)) ?_
  refine sE2 h2 h3 ?_
  refine ⟨j - 1+1 - (i+1),by omega,i+1,j - 1,(cur.set i (cur.getD j 0)).set j (cur.getD i 0),rfl,by omega,(sS1 h0),sS,sS,hset_at _ hrow2,by simp [hcl],?_,DG.set (DG.set hdg hnr _) hnr _,by rw [hset_len,hset_len];exact hrl,fun q hq=>by rw [hset_ne _ hq,hset_ne _ hq];exact hsame q hq,fun e=>?_,fun x hx=>?_⟩
  ·intro p hp
   by_cases e1:p=j
   ·subst e1
    rw [getD_set_eq _ _ _ (by simp;omega),if_pos (by omega),hval i (by omega),if_neg (by omega)]
    congr 1;omega
   ·rw [getD_set_ne _ _ _ _ (Ne.symm e1)]
    by_cases e2:p=i
    ·subst e2
     rw [getD_set_eq _ _ _ (by omega),if_pos (by omega),hval j (by omega),if_neg (by omega)]
     congr 1;omega
    ·rw [getD_set_ne _ _ _ _ (Ne.symm e2),hval p hp]
     by_cases e3:p<i∨j<p
     ·rw [if_pos e3,if_pos (by omega)]
     ·rw [if_neg e3,if_neg (by omega)]
  ·exfalso
   have e:lower (lower s.hp.dirty r0) r0=none:=e
   cases hq:s.hp.dirty with
   | none=>rw [hq] at e;simp [lower] at e
   | some y=>rw [hq] at e;simp [lower] at e
  ·have hx:lower (lower s.hp.dirty r0) r0=some x:=hx
   cases hq:s.hp.dirty with
   | none=>rw [hq] at hx;simp [lower] at hx;omega
   | some y=>have:=hdirt y hq;rw [hq] at hx;simp [lower] at hx;omega
 ·rw [if_pos rfl]
  have hfin:cur.take l.length=l.reverse:=by
   refine list_ext_getD (by simp;omega) (fun p hp=>?_)
   have hp':p<l.length:=by simp at hp;omega
   rw [getD_take _ _ _ hp',getD_rev l p hp',hval p hp']
   by_cases e3:p<i∨j<p
   ·rw [if_pos e3]
   ·rw [if_neg e3];congr 1;omega
  refine ⟨.val (.tuple []) (backHp h s.hp []),rfl,backHp h s.hp [],?_⟩
  cases hq:s.hp.dirty with
  | none =>
   obtain ⟨e1,e2⟩:=hclean hq
   have eb:backHp h s.hp []=h:=back_id h s.hp [] hq rfl
   subst e1
   exact ⟨cur,rfl,by rw [eb];exact hr,hfin,rfl,by rw [eb];exact hn,by rw [eb],fun i _=>by rw [eb]⟩
  | some x =>
   have ex:=hdirt x hq
   subst ex
   have hc:cleanB h s.hp=false:=by
    unfold cleanB;rw [hq]
    show Nat.ble h.rows.length x=false
    cases hb:Nat.ble h.rows.length x with
    | false=>rfl
    | true=>rw [Nat.ble_eq] at hb;omega
   have eb:(backHp h s.hp []).rows=s.hp.rows:=by unfold backHp;rw [hc];rfl
   exact ⟨cur,rfl,by rw [eb];exact hrow,hfin,hcl,hn.back hdg _,by rw [eb];exact hrl,fun i hi=>by rw [eb];exact hsame i hi⟩
end Go.AM.S
end
section
namespace Go.AM.S
open Go Go.AM Go.Proofs NumL
open _root_.Go.AM.G (R)
def lv:List Nat→Nat
 | []=>0
 | b::l=>(b - 48)+10*lv l
theorem lv_app:∀ (a b:List Nat),lv (a++b)=lv a+10 ^ a.length*lv b:=by
 intro a
 induction a with
 | nil=>intro b;simp [lv]
 | cons x a ih=>intro b;simp only [List.cons_append,lv,ih,List.length_cons,Nat.pow_succ,Nat.mul_add];rw [Nat.mul_comm (10 ^ a.length) 10,Nat.mul_assoc];omega
theorem dv_rev:∀ l:List Nat,dv l.reverse=lv l:=by
 intro l
 induction l with
 | nil=>rfl
 | cons b l ih=>rw [List.reverse_cons,dv_snoc,ih];simp only [lv];omega
theorem Dec.dg {l:List Nat} (h:Dec l):Dg 256 l:=fun x hx=>by have:=h x hx;omega
theorem Dec.rev {l:List Nat} (h:Dec l):Dec l.reverse:=fun x hx=>h x (by simpa using hx)
theorem Dec.take {l:List Nat} (h:Dec l) (n:Nat):Dec (l.take n):=fun x hx=>h x (List.mem_of_mem_take hx)
theorem rev_head (l:List Nat) (hl:0<l.length):l.reverse.getD 0 0=l.getD (l.length - 1) 0:=by
 rw [getD_rev l 0 hl,Nat.sub_zero]
theorem good_of {out:List Nat} (b:Bool) (hd:Dec out) (hne:0<out.length) (hlast:out.getD (out.length - 1) 0≠48) :
  goodB (out++bif b then [45] else []).reverse=true∧zOf (out++bif b then [45] else []).reverse=bif b then -(lv out:Int) else (lv out:Int):=by
 have hh:=rev_head out hne
 have e:ng (out++bif b then [45] else []).reverse=b∧bodyN (out++bif b then [45] else []).reverse=out.reverse:=by
  cases b with
  | true =>
   have e1:(out++bif true then [45] else []).reverse=45::out.reverse:=by simp
   rw [e1]
   have e2:ng (45::out.reverse)=true:=rfl
   exact ⟨e2,by unfold bodyN;rw [e2];rfl⟩
  | false =>
   have e1:(out++bif false then [45] else []).reverse=out.reverse:=by simp
   rw [e1]
   have e2:ng out.reverse=false:=by
    unfold ng
    rw [hh]
    refine decide_eq_false ?_
    have hm:out.getD (out.length - 1) 0 ∈ out:=by
     rw [List.getD_eq_getElem?_getD,List.getElem?_eq_getElem (by omega)]
     exact List.getElem_mem _
    have:=hd _ hm
    omega
   exact ⟨e2,by unfold bodyN;rw [e2];rfl⟩
 have hg:goodB (out++bif b then [45] else []).reverse=true:=by
  unfold goodB badB
  rw [e.2,decide_eq_true hd.rev,hh,decide_eq_false hlast]
  cases hr:out.reverse with
  | nil=>exfalso;have:=congrArg List.length hr;simp at this;subst this;simp at hne
  | cons x l=>rfl
 refine ⟨hg,?_⟩
 unfold zOf
 rw [hg,e.1,e.2,dv_rev]
 cases b<;>rfl
theorem nl_ne {k k':IntKind} {l l':List Nat} (hk:k≠k') (hl:0<l.length):nl k l≠nl k' l':=by
 intro e
 cases l with
 | nil=>simp at hl
 | cons x l =>
  cases l' with
  | nil=>simp [nl] at e
  | cons y l' =>
   simp only [nl,List.map_cons,List.cons.injEq,V.int.injEq] at e
   exact hk e.1.1
theorem Gs.ne {h:Hp} {v:V} {k k':IntKind} {l L:List Nat} (hv:Gs h v k l) {r:Nat} {f:Bool} (hr:h.rows[r]? = some (.cells f (nl k' L))) (hk:k≠k'):v≠.arr (.glob r) 0 l.length none 1 false:=by
 intro e
 rcases hv with ⟨_,rfl⟩ | ⟨r1,L1,rfl,hr1,_,_,h0⟩
 ·cases e
 ·have:r1=r:=by cases e;rfl
  subst this
  rw [hr1] at hr
  have e2:nl k L1=nl k' L:=by injection hr with hr;injection hr
  exact nl_ne hk h0 e2
theorem Gs.hset {h:Hp} {v:V} {k k':IntKind} {l L:List Nat} (hv:Gs h v k l) {r:Nat} {f:Bool} (hr:h.rows[r]? = some (.cells f (nl k' L))) (hk:k≠k') (row:Row):Gs (hset h r row) v k l:=by
 have hne:=hv.ne hr hk
 rcases hv with ⟨h1,h2⟩ | ⟨r1,L1,rfl,hr1,q⟩
 ·exact .inl ⟨h1,h2⟩
 ·refine .inr ⟨r1,L1,rfl,?_,q⟩
  rw [hset_ne _ (fun e=>hne (by rw [e]))]
  exact hr1
theorem fin_tmpD {h:Hp} {t:Nat} {s:St} {v:V} (hv:gt s.tm t=v) (he:Ex1 v) (hc:DG h.rows.length s.hp) (hr:v.noRefs=true):fin Pg h [.tmp t] s=some (.val v h):=by
 unfold fin
 have e1:resV Pg s [.tmp t]=some [v]:=by simp only [resV,rho_gt,hv,Option.map_some]
 rw [e1]
 have e2:=exps_ex [v] s ⟨he,trivial⟩
 simp only [e2]
 unfold backHp
 rw [clean_dg hc]
 simp only [V.noRefsL,hr,Bool.and_self,cond_true]
theorem pow10_B (k:Nat):B ^ k≤10 ^ (10*k):=by
 rw [Nat.pow_mul]
 exact Nat.pow_le_pow_left (by decide) k
theorem pow_lt_inv {a b c:Nat} (hc:1<c) (h:c ^ a<c ^ b):a<b:=by
 rcases Nat.lt_or_ge a b with q | q
 ·exact q
 ·have:=Nat.pow_le_pow_right (n:=c) (by omega) q;omega
theorem or_shl {c x:Nat} (hx:x<4294967296):c*4294967296 ||| x=c*4294967296+x:=by
 have:=Nat.two_pow_add_eq_or_of_lt (i:=32) hx c
 rw [show (2:Nat) ^ 32=4294967296 from rfl] at this
 rw [Nat.mul_comm,this]
end Go.AM.S
end
