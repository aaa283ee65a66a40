/- Part 0 of the proof: what it says stands at its theorems. -/
import Derived.Calls
import Derived.Deep.MidRow
import Derived.Laws.AppendOwn
import Derived.Laws.IdiomCopy
import Derived.Laws.Slices
import Derived.Room.Entries
import Derived.Laws.Strings
import Derived.Laws.Tables
import Derived.ChangeMaps3
import Derived.Laws.MakeOwn
import Derived.Lib.ConvBytes
import Derived.Lib.AppendStr
import Derived.Laws.BytesArg
import Derived.ArgAppend
set_option linter.unusedVariables false
set_option linter.unusedSimpArgs false
set_option linter.unusedSectionVars false
section
namespace Go.AM
open Go
structure Str where
 n:Nat
 v:Nat
 deriving Inhabited,DecidableEq
def bl:Nat→Nat→List UInt8
 | 0,_=>[]
 | n+1,v=>UInt8.ofNat v::bl n (v / 256)
def Str.bytes(s:Str):ByteArray:=⟨(bl s.n s.v).toArray⟩
def pk:List UInt8→Nat
 | []=>0
 | b::l=>b.toNat+256*pk l
def Str.of(s:ByteArray):Str:=⟨s.size,pk s.data.toList⟩
def Str.ofL(l:List UInt8):Str:=⟨l.length,pk l⟩
def p8(n:Nat):Nat:=Nat.pow 2 (Nat.mul 8 n)
def Str.get(s:Str)(i:Nat):Nat:=Nat.mod (Nat.shiftRight s.v (Nat.mul 8 i)) 256
def Str.cut(s:Str)(k h:Nat):Str:=⟨Nat.sub h k,Nat.mod (Nat.shiftRight s.v (Nat.mul 8 k)) (p8 (Nat.sub h k))⟩
def Str.app(a b:Str):Str:=⟨Nat.add a.n b.n,Nat.add (Nat.mod a.v (p8 a.n)) (Nat.shiftLeft b.v (Nat.mul 8 a.n))⟩
def Str.same(a b:Str):Bool:=Nat.beq a.n b.n&&Nat.beq (Nat.mod a.v (p8 a.n)) (Nat.mod b.v (p8 b.n))
theorem qdA:∀ n v,(bl n v).length=n
 | 0,_=>rfl
 | n+1,v=>by simp[bl,qdA n]
theorem Str.QaI(s:Str):s.bytes.data.toList=bl s.n s.v:=rfl
theorem Str.QaY(s:Str):s.bytes.size=s.n:=by
 show(bl s.n s.v).toArray.size=s.n
 simp[qdA]
theorem qwN:∀ l:List UInt8,bl l.length (pk l)=l
 | []=>rfl
 | b::l=>by
  have h:b.toNat<256:=b.toNat_lt
  have e1:(b.toNat+256*pk l) / 256=pk l:=by omega
  have e2:UInt8.ofNat (b.toNat+256*pk l)=b:=by
   apply UInt8.toNat_inj.1
   simp only[UInt8.toNat_ofNat']
   omega
  simp only[List.length_cons,bl,pk,e1,e2,qwN l]
theorem Str.Qd3(s:ByteArray):(Str.of s).bytes=s:=by
 have h:bl s.size (pk s.data.toList)=s.data.toList:=by
  have:=qwN s.data.toList
  rwa [Array.length_toList]at this
 show(⟨(bl s.size (pk s.data.toList)).toArray⟩:ByteArray)=s
 rw[h]
theorem Str.QdP(l:List UInt8):(Str.ofL l).bytes=⟨l.toArray⟩:=by
 show(⟨(bl l.length (pk l)).toArray⟩:ByteArray)=_
 rw[qwN]
theorem qiC:p8 0=1:=rfl
theorem qdm(n:Nat):p8 (n+1)=256*p8 n:=by
 show 2 ^ (8*(n+1))=256*2 ^ (8*n)
 rw[show 8*(n+1)=8*n+8 by omega,Nat.pow_add,Nat.mul_comm]
theorem qx7(v k:Nat):Nat.shiftRight v (Nat.mul 8 k)=v / p8 k:=Nat.shiftRight_eq_div_pow v (8*k)
theorem qyS(v k:Nat):Nat.shiftLeft v (Nat.mul 8 k)=v*p8 k:=Nat.shiftLeft_eq v (8*k)
theorem qtk:∀ n v,bl n (v % p8 n)=bl n v
 | 0,_=>rfl
 | n+1,v=>by
  have e1:v % p8 (n+1) / 256=v / 256 % p8 n:=by
   rw[qdm,Nat.mod_mul_right_div_self]
  have e2:UInt8.ofNat (v % p8 (n+1))=UInt8.ofNat v:=by
   apply UInt8.toNat_inj.1
   simp only[UInt8.toNat_ofNat']
   rw[qdm]
   exact Nat.mod_mul_right_mod _ _ _
  simp only[bl,e1,e2,qtk n]
theorem qwO:∀ n v w,bl n v=bl n w↔v % p8 n=w % p8 n
 | 0,v,w=>by simp[bl,qiC,Nat.mod_one]
 | n+1,v,w=>by
  simp only[bl,List.cons.injEq,qwO n,qdm]
  constructor
  ·rintro⟨h1,h2⟩
   have h1:=congrArg UInt8.toNat h1
   simp only[UInt8.toNat_ofNat']at h1
   have k1:=Nat.mod_mul (x:=v) (a:=256) (b:=p8 n)
   have k2:=Nat.mod_mul (x:=w) (a:=256) (b:=p8 n)
   rw[k1,k2]
   omega
  ·intro h
   have k1:=Nat.mod_mul (x:=v) (a:=256) (b:=p8 n)
   have k2:=Nat.mod_mul (x:=w) (a:=256) (b:=p8 n)
   rw[k1,k2]at h
   refine⟨?_,by omega⟩
   apply UInt8.toNat_inj.1
   simp only[UInt8.toNat_ofNat']
   omega
theorem qpF:∀ k n v,(bl n v).drop k=bl (n - k) (v / p8 k)
 | 0,n,v=>by simp[qiC]
 | k+1,0,v=>by simp[bl]
 | k+1,n+1,v=>by
  simp only[bl,List.drop_succ_cons,qpF k n,qdm]
  rw[Nat.div_div_eq_div_mul,show n+1 - (k+1)=n - k by omega]
theorem qpE:∀ k n v,k≤n→(bl n v).take k=bl k v
 | 0,n,v,_=>by simp[bl]
 | k+1,0,v,h=>by omega
 | k+1,n+1,v,h=>by simp only[bl,List.take_succ_cons,qpE k n _ (by omega)]
theorem qtm:∀ n m v w,bl n v++bl m w=bl (n+m) (v % p8 n+w*p8 n)
 | 0,m,v,w=>by simp[bl,qiC,Nat.mod_one]
 | n+1,m,v,w=>by
  have h1:v % p8 (n+1)=v % 256+256*(v / 256 % p8 n):=by rw[qdm];exact Nat.mod_mul
  have e1:(v % p8 (n+1)+w*p8 (n+1)) / 256=v / 256 % p8 n+w*p8 n:=by
   rw[h1,qdm,show w*(256*p8 n)=256*(w*p8 n)by rw[Nat.mul_left_comm]]
   omega
  have e2:UInt8.ofNat (v % p8 (n+1)+w*p8 (n+1))=UInt8.ofNat v:=by
   apply UInt8.toNat_inj.1
   simp only[UInt8.toNat_ofNat']
   rw[h1,qdm,show w*(256*p8 n)=256*(w*p8 n)by rw[Nat.mul_left_comm]]
   omega
  rw[show n+1+m=(n+m)+1 by omega]
  simp only[bl,List.cons_append,qtm n,e1,e2]
theorem qtl:∀ i n v,i<n→(bl n v)[i]? = some (UInt8.ofNat (v / p8 i))
 | i,0,v,h=>by omega
 | 0,n+1,v,_=>by simp[bl,qiC]
 | i+1,n+1,v,h=>by
  simp only[bl,List.getElem?_cons_succ,qtl i n _ (by omega),qdm,Nat.div_div_eq_div_mul]
theorem qmi{a b:ByteArray}(h:a.data.toList=b.data.toList):a=b:=by
 cases a with | mk a=>cases b with | mk b=>cases a;cases b;simp at h;subst h;rfl
theorem Str.QcW(s:Str){i:Nat}(h:i<s.n):∃ b,s.bytes.data.toList[i]? = some b∧(s.get i:Nat)=b.toNat:=by
 refine⟨_,by rw[s.QaI];exact qtl i s.n s.v h,?_⟩
 show Nat.mod (Nat.shiftRight s.v (Nat.mul 8 i)) 256=_
 rw[qx7]
 simp only[UInt8.toNat_ofNat']
 rfl
theorem Str.Qd2(s:Str){k h:Nat}(hk:k≤h)(hh:h≤s.n):(s.cut k h).bytes=s.bytes.extract k h:=by
 apply qmi
 have e:(s.bytes.extract k h).data.toList=(s.bytes.data.toList.take h).drop k:=by
  rw[ByteArray.data_extract,Array.toList_extract]
  simp[List.extract,List.drop_take]
 rw[e]
 simp only[Str.QaI]
 rw[qpE h s.n s.v hh,qpF]
 show bl (Nat.sub h k) (Nat.mod (Nat.shiftRight s.v (Nat.mul 8 k)) (p8 (Nat.sub h k)))=_
 rw[qx7]
 exact qtk (h - k) (s.v / p8 k)
theorem Str.Qd4(a b:Str):(a.app b).bytes=a.bytes++b.bytes:=by
 apply qmi
 have e:(a.bytes++b.bytes).data.toList=a.bytes.data.toList++b.bytes.data.toList:=by
  rw[ByteArray.data_append];simp
 rw[e]
 simp only[Str.QaI]
 rw[qtm]
 show bl (Nat.add a.n b.n) (Nat.add (Nat.mod a.v (p8 a.n)) (Nat.shiftLeft b.v (Nat.mul 8 a.n)))=_
 rw[qyS]
 rfl
theorem Str.QcB(a b:Str):a.same b=true↔a.bytes=b.bytes:=by
 have e:a.same b=true↔(a.n=b.n∧a.v % p8 a.n=b.v % p8 b.n):=by
  unfold Str.same
  simp only[Bool.and_eq_true,Nat.beq_eq]
  rfl
 rw[e]
 constructor
 ·rintro⟨h1,h2⟩
  apply qmi
  rw[Str.QaI,Str.QaI,←h1]
  rw[←h1]at h2
  exact(qwO _ _ _).2 h2
 ·intro h
  have h1:a.n=b.n:=by rw[←a.QaY,←b.QaY,h]
  refine⟨h1,?_⟩
  have h2:bl a.n a.v=bl b.n b.v:=by rw[←a.QaI,←b.QaI,h]
  rw[←h1]at h2 ⊢
  exact(qwO _ _ _).1 h2
def Str.rune(s:Str)(i:Nat):Nat × Nat:=bif Nat.blt (s.get i) 128 then (s.get i,1)else Utf8.decode s.bytes i
theorem Str.Qc7(s:Str){i:Nat}(h:i<s.n):s.rune i=Utf8.decode s.bytes i:=by
 unfold Str.rune
 cases hb:Nat.blt (s.get i) 128 with
 | false=>rfl
 | true =>
  obtain⟨b,h1,h2⟩:=s.QcW h
  have h3:(s.bytes.get! (i+0)).toNat=s.get i:=by
   have:s.bytes.data[i]? = some b:=by rw[←Array.getElem?_toList];exact h1
   have h4:s.bytes.get! (i+0)=b:=by
    show s.bytes.data[i+0]! = b
    rw[Nat.add_zero,getElem!_def,this]
   rw[h4,h2]
  have h5:s.get i<128:=by simpa[Nat.blt_eq]using hb
  unfold Utf8.decode
  simp only[h3,cond_true]
  rw[if_pos (by omega)]
inductive Tr(α:Type) where
 | lf
 | nd (v:Option α) (l r:Tr α)
 deriving Inhabited
def Qc8:Nat→Nat→List Bool
 | 0,_=>[]
 | f+1,n=>bif Nat.beq n 0 then []else bif Nat.beq (Nat.mod n 2) 1 then false::Qc8 f (Nat.div n 2)else true::Qc8 f (Nat.sub (Nat.div n 2) 1)
def path(n:Nat):List Bool:=Qc8 n n
theorem qgm:∀ (f g n m:Nat),n≤f→m≤g→Qc8 f n=Qc8 g m→n=m
 | 0,0,n,m,hn,hm,_=>by omega
 | 0,g+1,n,m,hn,hm,h=>by
  have:n=0:=by omega
  subst this
  simp only[Qc8]at h
  cases hb:Nat.beq m 0 with
  | true=>exact(Nat.eq_of_beq_eq_true hb).symm
  | false =>
   rw[hb]at h
   simp only[cond_false]at h
   cases hc:Nat.beq (Nat.mod m 2) 1<;>rw[hc]at h<;>simp at h
 | f+1,0,n,m,hn,hm,h=>by
  have:m=0:=by omega
  subst this
  simp only[Qc8]at h
  cases hb:Nat.beq n 0 with
  | true=>exact Nat.eq_of_beq_eq_true hb
  | false =>
   rw[hb]at h
   simp only[cond_false]at h
   cases hc:Nat.beq (Nat.mod n 2) 1<;>rw[hc]at h<;>simp at h
 | f+1,g+1,n,m,hn,hm,h=>by
  simp only[Qc8]at h
  have bn:Nat.beq n 0=true↔n=0:=by rw[Nat.beq_eq]
  have bm:Nat.beq m 0=true↔m=0:=by rw[Nat.beq_eq]
  have on:Nat.beq (Nat.mod n 2) 1=true↔n % 2=1:=by rw[Nat.beq_eq];rfl
  have om:Nat.beq (Nat.mod m 2) 1=true↔m % 2=1:=by rw[Nat.beq_eq];rfl
  cases h1:Nat.beq n 0 with
  | true =>
   rw[h1]at h
   cases h2:Nat.beq m 0 with
   | true=>rw[bn.1 h1,bm.1 h2]
   | false =>
    rw[h2]at h
    simp only[cond_true,cond_false]at h
    cases hc:Nat.beq (Nat.mod m 2) 1<;>rw[hc]at h<;>simp at h
  | false =>
   have n0:n≠0:=fun e=>by rw[bn.2 e]at h1;simp at h1
   rw[h1]at h
   cases h2:Nat.beq m 0 with
   | true =>
    rw[h2]at h
    simp only[cond_true,cond_false]at h
    cases hc:Nat.beq (Nat.mod n 2) 1<;>rw[hc]at h<;>simp at h
   | false =>
    have m0:m≠0:=fun e=>by rw[bm.2 e]at h2;simp at h2
    rw[h2]at h
    simp only[cond_false]at h
    cases h3:Nat.beq (Nat.mod n 2) 1 with
    | true =>
     rw[h3]at h
     cases h4:Nat.beq (Nat.mod m 2) 1 with
     | true =>
      rw[h4]at h
      simp only[cond_true,List.cons.injEq,true_and]at h
      have k:=qgm f g _ _ (show n / 2≤f by omega) (show m / 2≤g by omega) h
      have k:n / 2=m / 2:=k
      have:=on.1 h3
      have:=om.1 h4
      omega
     | false=>rw[h4]at h;simp at h
    | false =>
     rw[h3]at h
     cases h4:Nat.beq (Nat.mod m 2) 1 with
     | true=>rw[h4]at h;simp at h
     | false =>
      rw[h4]at h
      simp only[cond_false,List.cons.injEq,true_and]at h
      have k:=qgm f g _ _ (show n / 2 - 1≤f by omega) (show m / 2 - 1≤g by omega) h
      have k:n / 2 - 1=m / 2 - 1:=k
      have e1:¬n % 2=1:=fun e=>by rw[on.2 e]at h3;simp at h3
      have e2:¬m % 2=1:=fun e=>by rw[om.2 e]at h4;simp at h4
      omega
theorem qqf{n m:Nat}(h:path n=path m):n=m:=qgm n m n m (Nat.le_refl _) (Nat.le_refl _) h
section
variable {α:Type}
def Tr.get(d:α):List Bool→Tr α→α
 | [],t=>(match t with
  | .lf=>d
  | .nd v _ _=>v.getD d)
 | b::p,t=>(match t with
  | .lf=>d
  | .nd _ l r=>bif b then Tr.get d p r else Tr.get d p l)
def Tr.set(a:α):List Bool→Tr α→Tr α
 | [],t=>(match t with
  | .lf=>.nd (some a) .lf .lf
  | .nd _ l r=>.nd (some a) l r)
 | b::p,t=>(match t with
  | .lf=>bif b then .nd none .lf (Tr.set a p .lf)else .nd none (Tr.set a p .lf) .lf
  | .nd v l r=>bif b then .nd v l (Tr.set a p r)else .nd v (Tr.set a p l) r)
theorem Tr.QdH(d a:α):∀ (p q:List Bool)(t:Tr α),Tr.get d q (Tr.set a p t)=if p=q then a else Tr.get d q t
 | [],[],t=>by cases t<;>simp[Tr.set,Tr.get]
 | [],b::q,t=>by cases t<;>cases b<;>simp[Tr.set,Tr.get]<;>(cases q<;>rfl)
 | b::p,[],t=>by cases t<;>cases b<;>simp[Tr.set,Tr.get]
 | b::p,b'::q,t=>by
  cases t<;>cases b<;>cases b'<;>simp[Tr.set,Tr.get,Tr.QdH d a p q]<;>(cases q<;>rfl)
def aget(d:α)(t:Tr α)(i:Nat):α:=Tr.get d (path i) t
def aset(t:Tr α)(i:Nat)(a:α):Tr α:=Tr.set a (path i) t
theorem qaI(d:α)(t:Tr α)(i j:Nat)(a:α):aget d (aset t i a) j=if i=j then a else aget d t j:=by
 unfold aget aset
 rw[Tr.QdH]
 by_cases h:i=j
 ·subst h;simp
 ·rw[if_neg (fun e=>h (qqf e)),if_neg h]
theorem qhd(d:α)(i:Nat):aget d .lf i=d:=by unfold aget;cases path i<;>rfl
end
inductive Ref where
 | loc (s g:Nat)
 | glob (r:Nat)
 deriving DecidableEq,Inhabited
inductive V where
 | dead
 | int (k:IntKind) (n:Int)
 | bool (b:Bool)
 | str (s:Str)
 | nilp
 | ptr (r:Ref) (off:Nat)
 | iptr (cs:List V)
 | nils
 | slice (tok:Option Ref) (full:Bool) (sz:Nat) (l:List V)
 | arr (r:Ref) (off len:Nat) (lim:Option Nat) (sz:Nat) (ag:Bool)
 | fn (f:Fn) (first caps:List V)
 | nilf
 | iface (t:Nat) (v:V)
 | nili
 | agg (cs:List V)
 | tuple (vs:List V)
 | sym (i:Nat)
 | mref (r:Ref)
 | nilm
 deriving Inhabited
inductive Row where
 | gone
 | cells (frz:Bool) (cs:List V)
 | tok
 | iter (s:Str) (pos:Nat)
 | mp (ks vs:List V)
 deriving Inhabited
structure Hp where
 rows:List Row
 dirty:Option Nat
 mods:Nat
inductive Out where
 | val (v:V) (h:Hp)
 | panic (v:V) (h:Hp)
def Out.hp:Out→Hp
 | .val _ h=>h
 | .panic _ h=>h
abbrev Qad:=FuncId→List V→Hp→Option Out
structure Cfg where
 QaN:TypeId→Bool
 glob:FuncId→Nat→Bool
 use:FuncId→Bool
 QaU:FuncId→Nat→List (Nat × Nat)
 pairs:FuncId→Nat→List (Nat × Nat)
structure St where
 tm:Tr V
 loc:Tr (Nat × Row)
 hp:Hp
def V.cells:V→List V
 | .agg cs=>cs
 | v=>[v]
def V.Qaw:V→Bool
 | .dead=>false
 | .agg _=>false
 | .tuple _=>false
 | _=>true
def V.live:V→Bool
 | .dead=>false
 | _=>true
mutual
def V.Qao:V→Bool
 | .ptr _ _=>false
 | .arr ..=>false
 | .mref _=>false
 | .slice tok _ _ _=>tok.isNone
 | .iptr cs=>V.Qaf cs
 | .fn _ a b=>V.Qaf a&&V.Qaf b
 | .iface _ v=>v.Qao
 | .agg cs=>V.Qaf cs
 | .tuple cs=>V.Qaf cs
 | _=>true
def V.Qaf:List V→Bool
 | []=>true
 | v::l=>v.Qao&&V.Qaf l
end
mutual
def V.Qap:V→Bool
 | .ptr (.loc _ _) _=>false
 | .arr (.loc _ _) ..=>false
 | .mref (.loc _ _)=>false
 | .slice (some (.loc _ _)) _ _ _=>false
 | .iptr cs=>V.Qak cs
 | .fn _ a b=>V.Qak a&&V.Qak b
 | .iface _ v=>v.Qap
 | .agg cs=>V.Qak cs
 | .tuple cs=>V.Qak cs
 | _=>true
def V.Qak:List V→Bool
 | []=>true
 | v::l=>v.Qap&&V.Qak l
end
def qwY:Value→V
 | .bool b=>.bool b
 | .int k x=>.int k x
 | .string s=>.str (Str.of s)
 | .pointer none=>.nilp
 | .slice none 0 0=>.nils
 | .nilFunc=>.nilf
 | .nilIface=>.nili
 | .map none=>.nilm
 | _=>.dead
def QdT:Value→V
 | .agg cs=>.agg (cs.toList.map qwY)
 | v=>qwY v
def opd(ρ:Nat→V):Operand→V
 | .tmp t=>ρ t
 | .const v=>QdT v
 | .func f=>.fn (.func f) [] []
 | .global _=>.dead
def St.ρ(st:St):Nat→V:=aget .dead st.tm
def St.lc(st:St):Nat→Nat × Row:=aget (0,.gone) st.loc
def Qab(st:St):Ref→Option Row
 | .loc s g=>bif Nat.beq (st.lc s).1 g then some (st.lc s).2 else none
 | .glob r=>st.hp.rows[r]?
def lower:Option Nat→Nat→Option Nat
 | none,r=>some r
 | some d,r=>some (min d r)
def setRow(st:St):Ref→Row→St
 | .loc s g,row=>{ st with loc:=aset st.loc s (g,row) }
 | .glob r,row=>{ st with hp:={ rows:=st.hp.rows.set r row,dirty:=lower st.hp.dirty r,mods:=st.hp.mods+1 } }
def Qaa(st:St)(gl:Bool)(site:Nat)(row:Row):Ref × St :=
 bif gl then (.glob st.hp.rows.length,{ st with hp:={ st.hp with rows:=st.hp.rows++[row] } })
 else (.loc site ((st.lc site).1+1),{ st with loc:=aset st.loc site ((st.lc site).1+1,row) })
def Qa1:Int→Nat→Option Nat
 | .ofNat k,n=>bif Nat.blt k n then some k else none
 | _,_=>none
def Qau:Int→Nat→Option Nat
 | .ofNat k,n=>bif Nat.ble k n then some k else none
 | _,_=>none
def intCmp(op:BinOp)(a b:Int):Option V :=
 match op with
 | .eql=>some (.bool (a == b))
 | .neq=>some (.bool (a != b))
 | .lss=>some (.bool (a<b))
 | .leq=>some (.bool (a≤b))
 | .gtr=>some (.bool (a > b))
 | .geq=>some (.bool (a ≥ b))
 | _=>none
def QaS(op:BinOp)(k:IntKind)(a b:Int):Option V :=
 match op with
 | .add=>some (.int k (k.wrap (a+b)))
 | .sub=>some (.int k (k.wrap (a - b)))
 | .mul=>some (.int k (k.wrap (a*b)))
 | .quo=>if b=0 then none else some (.int k (k.wrap (a.tdiv b)))
 | .rem=>if b=0 then none else some (.int k (a.tmod b))
 | .and=>some (.int k (k.wrap (BitVec.ofInt k.bits a &&& BitVec.ofInt k.bits b).toNat))
 | .or=>some (.int k (k.wrap (BitVec.ofInt k.bits a ||| BitVec.ofInt k.bits b).toNat))
 | .xor=>some (.int k (k.wrap (BitVec.ofInt k.bits a ^^^ BitVec.ofInt k.bits b).toNat))
 | .andNot=>some (.int k (k.wrap (BitVec.ofInt k.bits a &&& ~~~ (BitVec.ofInt k.bits b)).toNat))
 | op=>intCmp op a b
def Qcz(op:BinOp)(a b:Str):Option V :=
 match op with
 | .eql=>some (.bool (a.same b))
 | .neq=>some (.bool (!a.same b))
 | .lss=>some (.bool (Op.bytesLess (bl a.n a.v) (bl b.n b.v)))
 | .add=>bif Nat.ble (Nat.add a.n b.n) 4611686018427387904 then some (.str (a.app b))else none
 | _=>none
def QbQ(op:BinOp)(k:IntKind)(a b:Int):Option V :=
 if b<0 then none else
 match op with
 | .shl=>some (.int k (k.wrap (a*2 ^ (min b.toNat k.bits))))
 | .shr=>some (.int k (a.fdiv (2 ^ (min b.toNat k.bits))))
 | _=>none
def qgE(op:BinOp)(b:Bool):Option V :=
 match op with
 | .eql=>some (.bool b)
 | .neq=>some (.bool !b)
 | _=>none
def Qct(op:BinOp)(x y:V):Option V :=
 match x,y with
 | .int k a,.int k' b =>
  match op with
  | .shl=>QbQ .shl k a b
  | .shr=>QbQ .shr k a b
  | op=>if k=k' then QaS op k a b else none
 | .str a,.str b=>Qcz op a b
 | _,_=>none
def isConst:Operand→Bool
 | .const _=>true
 | _=>false
def eqV(op:BinOp)(d:Option TypeDesc)(cn:Bool)(x y:V):Option V :=
 match d,x,y with
 | some .bool,.bool a,.bool b=>qgE op (a == b)
 | some (.slice _),.nils,.nils=>qgE op true
 | some (.slice _),.slice _ _ _ _,.nils=>qgE op false
 | some (.slice _),.arr ..,.nils=>qgE op false
 | some (.interface _),.nili,.nili=>bif cn then qgE op true else none
 | some (.interface _),.iface _ _,.nili=>qgE op false
 | some (.interface _),.nili,.iface _ _=>qgE op false
 | some (.pointer _),.nilp,.nilp=>qgE op true
 | some (.pointer _),.ptr _ _,.nilp=>qgE op false
 | some (.pointer _),.nilp,.ptr _ _=>qgE op false
 | _,_,_=>none
def unV(op:UnOp)(x:V):Option V :=
 match op,x with
 | .not,.bool b=>some (.bool !b)
 | .neg,.int k n=>some (.int k (k.wrap (0 - n)))
 | .xor,.int k n=>QaS .xor k (if k.signed then -1 else k.max) n
 | _,_=>none
section
variable (P:Program)(C:Cfg)
def QbG(t:TypeId):Option Nat:=(P.info? t).map (·.size)
def qyd(t:TypeId):Option Bool:=match P.underlying t with
 | some (.struct _)=>some true
 | some (.array _ _)=>some true
 | some _=>some false
 | none=>none
def zeroV(t:TypeId):Option V:=match P.info? t with
 | some i=>i.zero.map QdT
 | none=>none
def QaB(t:TypeId):Option TypeId:=match P.underlying t with
 | some (.slice e)=>some e
 | _=>none
def Qat(t:TypeId)(i:Nat):Option Field:=match P.underlying t with
 | some (.struct fs)=>fs[i]?
 | _=>none
def Qb1(e:TypeId):Option Nat:=(P.info? e).bind fun i=>match i.zero with
 | some z=>bif Nat.beq i.bytes 0 || !Nat.beq z.cells.size i.size then none else some i.bytes
 | none=>none
def QaR(t:TypeId)(n:Nat):Bool:=match QbG P t with
 | some m=>Nat.beq n m
 | none=>false
def Qax(e:TypeId):Option (Nat × Bool) :=
 match QbG P e,qyd P e with
 | some (n+1),some g=>some (n+1,g)
 | _,_=>none
def QaV(t:TypeId)(cs:List V)(off:Nat):Option V :=
 match Qax P t with
 | some (n,true)=>bif Nat.ble (off+n) cs.length then some (.agg ((cs.drop off).take n))else none
 | some (_,false)=>cs[off]?
 | none=>none
def setAt(cs:List V)(off:Nat)(vs:List V):Option (List V) :=
 bif Nat.ble (off+vs.length) cs.length then some (cs.take off++vs++cs.drop (off+vs.length))else none
def V.unagg:V→V
 | .agg _=>.dead
 | v=>v
def chunk(sz:Nat)(ag:Bool):Nat→List V→List V
 | 0,_=>[]
 | n+1,cs=>(bif ag then V.agg (cs.take sz)else (cs.headD .dead).unagg)::chunk sz ag n (cs.drop sz)
def Qbn(tok:Option Ref)(full:Bool)(sz:Nat)(l:List V)(lo hi:Option Int)(mx:Option Int):Option V :=
 match Qau (hi.getD l.length) l.length with
 | none=>none
 | some h=>match Qau (lo.getD 0) h with
  | none=>none
  | some k=>match mx with
   | none =>
    bif Nat.beq h l.length then
     (bif Nat.beq k 0 then some (.slice tok full sz l)else some (.slice none full sz (l.drop k)))
    else some (.slice none false sz ((l.take h).drop k))
   | some m=>match Qau m l.length,hi with
    | some m,some _=>bif Nat.beq m h then some (.slice none true sz ((l.take h).drop k))else none
    | _,_=>none
def QaK(ρ:Nat→V):Option Operand→Option (Option Int)
 | none=>some none
 | some x=>match opd ρ x with
  | .int _ n=>some (some n)
  | _=>none
def QbK(s:Str)(lo hi:Option Int):Option V :=
 match Qau (hi.getD s.n) s.n with
 | none=>none
 | some h=>match Qau (lo.getD 0) h with
  | none=>none
  | some k=>some (.str (s.cut k h))
def Qbo(r:Ref)(off len:Nat)(lim:Option Nat)(sz:Nat)(ag:Bool)(lo hi:Option Int)(mx:Option Int):Option V :=
 match Qau (hi.getD len) len with
 | none=>none
 | some h=>match Qau (lo.getD 0) h with
  | none=>none
  | some k=>match mx with
   | none=>(match lim with
    | none=>bif Nat.beq k h && !Nat.beq k 0 then some (.slice none false sz [])else some (.arr r (off+k*sz) (h - k) none sz ag)
    | some c=>bif Nat.beq k c && !Nat.beq k 0 then some (.slice none true sz [])else some (.arr r (off+k*sz) (h - k) (some (c - k)) sz ag))
   | some m=>match Qau m len,hi with
    | some m,some _=>bif Nat.ble h m then
      (bif Nat.beq k m && !Nat.beq k 0 then some (.slice none true sz [])else some (.arr r (off+k*sz) (h - k) (some (m - k)) sz ag))else none
    | _,_=>none
def Qbd(t:TypeId)(x:V)(lo hi mx:Option Int):Option V :=
 match x with
 | .str s=>match mx,P.underlying t with
  | none,some .string=>QbK s lo hi
  | _,_=>none
 | .nils=>match QaB P t with
  | some e=>(match Qax P e with
   | some _=>(match Qau (hi.getD (0:Nat)) 0,Qau (lo.getD 0) 0,mx with
    | some _,some _,none=>some .nils
    | some _,some _,some m=>(match Qau m 0,hi with
     | some _,some _=>some .nils
     | _,_=>none)
    | _,_,_=>none)
   | none=>none)
  | none=>none
 | .slice tok full sz l=>match QaB P t with
  | some e=>(match Qax P e with
   | some (n,_)=>bif Nat.beq n sz then Qbn tok full sz l lo hi mx else none
   | none=>none)
  | none=>none
 | .arr r off len lim sz ag=>match QaB P t with
  | some e=>(match Qax P e with
   | some (n,_)=>bif Nat.beq n sz then Qbo r off len lim sz ag lo hi mx else none
   | none=>none)
  | none=>none
 | _=>none
def QaM(t:TypeId)(x:V)(i:Int):Option V :=
 match QaB P t with
 | none=>none
 | some e=>match Qax P e with
  | none=>none
  | some (n,_)=>match x with
   | .slice _ _ sz l=>bif Nat.beq n sz then (match Qa1 i l.length with
    | none=>none
    | some k=>match l[k]? with
     | some v=>some (.iptr v.cells)
     | none=>none)else none
   | .arr r off len _ sz _=>bif Nat.beq n sz then
     (match Qa1 i len with
     | none=>none
     | some k=>some (.ptr r (off+k*sz)))
    else none
   | _=>none
def Qcr(s d:TypeId)(x:V):Option V :=
 match P.underlying s,P.underlying d,x with
 | some (.int _),some (.int k),.int _ n=>some (.int k (k.wrap n))
 | some .string,some .string,.str s=>some (.str s)
 | some (.int _),some .string,.int _ n=>some (.str (Str.of (Utf8.encode n)))
 | _,_,_=>none
def V.plain:V→Bool
 | .arr ..=>false
 | .dead=>false
 | v=>v.Qap
def V.weak:V→V
 | .slice _ f sz l=>.slice none f sz l
 | v=>v
def V.QbH:V→V
 | .agg cs=>.agg (cs.map V.weak)
 | v=>v.weak
def V.weak1:V→V
 | .slice (some (.loc _ _)) f sz l=>.slice none f sz l
 | v=>v
def V.QbM:V→V
 | .agg cs=>.agg (cs.map V.weak1)
 | v=>v.weak1
def Qbl(t:TypeId)(ρ:Nat→V):List (Nat × Operand)→List V→Option (List V)
 | [],cs=>some cs
 | (i,x)::l,cs =>
  match Qat P t i with
  | none=>none
  | some f =>
   let v:=(opd ρ x).QbM
   bif v.plain&&(bif Nat.beq v.cells.length ((QbG P f.type).getD 0)then true else false)then
    match setAt cs f.offset v.cells with
    | some cs'=>Qbl t ρ l cs'
    | none=>none
   else none
def Qb8(sz:Nat)(ρ:Nat→V):List (Nat × Operand)→List V→Option (List V)
 | [],l=>some l
 | (i,x)::ps,l =>
  let v:=(opd ρ x).QbH
  bif v.live&&v.Qao&&Nat.beq v.cells.length sz&&Nat.blt i l.length then Qb8 sz ρ ps (l.set i v)else none
def Qam(ρ:Nat→V):Op→Option V
 | .move x=>some (opd ρ x)
 | .assign x=>some (opd ρ x)
 | .pick c a b=>match opd ρ c with
  | .bool true=>some (opd ρ a)
  | .bool false=>some (opd ρ b)
  | _=>none
 | .nilCheck x=>match opd ρ x with
  | .ptr r o=>some (.ptr r o)
  | .iptr cs=>some (.iptr cs)
  | _=>none
 | .binOp op t x y _=>match Qct op (opd ρ x) (opd ρ y)with
  | some v=>some v
  | none=>eqV op (P.underlying t) (isConst x || isConst y) (opd ρ x) (opd ρ y)
 | .unOp op _ x=>unV op (opd ρ x)
 | .convert s d x=>Qcr P s d (opd ρ x)
 | .slice t x lo hi mx=>match QaK ρ lo,QaK ρ hi,QaK ρ mx with
  | some lo,some hi,some mx=>Qbd P t (opd ρ x) lo hi mx
  | _,_,_=>none
 | .fieldAddr t x i=>match Qat P t i with
  | none=>none
  | some f=>match Qax P f.type with
   | none=>none
   | some _=>match opd ρ x with
    | .ptr r off=>some (.ptr r (off+f.offset))
    | .iptr cs=>some (.iptr (cs.drop f.offset))
    | _=>none
 | .field t x i=>match Qat P t i,opd ρ x with
  | some f,.agg cs=>QaV P f.type cs f.offset
  | _,_=>none
 | .indexAddr t x i=>match opd ρ i with
  | .int _ n=>QaM P t (opd ρ x) n
  | _=>none
 | .index t x i=>match opd ρ x,opd ρ i,P.underlying t with
  | .str s,.int _ n,some .string=>(match Qa1 n s.n with
   | none=>none
   | some k=>some (.int .u8 (.ofNat (s.get k))))
  | _,_,_=>none
 | .extract x i=>match opd ρ x with
  | .tuple vs=>vs[i]?
  | _=>none
 | .makeFunc f a b=>some (.fn f ((a.toList).map (opd ρ)) ((b.toList).map (opd ρ)))
 | .makeInterface t x=>match P.underlying t with
  | some (.interface _)=>none
  | some _=>some (.iface t (opd ρ x))
  | none=>none
 | .build t ps=>match P.underlying t,zeroV P t with
  | some (.struct fs),some z=>bif z.live&&fs.all (fun f=>(P.info? f.type).isSome)then (Qbl P t ρ ps.toList z.cells).map .agg else none
  | _,_=>none
 | .buildSlice t len ps=>match QaB P t with
  | none=>none
  | some e=>match Qax P e,zeroV P e with
   | some (n,_),some z =>
    bif !C.QaN t&&Nat.ble (len*n) 16777216&&z.Qao&&z.live&&Nat.beq z.cells.length n then
     (Qb8 n ρ ps.toList (List.replicate len z)).map (.slice none true n)
    else none
   | _,_=>none
 | .call c=>match c.callee,c.args.toList with
  | .builtin .len,[x]=>(match c.argTypes[0]? with
   | none=>none
   | some t=>match opd ρ x,P.underlying t with
    | .nils,some (.slice _)=>some (.int .i64 0)
    | .slice _ _ _ l,some (.slice _)=>some (.int .i64 l.length)
    | .arr _ _ n _ _ _,some (.slice _)=>some (.int .i64 n)
    | .str s,some .string=>some (.int .i64 s.n)
    | _,_=>none)
  | .builtin .min,[x,y]=>(match opd ρ x,opd ρ y with
   | .int k a,.int _ b=>some (.int k (if b<a then b else a))
   | _,_=>none)
  | .builtin .max,[x,y]=>(match opd ρ x,opd ρ y with
   | .int k a,.int _ b=>some (.int k (if b > a then b else a))
   | _,_=>none)
  | _,_=>none
 | _=>none
def Qal(gl:Nat→Bool)(ρ:Nat→V)(lc:Nat→Nat × Row)(o:Oper):Option (V × Option (Nat × Nat × Row)) :=
 match o.op with
 | .load t x=>(match opd ρ x with
  | .ptr (.loc s g) off=>(match lc s with
   | (g',.cells _ cs)=>bif Nat.beq g g' then (QaV P t cs off).map (·,none)else none
   | _=>none)
  | .iptr cs=>(QaV P t cs 0).map (·,none)
  | _=>none)
 | .store t a x=>(match opd ρ a with
  | .ptr (.loc s g) off=>(match lc s with
   | (g',.cells false cs)=>bif Nat.beq g g'&&(opd ρ x).cells.all V.Qaw&&QaR P t (opd ρ x).cells.length then
     (match setAt cs off (opd ρ x).cells with
     | some cs'=>some (.tuple [],some (s,g,.cells false cs'))
     | none=>none)
    else none
   | _=>none)
  | _=>none)
 | .alloc t=>(match o.dst with
  | none=>none
  | some d=>bif gl d then none else match zeroV P t,QbG P t with
   | some z,some n=>bif z.live&&Nat.beq z.cells.length n then
     some (.ptr (.loc d ((lc d).1+1)) 0,some (d,(lc d).1+1,.cells false z.cells))
    else none
   | _,_=>none)
 | .box t x=>bif C.QaN t then (bif (opd ρ x).QbH.live then some (.iptr (opd ρ x).QbH.cells,none)else none)else (match o.dst with
  | none=>none
  | some d=>bif gl d || !(opd ρ x).live then none else
    some (.ptr (.loc d ((lc d).1+1)) 0,some (d,(lc d).1+1,.cells false (opd ρ x).cells)))
 | .range t x=>(match P.underlying t,opd ρ x,o.dst with
  | some .string,.str s,some d=>bif gl d then none else
    some (.ptr (.loc d ((lc d).1+1)) 0,some (d,(lc d).1+1,.iter s 0))
  | _,_,_=>none)
 | op=>(Qam P C ρ op).map (·,none)
def Qa4(st:St)(u:Option (Nat × Nat × Row)):St:=match u with
 | none=>st
 | some (s,g,row)=>{ st with loc:=aset st.loc s (g,row) }
def Qag(st:St):V→Option (List V)
 | .nils=>some []
 | .slice _ _ _ l=>some l
 | .arr r off len _ sz ag=>match Qab st r with
  | some (.cells _ cs)=>bif Nat.ble (off+len*sz) cs.length&&(ag || Nat.beq sz 1)then some (chunk sz ag len (cs.drop off))else none
  | _=>none
 | .str s=>some ((bl s.n s.v).map fun b=>.int .u8 b.toNat)
 | _=>none
def freeze(st:St):V→Option (V × St)
 | .arr r off len lim sz ag=>match Qab st r with
  | some (.cells _ cs)=>match Qag st (.arr r off len lim sz ag)with
   | some l=>bif V.Qaf l then some (.slice none false sz l,setRow st r (.cells true cs))else none
   | none=>none
  | _=>none
 | _=>none
def Qa3:Ref→Bool
 | .loc _ _=>true
 | .glob _=>false
def exp1(fz:Bool)(st:St)(v:V):Option (V × St) :=
 match v with
 | .arr r off len lim sz ag=>bif fz || Qa3 r then freeze st (.arr r off len lim sz ag)else some (.arr r off len lim sz ag,st)
 | .slice tok f sz l=>match tok with
  | some (.glob r)=>bif fz then some (.slice none f sz l,st)else some (.slice (some (.glob r)) f sz l,st)
  | _=>some (.slice none f sz l,st)
 | v=>bif v.live&&v.Qap then some (v,st)else none
def Qcm(fz:Bool):St→List V→Option (List V × St)
 | st,[]=>some ([],st)
 | st,v::l=>match exp1 fz st v with
  | none=>none
  | some (v',st')=>match Qcm fz st' l with
   | none=>none
   | some (l',st'')=>some (v'::l',st'')
def exp(fz:Bool)(st:St)(v:V):Option (V × St) :=
 match v with
 | .agg cs=>(Qcm fz st cs).map fun(l,st)=>(.agg l,st)
 | v=>exp1 fz st v
def exps(fz:Bool):St→List V→Option (List V × St)
 | st,[]=>some ([],st)
 | st,v::l=>match exp fz st v with
  | none=>none
  | some (v',st')=>match exps fz st' l with
   | none=>none
   | some (l',st'')=>some (v'::l',st'')
inductive Res where
 | val (v:V) (st:St)
 | enter (f:FuncId) (args:List V) (st:St)
 | panic (v:V) (st:St)
def flat(l:List V):List V:=l.flatMap V.cells
def Qay(gl:Nat→Bool)(st:St)(d:Nat)(cs:List V)(len sz:Nat)(ag:Bool):Option Res :=
 bif gl d && !V.Qak cs then none else
 let (r,st'):=Qaa st (gl d) d (.cells false cs)
 some (.val (.arr r 0 len none sz ag) st')
def QaG(gl:Nat→Bool)(st:St)(d:Nat)(sz:Nat)(l:List V):Option Res :=
 let (r,st'):=Qaa st (gl d) d .tok
 some (.val (.slice (some r) false sz l) st')
def Qaj:Nat:=70368744177664
def Qai(gl:Nat→Bool)(st:St)(d:Nat)(t:TypeId)(x y:V):Option Res :=
 match QaB P t with
 | none=>none
 | some e=>match Qax P e,Qb1 P e,Qag st y with
  | some (sz,ag),some bytes,some ys =>
   bif ys.all (fun v=>Nat.beq v.cells.length sz&&v.cells.all V.Qaw)then
    match x with
    | .nils=>(match ys with
     | []=>some (.val .nils st)
     | _=>bif Nat.ble (ys.length*bytes) Qaj then
       (bif C.QaN t then Qay gl st d (flat ys) ys.length sz ag
        else bif V.Qaf ys then QaG gl st d sz ys else none)
      else none)
    | .slice tok full sz' l=>bif Nat.beq sz sz' then
     (match ys with
     | []=>some (.val (.slice tok full sz' l) st)
     | _=>bif Nat.ble ((l.length+ys.length)*bytes) Qaj then
       (bif C.QaN t then
        (bif full then Qay gl st d (flat (l++ys)) (l.length+ys.length) sz ag else none)
        else bif V.Qaf ys then
        (bif full then QaG gl st d sz (l++ys)else
         match tok with
         | some r=>(match Qab st r with
          | some .tok=>QaG gl (setRow st r .gone) d sz (l++ys)
          | _=>none)
         | none=>none)
        else none)
      else none)else none
    | .arr r off len lim sz' ag' =>
     bif Nat.beq sz sz'&&(ag == ag')then
      (match Qab st r with
      | some (.cells frz cs) =>
       bif Nat.ble (off+len*sz) cs.length&&Nat.ble ((len+ys.length)*bytes) Qaj then
        (match ys with
        | []=>some (.val (.arr r off len lim sz' ag') st)
        | _=>bif !Qa3 r && !V.Qak (flat ys)then none else
         (match lim with
         | some c =>
          bif Nat.ble (len+ys.length) c then
           (bif frz then none else match setAt cs (off+len*sz) (flat ys)with
           | some cs'=>some (.val (.arr r off (len+ys.length) lim sz' ag') (setRow st r (.cells false cs')))
           | none=>none)
          else Qay gl st d (((cs.drop off).take (len*sz))++flat ys) (len+ys.length) sz ag
         | none =>
          bif frz then none else
          bif Nat.ble (off+(len+ys.length)*sz) cs.length then
           (match setAt cs (off+len*sz) (flat ys)with
           | some cs'=>some (.val (.arr r off (len+ys.length) lim sz' ag') (setRow st r (.cells false cs')))
           | none=>none)
          else bif Nat.beq off 0&&Nat.beq (len*sz) cs.length then
           Qay gl (setRow st r .gone) d (cs++flat ys) (len+ys.length) sz ag
          else none))
       else none
      | _=>none)
     else none
    | _=>none
   else none
  | _,_,_=>none
def QbZ(gl:Nat→Bool)(st:St)(d:Nat)(t:TypeId)(len cap:V):Option Res :=
 match QaB P t,len,cap with
 | some e,.int _ (.ofNat n),.int _ (.ofNat c) =>
  (match Qax P e,(P.info? e).map (·.bytes),zeroV P e with
  | some (sz,ag),some bytes,some z =>
   bif Nat.ble n c&&Nat.ble (c*bytes) Qaj&&Nat.ble c Qaj&&Nat.beq z.cells.length sz&&z.live then
    let (r,st'):=Qaa st (gl d) d (.cells false (flat (List.replicate c z)))
    some (.val (.arr r 0 n (some c) sz ag) st')
   else none
  | _,_,_=>none)
 | _,_,_=>none
def copyV(st:St)(t:TypeId)(x y:V):Option Res :=
 match QaB P t with
 | none=>none
 | some e=>match Qax P e,Qag st y,x with
  | some (sz,_),some ys,.arr r off len _ sz' _ =>
   bif Nat.beq sz sz'&&(Qa3 r || V.Qak (flat ys))&&ys.all (fun v=>Nat.beq v.cells.length sz&&v.cells.all V.Qaw)then
    (match Qab st r with
    | some (.cells false cs) =>
     (match setAt cs off (flat (ys.take len))with
     | some cs'=>bif Nat.ble (off+len*sz) cs.length then
       some (.val (.int .i64 (min ys.length len:Nat)) (setRow st r (.cells false cs')))
      else none
     | none=>none)
    | _=>none)
   else none
  | _,_,_=>none
def Qbi(st:St)(t:TypeId)(x:V):Option Res :=
 match QaB P t with
 | none=>none
 | some e=>match Qax P e,zeroV P e,x with
  | some (sz,_),some z,.arr r off len _ sz' _ =>
   bif Nat.beq sz sz'&&Nat.blt 0 len&&z.live&&Nat.beq z.cells.length sz&&z.cells.all V.Qaw&&(Qa3 r || z.Qap)then
    (match Qab st r with
    | some (.cells false cs) =>
     (match setAt cs off (flat (List.replicate len z))with
     | some cs'=>some (.val (.tuple []) (setRow st r (.cells false cs')))
     | none=>none)
    | _=>none)
   else none
  | _,_,_=>none
def bytesOf:List V→Option (List UInt8)
 | []=>some []
 | .int .u8 n::l=>(bytesOf l).map (UInt8.ofNat n.toNat :: ·)
 | _=>none
def QbS(gl:Nat→Bool)(st:St)(d:Nat)(s t:TypeId)(x:V):Option Res :=
 match P.underlying s,P.underlying t with
 | some (.slice e),some .string =>
  (match P.underlying e with
  | some (.int .u8)=>(match Qag st x with
   | some l=>(match x with
    | .str _=>none
    | _=>(bytesOf l).map fun b=>.val (.str (Str.ofL b)) st)
   | none=>none)
  | _=>none)
 | some .string,some (.slice e) =>
  (match P.underlying e,x with
  | some (.int .u8),.str s=>bif C.QaN t&&Nat.ble s.n Qaj then
    let (r,st'):=Qaa st (gl d) d (.cells false ((bl s.n s.v).map fun b=>.int .u8 b.toNat))
    some (.val (.arr r 0 s.n none 1 false) st')
   else none
  | _,_=>none)
 | _,_=>none
def Qbv(t:Option TypeId):Bool:=match t.bind P.underlying with
 | some (.slice _)=>true
 | some .string=>true
 | _=>false
def opds(ρ:Nat→V)(l:List Operand):List V:=l.map (opd ρ)
def QaP(gl:Nat→Bool)(st:St)(dst:Option Nat)(c:Call):Option Res :=
 let args:=opds st.ρ c.args.toList
 match c.callee with
 | .value f=>(match opd st.ρ f with
  | .fn (.func g) first caps=>(match exps false st (first++args++caps)with
   | some (l,st')=>some (.enter g l st')
   | none=>none)
  | _=>none)
 | .builtin b=>(match c.argTypes[0]?,dst with
  | some t,some d=>(match b,args with
   | .append,[x,y]=>bif Qbv P c.argTypes[1]? then Qai P C gl st d t x y else none
   | .copy,[x,y]=>copyV P st t x y
   | _,_=>none)
  | some t,none=>(match b,args with
   | .copy,[x,y]=>copyV P st t x y
   | .clear,[x]=>Qbi P st t x
   | _,_=>none)
  | _,_=>none)
 | .invoke _ _=>none
def Qb0(sz:Nat):List Nat→List V→List V→Option (List V)
 | [],[],l=>some l
 | i::is,v::vs,l=>bif Nat.beq v.cells.length sz&&Nat.blt i l.length then Qb0 sz is vs (l.set i v)else none
 | _,_,_=>none
def Qbc(kt:TypeId)(k:V):Bool:=match P.underlying kt,k with
 | some (.int _),.int _ _=>true
 | some .string,.str _=>true
 | some .bool,.bool _=>true
 | _,_=>false
def Qcj:V→V→Option Bool
 | .int k a,.int k' b=>if k=k' then some (a == b)else none
 | .str a,.str b=>some (a.same b)
 | .bool a,.bool b=>some (a == b)
 | _,_=>none
def Qb3(k:V):List V→Nat→Option (Option Nat)
 | [],_=>some none
 | x::l,i=>match Qcj k x with
  | some true=>some (some i)
  | some false=>Qb3 k l (i+1)
  | none=>none
def Qcl(t:TypeId)(h:Hp)(x k:V)(ok:Bool):Option V:=match x with
 | .mref (.glob r)=>(match h.rows[r]?,P.underlying t with
  | some (.mp ks vs),some (.map kt et)=>bif Qbc P kt k then (match Qb3 k ks 0 with
    | some (some j)=>(match vs[j]? with
     | some v=>some (bif ok then .tuple [v,.bool true]else v)
     | none=>none)
    | some none=>(match zeroV P et with
     | some z=>some (bif ok then .tuple [z,.bool false]else z)
     | none=>none)
    | none=>none)else none
  | _,_=>none)
 | _=>none
def Qcu(t:TypeId)(st:St)(x k v:V):Option Res:=match x,exp false st v with
 | .mref (.glob r),some (v,st')=>(match st'.hp.rows[r]?,P.underlying t with
  | some (.mp ks vs),some (.map kt _)=>bif Qbc P kt k then (match Qb3 k ks 0 with
    | some (some j)=>some (.val (.tuple []) (setRow st' (.glob r) (.mp (ks.set j k) (vs.set j v))))
    | some none=>some (.val (.tuple []) (setRow st' (.glob r) (.mp (ks++[k]) (vs++[v]))))
    | none=>none)else none
  | _,_=>none)
 | _,_=>none
def stepG(gl:Nat→Bool)(st:St)(o:Oper):Option Res :=
 match o.op with
 | .load t x=>(match opd st.ρ x with
  | .ptr (.glob r) off=>(match st.hp.rows[r]? with
   | some (.cells _ cs)=>(QaV P t cs off).map (.val · st)
   | _=>none)
  | _=>none)
 | .store t a x=>(match opd st.ρ a with
  | .ptr (.glob r) off=>(match st.hp.rows[r]?,exp false st (opd st.ρ x)with
   | some (.cells false _),some (v,st')=>(match st'.hp.rows[r]? with
    | some (.cells false cs)=>bif v.cells.all V.Qaw&&QaR P t v.cells.length then
      (match setAt cs off v.cells with
      | some cs'=>some (.val (.tuple []) (setRow st' (.glob r) (.cells false cs')))
      | none=>none)
     else none
    | _=>none)
   | _,_=>none)
  | _=>none)
 | .alloc t=>(match o.dst with
  | none=>none
  | some d=>match zeroV P t,QbG P t with
   | some z,some n=>bif gl d&&z.live&&Nat.beq z.cells.length n then
     (let (r,st'):=Qaa st true d (.cells false z.cells)
      some (.val (.ptr r 0) st'))
    else none
   | _,_=>none)
 | .box _ x=>(match o.dst with
  | none=>none
  | some d=>match exp false st (opd st.ρ x)with
   | some (v,st')=>bif gl d then
     (let (r,st''):=Qaa st' true d (.cells false v.cells)
      some (.val (.ptr r 0) st''))
    else none
   | none=>none)
 | .build t ps=>(match P.underlying t,zeroV P t,exps true st (opds st.ρ (ps.toList.map (·.2)))with
  | some (.struct fs),some z,some (l,st') =>
   let ρ:Nat→V:=fun i=>l.getD i .dead
   bif !(z.live&&fs.all (fun f=>(P.info? f.type).isSome))then none else
   (match Qbl P t ρ (ps.toList.zipIdx.map fun(p,i)=>(p.1,Operand.tmp i)) z.cells with
   | some cs=>some (.val (.agg cs) st')
   | none=>none)
  | _,_,_=>none)
 | .buildSlice t len ps=>(match QaB P t,o.dst with
  | some e,some d=>(match Qax P e,zeroV P e,exps false st (opds st.ρ (ps.toList.map (·.2)))with
   | some (n,ag),some z,some (l,st') =>
    bif C.QaN t&&Nat.ble (len*n) 16777216&&z.live&&Nat.beq z.cells.length n&&(ag || Nat.beq n 1)then
     (match Qb0 n (ps.toList.map (·.1)) l (List.replicate len z)with
     | some items=>(let (r,st''):=Qaa st' (gl d) d (.cells false (flat items))
       some (.val (.arr r 0 len (some len) n ag) st''))
     | none=>none)
    else none
   | _,_,_=>none)
  | _,_=>none)
 | .makeSlice t l c=>(match o.dst with
  | some d=>QbZ P gl st d t (opd st.ρ l) (opd st.ρ c)
  | none=>none)
 | .convert s t x=>(match o.dst with
  | some d=>QbS P C gl st d s t (opd st.ρ x)
  | none=>none)
 | .next x isStr=>(match opd st.ρ x with
  | .ptr r 0=>(match Qab st r,isStr with
   | some (.iter s pos),true =>
    bif Nat.blt pos s.n then
     (let (c,width):=s.rune pos
      some (.val (.tuple [.bool true,.int .i64 pos,.int .i32 c]) (setRow st r (.iter s (pos+width)))))
    else some (.val (.tuple [.bool false]) st)
   | _,_=>none)
  | _=>none)
 | .call c=>QaP P C gl st o.dst c
 | .panic x=>(match opd st.ρ x with
  | .iface t v=>bif v.Qap then some (.panic (.iface t v) st)else none
  | _=>none)
 | .makeMap _ none=>(match o.dst with
  | some d=>(let (r,st'):=Qaa st true d (.mp [] [])
    some (.val (.mref r) st'))
  | none=>none)
 | .lookup t x i ok=>(Qcl P t st.hp (opd st.ρ x) (opd st.ρ i) ok).map (.val · st)
 | .mapUpdate t m k x=>Qcu P t st (opd st.ρ m) (opd st.ρ k) (opd st.ρ x)
 | .insert t m k x=>Qcu P t st (opd st.ρ m) (opd st.ρ k) (opd st.ρ x)
 | _=>none
def Qah(gl:Nat→Bool)(st:St)(o:Oper):Option Res :=
 match Qal P C gl st.ρ st.lc o with
 | some (v,u)=>some (.val v (Qa4 st u))
 | none=>stepG P C gl st o
def QaF(st:St)(d:Option Nat)(v:V):St:=match d with
 | some i=>{ st with tm:=aset st.tm i v }
 | none=>st
inductive Ex where
 | normal | exit (id:Nat) | ret | panic (v:V)
def QaD(ops:Array Oper)(o:Oper)(ρ:Nat→V):Option Bool :=
 match o.guard with
 | none=>some true
 | some (j,w)=>match (ops[j]?).bind (·.dst)with
  | none=>none
  | some d=>match ρ d with
   | .bool b=>some (b == w)
   | .dead=>none
   | _=>some false
def QaA(call:Qad)(gl:Nat→Bool)(st:St)(o:Oper):Option (Ex × St) :=
 match Qah P C gl st o with
 | some (.val v st')=>some (.normal,QaF st' o.dst v)
 | some (.enter f args st')=>(match call f args st'.hp with
  | some (.val v h)=>some (.normal,QaF { st' with hp:=h } o.dst v)
  | some (.panic v h)=>some (.panic v,{ st' with hp:=h })
  | none=>none)
 | some (.panic v st')=>some (.panic v,st')
 | none=>none
def opsV(call:Qad)(gl:Nat→Bool)(all:Array Oper):List Oper→St→Option (Ex × St)
 | [],st=>some (.normal,st)
 | o::rest,st=>match QaD all o st.ρ with
  | none=>none
  | some false=>opsV call gl all rest (QaF st o.dst (.tuple []))
  | some true=>match QaA P C call gl st o with
   | some (.normal,st')=>opsV call gl all rest st'
   | r=>r
def Qcd(body:St→Option (Ex × St)):Nat→St→Option (Ex × St)
 | 0,_=>none
 | n+1,st=>match body st with
  | some (.normal,st')=>Qcd body n st'
  | r=>r
structure Foot where
 rd:List Nat
 wr:List Nat
 hr:Bool
 hp:Bool
 ld:Bool
 sf:Bool
def quiet1:V→Bool
 | .arr (.loc _ _) ..=>false
 | .agg _=>false
 | _=>true
def quiet:V→Bool
 | .agg cs=>cs.all quiet1
 | v=>quiet1 v
def Qa7:V→Option (List Nat)
 | .slice none _ _ _=>some []
 | .slice (some (.loc s _)) _ _ _=>some [s]
 | .slice (some (.glob _)) _ _ _=>none
 | .arr (.loc s _) ..=>some [s]
 | .arr (.glob _) ..=>none
 | _=>some []
def Qbg:V→Option (List Nat)
 | .arr (.loc s _) ..=>some [s]
 | .arr (.glob _) ..=>none
 | _=>some []
def Qdy:V→Bool
 | .slice (some (.loc _ _)) _ _ _=>false
 | .arr (.loc _ _) ..=>false
 | _=>true
def Qbf:V→List Nat
 | .arr (.loc s _) ..=>[s]
 | _=>[]
def Qd7:V→Bool
 | .slice ..=>true
 | .nils=>true
 | _=>false
def Qa5(gl:Nat→Bool)(ρ:Nat→V)(dst:Option Nat)(c:Call):Option Foot :=
 match dst,c.args.toList with
 | some d,[x,y]=>bif gl d then (bif Qdy (opd ρ x)then some ⟨Qbf (opd ρ y),[],true,true,false,Qd7 (opd ρ x)⟩else none)else
  (match Qa7 (opd ρ x),Qbg (opd ρ y)with
  | some a,some b=>some ⟨d::(a++b),d::a,false,false,false,false⟩
  | _,_=>none)
 | _,_=>none
def Qbr(d:Option TypeDesc)(x:V):Option Foot:=match d,x with
 | some .string,.arr (.loc s _) _ _ _ _ _=>some ⟨[s],[],false,false,false,false⟩
 | _,_=>none
def Qaz(gl:Nat→Bool)(ρ:Nat→V)(lc:Nat→Nat × Row)(o:Oper):Option Foot :=
 match Qal P C gl ρ lc o with
 | some (_,none)=>(match o.op with
  | .load _ x=>(match opd ρ x with
   | .ptr (.loc s _) _=>some ⟨[s],[],false,false,false,false⟩
   | _=>some ⟨[],[],false,false,false,false⟩)
  | _=>some ⟨[],[],false,false,false,false⟩)
 | some (_,some (s,_,_))=>some ⟨[s],[s],false,false,false,false⟩
 | none=>(match o.op with
  | .call c=>(match c.callee with
   | .value f=>(match opd ρ f with
    | .fn (.func _) first caps=>bif first.all quiet&&(opds ρ c.args.toList).all quiet&&caps.all quiet then some ⟨[],[],true,true,false,false⟩else none
    | _=>none)
   | .builtin .append=>Qa5 gl ρ o.dst c
   | _=>none)
  | .load _ x=>(match opd ρ x with
   | .ptr (.glob _) _=>some ⟨[],[],true,false,true,false⟩
   | _=>none)
  | .store _ a x=>(match opd ρ a with
   | .ptr (.glob _) _=>bif quiet (opd ρ x)then some ⟨[],[],true,true,false,false⟩else none
   | _=>none)
  | .alloc _=>some ⟨[],[],true,true,false,false⟩
  | .box _ x=>bif quiet (opd ρ x)then some ⟨[],[],true,true,false,false⟩else none
  | .panic _=>some ⟨[],[],true,true,false,false⟩
  | .convert _ t x=>Qbr (P.underlying t) (opd ρ x)
  | .makeMap _ _=>some ⟨[],[],true,true,false,false⟩
  | .lookup _ _ _ _=>some ⟨[],[],true,false,false,false⟩
  | .mapUpdate _ _ _ x=>bif quiet (opd ρ x)then some ⟨[],[],true,true,false,false⟩else none
  | .insert _ _ _ x=>bif quiet (opd ρ x)then some ⟨[],[],true,true,false,false⟩else none
  | _=>none)
def settle(h h':Hp)(ft:Foot):Foot:=bif Nat.beq h'.mods h.mods then (bif Nat.beq h'.rows.length h.rows.length then { ft with hp:=false }else { ft with sf:=true })else ft
def QbX(acc:List Nat)(l:List Edge):Nat:=match l with
 | []=>0
 | e::l=>bif Region.binds .any e then (1 <<< e.on) ||| acc.getD e.on 0 ||| QbX acc l else QbX acc l
def masks:List Oper→List Nat→List Nat
 | [],acc=>acc
 | o::l,acc=>masks l (acc++[QbX acc o.after.toList])
abbrev Stop:=Option (Nat × V × Hp)
def behind(ops:List Oper)(k:Nat):Stop→Bool
 | none=>false
 | some (i,_,_)=>Nat.testBit ((masks ops []).getD k 0) i
def Qa6(o:Oper):Bool:=match o.op with
 | .call c=>(match c.callee with
  | .value _=>true
  | _=>false)
 | .panic _=>true
 | _=>false
def Qbh(f:Foot):Option (List Foot × St × Stop)→Option (List Foot × St × Stop)
 | some (fs,s,q)=>some (f::fs,s,q)
 | none=>none
def Qaq(call:Qad)(gl:Nat→Bool)(all:Array Oper):List Oper→Nat→Stop→St→Option (List Foot × St × Stop)
 | [],_,sp,st=>some ([],st,sp)
 | o::rest,k,sp,st =>
  bif behind all.toList k sp then Qbh ⟨[],[],false,false,false,false⟩ (Qaq call gl all rest (k+1) sp (QaF st o.dst (.tuple [])))
  else match QaD all o st.ρ with
  | none=>none
  | some false=>Qbh ⟨[],[],false,false,false,false⟩ (Qaq call gl all rest (k+1) sp (QaF st o.dst (.tuple [])))
  | some true=>(match Qaz P C gl st.ρ st.lc o,QaA P C call gl st o with
   | some ft,some (.normal,st')=>Qbh (settle st.hp st'.hp ft) (Qaq call gl all rest (k+1) sp st')
   | some ft,some (.panic v,st')=>(match sp with
    | none=>bif Qa6 o then Qbh ft (Qaq call gl all rest (k+1) (some (k,v,st'.hp)) (QaF st o.dst (.tuple [])))else none
    | some _=>none)
   | _,_=>none)
def traceless(m:Nat):List Foot→Nat→Bool
 | [],_=>true
 | f::fs,k=>(Nat.testBit m k || f.wr.isEmpty)&&traceless m fs (k+1)
def Qdw:List Oper→St→St
 | [],st=>st
 | o::l,st=>Qdw l (QaF st o.dst .dead)
def disj:List Nat→List Nat→Bool
 | [],_=>true
 | s::l,m=>m.all (fun t=>!Nat.beq s t)&&disj l m
def indep(a b:Foot):Bool:=!(a.hp&&(b.hr || b.hp)) && !(a.hr&&b.hp && !(a.ld&&b.sf))&&disj a.wr b.rd&&disj a.wr b.wr&&disj a.rd b.wr
def QaL(fs:List Foot):List (Nat × Nat)→Bool
 | []=>true
 | (i,j)::l=>(match fs[i]?,fs[j]? with
  | some a,some b=>indep a b
  | _,_=>false)&&QaL fs l
def Foot.far(f:Foot)(o:Oper):Bool:=f.hr&&(match o.op with
 | .call c=>(match c.callee with
  | .value _=>false
  | _=>true)
 | .panic _=>false
 | _=>true)
def Qbx:List Foot→List Oper→Bool
 | f::fs,o::os=>f.far o || Qbx fs os
 | _,_=>false
def qm0(P1 P2:List (Nat × Nat))(ops:List Oper)(st:St)(fs:List Foot)(st':St):Stop→Option (Ex × St)
 | none=>bif QaL fs P1&&(!Qbx fs ops || QaL fs P2)then some (.normal,st')else none
 | some (i,v,h)=>bif QaL fs P1&&(!Qbx fs ops || QaL fs P2)&&traceless ((masks ops []).getD i 0) fs 0 then
   some (.panic v,{ tm:=(Qdw ops st).tm,loc:=st'.loc,hp:=h })else none
def qbN(call:Qad)(f:FuncId)(id:Nat)(ops:Array Oper)(draw:Bool)(st:St):Option (Ex × St) :=
 match draw with
 | false=>opsV P C call (C.glob f) ops ops.toList st
 | true=>(match Qaq P C call (C.glob f) ops ops.toList 0 none st with
  | some (fs,st',sp)=>qm0 (C.pairs f id) (C.QaU f id) ops.toList st fs st' sp
  | none=>none)
def QaW(call:Qad)(f:FuncId)(fuel:Nat):Code→St→Option (Ex × St)
 | .skip,st=>some (.normal,st)
 | .region id ops draw,st=>qbN P C call f id ops draw st
 | .seq a b,st=>match QaW call f fuel a st with
  | some (.normal,st')=>QaW call f fuel b st'
  | r=>r
 | .cond c a b,st=>match opd st.ρ c with
  | .bool true=>QaW call f fuel a st
  | .bool false=>QaW call f fuel b st
  | _=>none
 | .block id b,st=>match QaW call f fuel b st with
  | some (.exit i,st')=>bif Nat.beq i id then some (.normal,st')else some (.exit i,st')
  | r=>r
 | .loop b,st=>Qcd (QaW call f fuel b) fuel st
 | .exit i,st=>some (.exit i,st)
 | .ret,st=>some (.ret,st)
 | _,_=>none
def Qbj(st:St):List ResultVar→Option (List V)
 | []=>some []
 | .tmp t::l=>(Qbj st l).map (st.ρ t :: ·)
 | .cell a t::l=>match st.ρ a with
  | .ptr r off=>(match Qab st r with
   | some (.cells _ cs)=>(match QaV P t cs off,Qbj st l with
    | some v,some vs=>some (v::vs)
    | _,_=>none)
   | _=>none)
  | _=>none
def Qa0:Nat→List V→Tr V→Tr V
 | _,[],t=>t
 | k,v::l,t=>Qa0 (k+1) l (aset t k v)
def QaE(args:List V):Tr V:=Qa0 0 args .lf
def QaX(h h':Hp):Bool:=match h'.dirty with
 | none=>true
 | some d=>Nat.ble h.rows.length d
def Qar(h h':Hp)(l:List V):Hp :=
 bif QaX h h' then (bif V.Qaf l then h else { rows:=h'.rows,dirty:=h.dirty,mods:=h.mods })
 else { rows:=h'.rows,dirty:=match h.dirty,h'.dirty with
  | none,d=>d
  | some d,none=>some d
  | some d,some d'=>some (min d d'),mods:=h'.mods }
def qlA(call:Qad)(fuel:Nat)(f:FuncId)(args:List V)(h:Hp):Option Out :=
 match C.use f,P.funcs[f]? with
 | false,_=>none
 | _,none=>none
 | true,some fn=>match fn.body with
  | none=>none
  | some c=>match QaW P C call f fuel c { tm:=QaE args,loc:=.lf,hp:={ h with dirty:=none } }with
   | some (.normal,st) | some (.ret,st)=>(match Qbj P st fn.results.toList with
    | none=>none
    | some l=>match exps false st l with
     | none=>none
     | some (l,st')=>match l with
      | [v]=>some (.val v (Qar h st'.hp [v]))
      | vs=>some (.val (.tuple vs) (Qar h st'.hp vs)))
   | some (.panic v,st)=>some (.panic v (Qar h st.hp [v]))
   | _=>none
abbrev Kn:=FuncId→Option (Qad→List V→Hp→Option Out)
def qlD(K:Kn)(call:Qad)(fuel:Nat)(f:FuncId)(args:List V)(h:Hp):Option Out :=
 match K f with
 | some k=>k call args h
 | none=>qlA P C call fuel f args h
def fnV(K:Kn):Nat→Qad
 | 0,_,_,_=>none
 | n+1,f,args,h=>qlD P C K (fnV K n) n f args h
end
class Laid where
 env:Nat→IntKind × Int
 cells:Nat→Nat→Option Value
structure Ctx where
 gl:Nat→Option Nat
 lc:Nat→Nat→Option Nat
 shut:Nat→Nat→Option Value
 ext:Nat→Option Nat
 text:Ref→Option Nat
def Ctx.blk(c:Ctx):Ref→Option Nat
 | .glob r=>c.gl r
 | .loc s g=>c.lc s g
structure Ctx.le(c c':Ctx):Prop where
 gl:∀ r b,c.gl r=some b→c'.gl r=some b
 lc:∀ s g b,c.lc s g=some b→c'.lc s g=some b
 shut:∀ b o x,c.shut b o=some x→c'.shut b o=some x
 ext:∀ b n,c.ext b=some n→c'.ext b=some n
 text:∀ r n,c.text r=some n→c'.text r=some n
theorem Ctx.le.refl(c:Ctx):c.le c:=⟨fun _ _ h=>h,fun _ _ _ h=>h,fun _ _ _ h=>h,fun _ _ h=>h,fun _ _ h=>h⟩
theorem Ctx.le.trans{a b c:Ctx}(h:a.le b)(k:b.le c):a.le c :=
 ⟨fun _ _ x=>k.gl _ _ (h.gl _ _ x),fun _ _ _ x=>k.lc _ _ _ (h.lc _ _ _ x),fun _ _ _ x=>k.shut _ _ _ (h.shut _ _ _ x),fun _ _ x=>k.ext _ _ (h.ext _ _ x),fun _ _ x=>k.text _ _ (h.text _ _ x)⟩
theorem Ctx.le.blk{c c':Ctx}(h:c.le c'){r:Ref}{b:Nat}(hb:c.blk r=some b):c'.blk r=some b:=by
 cases r with
 | loc s g=>exact h.lc _ _ _ hb
 | glob r=>exact h.gl _ _ hb
inductive Rel[Laid](c:Ctx):V→Value→Prop
 | dead (x:Value):Rel c .dead x
 | int (k:IntKind) (n:Int):Rel c (.int k n) (.int k n)
 | bool (b:Bool):Rel c (.bool b) (.bool b)
 | str (s:Str):Rel c (.str s) (.string s.bytes)
 | nilp:Rel c .nilp (.pointer none)
 | ptr (r:Ref) (off b:Nat) (hb:c.blk r=some b):Rel c (.ptr r off) (.pointer (some ⟨b,off,none⟩))
 | iptr (cs:List V) (b off:Nat) (xs:List Value) (hl:xs.length=cs.length)
   (hs:∀ i x,xs[i]? = some x→c.shut b (off+i)=some x)
   (hr:∀ (i:Nat) v x,cs[i]? = some v→xs[i]? = some x→Rel c v x):Rel c (.iptr cs) (.pointer (some ⟨b,off,none⟩))
 | nils:Rel c .nils (.slice none 0 0)
 | slice (tok:Option Ref) (full:Bool) (sz:Nat) (l:List V) (b off cap:Nat) (xs:List Value)
   (hsz:∀ v ∈ l,v.cells.length=sz) (hl:xs.length=(flat l).length)
   (hs:∀ i x,xs[i]? = some x→c.shut b (off+i)=some x)
   (hr:∀ (i:Nat) v x,(flat l)[i]? = some v→xs[i]? = some x→Rel c v x)
   (hn:V.Qaf (flat l)=true) (hc:l.length≤cap) (hf:full=true→cap=l.length)
   (ht:∀ r,tok=some r→c.blk r=some b∧off=0∧0<sz∧c.ext b=some (cap*sz)∧c.text r=some (l.length*sz)) :
   Rel c (.slice tok full sz l) (.slice (some ⟨b,off,none⟩) l.length cap)
 | arr (r:Ref) (off len:Nat) (lim:Option Nat) (sz:Nat) (ag:Bool) (b cap n:Nat) (hb:c.blk r=some b) (hc:len≤cap)
   (he:c.ext b=some n) (hz:0<sz) (hk:∀ k,lim=some k→cap=k∧off+k*sz≤n)
   (hu:lim=none→off+cap*sz=n) :
   Rel c (.arr r off len lim sz ag) (.slice (some ⟨b,off,none⟩) len cap)
 | fn (f:Fn) (a b:List V) (xa xb:Array Value) (ha:xa.size=a.length) (hb:xb.size=b.length)
   (hra:∀ (i:Nat) v x,a[i]? = some v→xa[i]? = some x→Rel c v x)
   (hrb:∀ (i:Nat) v x,b[i]? = some v→xb[i]? = some x→Rel c v x):Rel c (.fn f a b) (.func f xa xb)
 | nilf:Rel c .nilf .nilFunc
 | iface (t:Nat) (v:V) (x:Value) (h:Rel c v x):Rel c (.iface t v) (.iface t x)
 | nili:Rel c .nili .nilIface
 | agg (cs:List V) (xs:Array Value) (hl:xs.size=cs.length)
   (hr:∀ (i:Nat) v x,cs[i]? = some v→xs[i]? = some x→Rel c v x):Rel c (.agg cs) (.agg xs)
 | tuple (cs:List V) (xs:Array Value) (hl:xs.size=cs.length)
   (hr:∀ (i:Nat) v x,cs[i]? = some v→xs[i]? = some x→Rel c v x):Rel c (.tuple cs) (.tuple xs)
 | sym (i:Nat):Rel c (.sym i) (.int (Laid.env i).1 (Laid.env i).2)
 | mref (r:Ref) (b:Nat) (hb:c.blk r=some b):Rel c (.mref r) (.map (some b))
 | nilm:Rel c .nilm (.map none)
theorem Rel.str'[Laid]{c:Ctx}(s:ByteArray):Rel c (.str (Str.of s)) (.string s):=by
 have:=Rel.str (c:=c) (Str.of s)
 rwa [Str.Qd3]at this
theorem Rel.strL[Laid]{c:Ctx}(l:List UInt8):Rel c (.str (Str.ofL l)) (.string ⟨l.toArray⟩):=by
 have:=Rel.str (c:=c) (Str.ofL l)
 rwa [Str.QdP]at this
theorem Rel.mono[Laid]{c c':Ctx}(h:c.le c'){v:V}{x:Value}(r:Rel c v x):Rel c' v x:=by
 induction r with
 | dead x=>exact .dead x
 | int k n=>exact .int k n
 | bool b=>exact .bool b
 | str s=>exact .str s
 | nilp=>exact .nilp
 | ptr r off b hb=>exact .ptr r off b (h.blk hb)
 | iptr cs b off xs hl hs hr ih=>exact .iptr cs b off xs hl (fun i x hx=>h.shut _ _ _ (hs i x hx)) ih
 | nils=>exact .nils
 | slice tok full sz l b off cap xs hsz hl hs hr hn hc hf ht ih =>
  exact .slice tok full sz l b off cap xs hsz hl (fun i x hx=>h.shut _ _ _ (hs i x hx)) ih hn hc hf
   (fun r hr=>⟨h.blk (ht r hr).1,(ht r hr).2.1,(ht r hr).2.2.1,h.ext _ _ (ht r hr).2.2.2.1,h.text _ _ (ht r hr).2.2.2.2⟩)
 | arr r off len lim sz ag b cap n hb hc he hz hk hu=>exact .arr r off len lim sz ag b cap n (h.blk hb) hc (h.ext _ _ he) hz hk hu
 | fn f a b xa xb ha hb hra hrb iha ihb=>exact .fn f a b xa xb ha hb iha ihb
 | nilf=>exact .nilf
 | iface t v x hx ih=>exact .iface t v x ih
 | nili=>exact .nili
 | agg cs xs hl hr ih=>exact .agg cs xs hl ih
 | tuple cs xs hl hr ih=>exact .tuple cs xs hl ih
 | sym i=>exact .sym i
 | mref r b hb=>exact .mref r b (h.blk hb)
 | nilm=>exact .nilm
def QaC[Laid](c:Ctx)(vs:List V)(xs:List Value):Prop :=
 xs.length=vs.length∧∀ (i:Nat) v x,vs[i]? = some v→xs[i]? = some x→Rel c v x
theorem QaC.mono[Laid]{c c':Ctx}(h:c.le c'){v:List V}{x:List Value}(r:QaC c v x):QaC c' v x :=
 ⟨r.1,fun i v x a b=>(r.2 i v x a b).mono h⟩
theorem QaC.nil[Laid](c:Ctx):QaC c [] []:=⟨rfl,fun i v x a _=>by simp at a⟩
theorem QaC.cons [Laid] {c:Ctx} {v:V} {x:Value} {vs:List V} {xs:List Value} (h:Rel c v x) (hs:QaC c vs xs):QaC c (v::vs) (x::xs):=by
 refine ⟨by simp [hs.1],fun i v' x' a b=>?_⟩
 cases i with
 | zero=>simp at a b;subst a;subst b;exact h
 | succ i=>simp at a b;exact hs.2 i v' x' a b
theorem QaC.head [Laid] {c:Ctx} {v:V} {x:Value} {vs:List V} {xs:List Value} (h:QaC c (v::vs) (x::xs)):Rel c v x :=
 h.2 0 v x rfl rfl
theorem QaC.tail [Laid] {c:Ctx} {v:V} {x:Value} {vs:List V} {xs:List Value} (h:QaC c (v::vs) (x::xs)):QaC c vs xs :=
 ⟨by have:=h.1;simp at this;exact this,fun i v' x' a b=>h.2 (i+1) v' x' (by simpa using a) (by simpa using b)⟩
theorem QaC.append[Laid]{c:Ctx}{vs us:List V}{xs ys:List Value}(h:QaC c vs xs)(k:QaC c us ys):QaC c (vs++us) (xs++ys):=by
 refine⟨by simp[h.1,k.1],fun i v x a b=>?_⟩
 by_cases hi:i<vs.length
 ·rw[List.getElem?_append_left hi]at a
  rw[List.getElem?_append_left (by rw[h.1];exact hi)]at b
  exact h.2 i v x a b
 ·rw[List.getElem?_append_right (by omega)]at a
  rw[List.getElem?_append_right (by rw[h.1];omega),h.1]at b
  exact k.2 _ v x a b
theorem QaC.take[Laid]{c:Ctx}{vs:List V}{xs:List Value}(h:QaC c vs xs)(n:Nat):QaC c (vs.take n) (xs.take n):=by
 refine⟨by simp[h.1],fun i v x a b=>?_⟩
 rw[List.getElem?_take]at a b
 split at a
 ·rename_i hi;rw[if_pos hi]at b;exact h.2 i v x a b
 ·simp at a
theorem QaC.drop[Laid]{c:Ctx}{vs:List V}{xs:List Value}(h:QaC c vs xs)(n:Nat):QaC c (vs.drop n) (xs.drop n):=by
 refine⟨by simp[h.1],fun i v x a b=>?_⟩
 rw[List.getElem?_drop]at a b
 exact h.2 _ v x a b
theorem QaC.get[Laid]{c:Ctx}{vs:List V}{xs:List Value}(h:QaC c vs xs){i:Nat}{v:V}(hv:vs[i]? = some v):∃ x,xs[i]? = some x∧Rel c v x:=by
 have hi:i<vs.length:=by
  rcases Nat.lt_or_ge i vs.length with h' | h'
  ·exact h'
  ·simp[List.getElem?_eq_none h']at hv
 have:xs[i]? = some (xs[i]'(by rw[h.1];exact hi)):=List.getElem?_eq_getElem _
 exact⟨_,this,h.2 i v _ hv this⟩
theorem QaC.set[Laid]{c:Ctx}{vs:List V}{xs:List Value}(h:QaC c vs xs)(n:Nat){v:V}{x:Value}(hv:Rel c v x):QaC c (vs.set n v) (xs.set n x):=by
 refine⟨by simp[h.1],fun i v' x' a b=>?_⟩
 rw[List.getElem?_set]at a b
 split at a
 ·rename_i hi
  subst hi
  rw[if_pos rfl]at b
  split at a
  ·rw[if_pos (by rw[h.1];assumption)]at b
   simp at a b;subst a;subst b;exact hv
  ·simp at a
 ·rename_i hi
  rw[if_neg hi]at b
  exact h.2 i v' x' a b
theorem Rel.cells [Laid] {c:Ctx} {v:V} {x:Value} (h:Rel c v x) (hl:v.live=true):QaC c v.cells x.cells.toList:=by
 cases h with
 | dead x=>simp [V.live] at hl
 | agg cs xs hl' hr=>exact ⟨by simpa [Value.cells,V.cells] using hl',fun i v x a b=>hr i v x (by simpa [V.cells] using a) (by simpa [Value.cells] using b)⟩
 | _=>exact QaC.cons (by constructor<;>assumption) (QaC.nil c)
theorem Rel.oneCell[Laid]{c:Ctx}{v:V}{x:Value}(h:Rel c v x)(hl:v.Qaw=true):∀ y,x≠.agg y∧x≠.tuple y:=by
 intro y
 cases h<;>simp[V.Qaw]at hl<;>simp
theorem qmk[Laid](c:Ctx)(x:Value):Rel c (qwY x) x:=by
 unfold qwY
 split<;>first | exact .dead _ | exact .bool _ | exact .int _ _ | exact .str' _ | exact .nilp | exact .nils | exact .nilf | exact .nili | exact .nilm
theorem qeS[Laid](c:Ctx)(x:Value):Rel c (QdT x) x:=by
 unfold QdT
 split
 ·refine .agg _ _ (by simp) (fun i v x a b=>?_)
  simp only[List.getElem?_map,Array.getElem?_toList]at a
  rw[b]at a
  simp at a
  subst a
  exact qmk c x
 ·exact qmk c _
def Qcs[Laid](c:Ctx)(w:World)(r:Ref):Row→Prop
 | .gone=>True
 | .cells frz cs=>∃ b xs e fz,c.blk r=some b∧w.heap[b]? = some (.cells xs e fz) ∧
   (∀ o,o<xs.size→¬(fz.1≤o∧o<fz.2))∧c.ext b=some xs.size∧cs.length≤xs.size ∧
   QaC c cs (xs.toList.take cs.length)∧(frz=false→∀ o,c.shut b o=none)∧(frz=true→∀ o x,(xs.toList.take cs.length)[o]? = some x→c.shut b o=some x)
 | .tok=>∃ b xs e fz n,c.blk r=some b∧w.heap[b]? = some (.cells xs e fz) ∧
   (∀ o,o<xs.size→¬(fz.1≤o∧o<fz.2))∧c.ext b=some xs.size∧c.text r=some n∧n≤xs.size∧(∀ o,n≤o→c.shut b o=none)
 | .iter s pos=>∃ b,c.blk r=some b∧w.heap[b]? = some (.stringIter s.bytes pos)
 | .mp ks vs=>∃ b es clk,c.blk r=some b∧w.heap[b]? = some (.map es clk)∧ks.length=vs.length ∧
   QaC c ks (es.toList.map (·.key))∧QaC c vs (es.toList.map (·.val))∧V.Qak ks=true∧V.Qak vs=true
structure WRel[Laid](c:Ctx)(st:St)(w:World):Prop where
 shut:∀ b o x,c.shut b o=some x→w.cell? ⟨b,o,none⟩ = some x
 rows:∀ r row,Qab st r=some row→Qcs c w r row
 inj:∀ r1 r2 row1 row2 b,Qab st r1=some row1→Qab st r2=some row2→row1≠.gone→row2≠.gone→c.blk r1=some b→c.blk r2=some b→r1=r2
 glb:∀ r,st.hp.rows.length≤r→c.gl r=none
 lcb:∀ s g,(st.lc s).1<g→c.lc s g=none
 lt:∀ r b,c.blk r=some b→b<w.heap.size
 tlt:∀ r n,c.text r=some n→∃ b,c.blk r=some b
 elt:∀ b n,c.ext b=some n→b<w.heap.size
def Own(c:Ctx)(st:St)(b:Nat):Prop:=∃ r row,Qab st r=some row∧row≠.gone∧c.blk r=some b
structure Keep(c c':Ctx)(st st':St)(w w':World):Prop where
 os:w'.os=w.os
 tape:w'.tape=w.tape
 output:w'.output=w.output
 size:w.heap.size≤w'.heap.size
 block:∀ b,b<w.heap.size→¬Own c st b→w'.heap[b]? = w.heap[b]?
 shut:∀ b,b<w.heap.size→¬Own c st b→∀ o,c'.shut b o=c.shut b o
 own:∀ b,b<w.heap.size→Own c' st' b→Own c st b
theorem Keep.refl(c:Ctx)(st:St)(w:World):Keep c c st st w w:=⟨rfl,rfl,rfl,Nat.le_refl _,fun _ _ _=>rfl,fun _ _ _ _=>rfl,fun _ _ h=>h⟩
theorem Keep.trans{c1 c2 c3:Ctx}{s1 s2 s3:St}{w1 w2 w3:World}(h:Keep c1 c2 s1 s2 w1 w2)(k:Keep c2 c3 s2 s3 w2 w3):Keep c1 c3 s1 s3 w1 w3 :=
 ⟨k.os.trans h.os,k.tape.trans h.tape,k.output.trans h.output,Nat.le_trans h.size k.size,
  fun b hb hn=>(k.block b (Nat.lt_of_lt_of_le hb h.size) (fun ho=>hn (h.own b hb ho))).trans (h.block b hb hn),
  fun b hb hn o=>(k.shut b (Nat.lt_of_lt_of_le hb h.size) (fun ho=>hn (h.own b hb ho)) o).trans (h.shut b hb hn o),
  fun b hb ho=>h.own b hb (k.own b (Nat.lt_of_lt_of_le hb h.size) ho)⟩
structure Dirt(h h':Hp):Prop where
 len:h.rows.length≤h'.rows.length
 mono:∀ d,h.dirty=some d→∃ d',h'.dirty=some d'∧d'≤d
 same:∀ i,i<h.rows.length→(∀ d,h'.dirty=some d→i<d)→h'.rows[i]? = h.rows[i]?
 mods:h.mods≤h'.mods
 still:h'.mods=h.mods→h'.dirty=h.dirty∧∀ i,i<h.rows.length→h'.rows[i]? = h.rows[i]?
theorem Dirt.refl(h:Hp):Dirt h h:=⟨Nat.le_refl _,fun d hd=>⟨d,hd,Nat.le_refl _⟩,fun _ _ _=>rfl,Nat.le_refl _,fun _=>⟨rfl,fun _ _=>rfl⟩⟩
theorem Dirt.trans{a b c:Hp}(h:Dirt a b)(k:Dirt b c):Dirt a c:=by
 refine⟨Nat.le_trans h.len k.len,fun d hd=>?_,fun i hi hd=>?_,Nat.le_trans h.mods k.mods,fun e=>?_⟩
 rotate_left 2
 ·have e1:b.mods=a.mods:=Nat.le_antisymm (by have:=k.mods;omega) h.mods
  have e2:c.mods=b.mods:=by omega
  obtain⟨h1,h2⟩:=h.still e1
  obtain⟨k1,k2⟩:=k.still e2
  exact⟨k1.trans h1,fun i hi=>(k2 i (Nat.lt_of_lt_of_le hi h.len)).trans (h2 i hi)⟩
 ·obtain⟨d1,h1,l1⟩:=h.mono d hd
  obtain⟨d2,h2,l2⟩:=k.mono d1 h1
  exact⟨d2,h2,by omega⟩
 ·rw[k.same i (Nat.lt_of_lt_of_le hi h.len) hd]
  refine h.same i hi (fun d hd'=>?_)
  obtain⟨d1,h1,l1⟩:=k.mono d hd'
  have:=hd d1 h1
  omega
theorem Dirt.eq{h h':Hp}(d:Dirt h h')(hm:h'.mods=h.mods)(hl:h'.rows.length=h.rows.length):h'=h:=by
 obtain⟨h1,h2⟩:=d.still hm
 have hr:h'.rows=h.rows:=List.ext_getElem? (fun i=>by
  rcases Nat.lt_or_ge i h.rows.length with hi | hi
  ·exact h2 i hi
  ·rw[List.getElem?_eq_none (by omega),List.getElem?_eq_none (by omega)])
 cases h;cases h'
 simp_all
theorem WRel.Qb2[Laid]{c:Ctx}{st:St}{w:World}(h:WRel c st w){b o:Nat}{x:Value}(hs:c.shut b o=some x):b<w.heap.size:=by
 have:=h.shut b o x hs
 unfold World.cell? at this
 rcases Nat.lt_or_ge b w.heap.size with h' | h'
 ·exact h'
 ·simp[h']at this
theorem qbw(v:V)(l:List V):flat (v::l)=v.cells++flat l:=rfl
theorem qc7(l m:List V):flat (l++m)=flat l++flat m:=by simp[flat,List.flatMap_append]
theorem qaC{sz:Nat}:∀ {l:List V},(∀ v ∈ l,v.cells.length=sz)→(flat l).length=l.length*sz
 | [],_=>by simp[flat]
 | v::l,h=>by
  rw[qbw,List.length_append,qaC (fun u hu=>h u (by simp[hu])),h v (by simp)]
  simp[Nat.add_mul];omega
theorem qeI{sz:Nat}:∀ {l:List V}(k:Nat),(∀ v ∈ l,v.cells.length=sz)→(flat l).drop (k*sz)=flat (l.drop k)
 | [],k,_=>by simp[flat]
 | v::l,0,_=>by simp
 | v::l,k+1,h=>by
  have hv:=h v (by simp)
  rw[qbw,List.drop_succ_cons,←qeI k (fun u hu=>h u (by simp[hu])),show(k+1)*sz=v.cells.length+k*sz by rw[hv,Nat.add_mul];omega,
   List.drop_append,List.drop_of_length_le (by omega)]
  simp
theorem qdv{sz:Nat}:∀ {l:List V}(k:Nat),(∀ v ∈ l,v.cells.length=sz)→(flat l).take (k*sz)=flat (l.take k)
 | [],k,_=>by simp[flat]
 | v::l,0,_=>by simp[flat]
 | v::l,k+1,h=>by
  have hv:=h v (by simp)
  rw[qbw,List.take_succ_cons,qbw,←qdv k (fun u hu=>h u (by simp[hu])),show(k+1)*sz=v.cells.length+k*sz by rw[hv,Nat.add_mul];omega,
   List.take_append,List.take_of_length_le (by omega)]
  simp
theorem qru{sz:Nat}{l:List V}{k:Nat}{v:V}(h:∀ v ∈ l,v.cells.length=sz)(hv:l[k]? = some v):((flat l).drop (k*sz)).take sz=v.cells:=by
 rw[qeI k h]
 have:l.drop k=v::l.drop (k+1):=by
  have hk:k<l.length:=by
   rcases Nat.lt_or_ge k l.length with h' | h'
   ·exact h'
   ·simp[List.getElem?_eq_none h']at hv
  rw[List.drop_eq_getElem_cons hk]
  rw[List.getElem?_eq_getElem hk]at hv
  simp at hv;rw[hv]
 rw[this,qbw]
 rw[←h v (List.mem_of_getElem? hv)]
 simp
theorem qhm(l m:List V):V.Qaf (l++m)=(V.Qaf l&&V.Qaf m):=by
 induction l with
 | nil=>simp[V.Qaf]
 | cons v l ih=>simp[V.Qaf,ih,Bool.and_assoc]
theorem qaR{l:List V}:V.Qaf l=true↔∀ v ∈ l,v.Qao=true:=by
 induction l with
 | nil=>simp[V.Qaf]
 | cons v l ih=>simp[V.Qaf,ih]
section
variable {P:Program}{C:Cfg}{c:Ctx}{ρ:Nat→V}{a:Act}{w:World}
def QaT[Laid](c:Ctx)(ρ:Nat→V)(a:Act):Prop:=∀ i,Rel c (ρ i) (a.tmps.getD i undef)
theorem QaT.mono[Laid]{c':Ctx}(h:c.le c')(hs:QaT c ρ a):QaT c' ρ a:=fun i=>(hs i).mono h
theorem qay[Laid](hs:QaT c ρ a)(x:Operand):Rel c (opd ρ x) (a.eval x):=by
 cases x with
 | tmp t=>exact hs t
 | const v=>exact qeS c v
 | global g=>exact .dead _
 | func f=>exact .fn _ _ _ _ _ rfl rfl (fun i v x h _=>by simp at h) (fun i v x h _=>by simp at h)
theorem Rel.Qbz[Laid]{b:Bool}{x:Value}(h:Rel c (.bool b) x):x=.bool b:=by cases h;rfl
theorem Rel.QbC[Laid]{k:IntKind}{n:Int}{x:Value}(h:Rel c (.int k n) x):x=.int k n:=by cases h;rfl
theorem Rel.QbA[Laid]{s:Str}{x:Value}(h:Rel c (.str s) x):x=.string s.bytes:=by cases h;rfl
theorem Rel.Qbp[Laid]{x:Value}(h:Rel c .nils x):x=.slice none 0 0:=by cases h;rfl
theorem Rel.QdA[Laid]{vs:List V}{x:Value}(h:Rel c (.tuple vs) x):∃ xs:List Value,x=.tuple xs.toArray∧QaC c vs xs:=by
 cases h with
 | tuple cs xs hl hr=>exact⟨xs.toList,by simp,by simpa using hl,fun i v x a b=>hr i v x a (by simpa using b)⟩
theorem Rel.QdR[Laid]{vs:List V}{x:Value}(h:Rel c (.agg vs) x):∃ xs:List Value,x=.agg xs.toArray∧QaC c vs xs:=by
 cases h with
 | agg cs xs hl hr=>exact⟨xs.toList,by simp,by simpa using hl,fun i v x a b=>hr i v x a (by simpa using b)⟩
theorem Rel.QbU[Laid]{r:Ref}{off:Nat}{x:Value}(h:Rel c (.ptr r off) x):∃ b,x=.pointer (some ⟨b,off,none⟩)∧c.blk r=some b:=by
 cases h with
 | ptr r off b hb=>exact⟨b,rfl,hb⟩
theorem Rel.QcV[Laid]{cs:List V}{x:Value}(h:Rel c (.iptr cs) x):∃ b off xs,x=.pointer (some ⟨b,off,none⟩)∧QaC c cs xs ∧
  (∀ i x,xs[i]? = some x→c.shut b (off+i)=some x):=by
 cases h with
 | iptr cs b off xs hl hs hr=>exact⟨b,off,xs,rfl,⟨hl,hr⟩,hs⟩
theorem Rel.Qdl[Laid]{vs:List V}{xs:List Value}(h:QaC c vs xs):Rel c (.agg vs) (.agg xs.toArray) :=
 .agg _ _ (by simpa using h.1) (fun i v x a b=>h.2 i v x a (by simpa using b))
theorem Rel.Qbe[Laid]{vs:List V}{xs:List Value}(h:QaC c vs xs):Rel c (.tuple vs) (.tuple xs.toArray) :=
 .tuple _ _ (by simpa using h.1) (fun i v x a b=>h.2 i v x a (by simpa using b))
theorem qfS[Laid](hs:QaT c ρ a){x:Operand}{b:Bool}(h:opd ρ x=.bool b):a.eval x=.bool b:=by
 have:=qay hs x;rw[h]at this;exact this.Qbz
theorem qc2[Laid](hs:QaT c ρ a){x:Operand}{k:IntKind}{n:Int}(h:opd ρ x=.int k n):a.eval x=.int k n:=by
 have:=qay hs x;rw[h]at this;exact this.QbC
theorem qn2[Laid](hs:QaT c ρ a){x:Operand}{s:Str}(h:opd ρ x=.str s):a.eval x=.string s.bytes:=by
 have:=qay hs x;rw[h]at this;exact this.QbA
theorem qa4{e:TypeId}{n:Nat}{g:Bool}(h:Qax P e=some (n,g)) :
  0<n∧(P.info? e).map (·.size)=some n∧(∃ d,P.underlying e=some d∧d.isRow=g):=by
 unfold Qax at h
 split at h
 ·rename_i m g' hs hg
  simp at h
  obtain⟨rfl,rfl⟩:=h
  refine⟨by omega,hs,?_⟩
  unfold qyd at hg
  split at hg<;>simp at hg
  ·subst hg;exact⟨_,by assumption,rfl⟩
  ·subst hg;exact⟨_,by assumption,rfl⟩
  ·subst hg
   rename_i d h1 h2 h3
   refine⟨_,h3,?_⟩
   cases d<;>first | rfl | exact absurd rfl (h1 _) | exact absurd rfl (h2 _ _)
 ·simp at h
theorem qbn{e:TypeId}{n:Nat}(h:(P.info? e).map (·.size)=some n)(w:World):(sizeOf e).run P w=.ok n w:=by
 cases hq:P.info? e with
 | none=>simp[hq]at h
 | some i=>simp[hq]at h;simp[sizeOf,typeInfo,hq,h]
theorem qdF{e:TypeId}{d:TypeDesc}(h:P.underlying e=some d)(w:World):(isAgg e).run P w=.ok d.isRow w:=by
 unfold isAgg
 rw[Sem.run_bind,run_underlying h w]
 cases d<;>simp
theorem qdi{i:Int}{n k:Nat}(h:Qa1 i n=some k):i=k∧k<n:=by
 unfold Qa1 at h
 split at h
 ·rename_i m
  cases hb:Nat.blt m n<;>simp[hb]at h
  subst h
  exact⟨rfl,by simpa[Nat.blt_eq]using hb⟩
 ·simp at h
theorem qbm{i:Int}{n k:Nat}(h:Qau i n=some k):i=k∧k≤n:=by
 unfold Qau at h
 split at h
 ·rename_i m
  cases hb:Nat.ble m n<;>simp[hb]at h
  subst h
  exact⟨rfl,by simpa[Nat.ble_eq]using hb⟩
 ·simp at h
theorem qmy[Laid]{t:TypeId}{cs:List V}{off:Nat}{v:V}{xs:List Value}(h:QaV P t cs off=some v)(hr:QaC c cs xs) :
  ∃ x,(part t xs.toArray off).run P w=.ok x w∧Rel c v x:=by
 unfold QaV at h
 cases hl:Qax P t with
 | none=>simp[hl]at h
 | some p =>
  obtain⟨n,g⟩:=p
  obtain⟨h0,hz,d,hd,hg⟩:=qa4 hl
  rw[hl]at h
  cases g with
  | true =>
   cases hb:Nat.ble (off+n) cs.length with
   | false=>simp[hb]at h
   | true =>
    have hle:off+n≤cs.length:=by simpa[Nat.ble_eq]using hb
    simp[hb]at h
    subst h
    refine⟨.agg (xs.toArray.extract off (off+n)),?_,?_⟩
    ·simp[part,qdF hd,hg,qbn hz]
    ·have:=(hr.drop off).take n
     refine .agg _ _ ?_ (fun i v x ha hb'=>?_)
     ·simp[hr.1]
     ·refine this.2 i v x ha ?_
      rw[←hb']
      simp[List.getElem?_take,List.getElem?_drop,Array.getElem?_extract]
  | false =>
   simp at h
   obtain⟨x,hx,hrx⟩:=hr.get h
   refine⟨x,?_,hrx⟩
   simp[part,qdF hd,hg,hx]
end
section
variable {P:Program}{C:Cfg}{c:Ctx}{ρ:Nat→V}{a:Act}{w:World}
def Gives[Laid](P:Program)(c:Ctx)(s:Sem Next)(w:World)(v:V):Prop:=∃ x,s.run P w=.ok (.value x) w∧Rel c v x
theorem qbu{op:BinOp}{b:Bool}{v:V}(h:qgE op b=some v):(op=.eql∧v=.bool b)∨(op=.neq∧v=.bool !b):=by
 unfold qgE at h
 split at h<;>simp at h
 ·exact .inl ⟨rfl,h.symm⟩
 ·exact .inr ⟨rfl,h.symm⟩
theorem qou{op:BinOp}{t:TypeId}{X Y:Operand}{k k':IntKind}{m n:Int} :
  (eqGuard op t X Y (.int k m) (.int k' n)).run P w=.ok () w:=by
 unfold eqGuard;split<;>simp
theorem qct(s:Str):s.bytes.toList=bl s.n s.v:=by
 rw[ByteArray.toList_eq];rfl
theorem qf3(a b:Str):a.same b=(a.bytes.toList == b.bytes.toList):=by
 rw[Bool.eq_iff_iff,Str.QcB,beq_iff_eq,qct,qct]
 constructor
 ·intro h;rw[←a.QaI,←b.QaI,h]
 ·intro h;exact qmi (by rw[a.QaI,b.QaI,h])
theorem qot{op:BinOp}{t:TypeId}{X Y:Operand}{k k':ByteArray} :
  (eqGuard op t X Y (.string k) (.string k')).run P w=.ok () w:=by
 unfold eqGuard;split<;>simp
theorem qmO{op:BinOp}{t:TypeId}{X Y:Operand}{k k':Bool} :
  (eqGuard op t X Y (.bool k) (.bool k')).run P w=.ok () w:=by
 unfold eqGuard;split<;>simp
theorem qed{op:BinOp}{t:TypeId}{X Y:Operand}{a b:Option Addr}{n m p q:Nat} :
  (eqGuard op t X Y (.slice a n m) (.slice b p q)).run P w=.ok () w:=by
 unfold eqGuard;split<;>simp
theorem qmN{op:BinOp}{t:TypeId}{X Y:Operand}(h:(isConst X || isConst Y)=true):(eqGuard op t X Y .nilIface .nilIface).run P w=.ok () w:=by
 unfold eqGuard
 cases X<;>cases Y<;>simp[isConst]at h<;>split<;>simp
theorem qc6{op:BinOp}{t:TypeId}{X Y:Operand}{a b:Value}(h:a≠.nilIface)(h2:∀ c,a≠.agg c):(eqGuard op t X Y a b).run P w=.ok () w:=by
 unfold eqGuard
 cases a<;>first | exact absurd rfl h | exact absurd rfl (h2 _) | (split<;>simp)
theorem qj2{op:BinOp}{t:TypeId}{X Y:Operand}{a:Value}{k:TypeId}{x:Value}:(eqGuard op t X Y a (.iface k x)).run P w=.ok () w:=by
 unfold eqGuard
 cases a<;>split<;>simp
theorem qkz[Laid]{op:BinOp}{t:TypeId}{k:IntKind}{m n:Int}{v:V}(h1:op≠.shl)(h2:op≠.shr)(h:QaS op k m n=some v) :
  ∃ r,(binOp op t (.int k m) (.int k n)).run P w=.ok r w∧Rel c v r:=by
 cases op
 case quo=>simp[QaS]at h;obtain⟨h0,rfl⟩:=h;exact⟨.int k _,by simp[binOp,Op.intDiv,h0],.int _ _⟩
 case rem=>simp[QaS]at h;obtain⟨h0,rfl⟩:=h;exact⟨.int k _,by simp[binOp,Op.intDiv,h0],.int _ _⟩
 case shl=>exact absurd rfl h1
 case shr=>exact absurd rfl h2
 all_goals
  obtain rfl:=Option.some.inj h
  first
   | exact⟨.int k _,by simp only[binOp,Op.intArith,Op.intBits,ne_eq,not_true_eq_false,if_false];rfl,.int _ _⟩
   | exact⟨.bool _,by simp only[binOp,Op.intCmp,ne_eq,not_true_eq_false,if_false];rfl,.bool _⟩
theorem qni[Laid]{op:BinOp}{t:TypeId}{X Y:Operand}{x y:V}{p q:Value}{v:V}(h:Qct op x y=some v)(hx:Rel c x p)(hy:Rel c y q) :
  ∃ r,(do eqGuard op t X Y p q;binOp op t p q:Sem Value).run P w=.ok r w∧Rel c v r:=by
 unfold Qct at h
 split at h
 ·rename_i k m k' n
  have ex:=hx.QbC;have ey:=hy.QbC
  subst ex;subst ey
  rw[Sem.run_bind,qou,Result.andThen_ok]
  split at h
  ·unfold QbQ at h
   split at h
   ·simp at h
   ·rename_i hb
    simp at h
    subst h
    exact⟨_,by simp only[binOp,Op.shift,hb,if_false];rfl,.int _ _⟩
  ·unfold QbQ at h
   split at h
   ·simp at h
   ·rename_i hb
    simp at h
    subst h
    exact⟨_,by simp only[binOp,Op.shift,hb,if_false];rfl,.int _ _⟩
  ·rename_i h1 h2
   split at h
   ·rename_i hk
    subst hk
    exact qkz (fun e=>h1 e) (fun e=>h2 e) h
   ·simp at h
 ·rename_i s u
  have ex:=hx.QbA;have ey:=hy.QbA
  subst ex;subst ey
  rw[Sem.run_bind,qot,Result.andThen_ok]
  unfold Qcz at h
  split at h
  ·simp at h;subst h;exact⟨_,rfl,by rw[←qf3];exact .bool _⟩
  ·simp at h;subst h;exact⟨_,rfl,by rw[←qf3];exact .bool _⟩
  ·simp at h;subst h;exact⟨_,rfl,by rw[qct,qct];exact .bool _⟩
  ·cases hb:Nat.ble (Nat.add s.n u.n) 4611686018427387904 with
   | false=>rw[hb]at h;simp at h
   | true =>
    rw[hb]at h
    simp only[cond_true,Option.some.injEq]at h
    subst h
    have hle:s.n+u.n≤4611686018427387904:=by simpa[Nat.ble_eq]using hb
    refine⟨.string (s.bytes++u.bytes),?_,by rw[←Str.Qd4];exact .str _⟩
    have hm:¬(((s.bytes.size+u.bytes.size:Nat):Int) > IntKind.i64.max):=by
     have:IntKind.i64.max=9223372036854775807:=by decide
     rw[this,Str.QaY,Str.QaY];omega
    simp only[binOp,Op.stringOp]
    rw[if_neg hm];rfl
  ·simp at h
 ·simp at h
theorem Rel.QbP[Laid]{tok:Option Ref}{full:Bool}{sz:Nat}{l:List V}{x:Value}(h:Rel c (.slice tok full sz l) x) :
  ∃ b off cap xs,x=.slice (some ⟨b,off,none⟩) l.length cap∧(∀ v ∈ l,v.cells.length=sz)∧QaC c (flat l) xs ∧
   (∀ i x,xs[i]? = some x→c.shut b (off+i)=some x)∧V.Qaf (flat l)=true∧l.length≤cap∧(full=true→cap=l.length) ∧
   (∀ r,tok=some r→c.blk r=some b∧off=0∧0<sz∧c.ext b=some (cap*sz)∧c.text r=some (l.length*sz)):=by
 cases h with
 | slice tok full sz l b off cap xs hsz hl hs hr hn hc hf ht=>exact⟨b,off,cap,xs,rfl,hsz,⟨hl,hr⟩,hs,hn,hc,hf,ht⟩
theorem Rel.Qb6[Laid]{tok:Option Ref}{full:Bool}{l:List V}{b off cap sz:Nat}{xs:List Value}(hsz:∀ v ∈ l,v.cells.length=sz)(hr:QaC c (flat l) xs)
  (hs:∀ i x,xs[i]? = some x→c.shut b (off+i)=some x) (hn:V.Qaf (flat l)=true) (hc:l.length≤cap) (hf:full=true→cap=l.length)
  (ht:∀ r,tok=some r→c.blk r=some b∧off=0∧0<sz∧c.ext b=some (cap*sz)∧c.text r=some (l.length*sz)) {n:Nat} (hl:n=l.length) :
  Rel c (.slice tok full sz l) (.slice (some ⟨b,off,none⟩) n cap):=by
 subst hl;exact .slice tok full sz l b off cap xs hsz hr.1 hs hr.2 hn hc hf ht
theorem Rel.QbW[Laid]{r:Ref}{off len:Nat}{lim:Option Nat}{sz:Nat}{ag:Bool}{x:Value}(h:Rel c (.arr r off len lim sz ag) x) :
  ∃ b cap n,x=.slice (some ⟨b,off,none⟩) len cap∧c.blk r=some b∧len≤cap∧c.ext b=some n∧0<sz∧(∀ k,lim=some k→cap=k∧off+k*sz≤n) ∧
   (lim=none→off+cap*sz=n):=by
 cases h with
 | arr r off len lim sz ag b cap n hb hc he hz hk hu=>exact⟨b,cap,n,rfl,hb,hc,he,hz,hk,hu⟩
theorem qkl(d:Nat){t:TypeId}{a b:Bool}(ht:P.underlying t=some .bool):(Op.equalIn (d+1) t (.bool a) (.bool b)).run P w=.ok (a == b) w:=by
 simp only[Op.equalIn,Sem.run_bind,run_underlying ht,Result.andThen_ok,Sem.run_pure]
theorem qfm(d:Nat){t e:TypeId}{a:Option Addr}{n m n' m':Nat}(ht:P.underlying t=some (.slice e)):(Op.equalIn (d+1) t (.slice a n m) (.slice none n' m')).run P w=.ok a.isNone w:=by
 cases a<;>simp only[Op.equalIn,Sem.run_bind,run_underlying ht,Result.andThen_ok,Sem.run_pure]<;>rfl
theorem qmZ{t:TypeId}{a b:Bool}(ht:P.underlying t=some .bool):(Op.equal t (.bool a) (.bool b)).run P w=.ok (a == b) w:=qkl 9999 ht
theorem qcn{t e:TypeId}{a:Option Addr}{n m n' m':Nat}(ht:P.underlying t=some (.slice e)):(Op.equal t (.slice a n m) (.slice none n' m')).run P w=.ok a.isNone w:=qfm 9999 ht
theorem Rel.Qcw[Laid]{x:Value}(h:Rel c .nilp x):x=.pointer none:=by cases h;rfl
theorem Rel.Qcx[Laid]{x:Value}(h:Rel c .nili x):x=.nilIface:=by cases h;rfl
theorem Rel.Qc9[Laid]{k:Nat}{v:V}{x:Value}(h:Rel c (.iface k v) x):∃ y,x=.iface k y:=by cases h;exact⟨_,rfl⟩
theorem Rel.Qdi[Laid]{r:Ref}{o:Nat}{x:Value}(h:Rel c (.ptr r o) x):∃ a,x=.pointer (some a):=by cases h;exact⟨_,rfl⟩
theorem qkk(d:Nat){t:TypeId}{ms:Array (String × TypeId)}(ht:P.underlying t=some (.interface ms)):(Op.equalIn (d+1) t .nilIface .nilIface).run P w=.ok true w:=by
 simp only[Op.equalIn,Sem.run_bind,run_underlying ht,Result.andThen_ok,Sem.run_pure]
theorem qfo(d:Nat){t:TypeId}{ms:Array (String × TypeId)}{k:TypeId}{v:Value}(ht:P.underlying t=some (.interface ms)):(Op.equalIn (d+1) t (.iface k v) .nilIface).run P w=.ok false w:=by
 simp only[Op.equalIn,Sem.run_bind,run_underlying ht,Result.andThen_ok,Sem.run_pure]
theorem qfn(d:Nat){t:TypeId}{ms:Array (String × TypeId)}{k:TypeId}{v:Value}(ht:P.underlying t=some (.interface ms)):(Op.equalIn (d+1) t .nilIface (.iface k v)).run P w=.ok false w:=by
 simp only[Op.equalIn,Sem.run_bind,run_underlying ht,Result.andThen_ok,Sem.run_pure]
theorem qdy(d:Nat){t e:TypeId}{a:Option Addr}(ht:P.underlying t=some (.pointer e)):(Op.equalIn (d+1) t (.pointer a) (.pointer none)).run P w=.ok a.isNone w:=by
 cases a<;>simp only[Op.equalIn,Sem.run_bind,run_underlying ht,Result.andThen_ok,Sem.run_pure]<;>rfl
theorem qg2(d:Nat){t e:TypeId}{a:Option Addr}(ht:P.underlying t=some (.pointer e)):(Op.equalIn (d+1) t (.pointer none) (.pointer a)).run P w=.ok a.isNone w:=by
 cases a<;>simp only[Op.equalIn,Sem.run_bind,run_underlying ht,Result.andThen_ok,Sem.run_pure]<;>rfl
def qyQ:Value→Prop
 | .int ..=>False
 | .float ..=>False
 | .complex ..=>False
 | .string _=>False
 | _=>True
theorem qa1{t:TypeId}{x y:Value}{b:Bool}(hx:qyQ x)(h:(Op.equal t x y).run P w=.ok b w) :
  (binOp .eql t x y).run P w=.ok (.bool b) w∧(binOp .neq t x y).run P w=.ok (.bool !b) w:=by
 have e1:binOp .eql t x y=(do pure (.bool (←Op.equal t x y))):=by
  cases x<;>simp[qyQ]at hx<;>cases y<;>rfl
 have e2:binOp .neq t x y=(do pure (.bool (!(←Op.equal t x y)))):=by
  cases x<;>simp[qyQ]at hx<;>cases y<;>rfl
 rw[e1,e2]
 simp[h]
theorem qoV[Laid]{op:BinOp}{t:TypeId}{X Y:Operand}{x y:V}{p q:Value}{v:V}(h:eqV op (P.underlying t) (isConst X || isConst Y) x y=some v)(hx:Rel c x p)(hy:Rel c y q) :
  ∃ r,(do eqGuard op t X Y p q;binOp op t p q:Sem Value).run P w=.ok r w∧Rel c v r:=by
 unfold eqV at h
 split at h
 ·have ht:P.underlying t=some .bool:=by assumption
  have ex:=hx.Qbz;have ey:=hy.Qbz
  subst ex;subst ey
  rw[Sem.run_bind,qmO,Result.andThen_ok]
  obtain⟨r1,r2⟩:=qa1 (by trivial) (qmZ (w:=w) ht)
  rcases qbu h with ⟨rfl,rfl⟩ | ⟨rfl,rfl⟩
  ·exact⟨_,r1,.bool _⟩
  ·exact⟨_,r2,.bool _⟩
 ·rename_i e ht
  have ex:=hx.Qbp;have ey:=hy.Qbp
  subst ex;subst ey
  rw[Sem.run_bind,qed,Result.andThen_ok]
  obtain⟨r1,r2⟩:=qa1 (by trivial) (qcn (w:=w) (a:=none) (n:=0) (m:=0) (n':=0) (m':=0) ht)
  rcases qbu h with ⟨rfl,rfl⟩ | ⟨rfl,rfl⟩
  ·exact⟨_,r1,.bool _⟩
  ·exact⟨_,r2,.bool _⟩
 ·rename_i e tok full sz l ht
  obtain⟨b,off,cap,xs,rfl,_⟩:=hx.QbP
  have ey:=hy.Qbp
  subst ey
  rw[Sem.run_bind,qed,Result.andThen_ok]
  obtain⟨r1,r2⟩:=qa1 (by trivial) (qcn (w:=w) (a:=some ⟨b,off,none⟩) (n:=l.length) (m:=cap) (n':=0) (m':=0) ht)
  rcases qbu h with ⟨rfl,rfl⟩ | ⟨rfl,rfl⟩
  ·exact⟨_,r1,.bool _⟩
  ·exact⟨_,r2,.bool _⟩
 ·rename_i e r off len lim sz ag ht
  obtain⟨b,cap,n,rfl,_⟩:=hx.QbW
  have ey:=hy.Qbp
  subst ey
  rw[Sem.run_bind,qed,Result.andThen_ok]
  obtain⟨r1,r2⟩:=qa1 (by trivial) (qcn (w:=w) (a:=some ⟨b,off,none⟩) (n:=len) (m:=cap) (n':=0) (m':=0) ht)
  rcases qbu h with ⟨rfl,rfl⟩ | ⟨rfl,rfl⟩
  ·exact⟨_,r1,.bool _⟩
  ·exact⟨_,r2,.bool _⟩
 ·rename_i ms ht
  have ex:=hx.Qcx;have ey:=hy.Qcx
  subst ex;subst ey
  cases hc:(isConst X || isConst Y)with
  | false=>rw[hc]at h;simp at h
  | true =>
   rw[hc]at h
   simp only[cond_true]at h
   rw[Sem.run_bind,qmN hc,Result.andThen_ok]
   obtain⟨r1,r2⟩:=qa1 (by trivial) (show(Op.equal t .nilIface .nilIface).run P w=.ok true w from qkk 9999 ht)
   rcases qbu h with ⟨rfl,rfl⟩ | ⟨rfl,rfl⟩
   ·exact⟨_,r1,.bool _⟩
   ·exact⟨_,r2,.bool _⟩
 ·rename_i ms k u ht
  obtain⟨x',rfl⟩:=hx.Qc9
  have ey:=hy.Qcx
  subst ey
  rw[Sem.run_bind,qc6 (by simp) (by simp),Result.andThen_ok]
  obtain⟨r1,r2⟩:=qa1 (by trivial) (show(Op.equal t (.iface k x') .nilIface).run P w=.ok false w from qfo 9999 ht)
  rcases qbu h with ⟨rfl,rfl⟩ | ⟨rfl,rfl⟩
  ·exact⟨_,r1,.bool _⟩
  ·exact⟨_,r2,.bool _⟩
 ·rename_i ms k u ht
  obtain⟨y',rfl⟩:=hy.Qc9
  have ex:=hx.Qcx
  subst ex
  rw[Sem.run_bind,qj2,Result.andThen_ok]
  obtain⟨r1,r2⟩:=qa1 (by trivial) (show(Op.equal t .nilIface (.iface k y')).run P w=.ok false w from qfn 9999 ht)
  rcases qbu h with ⟨rfl,rfl⟩ | ⟨rfl,rfl⟩
  ·exact⟨_,r1,.bool _⟩
  ·exact⟨_,r2,.bool _⟩
 ·rename_i e ht
  have ex:=hx.Qcw;have ey:=hy.Qcw
  subst ex;subst ey
  rw[Sem.run_bind,qc6 (by simp) (by simp),Result.andThen_ok]
  obtain⟨r1,r2⟩:=qa1 (by trivial) (show(Op.equal t (.pointer none) (.pointer none)).run P w=.ok true w from qdy 9999 ht)
  rcases qbu h with ⟨rfl,rfl⟩ | ⟨rfl,rfl⟩
  ·exact⟨_,r1,.bool _⟩
  ·exact⟨_,r2,.bool _⟩
 ·rename_i e r o ht
  obtain⟨a,rfl⟩:=hx.Qdi
  have ey:=hy.Qcw
  subst ey
  rw[Sem.run_bind,qc6 (by simp) (by simp),Result.andThen_ok]
  obtain⟨r1,r2⟩:=qa1 (by trivial) (show(Op.equal t (.pointer (some a)) (.pointer none)).run P w=.ok false w from qdy 9999 ht)
  rcases qbu h with ⟨rfl,rfl⟩ | ⟨rfl,rfl⟩
  ·exact⟨_,r1,.bool _⟩
  ·exact⟨_,r2,.bool _⟩
 ·rename_i e r o ht
  obtain⟨a,rfl⟩:=hy.Qdi
  have ex:=hx.Qcw
  subst ex
  rw[Sem.run_bind,qc6 (by simp) (by simp),Result.andThen_ok]
  obtain⟨r1,r2⟩:=qa1 (by trivial) (show(Op.equal t (.pointer none) (.pointer (some a))).run P w=.ok false w from qg2 9999 ht)
  rcases qbu h with ⟨rfl,rfl⟩ | ⟨rfl,rfl⟩
  ·exact⟨_,r1,.bool _⟩
  ·exact⟨_,r2,.bool _⟩
 ·simp at h
theorem qnu[Laid]{op:UnOp}{x v:V}{p:Value}(h:unV op x=some v)(hx:Rel c x p):∃ r,(Op.unary op p).run P w=.ok r w∧Rel c v r:=by
 unfold unV at h
 split at h
 ·have ex:=hx.Qbz;subst ex;simp at h;subst h;exact⟨_,rfl,.bool _⟩
 ·have ex:=hx.QbC;subst ex;obtain rfl:=Option.some.inj h;exact⟨_,rfl,.int _ _⟩
 ·have ex:=hx.QbC;subst ex;simp[QaS]at h;subst h;exact⟨_,rfl,.int _ _⟩
 ·simp at h
theorem qlq[Laid]{s d:TypeId}{x v:V}{p:Value}(h:Qcr P s d x=some v)(hx:Rel c x p):∃ r,(convert s d p).run P w=.ok r w∧Rel c v r:=by
 unfold Qcr at h
 split at h
 ·rename_i k k' n h1 h2
  have ex:=hx.QbC;subst ex;simp at h;subst h
  exact⟨.int _ _,by simp only[convert,Sem.run_bind,run_underlying h1,run_underlying h2,Result.andThen_ok,Conv.intToInt];rfl,.int _ _⟩
 ·rename_i n h1 h2
  have ex:=hx.QbA;subst ex;simp at h;subst h
  exact⟨.string n.bytes,by simp[convert,run_underlying h1,run_underlying h2],.str _⟩
 ·rename_i k n h1 h2
  have ex:=hx.QbC;subst ex;simp at h;subst h
  exact⟨.string _,by simp only[convert,Sem.run_bind,run_underlying h1,run_underlying h2,Result.andThen_ok,Conv.intToString];rfl,.str' _⟩
 ·simp at h
end
section
variable {P:Program}{C:Cfg}{c:Ctx}{ρ:Nat→V}{a:Act}{w:World}
theorem qbH{k:IntKind}{n y:Nat}{code:BoundsCode}(h:n≤y):(Instr.sliceBound (.int k n) y code).run P w=.ok n w:=by
 have:(0:Int)≤n∧(n:Int)≤y:=⟨by omega,by omega⟩
 simp[Instr.sliceBound,asIntOf,this,h]
def IsB(o:Option Value)(n:Nat):Prop:=∃ k,o=some (.int k n)
theorem qbM{isS:Bool}{len cap l h m:Nat}{lo hi mx:Option Value}(hlo:(lo=none∧l=0)∨IsB lo l)
  (hhi:(hi=none∧mx=none∧h=len)∨IsB hi h) (hmx:(mx=none∧m=cap)∨IsB mx m) (h1:l≤h) (h2:h≤m) (h3:m≤cap) :
  (Instr.sliceBounds isS len cap lo hi mx).run P w=.ok (l,h,m) w:=by
 unfold Instr.sliceBounds
 rcases hmx with ⟨rfl,rfl⟩ | ⟨km,rfl⟩
 ·rcases hhi with ⟨rfl,_,rfl⟩ | ⟨kh,rfl⟩
  ·rcases hlo with ⟨rfl,rfl⟩ | ⟨kl,rfl⟩
   ·simp
   ·simp[qbH h1]
  ·rcases hlo with ⟨rfl,rfl⟩ | ⟨kl,rfl⟩
   ·simp[qbH h2]
   ·simp[qbH h2,qbH h1]
 ·rcases hhi with ⟨rfl,h',rfl⟩ | ⟨kh,rfl⟩
  ·simp at h'
  ·rcases hlo with ⟨rfl,rfl⟩ | ⟨kl,rfl⟩
   ·simp[qbH h2,qbH h3]
   ·simp[qbH h2,qbH h1,qbH h3]
theorem qc1[Laid](hs:QaT c ρ a){o:Option Operand}{r:Option Int}(h:QaK ρ o=some r) :
  (o=none∧r=none)∨∃ x k n,o=some x∧r=some n∧a.eval x=.int k n:=by
 unfold QaK at h
 split at h
 ·simp at h;exact .inl ⟨rfl,h.symm⟩
 ·rename_i x
  split at h
  ·rename_i k n hx
   simp at h
   exact .inr ⟨x,k,n,rfl,h.symm,qc2 hs hx⟩
  ·simp at h
theorem qcq[Laid](hs:QaT c ρ a){lo hi mx:Option Operand}{lo' hi' mx':Option Int}(el:QaK ρ lo=some lo')(eh:QaK ρ hi=some hi')(em:QaK ρ mx=some mx')
  {len h k:Nat} (hh:Qau (hi'.getD len) len=some h) (hk:Qau (lo'.getD 0) h=some k) :
  k≤h∧h≤len∧((lo.map a.eval=none∧k=0)∨IsB (lo.map a.eval) k) ∧
  ((hi.map a.eval=none∧hi'=none∧h=len)∨(IsB (hi.map a.eval) h∧hi'.isSome=true)):=by
 obtain⟨e1,l1⟩:=qbm hh
 obtain⟨e2,l2⟩:=qbm hk
 refine⟨l2,l1,?_,?_⟩
 ·rcases qc1 hs el with ⟨rfl,rfl⟩ | ⟨x,kk,n,rfl,rfl,hx⟩
  ·simp at e2;exact .inl ⟨rfl,by omega⟩
  ·simp at e2;subst e2;exact .inr ⟨kk,by simp[hx]⟩
 ·rcases qc1 hs eh with ⟨rfl,rfl⟩ | ⟨x,kk,n,rfl,rfl,hx⟩
  ·simp at e1;exact .inl ⟨rfl,rfl,by omega⟩
  ·simp at e1;subst e1;exact .inr ⟨⟨kk,by simp[hx]⟩,rfl⟩
theorem qiG[Laid](hs:QaT c ρ a){mx:Option Operand}{m0:Int}(em:QaK ρ mx=some (some m0)){len m:Nat}(hm:Qau m0 len=some m) :
  m≤len∧IsB (mx.map a.eval) m:=by
 obtain⟨e1,l1⟩:=qbm hm
 rcases qc1 hs em with ⟨rfl,h⟩ | ⟨x,kk,n,rfl,h,hx⟩
 ·simp at h
 ·simp at h;subst h;subst e1;exact⟨l1,kk,by simp[hx]⟩
theorem qfW[Laid](hs:QaT c ρ a){mx:Option Operand}(em:QaK ρ mx=some none):mx=none:=by
 rcases qc1 hs em with ⟨rfl,h⟩ | ⟨x,kk,n,rfl,h,hx⟩
 ·rfl
 ·simp at h
theorem qbf{t e:TypeId}(h:QaB P t=some e):P.underlying t=some (.slice e):=by
 unfold QaB at h
 split at h<;>simp at h
 subst h;assumption
theorem qbi{t e:TypeId}(ht:P.underlying t=some (.slice e)){sz:Nat}(hz:(P.info? e).map (·.size)=some sz){ad:Option Addr}{len cap l h m:Nat}{lo hi mx:Option Value}
  (hb:(Instr.sliceBounds true len cap lo hi mx).run P w=.ok (l,h,m) w) :
  (Instr.sliceAt t (.slice ad len cap) lo hi mx).run P w=.ok (.slice (if m=l then ad else ad.map (·.add (l*sz))) (h - l) (m - l)) w:=by
 unfold Instr.sliceAt
 rw[Sem.run_bind,run_underlying ht,Result.andThen_ok]
 simp only[Instr.slice]
 rw[Sem.run_bind,run_underlying ht,Result.andThen_ok]
 simp only[Sem.run_bind,hb,Result.andThen_ok,qbn hz,Sem.run_pure]
theorem qf8{t:TypeId}(ht:P.underlying t=some .string){s:ByteArray}{l h m:Nat}{lo hi:Option Value}
  (hb:(Instr.sliceBounds false s.size s.size lo hi none).run P w=.ok (l,h,m) w) :
  (Instr.sliceAt t (.string s) lo hi none).run P w=.ok (.string (s.extract l h)) w:=by
 unfold Instr.sliceAt
 rw[Sem.run_bind,run_underlying ht,Result.andThen_ok]
 simp only[Instr.slice]
 rw[Sem.run_bind,run_underlying ht,Result.andThen_ok]
 simp[hb]
theorem qiS[Laid]{l:List V}{sz:Nat}{xs:List Value}(hsz:∀ v ∈ l,v.cells.length=sz)(hr:QaC c (flat l) xs)(k h:Nat) :
  QaC c (flat ((l.take h).drop k)) ((xs.take (h*sz)).drop (k*sz)):=by
 have h1:∀ v ∈ l.take h,v.cells.length=sz:=fun v hv=>hsz v (List.mem_of_mem_take hv)
 rw[←qeI k h1,←qdv h hsz]
 exact(hr.take _).drop _
theorem qce[Laid](b off cap sz:Nat)(full:Bool)(hf:full=true→cap=0):Rel c (.slice none full sz []) (.slice (some ⟨b,off,none⟩) 0 cap) :=
 Rel.Qb6 (sz:=sz) (xs:=[]) (fun v hv=>by simp at hv) (QaC.nil c) (fun i x hx=>by simp at hx) rfl (by simp) (by simpa using hf) (fun r hr=>by simp at hr) rfl
theorem qhf [Laid] (hs : QaT c ρ a) {t e : TypeId} (ht : P.underlying t = some (.slice e)) {sz0 : Nat} (hz0 : (P.info? e).map (·.size) = some sz0)
    {lo hi mx : Option Operand} {lo' hi' mx' : Option Int} (el : QaK ρ lo = some lo') (eh : QaK ρ hi = some hi') (em : QaK ρ mx = some mx')
    {tok : Option Ref} {full : Bool} {l : List V} {p : Value} (hp : Rel c (.slice tok full sz0 l) p) {v : V} (h : Qbn tok full sz0 l lo' hi' mx' = some v) :
    ∃ r, (Instr.sliceAt t p (lo.map a.eval) (hi.map a.eval) (mx.map a.eval)).run P w = .ok r w ∧ Rel c v r := by
  obtain ⟨b, off, cap, xs, rfl, hszs, hr, hsh, hn, hc, hf, htok⟩ := hp.QbP
  have hnf : ∀ k h, V.Qaf (flat ((l.take h).drop k)) = true := fun k h => by
    rw [qaR] at hn ⊢
    intro v hv
    simp only [flat, List.mem_flatMap] at hv
    obtain ⟨u, hu, hv⟩ := hv
    exact hn v (by simp only [flat, List.mem_flatMap]; exact ⟨u, List.mem_of_mem_take (List.mem_of_mem_drop hu), hv⟩)
  unfold Qbn at h
  cases hh : Qau (hi'.getD l.length) l.length with
  | none => simp [hh] at h
  | some hx =>
    simp only [hh] at h
    cases hk : Qau (lo'.getD 0) hx with
    | none => simp [hk] at h
    | some k =>
      simp only [hk] at h
      obtain ⟨l1, l2, blo, bhi⟩ := qcq hs el eh em hh hk
      have piece : ∀ (off' : Nat) (m : Nat) (full' : Bool) (tok' : Option Ref) , (hx - k ≠ 0 → off' = off + k * sz0) → hx ≤ m → (full' = true → m = hx) → tok' = none →
          Rel c (.slice tok' full' sz0 ((l.take hx).drop k)) (.slice (some ⟨b, off', none⟩) (hx - k) (m - k)) := by
        intro off' m full' tok' ho hm hfull htk
        subst htk
        have hlen : hx - k = ((l.take hx).drop k).length := by simp; omega
        by_cases h0 : hx - k = 0
        · have e0 : (l.take hx).drop k = [] := List.eq_nil_of_length_eq_zero (by omega)
          rw [e0, h0]
          exact qce _ _ _ _ _ (fun hf' => by have := hfull hf'; omega)
        · have ho := ho h0
          subst ho
          have := qiS hszs hr k hx
          refine Rel.Qb6 (sz := sz0) (fun v hv => hszs v (List.mem_of_mem_take (List.mem_of_mem_drop hv))) this (fun i x hx' => ?_) (hnf k hx) (by omega) (fun hf' => by have := hfull hf'; omega) (fun r hr => by simp at hr) hlen
          rw [List.getElem?_drop] at hx'
          have h2 : xs[k * sz0 + i]? = some x := by
            rw [List.getElem?_take] at hx'
            split at hx'
            · exact hx'
            · simp at hx'
          have := hsh _ _ h2
          rwa [show off + k * sz0 + i = off + (k * sz0 + i) by omega]
      cases mx' with
      | none =>
        have hmx := qfW hs em
        subst hmx
        simp only [] at h
        have hb : (Instr.sliceBounds true l.length cap (lo.map a.eval) (hi.map a.eval) none).run P w = .ok (k, hx, cap) w :=
          qbM blo (by rcases bhi with ⟨h1, h2, h3⟩ | ⟨h1, _⟩
                      · exact .inl ⟨h1, rfl, h3⟩
                      · exact .inr h1) (.inl ⟨rfl, rfl⟩) l1 (by omega) (Nat.le_refl _)
        have hrun := qbi (w := w) ht hz0 (ad := some ⟨b, off, none⟩) hb
        simp only [Option.map_none] at hrun ⊢
        refine ⟨_, hrun, ?_⟩
        have hadr : (if cap = k then (some ⟨b, off, none⟩ : Option Addr) else (some ⟨b, off, none⟩ : Option Addr).map (·.add (k * sz0))) = some ⟨b, if cap = k then off else off + k * sz0, none⟩ := by
          split <;> simp [Addr.add_mid]
        rw [hadr]
        cases hbe : Nat.beq hx l.length with
        | true =>
          have hx' : hx = l.length := by simpa using hbe
          subst hx'
          simp only [hbe, cond_true] at h
          cases hbk : Nat.beq k 0 with
          | true =>
            have k0 : k = 0 := by simpa using hbk
            subst k0
            simp [hbk] at h
            subst h
            have : (if cap = 0 then off else off + 0 * sz0) = off := by split <;> simp
            rw [this]
            simp only [Nat.sub_zero]
            exact hp
          | false =>
            simp [hbk] at h
            subst h
            have := piece (if cap = k then off else off + k * sz0) cap full none (fun h0 => by rw [if_neg (by omega)]) (by omega) (fun hf' => hf hf') rfl
            rwa [List.take_length] at this
        | false =>
          simp [hbe] at h
          subst h
          exact piece (if cap = k then off else off + k * sz0) cap false none (fun h0 => by rw [if_neg (by omega)]) (by omega) (fun hf' => by simp at hf') rfl
      | some m0 =>
        simp only [] at h
        cases hm : Qau m0 l.length with
        | none => simp [hm] at h
        | some m =>
          cases hi' with
          | none => simp [hm] at h
          | some hi0 =>
            simp only [hm] at h
            cases hbm : Nat.beq m hx with
            | false => simp [hbm] at h
            | true =>
              have em' : m = hx := by simpa using hbm
              simp [hbm] at h
              subst h
              obtain ⟨l3, bm⟩ := qiG hs em hm
              have bh : IsB (hi.map a.eval) hx := by
                rcases bhi with ⟨_, h2, _⟩ | ⟨h1, _⟩
                · simp at h2
                · exact h1
              have hb : (Instr.sliceBounds true l.length cap (lo.map a.eval) (hi.map a.eval) (mx.map a.eval)).run P w = .ok (k, hx, m) w :=
                qbM blo (.inr bh) (.inr bm) l1 (by omega) (by omega)
              have hrun := qbi (w := w) ht hz0 (ad := some ⟨b, off, none⟩) hb
              refine ⟨_, hrun, ?_⟩
              have hadr : (if m = k then (some ⟨b, off, none⟩ : Option Addr) else (some ⟨b, off, none⟩ : Option Addr).map (·.add (k * sz0))) = some ⟨b, if m = k then off else off + k * sz0, none⟩ := by
                split <;> simp [Addr.add_mid]
              rw [hadr]
              exact piece (if m = k then off else off + k * sz0) m true none (fun h0 => by rw [if_neg (by omega)]) (by omega) (fun _ => em') rfl
end
section
variable {P:Program}{C:Cfg}{c:Ctx}{ρ:Nat→V}{a:Act}{w:World}
theorem qhg [Laid] (hs : QaT c ρ a) {t e : TypeId} (ht : P.underlying t = some (.slice e)) {sz : Nat} (hz0 : (P.info? e).map (·.size) = some sz)
    {lo hi mx : Option Operand} {lo' hi' mx' : Option Int} (el : QaK ρ lo = some lo') (eh : QaK ρ hi = some hi') (em : QaK ρ mx = some mx')
    {r : Ref} {off len : Nat} {lim : Option Nat} {ag : Bool} {p : Value} (hp : Rel c (.arr r off len lim sz ag) p) {v : V} (h : Qbo r off len lim sz ag lo' hi' mx' = some v) :
    ∃ x, (Instr.sliceAt t p (lo.map a.eval) (hi.map a.eval) (mx.map a.eval)).run P w = .ok x w ∧ Rel c v x := by
  obtain ⟨b, cap, n, rfl, hb, hc, he, hz, hk0, hu⟩ := hp.QbW
  unfold Qbo at h
  cases hh : Qau (hi'.getD len) len with
  | none => simp [hh] at h
  | some hx =>
    simp only [hh] at h
    cases hk : Qau (lo'.getD 0) hx with
    | none => simp [hk] at h
    | some k =>
      simp only [hk] at h
      obtain ⟨l1, l2, blo, bhi⟩ := qcq hs el eh em hh hk
      have piece : ∀ (m : Nat) (lim' : Option Nat), hx ≤ m → m ≤ cap → (m = k → k = 0) → (∀ q, lim' = some q → q = m - k ∧ ∃ K, m ≤ K ∧ off + K * sz ≤ n) → (lim' = none → m = cap ∧ lim = none) →
          Rel c (.arr r (off + k * sz) (hx - k) lim' sz ag) (.slice (if m = k then some ⟨b, off, none⟩ else (some ⟨b, off, none⟩ : Option Addr).map (·.add (k * sz))) (hx - k) (m - k)) := by
        intro m lim' hm hmc hmk hq hn
        have hadr : (if m = k then (some ⟨b, off, none⟩ : Option Addr) else (some ⟨b, off, none⟩ : Option Addr).map (·.add (k * sz))) = some ⟨b, off + k * sz, none⟩ := by
          split
          · rename_i e; have := hmk e; subst this; simp
          · simp [Addr.add_mid]
        rw [hadr]
        refine .arr _ _ _ _ _ _ b (m - k) n hb (by omega) he hz (fun q hq' => ?_) (fun hn' => ?_)
        · obtain ⟨e1, K, hK, hK2⟩ := hq q hq'
          refine ⟨e1.symm, ?_⟩
          rw [e1]
          have : (m - k) * sz + k * sz ≤ K * sz := by rw [← Nat.add_mul]; exact Nat.mul_le_mul_right _ (by omega)
          omega
        · obtain ⟨e1, e2⟩ := hn hn'
          subst e1
          have := hu e2
          have h3 : (m - k) * sz + k * sz = m * sz := by rw [← Nat.add_mul]; congr 1; omega
          omega
      cases mx' with
      | none =>
        have hmx := qfW hs em
        subst hmx
        simp only [] at h
        have hbn : (Instr.sliceBounds true len cap (lo.map a.eval) (hi.map a.eval) none).run P w = .ok (k, hx, cap) w :=
          qbM blo (by rcases bhi with ⟨h1, h2, h3⟩ | ⟨h1, _⟩
                      · exact .inl ⟨h1, rfl, h3⟩
                      · exact .inr h1) (.inl ⟨rfl, rfl⟩) l1 (by omega) (Nat.le_refl _)
        have hrun := qbi (w := w) ht hz0 (ad := some ⟨b, off, none⟩) hbn
        simp only [Option.map_none] at hrun ⊢
        refine ⟨_, hrun, ?_⟩
        cases lim with
        | none =>
          simp only [] at h
          cases hb2 : (Nat.beq k hx && !Nat.beq k 0) with
          | true =>
            simp [hb2] at h
            subst h
            have : k = hx := by simp at hb2; exact hb2.1
            subst this
            rw [Nat.sub_self]
            split
            · exact qce _ _ _ _ _ (fun h => by simp at h)
            · simp only [Option.map_some, Addr.add_mid]; exact qce _ _ _ _ _ (fun h => by simp at h)
          | false =>
            simp only [hb2, cond_false] at h
            simp at h
            subst h
            refine piece cap none (by omega) (Nat.le_refl _) (fun e => ?_) (fun q hq => by simp at hq) (fun _ => ⟨rfl, rfl⟩)
            have : k = hx := by omega
            simp at hb2
            exact hb2 this
        | some cc =>
          simp only [] at h
          have hcc := hk0 cc rfl
          cases hb2 : (Nat.beq k cc && !Nat.beq k 0) with
          | true =>
            simp [hb2] at h
            subst h
            have : k = cc := by simp at hb2; exact hb2.1
            have e0 : hx - k = 0 := by omega
            have e1 : cap - k = 0 := by omega
            rw [e0, e1]
            split
            · exact qce _ _ _ _ _ (fun h => rfl)
            · simp only [Option.map_some, Addr.add_mid]; exact qce _ _ _ _ _ (fun h => rfl)
          | false =>
            simp only [hb2, cond_false] at h
            simp at h
            subst h
            refine piece cap (some (cc - k)) (by omega) (Nat.le_refl _) (fun e => ?_) (fun q hq => ?_) (fun hn => by simp at hn)
            · have : k = cc := by omega
              simp at hb2
              exact hb2 this
            · simp at hq
              exact ⟨by omega, cc, by omega, hcc.2⟩
      | some m0 =>
        simp only [] at h
        cases hm : Qau m0 len with
        | none => simp [hm] at h
        | some m =>
          cases hi' with
          | none => simp [hm] at h
          | some hi0 =>
            simp only [hm] at h
            cases hbm : Nat.ble hx m with
            | false => simp [hbm] at h
            | true =>
              have em' : hx ≤ m := by simpa using hbm
              simp only [hbm, cond_true] at h
              obtain ⟨l3, bm⟩ := qiG hs em hm
              have bh : IsB (hi.map a.eval) hx := by
                rcases bhi with ⟨_, h2, _⟩ | ⟨h1, _⟩
                · simp at h2
                · exact h1
              have hbn : (Instr.sliceBounds true len cap (lo.map a.eval) (hi.map a.eval) (mx.map a.eval)).run P w = .ok (k, hx, m) w :=
                qbM blo (.inr bh) (.inr bm) l1 em' (by omega)
              have hrun := qbi (w := w) ht hz0 (ad := some ⟨b, off, none⟩) hbn
              refine ⟨_, hrun, ?_⟩
              cases hb2 : (Nat.beq k m && !Nat.beq k 0) with
              | true =>
                simp [hb2] at h
                subst h
                have : k = m := by simp at hb2; exact hb2.1
                have e0 : hx - k = 0 := by omega
                have e1 : m - k = 0 := by omega
                rw [e0, e1]
                split
                · exact qce _ _ _ _ _ (fun h => rfl)
                · simp only [Option.map_some, Addr.add_mid]; exact qce _ _ _ _ _ (fun h => rfl)
              | false =>
                simp only [hb2, cond_false] at h
                simp at h
                subst h
                refine piece m (some (m - k)) em' (by omega) (fun e => ?_) (fun q hq => ?_) (fun hn => by simp at hn)
                · simp at hb2
                  exact hb2 e.symm
                · simp at hq
                  refine ⟨by omega, m, Nat.le_refl _, ?_⟩
                  cases lim with
                  | none =>
                    have := hu rfl
                    have h3 : m * sz ≤ cap * sz := Nat.mul_le_mul_right _ (by omega)
                    omega
                  | some cc =>
                    have := hk0 cc rfl
                    have h3 : m * sz ≤ cc * sz := Nat.mul_le_mul_right _ (by omega)
                    omega
theorem qhe [Laid] (hs : QaT c ρ a) {t : TypeId} (ht : P.underlying t = some .string)
    {lo hi : Option Operand} {lo' hi' : Option Int} (el : QaK ρ lo = some lo') (eh : QaK ρ hi = some hi') {s : Str} {v : V} (h : QbK s lo' hi' = some v) :
    ∃ x, (Instr.sliceAt t (.string s.bytes) (lo.map a.eval) (hi.map a.eval) none).run P w = .ok x w ∧ Rel c v x := by
  unfold QbK at h
  cases hh : Qau (hi'.getD s.n) s.n with
  | none => simp [hh] at h
  | some hx =>
    simp only [hh] at h
    cases hk : Qau (lo'.getD 0) hx with
    | none => simp [hk] at h
    | some k =>
      simp only [hk] at h
      simp at h
      subst h
      obtain ⟨l1, l2, blo, bhi⟩ := qcq hs el eh (rfl : QaK ρ none = some none) hh hk
      have hbn0 : (Instr.sliceBounds false s.n s.n (lo.map a.eval) (hi.map a.eval) none).run P w = .ok (k, hx, s.n) w :=
        qbM blo (by rcases bhi with ⟨h1, h2, h3⟩ | ⟨h1, _⟩
                    · exact .inl ⟨h1, rfl, h3⟩
                    · exact .inr h1) (.inl ⟨rfl, rfl⟩) l1 (by omega) (Nat.le_refl _)
      have hbn : (Instr.sliceBounds false s.bytes.size s.bytes.size (lo.map a.eval) (hi.map a.eval) none).run P w = .ok (k, hx, s.bytes.size) w := by
        rw [s.QaY]; exact hbn0
      exact ⟨_, qf8 ht hbn, by rw [← Str.Qd2 s l1 l2]; exact .str _⟩
theorem qja [Laid] (hs : QaT c ρ a) {t : TypeId} {x : V} {p : Value} (hp : Rel c x p)
    {lo hi mx : Option Operand} {lo' hi' mx' : Option Int} (el : QaK ρ lo = some lo') (eh : QaK ρ hi = some hi') (em : QaK ρ mx = some mx') {v : V} (h : Qbd P t x lo' hi' mx' = some v) :
    ∃ r, (Instr.sliceAt t p (lo.map a.eval) (hi.map a.eval) (mx.map a.eval)).run P w = .ok r w ∧ Rel c v r := by
  unfold Qbd at h
  split at h
  · rename_i s
    split at h
    · rename_i ht
      have := hp.QbA
      subst this
      have hmx := qfW hs em
      subst hmx
      exact qhe hs ht el eh h
    · simp at h
  · split at h
    · rename_i e he
      split at h
      · rename_i n hl
        split at h
        · rename_i q1 q2 h1 h2
          have := hp.Qbp
          subst this
          simp at h
          subst h
          have ht := qbf he
          have hmx := qfW hs em
          subst hmx
          obtain ⟨e1, l1⟩ := qbm h1
          obtain ⟨e2, l2⟩ := qbm h2
          have z1 : q1 = 0 := by omega
          have z2 : q2 = 0 := by omega
          subst z1; subst z2
          obtain ⟨l1, l2, blo, bhi⟩ := qcq hs el eh (rfl : QaK ρ none = some none) h1 h2
          have hbn : (Instr.sliceBounds true 0 0 (lo.map a.eval) (hi.map a.eval) none).run P w = .ok (0, 0, 0) w :=
            qbM blo (by rcases bhi with ⟨h1, h2, h3⟩ | ⟨h1, _⟩
                        · exact .inl ⟨h1, rfl, h3⟩
                        · exact .inr h1) (.inl ⟨rfl, rfl⟩) l1 (by omega) (Nat.le_refl _)
          obtain ⟨n, g⟩ := n
          exact ⟨_, qbi (w := w) ht (qa4 hl).2.1 (ad := none) hbn, .nils⟩
        · rename_i q1 q2 m0 h1 h2
          split at h
          · rename_i q3 q4 h3
            have := hp.Qbp
            subst this
            simp at h
            subst h
            have ht := qbf he
            obtain ⟨l3, hm⟩ := qiG hs em h3
            obtain ⟨e1, l1⟩ := qbm h1
            obtain ⟨e2, l2⟩ := qbm h2
            have z1 : q1 = 0 := by omega
            have z2 : q2 = 0 := by omega
            have z3 : q3 = 0 := by omega
            subst z1; subst z2; subst z3
            obtain ⟨l1, l2, blo, bhi⟩ := qcq hs el eh em h1 h2
            have hbn : (Instr.sliceBounds true 0 0 (lo.map a.eval) (hi.map a.eval) (mx.map a.eval)).run P w = .ok (0, 0, 0) w :=
              qbM blo (by rcases bhi with ⟨h1, h2, h3⟩ | ⟨h1, _⟩
                          · simp at h2
                          · exact .inr h1) (.inr hm) l1 (by omega) (Nat.le_refl _)
            obtain ⟨n, g⟩ := n
            exact ⟨_, qbi (w := w) ht (qa4 hl).2.1 (ad := none) hbn, .nils⟩
          · simp at h
        · simp at h
      · simp at h
    · simp at h
  · rename_i tok full sz l
    split at h
    · rename_i e he
      split at h
      · rename_i n g hl
        cases hb : Nat.beq n sz with
        | false => simp [hb] at h
        | true =>
          simp only [hb, cond_true] at h
          have : n = sz := by simpa using hb
          subst this
          exact qhf hs (qbf he) (qa4 hl).2.1 el eh em hp h
      · simp at h
    · simp at h
  · rename_i r off len lim sz ag
    split at h
    · rename_i e he
      split at h
      · rename_i n g hl
        cases hb : Nat.beq n sz with
        | false => simp [hb] at h
        | true =>
          simp only [hb, cond_true] at h
          have : n = sz := by simpa using hb
          subst this
          exact qhg hs (qbf he) (qa4 hl).2.1 el eh em hp h
      · simp at h
    · simp at h
  · simp at h
end
section
variable {P:Program}{C:Cfg}{c:Ctx}{ρ:Nat→V}{a:Act}{w:World}
theorem qdw{t:TypeId}{i:Nat}{f:Field}(h:Qat P t i=some f):∃ fs,P.underlying t=some (.struct fs)∧fs[i]? = some f:=by
 unfold Qat at h
 split at h
 ·exact⟨_,by assumption,h⟩
 ·simp at h
theorem qd2{f:Field}{n:Nat}(hz:(P.info? f.type).map (·.size)=some n)(h0:0<n)(ad:Addr):(fieldPlace ad f).run P w=.ok (ad.add f.offset) w:=by
 unfold fieldPlace
 rw[Sem.run_bind,qbn hz,Result.andThen_ok]
 rw[if_neg (by omega)];rfl
theorem qbp{cs vs cs':List V}{off:Nat}(h:setAt cs off vs=some cs'):off+vs.length≤cs.length∧cs'=cs.take off++vs++cs.drop (off+vs.length):=by
 unfold setAt at h
 cases hb:Nat.ble (off+vs.length) cs.length with
 | false=>simp[hb]at h
 | true=>simp only[hb,cond_true,Option.some.injEq]at h;exact⟨by simpa using hb,h.symm⟩
theorem qhB{α β:Type}{f:α→Option β}:∀ {l:List α},(∀ x ∈ l,∃ y,f x=some y)→∃ r,l.mapM f=some r
 | [],_=>⟨[],rfl⟩
 | a::as,h=>by
  obtain⟨b,hb⟩:=h a (.head _)
  obtain⟨r,hr⟩:=qhB (l:=as) (fun x hx=>h x (.tail _ hx))
  exact⟨b::r,by rw[List.mapM_cons,hb,hr];rfl⟩
def lay(cs:List Value)(off:Nat)(vs:List Value):List Value:=cs.take off++vs++cs.drop (off+vs.length)
theorem QaC.lay[Laid]{cs vs cs':List V}{xs ys:List Value}{off:Nat}(h:setAt cs off vs=some cs')(hx:QaC c cs xs)(hy:QaC c vs ys):QaC c cs' (lay xs off ys):=by
 obtain⟨_,rfl⟩:=qbp h
 unfold AM.lay
 rw[hy.1]
 exact((hx.take _).append hy).append (hx.drop _)
theorem qcM{cs vs:List Value}{off:Nat}(h:off+vs.length≤cs.length):(lay cs off vs).length=cs.length:=by
 unfold lay;simp;omega
theorem qgQ(off:Nat):∀ (vs:List Value)(k:Nat)(cs:Array Value),off+k+vs.length≤cs.size →
  ((vs.zipIdx k).foldl (fun(cs:Array Value) (p:Value × Nat)=>cs.setIfInBounds (off+p.2) p.1) cs).toList=lay cs.toList (off+k) vs
 | [],k,cs,_=>by simp[lay]
 | v::vs,k,cs,h=>by
  simp only[List.zipIdx_cons,List.foldl_cons]
  rw[qgQ off vs (k+1) _ (by simp at h ⊢;omega)]
  simp only[List.length_cons]at h
  have hk:off+k<cs.toList.length:=by simp;omega
  unfold lay
  simp only[Array.toList_setIfInBounds]
  rw[show off+(k+1)=off+k+1 by omega,List.length_cons,List.take_set,List.drop_set,if_pos (by omega)]
  rw[show off+k+(vs.length+1)=off+k+1+vs.length by omega]
  rw[List.take_add_one,List.getElem?_eq_getElem hk]
  simp only[Option.toList_some]
  have hset:(List.take (off+k) cs.toList++[cs.toList[off+k]]).set (off+k) v=List.take (off+k) cs.toList++[v]:=by
   rw[List.set_append_right _ _ (by simp at hk ⊢;omega)]
   have:(List.take (off+k) cs.toList).length=off+k:=by simp at hk ⊢;omega
   rw[this,Nat.sub_self];rfl
  rw[hset]
  simp
theorem qgU(place:Nat→Option (Nat × Nat))(cells:Array Value)(i off size:Nat)(v:Value)(rest:List (Nat × Value))(hp:place i=some (off,size))(hs:v.cells.size=size)(hl:off+size≤cells.size) :
  Instr.fill place cells ((i,v)::rest)=Instr.fill place (lay cells.toList off v.cells.toList).toArray rest:=by
 simp only[Instr.fill,hp]
 rw[if_neg (by simp;omega)]
 congr 1
 apply Array.toList_inj.1
 rw[←Array.foldl_toList,Array.toList_zipIdx]
 have:=qgQ off v.cells.toList 0 cells (by simp;omega)
 simpa using this
theorem Rel.weak[Laid]{v:V}{x:Value}(h:Rel c v x):Rel c v.weak x:=by
 cases h with
 | slice tok full sz l b off cap xs hsz hl hs hr hn hc hf ht=>exact .slice none full sz l b off cap xs hsz hl hs hr hn hc hf (fun r h=>by simp at h)
 | _=>constructor<;>assumption
theorem Rel.QbH[Laid]{v:V}{x:Value}(h:Rel c v x):Rel c v.QbH x:=by
 cases h with
 | agg cs xs hl hr =>
  refine .agg _ _ (by simpa using hl) (fun i v x a b=>?_)
  simp only[List.getElem?_map,Option.map_eq_some_iff]at a
  obtain⟨u,hu,rfl⟩:=a
  exact(hr i u x hu b).weak
 | slice tok full sz l b off cap xs hsz hl hs hr hn hc hf ht=>exact .slice none full sz l b off cap xs hsz hl hs hr hn hc hf (fun r h=>by simp at h)
 | _=>constructor<;>assumption
theorem Rel.weak1[Laid]{v:V}{x:Value}(h:Rel c v x):Rel c v.weak1 x:=by
 have hw:=h.weak
 cases v with
 | slice tok f sz l =>
  cases tok with
  | none=>exact h
  | some r=>cases r with
   | loc s g=>exact hw
   | glob r=>exact h
 | _=>exact h
theorem Rel.QbM[Laid]{v:V}{x:Value}(h:Rel c v x):Rel c v.QbM x:=by
 have hw:=h.weak1
 cases v with
 | agg cs =>
  cases h with
  | agg cs xs hl hr =>
   refine .agg _ _ (by simpa using hl) (fun i v x a b=>?_)
   simp only[List.getElem?_map,Option.map_eq_some_iff]at a
   obtain⟨u,hu,rfl⟩:=a
   exact(hr i u x hu b).weak1
 | _=>exact hw
theorem qiK{v:V}(h:v.plain=true):v.live=true:=by cases v<;>simp[V.plain,V.live]at h ⊢
theorem qgV[Laid](hs:QaT c ρ a){t:TypeId}{fs:Array Field}(ht:P.underlying t=some (.struct fs)){places:List (Nat × Nat)}
  (hp:fs.toList.mapM (fun f=>(P.info? f.type).map fun i=>(f.offset,i.size))=some places) :
  ∀ (ps:List (Nat × Operand)) (cs cs':List V) (cells:Array Value),Qbl P t ρ ps cs=some cs'→QaC c cs cells.toList →
   ∃ cells',Instr.fill (places.toArray[·]?) cells (ps.map fun(i,x)=>(i,a.eval x))=some cells'∧QaC c cs' cells'.toList
 | [],cs,cs',cells,h,hr=>by
  simp[Qbl]at h
  subst h
  exact⟨cells,rfl,hr⟩
 | (i,x)::ps,cs,cs',cells,h,hr=>by
  simp only[Qbl]at h
  cases hf:Qat P t i with
  | none=>simp[hf]at h
  | some f =>
   simp only[hf]at h
   generalize hb:((opd ρ x).QbM.plain&&(bif Nat.beq (opd ρ x).QbM.cells.length ((QbG P f.type).getD 0)then true else false))=b at h
   cases b with
   | false=>simp at h
   | true =>
    simp only[cond_true]at h
    simp only[Bool.and_eq_true]at hb
    obtain⟨hb1,hb2⟩:=hb
    cases hset:setAt cs f.offset (opd ρ x).QbM.cells with
    | none=>simp[hset]at h
    | some cs1 =>
     simp only[hset]at h
     obtain⟨fs',ht',hi⟩:=qdw hf
     rw[ht]at ht'
     obtain rfl:fs=fs':=by simpa using ht'
     have hrel:Rel c (opd ρ x).QbM (a.eval x):=(qay hs x).QbM
     have hcells:=hrel.cells (qiK hb1)
     have hinfo:∃ it,P.info? f.type=some it∧places[i]? = some (f.offset,it.size):=by
      have:=mapM_some_get hp i f (by simpa using hi)
      cases hq:P.info? f.type with
      | none =>
       exfalso
       simp[hq]at this
       have hlen:=mapM_some_length hp
       rcases Nat.lt_or_ge i fs.size with h' | h'
       ·simp at hlen;omega
       ·simp[Array.getElem?_eq_none h']at hi
      | some it=>simp[hq]at this;exact⟨it,rfl,this.symm⟩
     obtain⟨it,hit,hpl⟩:=hinfo
     have hsz:(a.eval x).cells.size=it.size:=by
      have h1:=hcells.1
      have h2:(opd ρ x).QbM.cells.length=it.size:=by
       have h3:QbG P f.type=some it.size:=by simp[QbG,hit]
       rw[h3]at hb2
       simpa using hb2
      simp at h1;omega
     have hle:=(qbp hset).1
     have hfit:f.offset+it.size≤cells.size:=by
      have h1:=hr.1;have h2:=hcells.1
      simp at h1 h2;omega
     obtain⟨cells',hfill,hr'⟩:=qgV hs ht hp ps cs1 cs' (lay cells.toList f.offset (a.eval x).cells.toList).toArray h (by simpa using QaC.lay hset hr hcells)
     refine⟨cells',?_,hr'⟩
     simp only[List.map_cons]
     rw[qgU _ _ i f.offset it.size _ _ (by simpa using hpl) hsz hfit]
     exact hfill
theorem qg9[Laid](hs:QaT c ρ a){t:TypeId}{ps:Array (Nat × Operand)}{fs:Array Field}(ht:P.underlying t=some (.struct fs)){z:V}(hz:zeroV P t=some z)(hl:z.live=true)
  (hall:fs.all (fun f=>(P.info? f.type).isSome)=true) {cs:List V} (h:Qbl P t ρ ps.toList z.cells=some cs) :
  ∃ x,(Instr.build t (ps.map fun(i,x)=>(i,a.eval x))).run P w=.ok x w∧Rel c (.agg cs) x:=by
 unfold zeroV at hz
 cases hit:P.info? t with
 | none=>simp[hit]at hz
 | some it =>
  simp only[hit]at hz
  cases hzz:it.zero with
  | none=>simp[hzz]at hz
  | some zz =>
   simp[hzz]at hz
   subst hz
   have hrz:=(qeS c zz).cells hl
   obtain⟨places,hp⟩:∃ places,fs.toList.mapM (fun f=>(P.info? f.type).map fun i=>(f.offset,i.size))=some places:=by
    refine qhB (fun f hf=>?_)
    have:=Array.all_eq_true_iff_forall_mem.1 hall f (by simpa using hf)
    obtain⟨i,hi⟩:=Option.isSome_iff_exists.1 this
    exact⟨_,by rw[hi];rfl⟩
   obtain⟨cells',hfill,hr'⟩:=qgV hs ht hp ps.toList _ cs zz.cells h hrz
   refine⟨.agg cells',run_build w t _ cells' ?_,?_⟩
   ·unfold Program.built
    simp only[hit,ht,hzz,hp]
    simpa using hfill
   ·have:=Rel.Qdl hr'
    simpa using this
end
section
variable {P:Program}{C:Cfg}{c:Ctx}{ρ:Nat→V}{a:Act}{w:World}
def qbX:Op→Bool
 | .buildSlice ..=>true
 | _=>false
theorem qlS[Laid](hs:QaT c ρ a)(l:List Operand):QaC c (l.map (opd ρ)) (l.map a.eval):=by
 induction l with
 | nil=>exact QaC.nil c
 | cons x l ih=>exact QaC.cons (qay hs x) ih
theorem qgF[Laid](hs:QaT c ρ a){t:TypeId}{x i:Operand}{k:IntKind}{n:Int}(hi:opd ρ i=.int k n){v:V}(h:QaM P t (opd ρ x) n=some v) :
  ∃ r,(Instr.indexAt t (a.eval x) (a.eval i)).run P w=.ok r w∧Rel c v r:=by
 unfold QaM at h
 split at h
 ·simp at h
 ·rename_i e he
  have ht:=qbf he
  split at h
  ·simp at h
  ·rename_i m g hl
   obtain⟨h0,hz,_⟩:=qa4 hl
   have hx:=qay hs x
   rw[qc2 hs hi]
   split at h
   ·rename_i tok full sz l hv
    rw[hv]at hx
    obtain⟨b,off,cap,xs,hp,hsz,hr,hsh,hn,hc,hf,htok⟩:=hx.QbP
    rw[hp]
    cases hb:Nat.beq m sz with
    | false=>simp[hb]at h
    | true =>
     have:m=sz:=by simpa using hb
     subst this
     simp only[hb,cond_true]at h
     split at h
     ·simp at h
     ·rename_i q hq
      obtain⟨e1,l1⟩:=qdi hq
      subst e1
      split at h
      ·rename_i u hu
       simp at h
       subst h
       refine⟨.pointer (some ⟨b,off+q*m,none⟩),?_,?_⟩
       ·have hc2:(0:Int)≤q∧(q:Int)<l.length:=⟨by omega,by omega⟩
        simp[Instr.indexAt,asIntOf,run_underlying ht,hc2,qbn hz,l1,Addr.add_mid]
       ·have hfg:=qru hsz hu
        have hd:=(hr.drop (q*m)).take m
        rw[hfg]at hd
        refine .iptr _ _ _ _ hd.1 (fun j y hy=>?_) hd.2
        rw[List.getElem?_take]at hy
        split at hy
        ·rw[List.getElem?_drop]at hy
         have:=hsh _ _ hy
         rwa [show off+q*m+j=off+(q*m+j)by omega]
        ·simp at hy
      ·simp at h
   ·rename_i r off len lim sz ag hv
    rw[hv]at hx
    obtain⟨b,cap,nn,hp,hb',hc,he',hz',hk,hu⟩:=hx.QbW
    rw[hp]
    cases hb:Nat.beq m sz with
    | false=>simp[hb]at h
    | true =>
     have:m=sz:=by simpa using hb
     subst this
     simp only[hb,cond_true]at h
     split at h
     ·simp at h
     ·rename_i q hq
      obtain⟨e1,l1⟩:=qdi hq
      subst e1
      simp at h
      subst h
      refine⟨.pointer (some ⟨b,off+q*m,none⟩),?_,.ptr _ _ _ hb'⟩
      have hc2:(0:Int)≤q∧(q:Int)<len:=⟨by omega,by omega⟩
      simp[Instr.indexAt,asIntOf,run_underlying ht,hc2,qbn hz,l1,Addr.add_mid]
   ·simp at h
theorem qez[Laid](hs:QaT c ρ a){o:Oper}{cl:Call}{x:Operand}(ho:o.op=.call cl)(hc:cl.callee=.builtin .len)(ha:cl.args.toList=[x]){t:TypeId}(ht:cl.argTypes[0]? = some t)
  {r:Value} (hr:(Builtin.len_ cl.argTypes o.type #[a.eval x]).run P w=.ok r w):(execOp a.eval o).run P w=.ok (.value r) w:=by
 have harr:cl.args = #[x]:=by rw[←Array.toList_inj,ha]
 simp[execOp,ho,resolve,hc,invoke,builtin,harr,hr]
theorem qmu[Laid](hs:QaT c ρ a){o:Oper}(hb:qbX o.op=false){v:V}(h:Qam P C ρ o.op=some v):Gives P c (execOp a.eval o) w v:=by
 unfold Qam at h
 unfold Gives
 cases ho:o.op with
 | move x=>simp[ho]at h;subst h;exact⟨_,by simp only[execOp,ho];rfl,qay hs x⟩
 | assign x=>simp[ho]at h;subst h;exact⟨_,by simp only[execOp,ho];rfl,qay hs x⟩
 | pick cc x y =>
  simp only[ho]at h
  split at h
  ·rename_i hc;simp at h;subst h;exact⟨_,by simp only[execOp,ho,qfS hs hc];rfl,qay hs x⟩
  ·rename_i hc;simp at h;subst h;exact⟨_,by simp only[execOp,ho,qfS hs hc];rfl,qay hs y⟩
  ·simp at h
 | nilCheck x =>
  simp only[ho]at h
  have hx:=qay hs x
  split at h
  ·rename_i r off hc
   rw[hc]at hx
   obtain⟨b,hp,hb⟩:=hx.QbU
   simp at h;subst h
   exact⟨_,by simp only[execOp,ho,hp];rfl,.ptr _ _ _ hb⟩
  ·rename_i cs hc
   rw[hc]at hx
   obtain⟨b,off,xs,hp,hr,hsh⟩:=hx.QcV
   simp at h;subst h
   exact⟨_,by simp only[execOp,ho,hp];rfl,.iptr _ _ _ _ hr.1 hsh hr.2⟩
  ·simp at h
 | binOp op t x y yt =>
  simp only[ho]at h
  cases hbv:Qct op (opd ρ x) (opd ρ y)with
  | some u =>
   simp[hbv]at h
   subst h
   obtain⟨r,hr,hrel⟩:=qni (P:=P) (w:=w) (t:=t) (X:=x) (Y:=y) hbv (qay hs x) (qay hs y)
   exact⟨r,by simp only[execOp,ho];rw[Sem.run_bind,hr];rfl,hrel⟩
  | none =>
   simp[hbv]at h
   obtain⟨r,hr,hrel⟩:=qoV (P:=P) (w:=w) (t:=t) (X:=x) (Y:=y) h (qay hs x) (qay hs y)
   exact⟨r,by simp only[execOp,ho];rw[Sem.run_bind,hr];rfl,hrel⟩
 | unOp op t x =>
  simp only[ho]at h
  obtain⟨r,hr,hrel⟩:=qnu (P:=P) (w:=w) h (qay hs x)
  exact⟨r,by simp only[execOp,ho];rw[Sem.run_bind,hr];rfl,hrel⟩
 | convert s d x =>
  simp only[ho]at h
  obtain⟨r,hr,hrel⟩:=qlq (P:=P) (w:=w) h (qay hs x)
  exact⟨r,by simp only[execOp,ho];rw[Sem.run_bind,hr];rfl,hrel⟩
 | slice t x lo hi mx =>
  simp only[ho]at h
  split at h
  ·rename_i lo' hi' mx' el eh em
   obtain⟨r,hr,hrel⟩:=qja (P:=P) (w:=w) hs (qay hs x) el eh em h
   exact⟨r,by simp only[execOp,ho];rw[Sem.run_bind,hr];rfl,hrel⟩
  ·simp at h
 | fieldAddr t x i =>
  simp only[ho]at h
  split at h
  ·simp at h
  ·rename_i f hf
   split at h
   ·simp at h
   ·rename_i n hl
    obtain⟨n,g⟩:=n
    obtain⟨fs,ht,hfi⟩:=qdw hf
    obtain⟨h0,hz,_⟩:=qa4 hl
    have hx:=qay hs x
    split at h
    ·rename_i r off hc
     rw[hc]at hx
     obtain⟨b,hp,hb⟩:=hx.QbU
     simp at h;subst h
     refine⟨.pointer (some ⟨b,off+f.offset,none⟩),?_,.ptr _ _ _ hb⟩
     simp[execOp,ho,hp,Instr.fieldAt,run_underlying ht,hfi,Instr.sureAddr,qd2 hz h0,Addr.add_mid]
    ·rename_i cs hc
     rw[hc]at hx
     obtain⟨b,off,xs,hp,hr,hsh⟩:=hx.QcV
     simp at h;subst h
     refine⟨.pointer (some ⟨b,off+f.offset,none⟩),?_,?_⟩
     ·simp[execOp,ho,hp,Instr.fieldAt,run_underlying ht,hfi,Instr.sureAddr,qd2 hz h0,Addr.add_mid]
     ·have hd:=hr.drop f.offset
      refine .iptr _ _ _ _ hd.1 (fun j y hy=>?_) hd.2
      rw[List.getElem?_drop]at hy
      have:=hsh _ _ hy
      rwa [show off+f.offset+j=off+(f.offset+j)by omega]
    ·simp at h
 | field t x i =>
  simp only[ho]at h
  split at h
  ·rename_i f cs hf hc
   obtain⟨fs,ht,hfi⟩:=qdw hf
   have hx:=qay hs x
   rw[hc]at hx
   obtain⟨xs,hp,hr⟩:=hx.QdR
   obtain⟨r,hrun,hrel⟩:=qmy (P:=P) (w:=w) h hr
   refine⟨r,?_,hrel⟩
   simp[execOp,ho,hp,Instr.field,run_underlying ht,hfi,asAgg,hrun]
  ·simp at h
 | indexAddr t x i =>
  simp only[ho]at h
  split at h
  ·rename_i k n hi
   obtain⟨r,hr,hrel⟩:=qgF (P:=P) (w:=w) hs hi h
   exact⟨r,by simp only[execOp,ho];rw[Sem.run_bind,hr];rfl,hrel⟩
  ·simp at h
 | index t x i =>
  simp only[ho]at h
  split at h
  ·rename_i s k n hx hi ht
   split at h
   ·simp at h
   ·rename_i q hq
    obtain⟨e1,l1⟩:=qdi hq
    subst e1
    ·obtain⟨b,hb,hbe⟩:=s.QcW l1
     simp at h;subst h
     refine⟨.int .u8 b.toNat,?_,by rw[hbe];exact .int _ _⟩
     have hb':s.bytes[q]? = some b:=by
      have h2:s.bytes.data[q]? = some b:=by rw[←Array.getElem?_toList];exact hb
      simp only[getElem?_def]at h2 ⊢
      split at h2
      ·rename_i hlt
       rw[dif_pos (by exact hlt)]
       exact h2
      ·simp at h2
     simp[execOp,ho,qn2 hs hx,qc2 hs hi,Instr.index,asIntOf,run_underlying ht,hb']
  ·simp at h
 | extract x i =>
  simp only[ho]at h
  split at h
  ·rename_i vs hc
   have hx:=qay hs x
   rw[hc]at hx
   obtain⟨xs,hp,hr⟩:=hx.QdA
   obtain⟨y,hy,hrel⟩:=hr.get h
   exact⟨y,by simp[execOp,ho,hp,Instr.extract,hy],hrel⟩
  ·simp at h
 | makeFunc f x y =>
  simp[ho]at h
  subst h
  have h1:=qlS hs x.toList
  have h2:=qlS hs y.toList
  refine⟨.func f (x.map a.eval) (y.map a.eval),by simp only[execOp,ho];rfl,.fn _ _ _ _ _ (by simp) (by simp) (fun i v x' p q=>?_) (fun i v x' p q=>?_)⟩
  ·exact h1.2 i v x' p (by rw[←q];simp)
  ·exact h2.2 i v x' p (by rw[←q];simp)
 | makeInterface t x =>
  simp only[ho]at h
  split at h
  ·simp at h
  ·rename_i d hd1 hd2
   simp at h;subst h
   refine⟨.iface t (a.eval x),?_,.iface _ _ _ (qay hs x)⟩
   cases d<;>first | exact absurd rfl (hd1 _) | simp[execOp,ho,Instr.makeInterface,run_underlying hd2]
  ·simp at h
 | build t ps =>
  simp only[ho]at h
  split at h
  ·rename_i fs z ht hz
   generalize hg:(z.live&&fs.all (fun f=>(P.info? f.type).isSome))=b at h
   cases b with
   | false=>simp at h
   | true =>
    simp only[cond_true]at h
    simp only[Bool.and_eq_true]at hg
    cases hf:Qbl P t ρ ps.toList z.cells with
    | none=>simp[hf]at h
    | some cs =>
     simp[hf]at h;subst h
     obtain⟨r,hr,hrel⟩:=qg9 (P:=P) (w:=w) hs ht hz hg.1 hg.2 hf
     exact⟨r,by simp only[execOp,ho];rw[Sem.run_bind,hr];rfl,hrel⟩
  ·simp at h
 | buildSlice t len ps=>simp[ho,qbX]at hb
 | call cl =>
  simp only[ho]at h
  split at h
  ·rename_i x hc ha
   split at h
   ·simp at h
   ·rename_i t ht
    have hx:=qay hs x
    split at h
    ·rename_i e hv hu
     rw[hv]at hx
     have:=hx.Qbp
     simp at h;subst h
     refine⟨_,qez hs ho hc ha ht (r:=.int .i64 0) ?_,.int _ _⟩
     simp[Builtin.len_,ht,this,run_underlying hu,goInt]
    ·rename_i tok full sz l e hv hu
     rw[hv]at hx
     obtain⟨b,off,cap,xs,hp,_⟩:=hx.QbP
     simp at h;subst h
     refine⟨_,qez hs ho hc ha ht (r:=.int .i64 l.length) ?_,.int _ _⟩
     simp[Builtin.len_,ht,hp,run_underlying hu,goInt]
    ·rename_i r off n lim sz ag e hv hu
     rw[hv]at hx
     obtain⟨b,cap,nn,hp,_⟩:=hx.QbW
     simp at h;subst h
     refine⟨_,qez hs ho hc ha ht (r:=.int .i64 n) ?_,.int _ _⟩
     simp[Builtin.len_,ht,hp,run_underlying hu,goInt]
    ·rename_i s hv hu
     rw[hv]at hx
     have:=hx.QbA
     simp at h;subst h
     refine⟨_,qez hs ho hc ha ht (r:=.int .i64 s.n) ?_,.int _ _⟩
     simp[Builtin.len_,ht,this,run_underlying hu,goInt,s.QaY]
    ·simp at h
  ·rename_i x y hc ha
   have harr:cl.args = #[x,y]:=by rw[←Array.toList_inj,ha]
   split at h
   ·rename_i k m k' n hx hy
    simp at h;subst h
    refine⟨.int k (if n<m then n else m),?_,.int _ _⟩
    simp[execOp,ho,resolve,hc,invoke,builtin,harr,Builtin.min_,qc2 hs hx,qc2 hs hy,Builtin.min2]
   ·simp at h
  ·rename_i x y hc ha
   have harr:cl.args = #[x,y]:=by rw[←Array.toList_inj,ha]
   split at h
   ·rename_i k m k' n hx hy
    simp at h;subst h
    refine⟨.int k (if n > m then n else m),?_,.int _ _⟩
    simp[execOp,ho,resolve,hc,invoke,builtin,harr,Builtin.max_,qc2 hs hx,qc2 hs hy,Builtin.max2]
   ·simp at h
  ·simp at h
 | _=>simp[ho]at h
end
section
variable {st st':St}
theorem qbW(s:Nat)(p:Nat × Row)(j:Nat):({ st with loc:=aset st.loc s p }:St).lc j=if s=j then p else st.lc j:=qaI _ _ _ _ _
theorem qap (s g : Nat) : Qab st (.loc s g) = if (st.lc s).1 = g then some (st.lc s).2 else none := by
  simp only [Qab]
  cases h : Nat.beq (st.lc s).1 g with
  | true => have : (st.lc s).1 = g := by simpa using h
            simp [this]
  | false => have : (st.lc s).1 ≠ g := by intro e; rw [e] at h; simp at h
             simp [this]
theorem qbe{r:Ref}{old row:Row}(h:Qab st r=some old):Qab (setRow st r row) r=some row:=by
 cases r with
 | loc s g=>simp only[setRow];rw[qap,qbW];simp
 | glob r =>
  simp only[Qab,setRow]at h ⊢
  rw[List.getElem?_set]
  have:r<st.hp.rows.length:=by
   rcases Nat.lt_or_ge r st.hp.rows.length with h' | h'
   ·exact h'
   ·simp[h']at h
  simp[this]
theorem qaF{r r':Ref}{old row:Row}(h:Qab st r=some old)(hne:r'≠r):Qab (setRow st r row) r'=Qab st r':=by
 cases r with
 | loc s g =>
  rw[qap]at h
  have hg:(st.lc s).1=g:=by
   by_cases e:(st.lc s).1=g
   ·exact e
   ·simp[e]at h
  cases r' with
  | loc s' g' =>
   simp only[setRow]
   rw[qap,qap,qbW]
   by_cases e:s=s'
   ·subst e
    simp only[if_true]
    have:g≠g':=by intro e;subst e;exact hne rfl
    rw[if_neg this,if_neg (by rw[hg];exact this)]
   ·simp[e]
  | glob r'=>rfl
 | glob r =>
  cases r' with
  | loc s' g'=>rfl
  | glob r' =>
   simp only[Qab,setRow]
   rw[List.getElem?_set,if_neg (by intro e;subst e;exact hne rfl)]
theorem qjc{r:Ref}{old row:Row}(h:Qab st r=some old)(s:Nat):((setRow st r row).lc s).1=(st.lc s).1:=by
 cases r with
 | loc s' g =>
  simp only[setRow]
  rw[qbW]
  split
  ·rename_i e;subst e
   rw[qap]at h
   by_cases e:(st.lc s').1=g
   ·exact e.symm
   ·simp[e]at h
  ·rfl
 | glob r=>rfl
theorem qf6(r:Ref)(row:Row):(setRow st r row).hp.rows.length=st.hp.rows.length:=by
 cases r<;>simp[setRow]
theorem qhI{gl:Bool}{site:Nat}{row:Row}:Qab (Qaa st gl site row).2 (Qaa st gl site row).1=some row:=by
 cases gl with
 | true=>simp[Qaa,Qab]
 | false=>simp only[Qaa,cond_false];rw[qap,qbW];simp
theorem qb8{gl:Bool}{site:Nat}{row row':Row}{r:Ref}(h:Qab (Qaa st gl site row).2 r=some row')(hne:r≠(Qaa st gl site row).1):Qab st r=some row':=by
 cases gl with
 | true =>
  cases r with
  | loc s g=>exact h
  | glob r =>
   simp only[Qaa,cond_true,Qab]at h hne ⊢
   rw[List.getElem?_append]at h
   split at h
   ·exact h
   ·rename_i hlt
    have:r - st.hp.rows.length=0∨0<r - st.hp.rows.length:=by omega
    rcases this with e | e
    ·exact absurd (by congr 1;omega) hne
    ·rw[List.getElem?_eq_none (by simp;omega)]at h;simp at h
 | false =>
  cases r with
  | loc s g =>
   simp only[Qaa,cond_false]at h hne
   rw[qap,qbW]at h
   by_cases e:site=s
   ·subst e
    simp only[if_true]at h
    by_cases e2:(st.lc site).1+1=g
    ·subst e2;exact absurd rfl hne
    ·simp[e2]at h
   ·simp only[e,if_false]at h
    rw[qap];exact h
  | glob r=>exact h
theorem qjT[Laid]{gl:Bool}{site:Nat}{row:Row}{c:Ctx}{w:World}(h:WRel c st w):c.blk (Qaa st gl site row).1=none:=by
 cases gl with
 | true=>exact h.glb _ (Nat.le_refl _)
 | false=>exact h.lcb _ _ (by simp)
theorem qn7{gl:Bool}{site:Nat}{row:Row}{i:Nat}(h:(Qaa st gl site row).2.hp.rows.length≤i):(Qaa st gl site row).1≠.glob i∧st.hp.rows.length≤i:=by
 cases gl with
 | true=>simp[Qaa]at h ⊢;omega
 | false=>simp[Qaa]at h ⊢;omega
theorem qn8{gl:Bool}{site:Nat}{row:Row}{s g:Nat}(h:((Qaa st gl site row).2.lc s).1<g):(Qaa st gl site row).1≠.loc s g∧(st.lc s).1<g:=by
 cases gl with
 | true=>simp only[Qaa,cond_true]at h ⊢;exact⟨by simp,h⟩
 | false =>
  simp only[Qaa,cond_false]at h ⊢
  rw[qbW]at h
  by_cases e:site=s
  ·subst e;simp only[if_true]at h
   refine⟨fun e=>?_,by omega⟩
   injection e with e1 e2;omega
  ·simp only[e,if_false]at h
   exact⟨fun e'=>by injection e' with e1 e2;exact e e1,h⟩
end
section
variable {P:Program}{c c':Ctx}{st st':St}{w w':World}
theorem Qcs.keep[Laid]{r:Ref}{row:Row}(h:Qcs c w r row)(hle:c.le c')
  (hk:∀ b,c.blk r=some b→w'.heap[b]? = w.heap[b]?∧∀ o,c'.shut b o=c.shut b o):Qcs c' w' r row:=by
 cases row with
 | gone=>trivial
 | cells frz cs =>
  obtain⟨b,xs,e,fz,h1,h2,h3,h4,h5,h6,h7,h8⟩:=h
  obtain⟨k1,k2⟩:=hk b h1
  exact⟨b,xs,e,fz,hle.blk h1,by rw[k1];exact h2,h3,hle.ext _ _ h4,h5,h6.mono hle,fun hf o=>by rw[k2];exact h7 hf o,fun hf o x hx=>by rw[k2];exact h8 hf o x hx⟩
 | tok =>
  obtain⟨b,xs,e,fz,n,h1,h2,h3,h4,h5,h6,h7⟩:=h
  obtain⟨k1,k2⟩:=hk b h1
  exact⟨b,xs,e,fz,n,hle.blk h1,by rw[k1];exact h2,h3,hle.ext _ _ h4,hle.text _ _ h5,h6,fun o ho=>by rw[k2];exact h7 o ho⟩
 | iter s pos =>
  obtain⟨b,h1,h2⟩:=h
  exact⟨b,hle.blk h1,by rw[(hk b h1).1];exact h2⟩
 | mp ks vs =>
  obtain⟨b,es,clk,h1,h2,h0,h3,h4,h5,h6⟩:=h
  exact⟨b,es,clk,hle.blk h1,by rw[(hk b h1).1];exact h2,h0,h3.mono hle,h4.mono hle,h5,h6⟩
theorem qaE{b:Nat}{xs:Array Value}{e:TypeId}{fz:Nat × Nat}(h:w.heap[b]? = some (.cells xs e fz))(o:Nat):w.cell? ⟨b,o,none⟩ = xs[o]?:=by
 simp[World.cell?,h]
theorem qbv{b:Nat}{xs:Array Value}{e:TypeId}{fz:Nat × Nat}(h:w.heap[b]? = some (.cells xs e fz))(hf:∀ o,o<xs.size→¬(fz.1≤o∧o<fz.2)){o:Nat}(ho:o<xs.size) :
  w.frozen? ⟨b,o,none⟩ = false:=by
 simp only[World.frozen?,h]
 have:=hf o ho
 simp only[Bool.and_eq_false_iff,decide_eq_false_iff_not]
 by_cases h1:fz.1≤o
 ·exact .inr (fun h2=>this ⟨h1,h2⟩)
 ·exact .inl h1
def Ctx.bind(c:Ctx)(r:Ref)(b n:Nat)(tx:Option Nat)(sh:Nat→Option Value):Ctx where
 gl:=fun i=>if r=.glob i then some b else c.gl i
 lc:=fun s g=>if r=.loc s g then some b else c.lc s g
 shut:=fun i o=>if i=b then (match c.shut b o with | some x=>some x | none=>sh o)else c.shut i o
 ext:=fun i=>if i=b then some n else c.ext i
 text:=fun q=>if q=r then tx else c.text q
theorem qa0(c:Ctx)(r:Ref)(b n:Nat)(tx:Option Nat)(sh:Nat→Option Value)(q:Ref):(c.bind r b n tx sh).blk q=if r=q then some b else c.blk q:=by
 cases q<;>rfl
theorem qlE{r:Ref}{b n:Nat}{tx:Option Nat}{sh:Nat→Option Value}(hf:c.blk r=none)(hx:c.text r=none)(he:∀ m,c.ext b=some m→m=n):c.le (c.bind r b n tx sh):=by
 refine⟨fun i j h=>?_,fun s g j h=>?_,fun i o x h=>?_,fun i m h=>?_,fun q m h=>?_⟩
 ·simp only[Ctx.bind]
  rw[if_neg]
  ·exact h
  ·intro e;subst e;simp[Ctx.blk,h]at hf
 ·simp only[Ctx.bind]
  rw[if_neg]
  ·exact h
  ·intro e;subst e;simp[Ctx.blk,h]at hf
 ·simp only[Ctx.bind]
  split
  ·rename_i e;subst e;rw[h]
  ·exact h
 ·simp only[Ctx.bind]
  split
  ·rename_i e;subst e;rw[he m h]
  ·exact h
 ·simp only[Ctx.bind]
  rw[if_neg]
  ·exact h
  ·intro e;subst e;rw[h]at hx;simp at hx
theorem WRel.QdQ[Laid](h:WRel c st w){r:Ref}{row:Row}{b n:Nat}{tx:Option Nat}{sh:Nat→Option Value}
  (hfresh:c.blk r=none) (hext:∀ m,c.ext b=some m→m=n)
  (hsub:∀ r1 row1,Qab st' r1=some row1→row1≠.gone→r1=r∨(r1≠r∧Qab st r1=some row1∧c.blk r1≠some b))
  (hme:Qab st' r=some row) (hok:Qcs (c.bind r b n tx sh) w' r row)
  (hb:b<w'.heap.size) (hsize:w.heap.size≤w'.heap.size) (hheap:∀ i,i≠b→i<w.heap.size→w'.heap[i]? = w.heap[i]?)
  (hshut:∀ o x,(c.bind r b n tx sh).shut b o=some x→w'.cell? ⟨b,o,none⟩ = some x)
  (hglb:∀ i,st'.hp.rows.length≤i→r≠.glob i∧st.hp.rows.length≤i) (hlcb:∀ s g,(st'.lc s).1<g→r≠.loc s g∧(st.lc s).1<g) :
  WRel (c.bind r b n tx sh) st' w':=by
 have htx:c.text r=none:=by
  cases hq:c.text r with
  | none=>rfl
  | some m=>obtain⟨b',hb'⟩:=h.tlt r m hq;rw[hb']at hfresh;simp at hfresh
 have hle:=qlE (tx:=tx) (sh:=sh) hfresh htx hext
 refine⟨fun i o x hx=>?_,fun r1 row1 h1=>?_,fun r1 r2 row1 row2 b' h1 h2 n1 n2 b1 b2=>?_,fun i hi=>?_,fun s g hg=>?_,fun q j hq=>?_,fun q m hq=>?_,fun j m hq=>?_⟩
 ·by_cases e:i=b
  ·subst e;exact hshut o x hx
  ·have hx':c.shut i o=some x:=by simpa[Ctx.bind,e]using hx
   have:=h.shut i o x hx'
   have hlt:=h.Qb2 hx'
   rw[←this]
   simp only[World.cell?,hheap i e hlt]
 ·by_cases hg:row1=.gone
  ·subst hg;trivial
  ·rcases hsub r1 row1 h1 hg with rfl | ⟨hne,hold,hnb⟩
   ·rw[hme]at h1;obtain rfl:=Option.some.inj h1;exact hok
   ·refine(h.rows r1 row1 hold).keep hle (fun j hj=>?_)
    have hjb:j≠b:=by intro e;subst e;exact hnb hj
    exact⟨hheap j hjb (h.lt r1 j hj),fun o=>by simp[Ctx.bind,hjb]⟩
 ·rw[qa0]at b1 b2
  rcases hsub r1 row1 h1 n1 with rfl | ⟨hne1,hold1,hnb1⟩
  ·rcases hsub r2 row2 h2 n2 with rfl | ⟨hne2,hold2,hnb2⟩
   ·rfl
   ·simp only[if_true]at b1
    rw[if_neg (Ne.symm hne2)]at b2
    obtain rfl:=Option.some.inj b1
    exact absurd b2 hnb2
  ·rcases hsub r2 row2 h2 n2 with rfl | ⟨hne2,hold2,hnb2⟩
   ·simp only[if_true]at b2
    rw[if_neg (Ne.symm hne1)]at b1
    obtain rfl:=Option.some.inj b2
    exact absurd b1 hnb1
   ·rw[if_neg (Ne.symm hne1)]at b1
    rw[if_neg (Ne.symm hne2)]at b2
    exact h.inj r1 r2 row1 row2 b' hold1 hold2 n1 n2 b1 b2
 ·obtain⟨h1,h2⟩:=hglb i hi
  simp only[Ctx.bind,if_neg h1]
  exact h.glb i h2
 ·obtain⟨h1,h2⟩:=hlcb s g hg
  simp only[Ctx.bind,if_neg h1]
  exact h.lcb s g h2
 ·rw[qa0]at hq
  split at hq
  ·obtain rfl:=Option.some.inj hq;exact hb
  ·exact Nat.lt_of_lt_of_le (h.lt q j hq) hsize
 ·simp only[Ctx.bind]at hq
  split at hq
  ·rename_i e;subst e;exact⟨b,by rw[qa0];simp⟩
  ·obtain⟨j,hj⟩:=h.tlt q m hq
   exact⟨j,hle.blk hj⟩
 ·simp only[Ctx.bind]at hq
  split at hq
  ·rename_i e;subst e;exact hb
  ·exact Nat.lt_of_lt_of_le (h.elt j m hq) hsize
theorem WRel.QcF[Laid](h:WRel c st w){gl:Bool}{site:Nat}{row:Row}{o:Obj}{n:Nat}{tx:Option Nat}{sh:Nat→Option Value}(hw:w'.heap=w.heap.push o)
  (hok:∀ r,r=(Qaa st gl site row).1→c.le (c.bind r w.heap.size n tx sh)→Qcs (c.bind r w.heap.size n tx sh) w' r row)
  (hshut:∀ i x,sh i=some x→w'.cell? ⟨w.heap.size,i,none⟩ = some x) :
  WRel (c.bind (Qaa st gl site row).1 w.heap.size n tx sh) (Qaa st gl site row).2 w'∧c.le (c.bind (Qaa st gl site row).1 w.heap.size n tx sh):=by
 have hf:c.blk (Qaa st gl site row).1=none:=qjT h
 have he:∀ m,c.ext w.heap.size=some m→m=n:=fun m hm=>absurd (h.elt _ _ hm) (by omega)
 have htx:c.text (Qaa st gl site row).1=none:=by
  cases hq:c.text (Qaa st gl site row).1 with
  | none=>rfl
  | some m=>obtain⟨b',hb'⟩:=h.tlt _ m hq;rw[hb']at hf;simp at hf
 have hle:=qlE (tx:=tx) (sh:=sh) hf htx he
 refine⟨h.QdQ (row:=row) hf he (fun r1 row1 h1 hg=>?_) qhI (hok _ rfl hle) (by rw[hw];simp) (by rw[hw];simp) (fun i hi hlt=>?_) (fun o x hx=>?_) (fun i hi=>qn7 hi) (fun s g hg=>qn8 hg),hle⟩
 ·by_cases e:r1=(Qaa st gl site row).1
  ·exact .inl e
  ·refine .inr ⟨e,qb8 h1 e,fun hb=>?_⟩
   have:=h.lt _ _ hb;omega
 ·rw[hw,Array.getElem?_push,if_neg hi]
 ·simp only[Ctx.bind,if_true]at hx
  cases hq:c.shut w.heap.size o with
  | none=>rw[hq]at hx;exact hshut o x hx
  | some y=>have:=h.Qb2 hq;omega
end
theorem qjd{w:World}{b o:Nat}{v:Value}{xs:Array Value}{e:TypeId}{fz:Nat × Nat}(h:w.heap[b]? = some (.cells xs e fz)) :
  (w.setCell ⟨b,o,none⟩ v).heap[b]? = some (.cells (xs.setIfInBounds o v) e fz):=by
 simp[World.setCell,Array.getElem?_modify,h]
theorem qf7{w:World}{b o i:Nat}{v:Value}(h:i≠b):(w.setCell ⟨b,o,none⟩ v).heap[i]? = w.heap[i]?:=by
 simp only[World.setCell,Array.getElem?_modify]
 rw[if_neg (by simpa using fun e=>h e.symm)]
theorem qep{b:Nat}{e:TypeId}{fz:Nat × Nat}:∀ (vs:List Value)(o k:Nat)(w:World)(xs:Array Value),w.heap[b]? = some (.cells xs e fz) →
  (w.setCells b (o+k) vs).heap[b]? = some (.cells ((vs.zipIdx k).foldl (fun(cs:Array Value) (p:Value × Nat)=>cs.setIfInBounds (o+p.2) p.1) xs) e fz)
 | [],o,k,w,xs,h=>h
 | v::vs,o,k,w,xs,h=>by
  simp only[World.setCells,List.zipIdx_cons,List.foldl_cons]
  rw[show o+k+1=o+(k+1)by omega]
  exact qep vs o (k+1) _ _ (qjd h)
theorem qcC{b o:Nat}{e:TypeId}{fz:Nat × Nat}{vs:List Value}{w:World}{xs:Array Value}(h:w.heap[b]? = some (.cells xs e fz))(hl:o+vs.length≤xs.size) :
  (w.setCells b o vs).heap[b]? = some (.cells (lay xs.toList o vs).toArray e fz):=by
 have:=qep vs o 0 w xs h
 rw[Nat.add_zero]at this
 rw[this]
 congr 2
 apply Array.toList_inj.1
 have:=qgQ o vs 0 xs (by omega)
 simpa using this
theorem qa6{b:Nat}:∀ (vs:List Value)(o:Nat)(w:World)(i:Nat),i≠b→(w.setCells b o vs).heap[i]? = w.heap[i]?
 | [],_,_,_,_=>rfl
 | v::vs,o,w,i,h=>by
  simp only[World.setCells]
  rw[qa6 vs (o+1) _ i h,qf7 h]
theorem qbo{b:Nat}:∀ (vs:List Value)(o:Nat)(w:World),(w.setCells b o vs).heap.size=w.heap.size
 | [],_,_=>rfl
 | v::vs,o,w=>by
  simp only[World.setCells]
  rw[qbo vs];simp[World.setCell]
theorem qb6{b:Nat}:∀ (vs:List Value)(o:Nat)(w:World),(w.setCells b o vs).os=w.os∧(w.setCells b o vs).tape=w.tape∧(w.setCells b o vs).output=w.output
 | [],_,_=>⟨rfl,rfl,rfl⟩
 | v::vs,o,w=>by
  simp only[World.setCells]
  obtain⟨h1,h2,h3⟩:=qb6 (b:=b) vs (o+1) (w.setCell ⟨b,o,none⟩ v)
  exact⟨h1,h2,h3⟩
theorem qq0(cs:List Value)(off n:Nat)(vs:List Value)(h:off+vs.length≤n)(hn:n≤cs.length):(lay cs off vs).take n=lay (cs.take n) off vs:=by
 unfold lay
 apply List.ext_getElem?
 intro i
 grind
def Qa2(P:Program)(s:Sem Next)(w:World)(x:Value)(w':World):Prop:=s.run P w=.ok (.value x) w'∨(s.run P w=.ok .skip w'∧x=undef)
section
variable {P:Program}{C:Cfg}{c:Ctx}{st:St}{a:Act}{w:World}
theorem Keep.mk'{c:Ctx}{st st':St}{w w':World}(h:w'.os=w.os∧w'.tape=w.tape∧w'.output=w.output)(hs:w.heap.size≤w'.heap.size){b:Nat}
  (hb:∀ i,i≠b→i<w.heap.size→w'.heap[i]? = w.heap[i]?) (ho:b<w.heap.size→Own c st b) (hown:∀ b,Own c st' b→Own c st b):Keep c c st st' w w' :=
 ⟨h.1,h.2.1,h.2.2,hs,fun i hi hn=>hb i (fun e=>by subst e;exact hn (ho hi)) hi,fun _ _ _ _=>rfl,fun b _ h=>hown b h⟩
theorem qgp{c:Ctx}{st:St}{r:Ref}{old row:Row}(h:Qab st r=some old)(hg:old≠.gone)(b:Nat)(ho:Own c (setRow st r row) b):Own c st b:=by
 obtain⟨r1,row1,h1,h2,h3⟩:=ho
 by_cases e:r1=r
 ·subst e;exact⟨r1,old,h,hg,h3⟩
 ·rw[qaF h e]at h1;exact⟨r1,row1,h1,h2,h3⟩
theorem WRel.write[Laid](h:WRel c st w){r:Ref}{cs vs cs':List V}{off:Nat}{ys:List Value}(hr:Qab st r=some (.cells false cs))(hset:setAt cs off vs=some cs')
  (hy:QaC c vs ys) {b:Nat} (hb:c.blk r=some b) :
  WRel c (setRow st r (.cells false cs')) (w.setCells b off ys)∧Keep c c st (setRow st r (.cells false cs')) w (w.setCells b off ys)∧World.there w b off ys.length:=by
 obtain⟨b',xs,e,fz,h1,h2,h3,h4,h5,h6,h7,h8⟩:=h.rows r _ hr
 rw[hb]at h1
 obtain rfl:=Option.some.inj h1
 obtain⟨hle,hcs'⟩:=qbp hset
 have hfit:off+ys.length≤xs.size:=by rw[hy.1];omega
 have hheap:=qcC (vs:=ys) h2 hfit
 have hlen:cs'.length=cs.length:=by rw[hcs'];simp;omega
 have hnew:QaC c cs' ((lay xs.toList off ys).take cs'.length):=by
  have h9:=QaC.lay hset h6 hy
  rw[hlen]
  have:(lay xs.toList off ys).take cs.length=lay (xs.toList.take cs.length) off ys:=by
   exact qq0 _ _ _ _ (by rw[hy.1];exact hle) (by simpa using h5)
  rw[this];exact h9
 have hlt:=h.lt r b hb
 refine⟨⟨fun i o x hx=>?_,fun r1 row1 hr1=>?_,fun r1 r2 row1 row2 b2 g1 g2 n1 n2=>?_,fun i hi=>?_,fun s g hg=>?_,fun q j hq=>?_,h.tlt,fun j m hq=>?_⟩,?_,?_⟩
 ·by_cases e:i=b
  ·subst e;rw[h7 rfl]at hx;simp at hx
  ·rw[←h.shut i o x hx]
   simp only[World.cell?,qa6 ys off w i e]
 ·by_cases e:r1=r
  ·subst e
   rw[qbe hr]at hr1
   obtain rfl:=Option.some.inj hr1
   refine⟨b,(lay xs.toList off ys).toArray,_,fz,hb,hheap,fun o ho=>h3 o (by simpa[qcM (cs:=xs.toList) (off:=off) (vs:=ys) (by simpa using hfit)]using ho),?_,?_,by simpa using hnew,h7,fun hf=>by simp at hf⟩
   ·rw[h4];simp[qcM (cs:=xs.toList) (off:=off) (vs:=ys) (by simpa using hfit)]
   ·rw[hlen];simp[qcM (cs:=xs.toList) (off:=off) (vs:=ys) (by simpa using hfit)];exact h5
  ·rw[qaF hr e]at hr1
   by_cases hg:row1=.gone
   ·subst hg;trivial
   ·refine(h.rows r1 row1 hr1).keep (Ctx.le.refl c) (fun j hj=>⟨qa6 ys off w j (fun e2=>?_),fun o=>rfl⟩)
    subst e2
    exact e (h.inj r1 r _ _ j hr1 hr hg (by simp) hj hb)
 ·have k1:∃ ro,Qab st r1=some ro∧ro≠.gone:=by
   by_cases e:r1=r
   ·subst e;exact⟨_,hr,by simp⟩
   ·rw[qaF hr e]at g1;exact⟨_,g1,n1⟩
  have k2:∃ ro,Qab st r2=some ro∧ro≠.gone:=by
   by_cases e:r2=r
   ·subst e;exact⟨_,hr,by simp⟩
   ·rw[qaF hr e]at g2;exact⟨_,g2,n2⟩
  obtain⟨q1,p1,m1⟩:=k1
  obtain⟨q2,p2,m2⟩:=k2
  exact h.inj r1 r2 q1 q2 b2 p1 p2 m1 m2
 ·exact h.glb i (by rwa [qf6]at hi)
 ·exact h.lcb s g (by rwa [qjc hr]at hg)
 ·rw[qbo];exact h.lt q j hq
 ·rw[qbo];exact h.elt j m hq
 ·exact Keep.mk' (qb6 ys off w) (by rw[qbo];exact Nat.le_refl _) (fun i hi _=>qa6 ys off w i hi) (fun _=>⟨r,_,hr,by simp,hb⟩) (fun b ho=>qgp hr (by simp) b ho)
 ·intro j hj
  rw[qaE h2]
  exact⟨by rw[Array.getElem?_eq_getElem (by omega)];rfl,qbv h2 h3 (by omega)⟩
theorem qiI[Laid](h:WRel c st w){r:Ref}{frz:Bool}{cs:List V}(hr:Qab st r=some (.cells frz cs)){b off:Nat}(hb:c.blk r=some b){t:TypeId}{v:V}(hv:QaV P t cs off=some v) :
  ∃ x,(Instr.loadAt t (.pointer (some ⟨b,off,none⟩))).run P w=.ok x w∧Rel c v x:=by
 obtain⟨b',xs,e,fz,h1,h2,h3,h4,h5,h6,h7,h8⟩:=h.rows r _ hr
 rw[hb]at h1
 obtain rfl:=Option.some.inj h1
 unfold QaV at hv
 cases hl:Qax P t with
 | none=>simp[hl]at hv
 | some p =>
  obtain⟨n,g⟩:=p
  obtain⟨h0,hz,d,hd,hg⟩:=qa4 hl
  simp only[hl]at hv
  cases g with
  | true =>
   cases hbe:Nat.ble (off+n) cs.length with
   | false=>simp[hbe]at hv
   | true =>
    have hle:off+n≤cs.length:=by simpa using hbe
    simp[hbe]at hv
    subst hv
    have hrel:=(h6.drop off).take n
    have hlen:((xs.toList.take cs.length).drop off |>.take n).length=n:=by simp;omega
    refine⟨.agg (((xs.toList.take cs.length).drop off).take n).toArray,run_loadAt_mid w b off t _ d (fun j u hu=>?_) hd hg (by rw[hz,hlen]),Rel.Qdl hrel⟩
    rw[qaE h2]
    rw[List.getElem?_take]at hu
    split at hu
    ·rw[List.getElem?_drop,List.getElem?_take]at hu
     split at hu
     ·simpa using hu
     ·simp at hu
    ·simp at hu
  | false =>
   simp only[]at hv
   obtain⟨x,hx,hrel⟩:=h6.get hv
   refine⟨x,?_,hrel⟩
   rw[List.getElem?_take]at hx
   have hc:w.cell? ⟨b,off,none⟩ = some x:=by
    rw[qaE h2]
    split at hx
    ·simpa using hx
    ·simp at hx
   simp[Instr.loadAt,Instr.sureAddr,loadVar,qdF hd,hg,hc]
theorem qof[Laid](h:WRel c st w){cs:List V}{p:Value}(hp:Rel c (.iptr cs) p){t:TypeId}{v:V}(hv:QaV P t cs 0=some v) :
  ∃ x,(Instr.loadAt t p).run P w=.ok x w∧Rel c v x:=by
 obtain⟨b,off,xs,rfl,hr,hs⟩:=hp.QcV
 unfold QaV at hv
 cases hl:Qax P t with
 | none=>simp[hl]at hv
 | some q =>
  obtain⟨n,g⟩:=q
  obtain⟨h0,hz,d,hd,hg⟩:=qa4 hl
  simp only[hl]at hv
  cases g with
  | true =>
   simp only[Nat.zero_add,List.drop_zero]at hv
   cases hbe:Nat.ble n cs.length with
   | false=>simp[hbe]at hv
   | true =>
    have hle:n≤cs.length:=by simpa using hbe
    simp[hbe]at hv
    subst hv
    have hrel:=hr.take n
    have hlen:(xs.take n).length=n:=by have:=hr.1;simp;omega
    refine⟨.agg (xs.take n).toArray,run_loadAt_mid w b off t _ d (fun j u hu=>?_) hd hg (by rw[hz,hlen]),Rel.Qdl hrel⟩
    rw[List.getElem?_take]at hu
    split at hu
    ·exact h.shut _ _ _ (hs j u hu)
    ·simp at hu
  | false =>
   simp only[]at hv
   obtain⟨x,hx,hrel⟩:=hr.get hv
   have hc:w.cell? ⟨b,off,none⟩ = some x:=by have:=h.shut _ _ _ (hs 0 x hx);simpa using this
   exact⟨x,by simp[Instr.loadAt,Instr.sureAddr,loadVar,qdF hd,hg,hc],hrel⟩
theorem qi9[Laid](h:WRel c st w){r:Ref}{cs cs':List V}(hr:Qab st r=some (.cells false cs)){b off:Nat}(hb:c.blk r=some b){t:TypeId}{v:V}{x:Value}(hv:Rel c v x)
  (hok:v.cells.all V.Qaw=true) (hn:QaR P t v.cells.length=true) (hset:setAt cs off v.cells=some cs') :
  ∃ w',(Instr.storeAt t (.pointer (some ⟨b,off,none⟩)) x).run P w=.ok () w'∧WRel c (setRow st r (.cells false cs')) w'∧Keep c c st (setRow st r (.cells false cs')) w w':=by
 have hl:v.live=true:=by
  cases v<;>first | rfl | (simp[V.cells,V.Qaw]at hok)
 have hcells:=hv.cells hl
 obtain⟨k1,k2,k3⟩:=h.write hr hset hcells hb
 refine⟨_,?_,k1,k2⟩
 have hone:∀ y ∈ x.cells.toList,y.oneCell'=true:=by
  intro y hy
  obtain⟨i,hi⟩:=List.mem_iff_getElem?.1 hy
  have hi2:i<v.cells.length:=by
   rw[←hcells.1]
   rcases Nat.lt_or_ge i x.cells.toList.length with h' | h'
   ·exact h'
   ·rw[List.getElem?_eq_none h']at hi;simp at hi
  have hu:v.cells[i]? = some v.cells[i]:=List.getElem?_eq_getElem hi2
  have hrel:=hcells.2 i _ y hu hi
  have hco:=List.all_eq_true.1 hok v.cells[i] (List.getElem_mem hi2)
  cases y with
  | agg z=>exact absurd rfl (hrel.oneCell hco z).1
  | tuple z=>exact absurd rfl (hrel.oneCell hco z).2
  | _=>rfl
 unfold QaR at hn
 split at hn
 ·rename_i n hn'
  have hn:v.cells.length=n:=by simpa using hn
  have hsz:(P.info? t).map (·.size)=some n:=hn'
  have hxs:x.cells.size=n:=by have:=hcells.1;simp at this;omega
  have hrun:=run_storeCells_cells (P:=P) b off x.cells.toList 0 w (fun j hj=>by simpa using(k3 j hj).1) (fun j hj=>by simpa using(k3 j hj).2) hone
  simp only[Nat.add_zero]at hrun
  cases hq:P.info? t with
  | none=>simp[hq]at hsz
  | some i =>
   have hs:i.size=n:=by simpa[hq]using hsz
   simp[Instr.storeAt,Instr.sureAddr,storeVar,sizeOf,typeInfo,hq,hs,hxs,hrun]
 ·simp at hn
theorem qcH[Laid]{t:TypeId}{z:V}(h:zeroV P t=some z):∃ zz,(∀ w:World,(zeroValue t).run P w=.ok zz w)∧(∀ c,Rel c z zz):=by
 unfold zeroV at h
 cases hit:P.info? t with
 | none=>simp[hit]at h
 | some it =>
  simp only[hit]at h
  cases hzz:it.zero with
  | none=>simp[hzz]at h
  | some zz =>
   simp[hzz]at h
   subst h
   exact⟨zz,fun w=>by simp[zeroValue,typeInfo,hit,hzz],fun c=>qeS c zz⟩
theorem qgq{gl:Bool}{site:Nat}{row:Row}{n m:Nat}{tx:Option Nat}{sh:Nat→Option Value}{b:Nat}(hb:b<m)(ho:Own (c.bind (Qaa st gl site row).1 m n tx sh) (Qaa st gl site row).2 b):Own c st b:=by
 obtain⟨r1,row1,h1,h2,h3⟩:=ho
 rw[qa0]at h3
 by_cases e:(Qaa st gl site row).1=r1
 ·rw[if_pos e]at h3;obtain rfl:=Option.some.inj h3;omega
 ·rw[if_neg e]at h3
  exact⟨r1,row1,qb8 h1 (Ne.symm e),h2,h3⟩
theorem qdr[Laid](h:WRel c st w){gl:Bool}{d:Nat}{v:V}{x:Value}(hv:Rel c v x)(hl:v.live=true)(e:TypeId) :
  ∃ c' w',(newVar e x).run P w=.ok ⟨w.heap.size,0,none⟩ w'∧c.le c'∧c'.blk (Qaa st gl d (.cells false v.cells)).1=some w.heap.size ∧
   WRel c' (Qaa st gl d (.cells false v.cells)).2 w'∧Keep c c' st (Qaa st gl d (.cells false v.cells)).2 w w':=by
 have hcells:=hv.cells hl
 have hw:({ w with heap:=w.heap.push (.cells x.cells e) }:World).heap=w.heap.push (.cells x.cells e):=rfl
 obtain⟨h1,h2⟩:=h.QcF (gl:=gl) (site:=d) (row:=.cells false v.cells) (o:=.cells x.cells e) (n:=x.cells.size) (tx:=none) (sh:=fun _=>none) hw
  (fun r hr hle=>by
   refine⟨w.heap.size,x.cells,e,(0,0),by rw[qa0];simp,by simp,fun o _ hx=>by simp at hx,by simp[Ctx.bind],?_,?_,fun _ o=>?_,fun hf=>by simp at hf⟩
   ·have:=hcells.1;simp at this;omega
   ·have:=hcells.mono hle
    rwa [List.take_of_length_le (by rw[hcells.1];exact Nat.le_refl _)]
   ·simp only[Ctx.bind,if_true]
    cases hq:c.shut w.heap.size o with
    | none=>rfl
    | some y=>have:=h.Qb2 hq;omega) (fun i x hx=>by simp at hx)
 refine⟨_,_,?_,h2,by rw[qa0];simp,h1,⟨rfl,rfl,rfl,by simp,fun b hb _=>?_,fun b hb _ o=>?_,fun b hb ho=>qgq hb ho⟩⟩
 ·simp[newVar,Go.newRow,newObj,Sem.run]
 ·simp[Array.getElem?_push];intro e;omega
 ·simp only[Ctx.bind];rw[if_neg (by omega)]
theorem qhY(st:St)(d:Nat)(row:Row):Qaa st false d row=(.loc d ((st.lc d).1+1),{ st with loc:=aset st.loc d ((st.lc d).1+1,row) }):=rfl
theorem WRel.Qc6[Laid](h:WRel c st w)(xs:Array Value)(e:TypeId) :
  ∃ c',c.le c'∧WRel c' st (w.alloc (.cells xs e))∧Keep c c' st st w (w.alloc (.cells xs e))∧(∀ i x,xs.toList[i]? = some x→c'.shut w.heap.size i=some x):=by
 let c':Ctx:={ c with shut:=fun i o=>if i=w.heap.size then xs[o]? else c.shut i o }
 have hle:c.le c':=⟨fun _ _ h=>h,fun _ _ _ h=>h,fun i o x hx=>by
  show(if i=w.heap.size then xs[o]? else c.shut i o)=some x
  rw[if_neg (by intro e;subst e;have:=h.Qb2 hx;omega)];exact hx,fun _ _ h=>h,fun _ _ h=>h⟩
 have hheap:∀ i,i<w.heap.size→(w.alloc (.cells xs e)).heap[i]? = w.heap[i]?:=fun i hi=>by
  show(w.heap.push _)[i]? = _
  rw[Array.getElem?_push,if_neg (by omega)]
 have hsize:(w.alloc (.cells xs e)).heap.size=w.heap.size+1:=by show(w.heap.push _).size=_;simp
 refine⟨c',hle,⟨fun i o x hx=>?_,fun r row hr=>?_,h.inj,h.glb,h.lcb,fun q j hq=>?_,h.tlt,fun j m hq=>?_⟩,⟨rfl,rfl,rfl,by rw[hsize];omega,fun i hi _=>hheap i hi,fun i hi _ o=>?_,fun _ _ ho=>ho⟩,fun i x hx=>?_⟩
 ·by_cases e1:i=w.heap.size
  ·subst e1
   have hx':xs[o]? = some x:=by simpa[c']using hx
   rw[qaE (xs:=xs) (e:=e) (fz:=(0,0)) (by show(w.heap.push _)[_]? = _;simp)]
   exact hx'
  ·have hx':c.shut i o=some x:=by simpa[c',e1]using hx
   rw[←h.shut i o x hx']
   simp only[World.cell?,hheap i (h.Qb2 hx')]
 ·by_cases hg:row=.gone
  ·subst hg;trivial
  ·refine(h.rows r row hr).keep hle (fun j hj=>?_)
   have:=h.lt r j hj
   exact⟨hheap j this,fun o=>by show(if j=w.heap.size then xs[o]? else c.shut j o)=_;rw[if_neg (by omega)]⟩
 ·rw[hsize];have:=h.lt q j hq;omega
 ·rw[hsize];have:=h.elt j m hq;omega
 ·show(if i=w.heap.size then xs[o]? else c.shut i o)=_
  rw[if_neg (by omega)]
 ·show(if w.heap.size=w.heap.size then xs[i]? else _)=some x
  rw[if_pos rfl];simpa using hx
theorem qoe[Laid]{gl:Nat→Bool}(h:WRel c st w)(hs:QaT c st.ρ a){o:Oper}{v:V}{u:Option (Nat × Nat × Row)}(hb:qbX o.op=false)
  (hv:Qal P C gl st.ρ st.lc o=some (v,u)) :
  ∃ x w' c',Qa2 P (execOp a.eval o) w x w'∧c.le c'∧Rel c' v x∧WRel c' (Qa4 st u) w'∧Keep c c' st (Qa4 st u) w w':=by
 unfold Qal at hv
 cases ho:o.op with
 | load t y =>
  simp only[ho]at hv
  have hy:=qay hs y
  split at hv
  ·rename_i s g off hc
   rw[hc]at hy
   obtain⟨b,hp,hbk⟩:=hy.QbU
   split at hv
   ·rename_i g' frz cs hlc
    cases hbe:Nat.beq g g' with
    | false=>simp[hbe]at hv
    | true =>
     have:g=g':=by simpa using hbe
     subst this
     simp[hbe]at hv
     obtain⟨v',hpv,rfl,rfl⟩:=hv
     have hrow:Qab st (.loc s g)=some (.cells frz cs):=by rw[qap,hlc];simp
     obtain⟨x,hrun,hrel⟩:=qiI h hrow hbk hpv
     exact⟨x,w,c,.inl (by simp only[execOp,ho,hp];rw[Sem.run_bind,hrun];rfl),.refl c,hrel,h,.refl c st w⟩
   ·simp at hv
  ·rename_i cs hc
   rw[hc]at hy
   simp at hv
   obtain⟨v',hpv,rfl,rfl⟩:=hv
   obtain⟨x,hrun,hrel⟩:=qof (P:=P) h hy hpv
   exact⟨x,w,c,.inl (by simp only[execOp,ho];rw[Sem.run_bind,hrun];rfl),.refl c,hrel,h,.refl c st w⟩
  ·simp at hv
 | store t y z =>
  simp only[ho]at hv
  have hy:=qay hs y
  split at hv
  ·rename_i s g off hc
   rw[hc]at hy
   obtain⟨b,hp,hbk⟩:=hy.QbU
   split at hv
   ·rename_i g' cs hlc
    generalize hg:(Nat.beq g g'&&(opd st.ρ z).cells.all V.Qaw&&QaR P t (opd st.ρ z).cells.length)=q at hv
    cases q with
    | false=>simp at hv
    | true =>
     simp only[Bool.and_eq_true]at hg
     obtain⟨⟨g1,g2⟩,g3⟩:=hg
     have:g=g':=by simpa using g1
     subst this
     simp only[cond_true]at hv
     split at hv
     ·rename_i cs' hset
      simp at hv
      obtain⟨rfl,rfl⟩:=hv
      have hrow:Qab st (.loc s g)=some (.cells false cs):=by rw[qap,hlc];simp
      obtain⟨w',hrun,k1,k2⟩:=qi9 h hrow hbk (qay hs z) g2 g3 hset
      exact⟨undef,w',c,.inr ⟨by simp only[execOp,ho,hp];rw[Sem.run_bind,hrun];rfl,rfl⟩,.refl c,Rel.Qbe (QaC.nil c),k1,k2⟩
     ·simp at hv
   ·simp at hv
  ·simp at hv
 | alloc t =>
  simp only[ho]at hv
  split at hv
  ·simp at hv
  ·rename_i d hd
   cases hgl:gl d with
   | true=>simp[hgl]at hv
   | false =>
    simp only[hgl,cond_false]at hv
    split at hv
    ·rename_i z n hz hn
     generalize hg:(z.live&&Nat.beq z.cells.length n)=q at hv
     cases q with
     | false=>simp at hv
     | true =>
      simp only[Bool.and_eq_true]at hg
      simp at hv
      obtain⟨rfl,rfl⟩:=hv
      obtain⟨zz,hrz,hrelz⟩:=qcH hz
      obtain⟨c',w',hrun,hle,hbk,hW,hK⟩:=qdr (P:=P) (gl:=false) (d:=d) h (hrelz c) hg.1 t
      rw[qhY]at hbk hW
      exact⟨_,w',c',.inl (by simp only[execOp,ho,Instr.alloc];simp[hrz,hrun]),hle,.ptr _ _ _ hbk,hW,hK⟩
    ·simp at hv
 | box e y =>
  simp only[ho]at hv
  cases hA:C.QaN e with
  | true =>
   rw[hA]at hv
   simp only[cond_true]at hv
   generalize hg:(opd st.ρ y).QbH.live=q at hv
   cases q with
   | false=>simp at hv
   | true =>
    simp only[cond_true,Option.some.injEq,Prod.mk.injEq]at hv
    obtain⟨rfl,rfl⟩:=hv
    have hrel:Rel c (opd st.ρ y).QbH (a.eval y):=(qay hs y).QbH
    have hcells:=hrel.cells hg
    obtain⟨c',hle,hW,hK,hsh⟩:=h.Qc6 (a.eval y).cells e
    refine⟨.pointer (some ⟨w.heap.size,0,none⟩),w.alloc (.cells (a.eval y).cells e),c',.inl ?_,hle,.iptr _ _ _ (a.eval y).cells.toList hcells.1 (fun i x hx=>by rw[Nat.zero_add];exact hsh i x hx) (hcells.mono hle).2,hW,hK⟩
    simp only[execOp,ho,Instr.box]
    simp[newVar,Go.newRow,newObj,Sem.run]
  | false =>
  rw[hA]at hv
  simp only[cond_false]at hv
  split at hv
  ·simp at hv
  ·rename_i d hd
   generalize hg:(gl d || !(opd st.ρ y).live)=q at hv
   cases q with
   | true=>simp at hv
   | false =>
    simp at hg
    simp at hv
    obtain⟨rfl,rfl⟩:=hv
    obtain⟨c',w',hrun,hle,hbk,hW,hK⟩:=qdr (P:=P) (gl:=false) (d:=d) h (qay hs y) hg.2 e
    rw[qhY]at hbk hW
    exact⟨_,w',c',.inl (by simp only[execOp,ho,Instr.box];simp[hrun]),hle,.ptr _ _ _ hbk,hW,hK⟩
 | range t y =>
  simp only[ho]at hv
  split at hv
  ·rename_i s d hu hy hd
   have ey:=qn2 hs hy
   cases hg:gl d with
   | true=>simp[hg]at hv
   | false =>
    simp only[hg,cond_false,Option.some.injEq,Prod.mk.injEq]at hv
    obtain⟨rfl,rfl⟩:=hv
    have hw:({ w with heap:=w.heap.push (.stringIter s.bytes 0) }:World).heap=w.heap.push (.stringIter s.bytes 0):=rfl
    obtain⟨h1,h2⟩:=h.QcF (gl:=false) (site:=d) (row:=.iter s 0) (o:=.stringIter s.bytes 0) (n:=0) (tx:=none) (sh:=fun _=>none) hw
     (fun r hr0 hle=>⟨w.heap.size,by rw[qa0];simp,by simp⟩) (fun i x hx=>by simp at hx)
    refine⟨.pointer (some ⟨w.heap.size,0,none⟩),{ w with heap:=w.heap.push (.stringIter s.bytes 0) },_,.inl ?_,h2,.ptr _ _ _ (by rw[qa0];simp[Qaa]),h1,⟨rfl,rfl,rfl,by simp,fun b hb _=>?_,fun b hb _ o=>?_,fun b hb ho=>qgq (gl:=false) (site:=d) (row:=.iter s 0) hb ho⟩⟩
    ·simp only[execOp,ho,ey]
     rw[Sem.run_bind]
     have:(Instr.range t (.string s.bytes)).run P w=.ok (.pointer (some ⟨w.heap.size,0,none⟩)) { w with heap:=w.heap.push (.stringIter s.bytes 0) }:=by
      unfold Instr.range
      simp[run_underlying hu,newObj,Sem.run]
     rw[this];rfl
    ·simp[Array.getElem?_push];intro e;omega
    ·simp only[Ctx.bind];rw[if_neg (by omega)]
  ·simp at hv
 | _ =>
  simp only[ho,Option.map_eq_some_iff]at hv
  obtain⟨v',hpv,he⟩:=hv
  simp at he
  obtain⟨rfl,rfl⟩:=he
  obtain⟨x,hrun,hrel⟩:=qmu (P:=P) (C:=C) (w:=w) hs hb (by rw[ho];exact hpv)
  exact⟨x,w,c,.inl hrun,.refl c,hrel,h,.refl c st w⟩
end
theorem qrt{sz:Nat}{l:List V}{i:Nat}{v:V}(h:∀ u ∈ l,u.cells.length=sz)(hv:v.cells.length=sz)(hi:i<l.length) :
  flat (l.set i v)=(flat l).take (i*sz)++v.cells++(flat l).drop (i*sz+v.cells.length):=by
 rw[List.set_eq_take_append_cons_drop,if_pos hi,qc7,qbw,←qdv i h,hv,show i*sz+sz=(i+1)*sz by rw[Nat.add_mul];omega,qeI (i+1) h]
 simp
theorem qhN{sz:Nat}{l:List V}{i:Nat}{v:V}(h:∀ u ∈ l,u.cells.length=sz)(hv:v.cells.length=sz)(hi:i<l.length) :
  setAt (flat l) (i*sz) v.cells=some (flat (l.set i v)):=by
 unfold setAt
 have:Nat.ble (i*sz+v.cells.length) (flat l).length=true:=by
  rw[qaC h,hv,Nat.ble_eq,show i*sz+sz=(i+1)*sz by rw[Nat.add_mul];omega]
  exact Nat.mul_le_mul_right _ hi
 rw[this,qrt h hv hi];rfl
theorem qnI{sz:Nat}{l:List V}{i:Nat}{v:V}(h:∀ u ∈ l,u.cells.length=sz)(hv:v.cells.length=sz):∀ u ∈ l.set i v,u.cells.length=sz:=by
 intro u hu
 rcases List.mem_or_eq_of_mem_set hu with h' | rfl
 ·exact h u h'
 ·exact hv
theorem qd6{sz:Nat}{z:V}(hz:z.cells.length=sz)(h0:0<sz):∀ (n i:Nat),i<n*sz→(flat (List.replicate n z))[i]? = z.cells[i % sz]?
 | 0,i,h=>by omega
 | n+1,i,h=>by
  rw[List.replicate_succ,qbw]
  by_cases hi:i<sz
  ·rw[List.getElem?_append_left (by omega),Nat.mod_eq_of_lt hi]
  ·rw[List.getElem?_append_right (by omega),hz]
   rw[qd6 hz h0 n (i - sz) (by rw[Nat.add_mul]at h;omega)]
   congr 1
   rw[Nat.mod_eq_sub_mod (Nat.not_lt.1 hi)]
section
variable {P:Program}{C:Cfg}{c:Ctx}{st:St}{a:Act}{w:World}{ρ:Nat→V}
theorem qeh[Laid]{z:V}{zz:Value}(hz:Rel c z zz)(hl:z.live=true){sz:Nat}(hs:z.cells.length=sz)(h0:0<sz)(n:Nat) :
  QaC c (flat (List.replicate n z)) ((Array.range (n*sz)).map (zz.cells[· % zz.cells.size]!)).toList:=by
 have hc:=hz.cells hl
 have hsz:zz.cells.size=sz:=by have:=hc.1;simp at this;omega
 have hlen:(flat (List.replicate n z)).length=n*sz:=by
  rw[qaC (sz:=sz) (fun v hv=>by rw[List.eq_of_mem_replicate hv];exact hs)];simp
 refine⟨by simp[hlen],fun i v x hv hx=>?_⟩
 have hi:i<n*sz:=by
  rcases Nat.lt_or_ge i (n*sz)with h' | h'
  ·exact h'
  ·rw[List.getElem?_eq_none (by omega)]at hv;simp at hv
 rw[qd6 hs h0 n i hi]at hv
 simp only[Array.toList_map,Array.toList_range,List.getElem?_map,List.getElem?_range hi,Option.map_some,Option.some.injEq,hsz]at hx
 refine hc.2 (i % sz) v x hv ?_
 have hm:i % sz<zz.cells.size:=by rw[hsz];exact Nat.mod_lt _ h0
 rw[←hx,getElem!_pos zz.cells _ hm]
 simp[Array.getElem?_eq_getElem hm]
theorem qgX[Laid](hs:QaT c ρ a){sz:Nat}(hlay:Prop) :
  ∀ (ps:List (Nat × Operand)) (l l':List V) (cells:Array Value),Qb8 sz ρ ps l=some l'→(∀ v ∈ l,v.cells.length=sz)→V.Qaf l=true→QaC c (flat l) cells.toList →
   ∃ cells',Instr.fill (fun i=>some (i*sz,sz)) cells (ps.map fun(i,x)=>(i,a.eval x))=some cells'∧QaC c (flat l') cells'.toList∧(∀ v ∈ l',v.cells.length=sz)∧V.Qaf l'=true∧l'.length=l.length
 | [],l,l',cells,h,hl,hn,hr=>by
  simp[Qb8]at h
  subst h
  exact⟨cells,rfl,hr,hl,hn,rfl⟩
 | (i,x)::ps,l,l',cells,h,hl,hn,hr=>by
  simp only[Qb8]at h
  generalize hb:((opd ρ x).QbH.live&&(opd ρ x).QbH.Qao&&Nat.beq (opd ρ x).QbH.cells.length sz&&Nat.blt i l.length)=b at h
  cases b with
  | false=>simp at h
  | true =>
   simp only[cond_true]at h
   simp only[Bool.and_eq_true]at hb
   obtain⟨⟨⟨b1,b2⟩,b3⟩,b4⟩:=hb
   have e3:(opd ρ x).QbH.cells.length=sz:=by simpa using b3
   have e4:i<l.length:=by simpa[Nat.blt_eq]using b4
   have hrel:Rel c (opd ρ x).QbH (a.eval x):=(qay hs x).QbH
   have hcells:=hrel.cells b1
   have hset:=qhN (i:=i) hl e3 e4
   have hsz:(a.eval x).cells.size=sz:=by have:=hcells.1;simp at this;omega
   have hle:=(qbp hset).1
   have hfit:i*sz+sz≤cells.size:=by have:=hr.1;simp at this;omega
   obtain⟨cells',hf,hr',hl',hn',hlen⟩:=qgX hs hlay ps (l.set i (opd ρ x).QbH) l' (lay cells.toList (i*sz) (a.eval x).cells.toList).toArray h (qnI hl e3)
    (qaR.2 fun v hv=>by
     rcases List.mem_or_eq_of_mem_set hv with h' | rfl
     ·exact qaR.1 hn v h'
     ·exact b2) (by simpa using QaC.lay hset hr hcells)
   refine⟨cells',?_,hr',hl',hn',by simpa using hlen⟩
   simp only[List.map_cons]
   rw[qgU _ _ i (i*sz) sz _ _ rfl hsz hfit]
   exact hf
theorem qjS{v:V}(h:v.Qao=true):V.Qaf v.cells=true:=by
 cases v<;>simp[V.cells,V.Qaf,V.Qao]at h ⊢<;>exact h
theorem qc3{l:List V}(h:V.Qaf l=true):V.Qaf (flat l)=true:=by
 rw[qaR]at h ⊢
 intro v hv
 simp only[flat,List.mem_flatMap]at hv
 obtain⟨u,hu,hv⟩:=hv
 exact qaR.1 (qjS (h u hu)) v hv
theorem qfM[Laid]{gl:Nat→Bool}(h:WRel c st w)(hs:QaT c st.ρ a){o:Oper}{v:V}{t:TypeId}{len:Nat}{ps:Array (Nat × Operand)}(ho:o.op=.buildSlice t len ps)
  (hv:Qam P C st.ρ o.op=some v):∃ x w' c',Qa2 P (execOp a.eval o) w x w'∧c.le c'∧Rel c' v x∧WRel c' st w'∧Keep c c' st st w w':=by
 rw[ho]at hv
 simp only[Qam]at hv
 split at hv
 ·simp at hv
 ·rename_i e he
  split at hv
  ·rename_i n g z hl hz
   obtain⟨h0,hsz,_⟩:=qa4 hl
   generalize hg:(!C.QaN t&&Nat.ble (len*n) 16777216&&z.Qao&&z.live&&Nat.beq z.cells.length n)=q at hv
   cases q with
   | false=>simp at hv
   | true =>
    simp only[cond_true]at hv
    simp only[Bool.and_eq_true]at hg
    obtain⟨⟨⟨⟨g1,g2⟩,g3⟩,g4⟩,g5⟩:=hg
    have e2:len*n≤16777216:=by simpa using g2
    have e5:z.cells.length=n:=by simpa using g5
    simp only[Option.map_eq_some_iff]at hv
    obtain⟨l,hf,rfl⟩:=hv
    obtain⟨zz,hrz,hrelz⟩:=qcH hz
    have hzr:=qeh (hrelz c) g4 e5 h0 len
    obtain⟨cells',hfill,hr',hl',hn',hlen⟩:=qgX hs True ps.toList _ l ((Array.range (len*n)).map (zz.cells[· % zz.cells.size]!)) hf
     (fun v hv=>by rw[List.eq_of_mem_replicate hv];exact e5) (qaR.2 fun v hv=>by rw[List.eq_of_mem_replicate hv];exact g3) hzr
    obtain⟨c',hle,hW,hK,hsh⟩:=h.Qc6 cells' e
    refine⟨.slice (some ⟨w.heap.size,0,none⟩) len len,w.alloc (.cells cells' e),c',.inl ?_,hle,?_,hW,hK⟩
    ·have ht:=qbf he
     have hns:¬(len*n > 2 ^ 24):=by omega
     simp only[execOp,ho]
     rw[Sem.run_bind]
     have:(Instr.buildSlice t len (ps.map fun(i,x)=>(i,a.eval x))).run P w=.ok (.slice (some ⟨w.heap.size,0,none⟩) len len) (w.alloc (.cells cells' e)):=by
      unfold Instr.buildSlice
      simp only[Sem.run_bind,run_underlying ht,Result.andThen_ok,qbn hsz]
      rw[if_neg hns]
      have hps':(Array.map (fun x=>(x.fst,a.eval x.snd)) ps).toList=ps.toList.map fun(i,x)=>(i,a.eval x):=by simp
      split
      ·rename_i h00
       have e0:Array.map (fun x=>(#[]:Array Value)[x % (#[]:Array Value).size]!) (Array.range (len*n))=(Array.range (len*n)).map (zz.cells[· % zz.cells.size]!):=by rw[h00];simp
       simp only[Sem.run_bind,Sem.run_pure,Result.andThen_ok]
       rw[hps',e0,hfill]
       simp[Go.newRow,newObj,Sem.run]
      ·simp only[Sem.run_bind,Sem.run_pure,Result.andThen_ok,hrz]
       rw[hps',hfill]
       simp[Go.newRow,newObj,Sem.run]
     rw[this];rfl
    ·refine Rel.Qb6 (sz:=n) hl' (hr'.mono hle) (fun i x hx=>?_) (qc3 hn') (by rw[hlen];simp) (fun _=>by rw[hlen];simp) (fun r hr=>by simp at hr) (by rw[hlen];simp)
     rw[Nat.zero_add];exact hsh i x hx
  ·simp at hv
end
theorem qf0(v:V):v.unagg.cells=[v.unagg]:=by cases v<;>rfl
theorem qnt[Laid]{c:Ctx}{v:V}{x:Value}(h:Rel c v x):Rel c v.unagg x:=by
 cases v<;>first | exact h | exact .dead _
theorem qfF(sz:Nat)(ag:Bool):∀ (n:Nat)(cs:List V),(chunk sz ag n cs).length=n
 | 0,_=>rfl
 | n+1,cs=>by simp[chunk,qfF sz ag n]
theorem qkv[Laid]{c:Ctx}{sz:Nat}{ag:Bool}(hs:ag=true∨sz=1):∀ (n:Nat)(cs:List V)(xs:List Value),n*sz≤cs.length→QaC c cs xs →
  QaC c (flat (chunk sz ag n cs)) (xs.take (n*sz))∧∀ v ∈ chunk sz ag n cs,v.cells.length=sz
 | 0,cs,xs,_,_=>⟨by simp[chunk,flat];exact QaC.nil c,by simp[chunk]⟩
 | n+1,cs,xs,hl,hr=>by
  have hm:(n+1)*sz=sz+n*sz:=by rw[Nat.add_mul];omega
  obtain⟨h1,h2⟩:=qkv hs n (cs.drop sz) (xs.drop sz) (by simp;omega) (hr.drop sz)
  simp only[chunk]
  cases ag with
  | true =>
   simp only[cond_true]
   refine⟨?_,fun v hv=>?_⟩
   ·rw[qbw,hm,List.take_add]
    exact QaC.append (hr.take sz) h1
   ·rcases List.mem_cons.1 hv with rfl | hv
    ·simp[V.cells];omega
    ·exact h2 v hv
  | false =>
   have hs1:sz=1:=by simpa using hs
   subst hs1
   simp only[cond_false]
   refine⟨?_,fun v hv=>?_⟩
   ·rw[qbw,hm,List.take_add,qf0]
    refine QaC.append ?_ h1
    cases cs with
    | nil=>simp at hl
    | cons u us =>
     cases xs with
     | nil=>have:=hr.1;simp at this
     | cons y ys=>exact QaC.cons (qnt hr.head) (QaC.nil c)
   ·rcases List.mem_cons.1 hv with rfl | hv
    ·rw[qf0];rfl
    ·exact h2 v hv
section
variable {P:Program}{C:Cfg}{c:Ctx}{st:St}{a:Act}{w:World}
theorem qgD{r:Ref}{off len:Nat}{lim:Option Nat}{sz:Nat}{ag:Bool}{l:List V}(h:Qag st (.arr r off len lim sz ag)=some l) :
  ∃ frz cs,Qab st r=some (.cells frz cs)∧off+len*sz≤cs.length∧(ag=true∨sz=1)∧l=chunk sz ag len (cs.drop off):=by
 simp only[Qag]at h
 split at h
 ·rename_i frz cs hr
  generalize hg:(Nat.ble (off+len*sz) cs.length&&(ag || Nat.beq sz 1))=q at h
  cases q with
  | false=>simp at h
  | true =>
   simp at hg h
   exact⟨frz,cs,hr,hg.1,hg.2,h.symm⟩
 ·simp at h
theorem qkB[Laid](h:WRel c st w){r:Ref}{off len:Nat}{lim:Option Nat}{sz:Nat}{ag:Bool}{x:Value}(hx:Rel c (.arr r off len lim sz ag) x){l:List V}
  (hi:Qag st (.arr r off len lim sz ag)=some l) :
  ∃ b cap xs,x=.slice (some ⟨b,off,none⟩) len cap∧c.blk r=some b∧QaC c (flat l) xs∧(∀ v ∈ l,v.cells.length=sz)∧l.length=len ∧
   (∀ i y,xs[i]? = some y→w.cell? ⟨b,off+i,none⟩ = some y)∧len≤cap:=by
 obtain⟨frz,cs,hr,hle,hs,rfl⟩:=qgD hi
 obtain⟨b,cap,n,rfl,hb,hc,he,hz,hk,hu⟩:=hx.QbW
 obtain⟨b',ys,e,fz,h1,h2,h3,h4,h5,h6,h7,h8⟩:=h.rows r _ hr
 rw[hb]at h1
 obtain rfl:=Option.some.inj h1
 obtain⟨k1,k2⟩:=qkv hs len (cs.drop off) ((ys.toList.take cs.length).drop off) (by simp;omega) (h6.drop off)
 refine⟨b,cap,_,rfl,hb,k1,k2,qfF _ _ _ _,fun i y hy=>?_,hc⟩
 rw[qaE h2]
 rw[List.getElem?_take]at hy
 split at hy
 ·rw[List.getElem?_drop,List.getElem?_take]at hy
  split at hy
  ·simpa using hy
  ·simp at hy
 ·simp at hy
theorem qj9[Laid](h:WRel c st w){r:Ref}{off len:Nat}{lim:Option Nat}{sz:Nat}{ag:Bool}{x:Value}(hx:Rel c (.arr r off len lim sz ag) x){v:V}{st':St}
  (hf:freeze st (.arr r off len lim sz ag)=some (v,st')) :
  ∃ c',c.le c'∧Rel c' v x∧WRel c' st' w∧Keep c c' st st' w w∧v.Qao=true∧v.Qap=true∧v.live=true∧st'.tm=st.tm∧∃ row,st'=setRow st r row:=by
 simp only[freeze]at hf
 cases hr:Qab st r with
 | none=>simp[hr]at hf
 | some row =>
  cases row with
  | cells frz cs =>
   simp only[hr]at hf
   cases hi:Qag st (.arr r off len lim sz ag)with
   | none=>simp[hi]at hf
   | some l =>
    simp only[hi]at hf
    cases hn:V.Qaf l with
    | false=>simp[hn]at hf
    | true =>
     simp[hn]at hf
     obtain⟨rfl,rfl⟩:=hf
     obtain⟨b,cap,xs,rfl,hb,hrl,hsz,hlen,hcell,hcap⟩:=qkB h hx hi
     obtain⟨frz',cs',hr',hle,_,hl⟩:=qgD hi
     rw[hr]at hr'
     obtain⟨rfl,rfl⟩:frz=frz'∧cs=cs':=by simpa using hr'
     obtain⟨b',ys,e,fz,h1,h2,h3,h4,h5,h6,h7,h8⟩:=h.rows r _ hr
     rw[hb]at h1
     obtain rfl:=Option.some.inj h1
     let c':Ctx:={ c with shut:=fun i o=>if i=b then (match c.shut b o with | some x=>some x | none=>(ys.toList.take cs.length)[o]?)else c.shut i o }
     have hle':c.le c':=⟨fun _ _ h=>h,fun _ _ _ h=>h,fun i o x hq0=>by
      show(if i=b then (match c.shut b o with | some x=>some x | none=>(ys.toList.take cs.length)[o]?)else c.shut i o)=some x
      by_cases e0:i=b
      ·rw[if_pos e0,←e0,hq0]
      ·rw[if_neg e0];exact hq0,fun _ _ h=>h,fun _ _ h=>h⟩
     have hshut:∀ o x,(ys.toList.take cs.length)[o]? = some x→c'.shut b o=some x:=fun o x hx=>by
      show(if b=b then (match c.shut b o with | some x=>some x | none=>(ys.toList.take cs.length)[o]?)else _)=some x
      rw[if_pos rfl]
      cases hq:c.shut b o with
      | none=>exact hx
      | some z =>
       have:=h.shut b o z hq
       rw[qaE h2]at this
       rw[List.getElem?_take]at hx
       split at hx
       ·simp at hx
        rw[this]at hx;exact hx
       ·simp at hx
     have hW:WRel c' (setRow st r (.cells true cs)) w:=by
      refine⟨fun i o x hx=>?_,fun r1 row1 hr1=>?_,fun r1 r2 row1 row2 b2 g1 g2 n1 n2=>?_,fun i hi=>?_,fun s g hg=>?_,h.lt,h.tlt,h.elt⟩
      ·by_cases e1:i=b
       ·subst e1
        have hx':(match c.shut i o with | some x=>some x | none=>(ys.toList.take cs.length)[o]?)=some x:=by simpa[c']using hx
        cases hq:c.shut i o with
        | some z=>rw[hq]at hx';rw[←hx'];exact h.shut i o z hq
        | none =>
         rw[hq]at hx'
         simp only[]at hx'
         rw[qaE h2]
         rw[List.getElem?_take]at hx'
         split at hx'
         ·simpa using hx'
         ·simp at hx'
       ·have hx':c.shut i o=some x:=by simpa[c',e1]using hx
        exact h.shut i o x hx'
      ·by_cases e1:r1=r
       ·subst e1
        rw[qbe hr]at hr1
        obtain rfl:=Option.some.inj hr1
        exact⟨b,ys,e,fz,hb,h2,h3,h4,h5,h6.mono hle',fun hf=>by simp at hf,fun _ o x hx=>hshut o x hx⟩
       ·rw[qaF hr e1]at hr1
        by_cases hg:row1=.gone
        ·subst hg;trivial
        ·refine(h.rows r1 row1 hr1).keep hle' (fun j hj=>⟨rfl,fun o=>?_⟩)
         show(if j=b then _ else c.shut j o)=_
         rw[if_neg]
         intro e2;subst e2
         exact e1 (h.inj r1 r _ _ j hr1 hr hg (by simp) hj hb)
      ·have k1:∃ ro,Qab st r1=some ro∧ro≠.gone:=by
        by_cases e:r1=r
        ·subst e;exact⟨_,hr,by simp⟩
        ·rw[qaF hr e]at g1;exact⟨_,g1,n1⟩
       have k2:∃ ro,Qab st r2=some ro∧ro≠.gone:=by
        by_cases e:r2=r
        ·subst e;exact⟨_,hr,by simp⟩
        ·rw[qaF hr e]at g2;exact⟨_,g2,n2⟩
       obtain⟨q1,p1,m1⟩:=k1
       obtain⟨q2,p2,m2⟩:=k2
       exact h.inj r1 r2 q1 q2 b2 p1 p2 m1 m2
      ·exact h.glb i (by rwa [qf6]at hi)
      ·exact h.lcb s g (by rwa [qjc hr]at hg)
     refine⟨c',hle',?_,hW,⟨rfl,rfl,rfl,Nat.le_refl _,fun _ _ _=>rfl,fun i hi hn o=>?_,fun i hi ho=>?_⟩,rfl,rfl,rfl,by cases r<;>rfl,_,rfl⟩
     ·refine Rel.Qb6 (sz:=sz) hsz (hrl.mono hle') (fun i x hx=>?_) (qc3 hn) (by omega) (fun hf=>by simp at hf) (fun r hr=>by simp at hr) hlen.symm
      have:=hcell i x hx
      rw[qaE h2]at this
      refine hshut _ _ ?_
      have hi2:i<xs.length:=by
       rcases Nat.lt_or_ge i xs.length with h' | h'
       ·exact h'
       ·rw[List.getElem?_eq_none h']at hx;simp at hx
      have hl2:xs.length=len*sz:=by rw[hrl.1,qaC hsz,hlen]
      rw[List.getElem?_take,if_pos (by omega)]
      simpa using this
     ·show(if i=b then _ else c.shut i o)=_
      rw[if_neg]
      intro e1;subst e1;exact hn ⟨r,_,hr,by simp,hb⟩
     ·obtain⟨r1,row1,q1,q2,q3⟩:=ho
      exact qgp hr (by simp) i ⟨r1,row1,q1,q2,q3⟩
  | _=>simp[hr]at hf
end
theorem qmG(d:Option Nat)(r:Nat):∃ d',lower d r=some d'∧d'≤r∧∀ e,d=some e→d'≤e:=by
 cases d with
 | none=>exact⟨r,rfl,Nat.le_refl _,fun e h=>by simp at h⟩
 | some e=>exact⟨min e r,rfl,Nat.min_le_right _ _,fun e' h=>by obtain rfl:=Option.some.inj h;exact Nat.min_le_left _ _⟩
theorem qaT{st:St}(r:Ref)(row:Row):Dirt st.hp (setRow st r row).hp:=by
 cases r with
 | loc s g=>exact Dirt.refl _
 | glob r =>
  obtain⟨d',h1,h2,h3⟩:=qmG st.hp.dirty r
  refine⟨by simp[setRow],fun d hd=>⟨d',by simpa[setRow]using h1,h3 d hd⟩,fun i hi hd=>?_,by simp[setRow],fun h=>by simp[setRow]at h⟩
  have:i<d':=hd d' (by simpa[setRow]using h1)
  simp only[setRow]
  rw[List.getElem?_set,if_neg (by omega)]
theorem qbq{st:St}(gl:Bool)(site:Nat)(row:Row):Dirt st.hp (Qaa st gl site row).2.hp:=by
 cases gl with
 | true =>
  have hr:∀ i,i<st.hp.rows.length→(Qaa st true site row).2.hp.rows[i]? = st.hp.rows[i]?:=fun i hi=>by
   simp only[Qaa,cond_true]
   rw[List.getElem?_append_left hi]
  exact⟨by simp[Qaa],fun d hd=>⟨d,by simpa[Qaa]using hd,Nat.le_refl _⟩,fun i hi _=>hr i hi,by simp[Qaa],fun _=>⟨by simp[Qaa],hr⟩⟩
 | false=>exact Dirt.refl _
section
variable {P:Program}{C:Cfg}{c:Ctx}{st:St}{a:Act}{w:World}
structure Qc4[Laid](c:Ctx)(st:St)(w:World)(v':V)(x:Value)(c':Ctx)(st':St):Prop where
 le:c.le c'
 rel:Rel c' v' x
 wrel:WRel c' st' w
 keep:Keep c c' st st' w w
 dirt:Dirt st.hp st'.hp
 Qap:v'.Qap=true
 live:v'.live=true
 tm:st'.tm=st.tm
theorem qhQ[Laid]{fz:Bool}(h:WRel c st w){v:V}{x:Value}(hx:Rel c v x){v':V}{st':St}(he:exp1 fz st v=some (v',st')):∃ c',Qc4 c st w v' x c' st':=by
 have same:∀ u,u.Qap=true→u.live=true→Rel c u x→Qc4 c st w u x c st:=fun u h1 h2 h3=>⟨.refl c,h3,h,.refl c st w,.refl _,h1,h2,rfl⟩
 unfold exp1 at he
 split at he
 ·rename_i r off len lim sz ag
  cases hb:(fz || Qa3 r)with
  | true =>
   simp only[hb,cond_true]at he
   obtain⟨c',h1,h2,h3,h4,h5,h6,h7,h8,row,h9⟩:=qj9 h hx he
   exact⟨c',h1,h2,h3,h4,by rw[h9];exact qaT _ _,h6,h7,h8⟩
  | false =>
   simp only[hb,cond_false]at he
   simp at he
   obtain⟨rfl,rfl⟩:=he
   simp at hb
   refine⟨c,same _ ?_ rfl hx⟩
   cases r with
   | loc s g=>simp[Qa3]at hb
   | glob r=>rfl
 ·rename_i tok f sz l
  have hweak:Rel c (.slice none f sz l) x:=hx.weak
  split at he
  ·rename_i r
   cases fz with
   | true=>simp at he;obtain⟨rfl,rfl⟩:=he;exact⟨c,same _ rfl rfl hweak⟩
   | false=>simp at he;obtain⟨rfl,rfl⟩:=he;exact⟨c,same _ rfl rfl hx⟩
  ·simp at he;obtain⟨rfl,rfl⟩:=he;exact⟨c,same _ rfl rfl hweak⟩
 ·rename_i h1 h2
  cases hb:(v.live&&v.Qap)with
  | false=>simp[hb]at he
  | true =>
   simp[hb]at he
   obtain⟨rfl,rfl⟩:=he
   simp only[Bool.and_eq_true]at hb
   exact⟨c,same _ hb.2 hb.1 hx⟩
structure Qdc[Laid](c:Ctx)(st:St)(w:World)(vs':List V)(xs:List Value)(c':Ctx)(st':St):Prop where
 le:c.le c'
 rel:QaC c' vs' xs
 wrel:WRel c' st' w
 keep:Keep c c' st st' w w
 dirt:Dirt st.hp st'.hp
 Qap:V.Qak vs'=true
 live:∀ v ∈ vs',v.live=true
 tm:st'.tm=st.tm
theorem qhO[Laid]{fz:Bool}:∀ (vs:List V)(c:Ctx)(st:St)(xs:List Value)(vs':List V)(st':St),WRel c st w→QaC c vs xs→Qcm fz st vs=some (vs',st')→∃ c',Qdc c st w vs' xs c' st'
 | [],c,st,xs,vs',st',h,hr,he=>by
  simp[Qcm]at he
  obtain⟨rfl,rfl⟩:=he
  exact⟨c,.refl c,hr,h,.refl c st w,.refl _,rfl,by simp,rfl⟩
 | v::vs,c,st,xs,vs',st',h,hr,he=>by
  cases xs with
  | nil=>have:=hr.1;simp at this
  | cons x xs =>
   simp only[Qcm]at he
   split at he
   ·simp at he
   ·rename_i v1 st1 he1
    split at he
    ·simp at he
    ·rename_i l2 st2 he2
     simp at he
     obtain⟨rfl,rfl⟩:=he
     obtain⟨c1,k1⟩:=qhQ h hr.head he1
     obtain⟨c2,k2⟩:=qhO vs c1 st1 xs l2 st2 k1.wrel (hr.tail.mono k1.le) he2
     exact⟨c2,k1.le.trans k2.le,QaC.cons (k1.rel.mono k2.le) k2.rel,k2.wrel,k1.keep.trans k2.keep,k1.dirt.trans k2.dirt,by simp[V.Qak,k1.Qap,k2.Qap],
      fun u hu=>by rcases List.mem_cons.1 hu with rfl | hu;exact k1.live;exact k2.live u hu,k2.tm.trans k1.tm⟩
theorem qeJ[Laid]{fz:Bool}(h:WRel c st w){v:V}{x:Value}(hx:Rel c v x){v':V}{st':St}(he:exp fz st v=some (v',st')):∃ c',Qc4 c st w v' x c' st':=by
 unfold exp at he
 split at he
 ·rename_i cs
  obtain⟨xs,rfl,hr⟩:=hx.QdR
  simp only[Option.map_eq_some_iff]at he
  obtain⟨⟨l,st1⟩,he1,he2⟩:=he
  simp at he2
  obtain⟨rfl,rfl⟩:=he2
  obtain⟨c',k⟩:=qhO cs c st xs l st1 h hr he1
  exact⟨c',k.le,Rel.Qdl k.rel,k.wrel,k.keep,k.dirt,k.Qap,rfl,k.tm⟩
 ·exact qhQ h hx he
theorem qcQ[Laid]{fz:Bool}:∀ (vs:List V)(c:Ctx)(st:St)(xs:List Value)(vs':List V)(st':St),WRel c st w→QaC c vs xs→exps fz st vs=some (vs',st')→∃ c',Qdc c st w vs' xs c' st'
 | [],c,st,xs,vs',st',h,hr,he=>by
  simp[exps]at he
  obtain⟨rfl,rfl⟩:=he
  exact⟨c,.refl c,hr,h,.refl c st w,.refl _,rfl,by simp,rfl⟩
 | v::vs,c,st,xs,vs',st',h,hr,he=>by
  cases xs with
  | nil=>have:=hr.1;simp at this
  | cons x xs =>
   simp only[exps]at he
   split at he
   ·simp at he
   ·rename_i v1 st1 he1
    split at he
    ·simp at he
    ·rename_i l2 st2 he2
     simp at he
     obtain⟨rfl,rfl⟩:=he
     obtain⟨c1,k1⟩:=qeJ h hr.head he1
     obtain⟨c2,k2⟩:=qcQ vs c1 st1 xs l2 st2 k1.wrel (hr.tail.mono k1.le) he2
     exact⟨c2,k1.le.trans k2.le,QaC.cons (k1.rel.mono k2.le) k2.rel,k2.wrel,k1.keep.trans k2.keep,k1.dirt.trans k2.dirt,by simp[V.Qak,k1.Qap,k2.Qap],
      fun u hu=>by rcases List.mem_cons.1 hu with rfl | hu;exact k1.live;exact k2.live u hu,k2.tm.trans k1.tm⟩
end
section
variable {P:Program}{C:Cfg}{c:Ctx}{st:St}{a:Act}{w:World}{gl:Nat→Bool}
structure Qc2[Laid](P:Program)(c:Ctx)(st:St)(w:World)(s:Sem Next)(v:V)(st':St)(c':Ctx)(x:Value)(w':World):Prop where
 steps:Qa2 P s w x w'
 le:c.le c'
 rel:Rel c' v x
 wrel:WRel c' st' w'
 keep:Keep c c' st st' w w'
 dirt:Dirt st.hp st'.hp
 tm:st'.tm=st.tm
structure Qeh[Laid](P:Program)(c:Ctx)(st:St)(w:World)(s:Sem Next)(f:FuncId)(args:List V)(st':St)(c':Ctx)(xs:List Value):Prop where
 steps:∀ fn cd,P.funcs[f]? = some fn→fn.body=some cd→s.run P w=.ok (.enter f xs.toArray) w
 le:c.le c'
 rel:QaC c' args xs
 wrel:WRel c' st' w
 keep:Keep c c' st st' w w
 dirt:Dirt st.hp st'.hp
 tm:st'.tm=st.tm
 Qap:V.Qak args=true
 live:∀ v ∈ args,v.live=true
def qcs[Laid](P:Program)(c:Ctx)(st:St)(w:World)(s:Sem Next):Res→Prop
 | .val v st'=>∃ c' x w',Qc2 P c st w s v st' c' x w'
 | .enter f args st'=>∃ c' xs,Qeh P c st w s f args st' c' xs
 | .panic v st'=>st'=st∧v.Qap=true∧∃ x,s.run P w=.halt (.panic x) w∧Rel c v x
theorem Qc2.after[Laid]{s:Sem Next}{st1:St}{c1:Ctx}{v:V}{st':St}{c':Ctx}{x:Value}{w':World}(hle:c.le c1)(hk:Keep c c1 st st1 w w)(hd:Dirt st.hp st1.hp)(ht:st1.tm=st.tm)
  (k:Qc2 P c1 st1 w s v st' c' x w'):Qc2 P c st w s v st' c' x w' :=
 ⟨k.steps,hle.trans k.le,k.rel,k.wrel,hk.trans k.keep,hd.trans k.dirt,k.tm.trans ht⟩
theorem qd1(r:Ref)(row:Row):(setRow st r row).tm=st.tm:=by cases r<;>rfl
theorem qi7(gl:Bool)(d:Nat)(row:Row):(Qaa st gl d row).2.tm=st.tm:=by cases gl<;>rfl
theorem qjU[Laid]{s:Sem Next}(h:WRel c st w){gl:Bool}{d:Nat}{v:V}{x:Value}(hv:Rel c v x)(hl:v.live=true)(e:TypeId)
  (hs:∀ w',(newVar e x).run P w=.ok ⟨w.heap.size,0,none⟩ w'→Qa2 P s w (.pointer (some ⟨w.heap.size,0,none⟩)) w') :
  ∃ c' x' w',Qc2 P c st w s (.ptr (Qaa st gl d (.cells false v.cells)).1 0) (Qaa st gl d (.cells false v.cells)).2 c' x' w':=by
 obtain⟨c',w',hrun,hle,hbk,hW,hK⟩:=qdr (P:=P) (gl:=gl) (d:=d) h hv hl e
 exact⟨c',_,w',hs w' hrun,hle,.ptr _ _ _ hbk,hW,hK,qbq _ _ _,qi7 _ _ _⟩
theorem qox[Laid](h:WRel c st w)(hs:QaT c st.ρ a){o:Oper}{t:TypeId}{y:Operand}(ho:o.op=.load t y){res:Res}(hr:stepG P C gl st o=some res):qcs P c st w (execOp a.eval o) res:=by
 unfold stepG at hr
 simp only[ho]at hr
 have hy:=qay hs y
 split at hr
 ·rename_i r off hc
  rw[hc]at hy
  obtain⟨b,hp,hbk⟩:=hy.QbU
  split at hr
  ·rename_i frz cs hrow
   simp only[Option.map_eq_some_iff]at hr
   obtain⟨v,hv,rfl⟩:=hr
   obtain⟨x,hrun,hrel⟩:=qiI (P:=P) h (r:=.glob r) hrow hbk hv
   exact⟨c,x,w,.inl (by simp only[execOp,ho,hp];rw[Sem.run_bind,hrun];rfl),.refl c,hrel,h,.refl c st w,.refl _,rfl⟩
  ·simp at hr
 ·simp at hr
theorem qmP[Laid](h:WRel c st w)(hs:QaT c st.ρ a){o:Oper}{t:TypeId}{y z:Operand}(ho:o.op=.store t y z){res:Res}(hr:stepG P C gl st o=some res):qcs P c st w (execOp a.eval o) res:=by
 unfold stepG at hr
 simp only[ho]at hr
 have hy:=qay hs y
 split at hr
 ·rename_i r off hc
  rw[hc]at hy
  obtain⟨b,hp,hbk⟩:=hy.QbU
  split at hr
  ·rename_i cs0 v st1 hrow0 hexp
   obtain⟨c1,k⟩:=qeJ (fz:=false) h (qay hs z) hexp
   split at hr
   ·rename_i cs hrow
    generalize hg:(v.cells.all V.Qaw&&QaR P t v.cells.length)=q at hr
    cases q with
    | false=>simp at hr
    | true =>
     simp only[Bool.and_eq_true]at hg
     simp only[cond_true]at hr
     split at hr
     ·rename_i cs' hset
      simp at hr
      subst hr
      obtain⟨w',hrun,k1,k2⟩:=qi9 (P:=P) k.wrel (r:=.glob r) hrow (k.le.blk hbk) k.rel hg.1 hg.2 hset
      exact⟨c1,undef,w',.inr ⟨by simp only[execOp,ho,hp];rw[Sem.run_bind,hrun];rfl,rfl⟩,k.le,Rel.Qbe (QaC.nil _),k1,k.keep.trans k2,k.dirt.trans (qaT _ _),(qd1 _ _).trans k.tm⟩
     ·simp at hr
   ·simp at hr
  ·simp at hr
 ·simp at hr
theorem qmR[Laid](h:WRel c st w)(hs:QaT c st.ρ a){o:Oper}{t:TypeId}(ho:o.op=.alloc t){res:Res}(hr:stepG P C gl st o=some res):qcs P c st w (execOp a.eval o) res:=by
 unfold stepG at hr
 simp only[ho]at hr
 split at hr
 ·simp at hr
 ·rename_i d hd
  split at hr
  ·rename_i z n hz hn
   generalize hg:(gl d&&z.live&&Nat.beq z.cells.length n)=q at hr
   cases q with
   | false=>simp at hr
   | true =>
    simp only[Bool.and_eq_true]at hg
    simp only[cond_true,Option.some.injEq]at hr
    subst hr
    obtain⟨zz,hrz,hrelz⟩:=qcH hz
    exact qjU (P:=P) h (gl:=true) (d:=d) (hrelz c) hg.1.2 t (fun w' hrun=>.inl (by simp only[execOp,ho,Instr.alloc];simp[hrz,hrun]))
  ·simp at hr
theorem qrf[Laid](h:WRel c st w)(hs:QaT c st.ρ a){o:Oper}{t:TypeId}{y:Operand}(ho:o.op=.box t y){res:Res}(hr:stepG P C gl st o=some res):qcs P c st w (execOp a.eval o) res:=by
 unfold stepG at hr
 simp only[ho]at hr
 split at hr
 ·simp at hr
 ·rename_i d hd
  split at hr
  ·rename_i v st1 hexp
   obtain⟨c1,k⟩:=qeJ (fz:=false) h (qay hs y) hexp
   cases hg:gl d with
   | false=>simp[hg]at hr
   | true =>
    simp only[hg,cond_true,Option.some.injEq]at hr
    subst hr
    obtain⟨c2,x2,w2,k2⟩:=qjU (P:=P) (s:=execOp a.eval o) k.wrel (gl:=true) (d:=d) k.rel k.live t (fun w' hrun=>.inl (by simp only[execOp,ho,Instr.box];simp[hrun]))
    exact⟨c2,x2,w2,k2.after k.le k.keep k.dirt k.tm⟩
  ·simp at hr
theorem qnL[Laid]{vs:List V}{xs:List Value}(h:QaC c vs xs)(i:Nat):Rel c (vs.getD i .dead) (xs.getD i undef):=by
 rw[List.getD_eq_getElem?_getD,List.getD_eq_getElem?_getD]
 cases hv:vs[i]? with
 | none=>exact .dead _
 | some v =>
  obtain⟨x,hx,hrel⟩:=h.get hv
  rw[hx];exact hrel
theorem qmr[Laid]{vs:List V}{xs:List Value}(h:QaC c vs xs)(b:Act):QaT c (fun i=>vs.getD i .dead) { b with tmps:=xs.toArray }:=by
 intro i
 have:=qnL h i
 simpa[Array.getD_eq_getD_getElem?,List.getD_eq_getElem?_getD]using this
theorem qiD[Laid](hs:QaT c st.ρ a)(l:List Operand):QaC c (opds st.ρ l) (l.map a.eval):=by
 refine⟨by simp[opds],fun i v x hv hx=>?_⟩
 simp only[opds,List.getElem?_map,Option.map_eq_some_iff]at hv hx
 obtain⟨u,hu,rfl⟩:=hv
 obtain⟨u',hu',rfl⟩:=hx
 rw[hu]at hu'
 obtain rfl:=Option.some.inj hu'
 exact qay hs u
theorem qmQ[Laid](h:WRel c st w)(hs:QaT c st.ρ a){o:Oper}{t:TypeId}{ps:Array (Nat × Operand)}(ho:o.op=.build t ps){res:Res}(hr:stepG P C gl st o=some res):qcs P c st w (execOp a.eval o) res:=by
 unfold stepG at hr
 simp only[ho]at hr
 split at hr
 ·rename_i fs z l st1 hu hz hexp
  obtain⟨c1,k⟩:=qcQ (fz:=true) _ c st _ l st1 h (qiD hs _) hexp
  generalize hg:(z.live&&fs.all (fun f=>(P.info? f.type).isSome))=q at hr
  cases q with
  | false=>simp at hr
  | true =>
   simp only[Bool.and_eq_true]at hg
   simp only[Bool.not_true,cond_false]at hr
   split at hr
   ·rename_i cs hf
    simp at hr
    subst hr
    have hsl:=qmr k.rel a
    obtain⟨x,hrun,hrel⟩:=qg9 (P:=P) (w:=w) hsl (ps:=(ps.toList.zipIdx.map fun(p,i)=>(p.1,Operand.tmp i)).toArray) hu hz hg.1 hg.2 (by simpa using hf)
    refine⟨c1,x,w,.inl ?_,k.le,hrel,k.wrel,k.keep,k.dirt,k.tm⟩
    simp only[execOp,ho]
    rw[Sem.run_bind]
    have e:(ps.map fun(i,x)=>(i,a.eval x))=((ps.toList.zipIdx.map fun(p,i)=>(p.1,Operand.tmp i)).toArray.map fun(i,x)=>(i,({ a with tmps:=(List.map a.eval (List.map (fun x=>x.snd) ps.toList)).toArray }:Act).eval x)):=by
     apply Array.toList_inj.1
     apply List.ext_getElem?
     intro j
     simp only[Array.toList_map,List.getElem?_map,List.getElem?_zipIdx,Nat.zero_add,List.map_map]
     cases hj:ps.toList[j]? with
     | none=>simp[hj]
     | some p =>
      have:ps[j]? = some p:=by simpa using hj
      simp[Act.eval,this]
    rw[e,hrun];rfl
   ·simp at hr
 ·simp at hr
end
section
variable {P:Program}{C:Cfg}{c:Ctx}{st:St}{a:Act}{w:World}{gl:Nat→Bool}
theorem qmL[Laid](h:WRel c st w){w':World}{e:TypeId}{xs:Array Value}{fz:Nat × Nat}(hw:w'.heap=w.heap.push (.cells xs e fz))(ho:w'.os=w.os∧w'.tape=w.tape∧w'.output=w.output)
  (hfz:∀ o,o<xs.size→¬(fz.1≤o∧o<fz.2)) {g:Bool} {d:Nat} {cs:List V} (hlen:cs.length≤xs.size) (hr:QaC c cs (xs.toList.take cs.length)) :
  ∃ c',c.le c'∧c'.blk (Qaa st g d (.cells false cs)).1=some w.heap.size∧c'.ext w.heap.size=some xs.size∧WRel c' (Qaa st g d (.cells false cs)).2 w' ∧
   Keep c c' st (Qaa st g d (.cells false cs)).2 w w':=by
 obtain⟨h1,h2⟩:=h.QcF (gl:=g) (site:=d) (row:=.cells false cs) (o:=.cells xs e fz) (n:=xs.size) (tx:=none) (sh:=fun _=>none) hw
  (fun r hr0 hle=>by
   refine⟨w.heap.size,xs,e,fz,by rw[qa0];simp,by rw[hw];simp,hfz,by simp[Ctx.bind],hlen,hr.mono hle,fun _ o=>?_,fun hf=>by simp at hf⟩
   simp only[Ctx.bind,if_true]
   cases hq:c.shut w.heap.size o with
   | none=>rfl
   | some y=>have:=h.Qb2 hq;omega) (fun i x hx=>by simp at hx)
 refine⟨_,h2,by rw[qa0];simp,by simp[Ctx.bind],h1,⟨ho.1,ho.2.1,ho.2.2,by rw[hw];simp,fun b hb _=>?_,fun b hb _ o=>?_,fun b hb ho=>qgq hb ho⟩⟩
 ·rw[hw,Array.getElem?_push,if_neg (by omega)]
 ·simp only[Ctx.bind];rw[if_neg (by omega)]
theorem qch[Laid]{s:Sem Next}(h:WRel c st w){w':World}{e:TypeId}{xs:Array Value}{fz:Nat × Nat}(hw:w'.heap=w.heap.push (.cells xs e fz))(ho:w'.os=w.os∧w'.tape=w.tape∧w'.output=w.output)
  (hfz:∀ o,o<xs.size→¬(fz.1≤o∧o<fz.2)) {g:Bool} {d:Nat} {cs:List V} (hlen:cs.length≤xs.size) (hr:QaC c cs (xs.toList.take cs.length))
  {len cap sz:Nat} {lim:Option Nat} {ag:Bool} (hc:len≤cap) (hz:0<sz) (hs:xs.size=cap*sz) (hk:∀ k,lim=some k→cap=k)
  (hstep:Qa2 P s w (.slice (some ⟨w.heap.size,0,none⟩) len cap) w') :
  ∃ c' x' w',Qc2 P c st w s (.arr (Qaa st g d (.cells false cs)).1 0 len lim sz ag) (Qaa st g d (.cells false cs)).2 c' x' w':=by
 obtain⟨c',h1,h2,h3,h4,h5⟩:=qmL (g:=g) (d:=d) h hw ho hfz hlen hr
 exact⟨c',_,w',hstep,h1,.arr _ _ _ _ _ _ _ _ xs.size h2 hc h3 hz (fun k hk'=>⟨hk k hk',by rw[hs,hk k hk'];omega⟩) (fun _=>by rw[hs];omega),h4,h5,qbq _ _ _,qi7 _ _ _⟩
theorem qgZ[Laid]{sz:Nat} :
  ∀ (is:List Nat) (vs:List V) (xs:List Value) (l l':List V) (cells:Array Value),Qb0 sz is vs l=some l'→(∀ v ∈ vs,v.live=true)→QaC c vs xs→(∀ v ∈ l,v.cells.length=sz)→QaC c (flat l) cells.toList →
   ∃ cells',Instr.fill (fun i=>some (i*sz,sz)) cells (is.zip xs)=some cells'∧QaC c (flat l') cells'.toList∧(∀ v ∈ l',v.cells.length=sz)∧l'.length=l.length∧is.length=xs.length
 | [],[],xs,l,l',cells,h,hv,hx,hl,hr=>by
  simp[Qb0]at h
  subst h
  have:xs=[]:=List.eq_nil_of_length_eq_zero (by rw[hx.1];rfl)
  subst this
  exact⟨cells,rfl,hr,hl,rfl,rfl⟩
 | [],v::vs,xs,l,l',cells,h,hv,hx,hl,hr=>by simp[Qb0]at h
 | i::is,[],xs,l,l',cells,h,hv,hx,hl,hr=>by simp[Qb0]at h
 | i::is,v::vs,[],l,l',cells,h,hv,hx,hl,hr=>by have:=hx.1;simp at this
 | i::is,v::vs,x::xs,l,l',cells,h,hv,hx,hl,hr=>by
  simp only[Qb0]at h
  generalize hb:(Nat.beq v.cells.length sz&&Nat.blt i l.length)=b at h
  cases b with
  | false=>simp at h
  | true =>
   simp only[cond_true]at h
   simp only[Bool.and_eq_true]at hb
   have e3:v.cells.length=sz:=by simpa using hb.1
   have e4:i<l.length:=by simpa[Nat.blt_eq]using hb.2
   have hcells:=hx.head.cells (hv v (by simp))
   have hset:=qhN (i:=i) hl e3 e4
   have hsz:x.cells.size=sz:=by have:=hcells.1;simp at this;omega
   have hle:=(qbp hset).1
   have hfit:i*sz+sz≤cells.size:=by have:=hr.1;simp at this;omega
   obtain⟨cells',hf,hr',hl',hlen,hll⟩:=qgZ is vs xs (l.set i v) l' (lay cells.toList (i*sz) x.cells.toList).toArray h (fun v hv'=>hv v (by simp[hv'])) hx.tail (qnI hl e3) (by simpa using QaC.lay hset hr hcells)
   refine⟨cells',?_,hr',hl',by simpa using hlen,by simp[hll]⟩
   simp only[List.zip_cons_cons]
   rw[qgU _ _ i (i*sz) sz _ _ rfl hsz hfit]
   exact hf
theorem qgL[Laid](h:WRel c st w)(hs:QaT c st.ρ a){o:Oper}{t:TypeId}{len:Nat}{ps:Array (Nat × Operand)}(ho:o.op=.buildSlice t len ps){res:Res}(hr:stepG P C gl st o=some res):qcs P c st w (execOp a.eval o) res:=by
 unfold stepG at hr
 simp only[ho]at hr
 split at hr
 ·rename_i e d he hd
  split at hr
  ·rename_i n ag z l st1 hl hz hexp
   obtain⟨h0,hsz,_⟩:=qa4 hl
   obtain⟨c1,k⟩:=qcQ (fz:=false) _ c st _ l st1 h (qiD hs _) hexp
   generalize hg:(C.QaN t&&Nat.ble (len*n) 16777216&&z.live&&Nat.beq z.cells.length n&&(ag || Nat.beq n 1))=q at hr
   cases q with
   | false=>simp at hr
   | true =>
    simp only[Bool.and_eq_true]at hg
    obtain⟨⟨⟨⟨g1,g2⟩,g3⟩,g4⟩,g5⟩:=hg
    have e2:len*n≤16777216:=by simpa using g2
    have e4:z.cells.length=n:=by simpa using g4
    simp only[cond_true]at hr
    split at hr
    ·rename_i items hf
     simp only[Option.some.injEq]at hr
     subst hr
     obtain⟨zz,hrz,hrelz⟩:=qcH hz
     have hzr:=qeh (hrelz c1) g3 e4 h0 len
     obtain⟨cells',hfill,hr',hl',hlen,hll⟩:=qgZ _ l _ _ items ((Array.range (len*n)).map (zz.cells[· % zz.cells.size]!)) hf k.live k.rel
      (fun v hv=>by rw[List.eq_of_mem_replicate hv];exact e4) hzr
     have hsize:cells'.size=len*n:=by
      have h1:=hr'.1
      rw[qaC hl',hlen]at h1
      simpa using h1
     have hrun:Qa2 P (execOp a.eval o) w (.slice (some ⟨w.heap.size,0,none⟩) len len) (w.alloc (.cells cells' e)):=by
      refine .inl ?_
      have ht:=qbf he
      have hns:¬(len*n > 2 ^ 24):=by omega
      simp only[execOp,ho]
      rw[Sem.run_bind]
      have:(Instr.buildSlice t len (ps.map fun(i,x)=>(i,a.eval x))).run P w=.ok (.slice (some ⟨w.heap.size,0,none⟩) len len) (w.alloc (.cells cells' e)):=by
       unfold Instr.buildSlice
       simp only[Sem.run_bind,run_underlying ht,Result.andThen_ok,qbn hsz]
       rw[if_neg hns]
       have hps':(Array.map (fun x=>(x.fst,a.eval x.snd)) ps).toList=(ps.toList.map (·.1)).zip (List.map a.eval (List.map (fun x=>x.snd) ps.toList)):=by
        apply List.ext_getElem?
        intro j
        simp only[Array.toList_map,List.getElem?_map,List.zip_eq_zipWith,List.getElem?_zipWith]
        cases hj:ps.toList[j]? with
        | none=>simp[hj]
        | some p=>simp[hj]
       split
       ·rename_i h00
        have e0:Array.map (fun x=>(#[]:Array Value)[x % (#[]:Array Value).size]!) (Array.range (len*n))=(Array.range (len*n)).map (zz.cells[· % zz.cells.size]!):=by rw[h00];simp
        simp only[Sem.run_bind,Sem.run_pure,Result.andThen_ok]
        rw[hps',e0,hfill]
        simp[Go.newRow,newObj,Sem.run]
       ·simp only[Sem.run_bind,Sem.run_pure,Result.andThen_ok,hrz]
        rw[hps',hfill]
        simp[Go.newRow,newObj,Sem.run]
      rw[this];rfl
     obtain⟨c2,x2,w2,k2⟩:=qch (P:=P) (g:=gl d) (d:=d) (cs:=flat items) (lim:=some len) (ag:=ag) k.wrel (w':=w.alloc (.cells cells' e)) (xs:=cells') (fz:=(0,0)) rfl ⟨rfl,rfl,rfl⟩ (fun o _ hx=>by simp at hx)
      (by have:=hr'.1;simp at this;omega) (by rwa [List.take_of_length_le (by rw[hr'.1];exact Nat.le_refl _)]) (Nat.le_refl len) h0 hsize (fun k hk=>by simpa using hk) hrun
     exact⟨c2,x2,w2,k2.after k.le k.keep k.dirt k.tm⟩
    ·simp at hr
  ·simp at hr
 ·simp at hr
theorem qeT{t:TypeId}{z:V}(h:zeroV P t=some z):∃ i zz,P.info? t=some i∧i.zero=some zz∧QdT zz=z:=by
 unfold zeroV at h
 cases hit:P.info? t with
 | none=>simp[hit]at h
 | some it =>
  simp only[hit]at h
  cases hzz:it.zero with
  | none=>simp[hzz]at h
  | some zz=>simp[hzz]at h;exact⟨it,zz,rfl,hzz,h⟩
theorem qhn[Laid](h:WRel c st w)(hs:QaT c st.ρ a){o:Oper}{t:TypeId}{l m:Operand}(ho:o.op=.makeSlice t l m){res:Res}(hr:stepG P C gl st o=some res):qcs P c st w (execOp a.eval o) res:=by
 unfold stepG at hr
 simp only[ho]at hr
 split at hr
 ·rename_i d hd
  unfold QbZ at hr
  split at hr
  ·rename_i e k1 n k2 cp he hl hm
   have el:=qc2 hs hl
   have em:=qc2 hs hm
   split at hr
   ·rename_i sz ag bytes z hlay hby hz
    obtain⟨h0,hsz,_⟩:=qa4 hlay
    generalize hg:(Nat.ble n cp&&Nat.ble (cp*bytes) Qaj&&Nat.ble cp Qaj&&Nat.beq z.cells.length sz&&z.live)=q at hr
    cases q with
    | false=>simp at hr
    | true =>
     simp only[Bool.and_eq_true]at hg
     obtain⟨⟨⟨⟨g1,g2⟩,g3⟩,g4⟩,g5⟩:=hg
     have e1:n≤cp:=by simpa using g1
     have e2:cp*bytes≤70368744177664:=by simpa[Qaj]using g2
     have e3:cp≤70368744177664:=by simpa[Qaj]using g3
     have e4:z.cells.length=sz:=by simpa using g4
     simp only[cond_true,Option.some.injEq]at hr
     subst hr
     obtain⟨i0,zz,hi0,hzz,hzv⟩:=qeT hz
     have hzr:=qeh (zz:=zz) (by rw[←hzv];exact qeS c zz) g5 e4 h0 cp
     have hflen:(flat (List.replicate cp z)).length=cp*sz:=by
      rw[qaC (sz:=sz) (fun v hv=>by rw[List.eq_of_mem_replicate hv];exact e4)];simp
     refine qch (P:=P) (g:=gl d) (d:=d) (cs:=flat (List.replicate cp z)) (lim:=some cp) (ag:=ag) h (w':=w.alloc (.cells ((Array.range (cp*sz)).map (zz.cells[· % zz.cells.size]!)) e)) (xs:=(Array.range (cp*sz)).map (zz.cells[· % zz.cells.size]!)) (fz:=(0,0)) rfl ⟨rfl,rfl,rfl⟩ (fun o _ hx=>by simp at hx)
      (by simp[hflen]) (by rwa [List.take_of_length_le (by rw[hzr.1];exact Nat.le_refl _)]) e1 h0 (by simp) (fun k hk=>by simpa using hk) (.inl ?_)
     have ht:=qbf he
     cases hq:P.info? e with
     | none=>simp[hq]at hsz
     | some i =>
      obtain rfl:i0=i:=by rw[hi0]at hq;exact Option.some.inj hq
      have hsz':i0.size=sz:=by simpa[hq]using hsz
      have hby':i0.bytes=bytes:=by simpa[hq]using hby
      have hbc:(i0.bytes:Int)*(cp:Int)≤281474976710656:=by
       have h2:i0.bytes*cp≤281474976710656:=by rw[hby',Nat.mul_comm];omega
       have h3:((i0.bytes*cp:Nat):Int)≤281474976710656:=by omega
       rwa [Int.natCast_mul]at h3
      have hrun:=run_make (P:=P) w t e i0 zz ht hq hzz k1 k2 (n:Int) (cp:Int) (by omega) (by omega) hbc (by omega)
      simp only[Int.toNat_natCast,hsz']at hrun
      have em':a.eval m=.int k2 (cp:Int):=em
      have el':a.eval l=.int k1 (n:Int):=el
      simp only[execOp,ho,el',em']
      rw[Sem.run_bind,hrun];rfl
   ·simp at hr
  ·simp at hr
 ·simp at hr
theorem WRel.setIter[Laid](h:WRel c st w){r:Ref}{s:Str}{pos pos':Nat}(hrow:Qab st r=some (.iter s pos)){b:Nat}(hb:c.blk r=some b){w':World}(hsz:w'.heap.size=w.heap.size)
  (hw:w'.heap[b]? = some (.stringIter s.bytes pos')) (hne:∀ i,i≠b→w'.heap[i]? = w.heap[i]?) (ho:w'.os=w.os∧w'.tape=w.tape∧w'.output=w.output) :
  WRel c (setRow st r (.iter s pos')) w'∧Keep c c st (setRow st r (.iter s pos')) w w':=by
 obtain⟨b',h1,h2⟩:=h.rows r _ hrow
 rw[hb]at h1
 obtain rfl:=Option.some.inj h1
 refine⟨⟨fun i o x hx=>?_,fun r1 row1 hr1=>?_,fun r1 r2 row1 row2 b2 g1 g2 n1 n2=>?_,fun i hi=>?_,fun s g hg=>?_,fun q j hq=>?_,h.tlt,fun j m hq=>?_⟩,?_⟩
 ·by_cases e:i=b
  ·subst e
   have:=h.shut i o x hx
   simp[World.cell?,h2]at this
  ·rw[←h.shut i o x hx]
   simp only[World.cell?,hne i e]
 ·by_cases e:r1=r
  ·subst e
   rw[qbe hrow]at hr1
   obtain rfl:=Option.some.inj hr1
   exact⟨b,hb,hw⟩
  ·rw[qaF hrow e]at hr1
   by_cases hg:row1=.gone
   ·subst hg;trivial
   ·refine(h.rows r1 row1 hr1).keep (Ctx.le.refl c) (fun j hj=>⟨hne j (fun e2=>?_),fun o=>rfl⟩)
    subst e2
    exact e (h.inj r1 r _ _ j hr1 hrow hg (by simp) hj hb)
 ·have k1:∃ ro,Qab st r1=some ro∧ro≠.gone:=by
   by_cases e:r1=r
   ·subst e;exact⟨_,hrow,by simp⟩
   ·rw[qaF hrow e]at g1;exact⟨_,g1,n1⟩
  have k2:∃ ro,Qab st r2=some ro∧ro≠.gone:=by
   by_cases e:r2=r
   ·subst e;exact⟨_,hrow,by simp⟩
   ·rw[qaF hrow e]at g2;exact⟨_,g2,n2⟩
  obtain⟨q1,p1,m1⟩:=k1
  obtain⟨q2,p2,m2⟩:=k2
  exact h.inj r1 r2 q1 q2 b2 p1 p2 m1 m2
 ·exact h.glb i (by rwa [qf6]at hi)
 ·exact h.lcb s g (by rwa [qjc hrow]at hg)
 ·rw[hsz];exact h.lt q j hq
 ·rw[hsz];exact h.elt j m hq
 ·exact Keep.mk' ho (by rw[hsz];exact Nat.le_refl _) (fun i hi _=>hne i hi) (fun _=>⟨r,_,hrow,by simp,hb⟩) (fun b ho=>qgp hrow (by simp) b ho)
theorem qow[Laid](h:WRel c st w)(hs:QaT c st.ρ a){o:Oper}{isStr:Bool}{y:Operand}(ho:o.op=.next y isStr){res:Res}(hr:stepG P C gl st o=some res):qcs P c st w (execOp a.eval o) res:=by
 unfold stepG at hr
 simp only[ho]at hr
 have hy:=qay hs y
 split at hr
 ·rename_i r hc
  rw[hc]at hy
  obtain⟨b,hp,hbk⟩:=hy.QbU
  split at hr
  ·rename_i s pos hrow
   obtain⟨b',h1,h2⟩:=h.rows r _ hrow
   rw[hbk]at h1
   obtain rfl:=Option.some.inj h1
   have hlt:=h.lt r b hbk
   have hget:(getObj b).run P w=.ok (.stringIter s.bytes pos) w:=by simp[getObj,Sem.run,h2]
   generalize hg:Nat.blt pos s.n=q at hr
   cases q with
   | true =>
    have hps0:pos<s.n:=by simpa[Nat.blt_eq]using hg
    have hps:pos<s.bytes.size:=by rw[s.QaY];exact hps0
    rw[s.Qc7 hps0]at hr
    simp only[cond_true,Option.some.injEq]at hr
    subst hr
    obtain⟨k1,k2⟩:=h.setIter hrow hbk (pos':=pos+(Utf8.decode s.bytes pos).2) (w':={ w with heap:=w.heap.setIfInBounds b (.stringIter s.bytes (pos+(Utf8.decode s.bytes pos).2)) }) (by simp) (by simp[hlt]) (fun i hi=>by simp[Array.getElem?_setIfInBounds,Ne.symm hi]) ⟨rfl,rfl,rfl⟩
    refine⟨c,.tuple #[.bool true,goInt pos,.int .i32 (Utf8.decode s.bytes pos).1],_,.inl ?_,.refl c,?_,k1,k2,qaT _ _,qd1 _ _⟩
    ·simp only[execOp,ho,hp]
     rw[Sem.run_bind]
     have:(Instr.next (.pointer (some ⟨b,0,none⟩)) true o.type).run P w=.ok (.tuple #[.bool true,goInt pos,.int .i32 (Utf8.decode s.bytes pos).1]) { w with heap:=w.heap.setIfInBounds b (.stringIter s.bytes (pos+(Utf8.decode s.bytes pos).2)) }:=by
      unfold Instr.next
      simp[hget,hps,setObj,Sem.run,h2]
     rw[this];rfl
    ·exact Rel.Qbe (QaC.cons (.bool _) (QaC.cons (.int _ _) (QaC.cons (.int _ _) (QaC.nil c))))
   | false =>
    have hps:¬pos<s.bytes.size:=by
     intro e
     rw[s.QaY]at e
     have:Nat.blt pos s.n=true:=by simpa[Nat.blt_eq]using e
     rw[this]at hg;simp at hg
    simp only[cond_false,Option.some.injEq]at hr
    subst hr
    refine⟨c,.tuple #[.bool false],w,.inl ?_,.refl c,?_,h,.refl c st w,.refl _,rfl⟩
    ·simp only[execOp,ho,hp]
     rw[Sem.run_bind]
     have:(Instr.next (.pointer (some ⟨b,0,none⟩)) true o.type).run P w=.ok (.tuple #[.bool false]) w:=by
      unfold Instr.next
      simp[hget,hps]
     rw[this];rfl
    ·exact Rel.Qbe (QaC.cons (.bool _) (QaC.nil c))
  ·simp at hr
 ·simp at hr
end
section
variable {P:Program}{C:Cfg}{c:Ctx}{st:St}{a:Act}{w:World}{gl:Nat→Bool}
theorem qg7{w w':World}(h:w'.heap=w.heap)(x:Addr):w'.cell? x=w.cell? x:=by simp[World.cell?,h]
theorem qiR:∀ (l:List V),(∀ v ∈ l,v.cells=[v])→flat l=l
 | [],_=>rfl
 | v::l,h=>by rw[qbw,h v (by simp),qiR l (fun u hu=>h u (by simp[hu]))];rfl
theorem Qd5[Laid](c:Ctx)(s:Str):QaC c ((bl s.n s.v).map fun b=>V.int .u8 b.toNat) (Lib.strCells s.bytes):=by
 rw[←s.QaI]
 generalize s.bytes=s
 refine⟨by simp[Lib.strCells],fun i v x hv hx=>?_⟩
 simp only[Lib.strCells,List.getElem?_map,Option.map_eq_some_iff]at hv hx
 obtain⟨b,hb,rfl⟩:=hv
 obtain⟨b',hb',rfl⟩:=hx
 rw[hb]at hb'
 obtain rfl:=Option.some.inj hb'
 exact .int _ _
theorem qfe[Laid](h:WRel c st w){y:V}{yv:Value}(hy:Rel c y yv){ys:List V}(hi:Qag st y=some ys){sz:Nat}(hsz:∀ v ∈ ys,v.cells.length=sz) :
  ∃ xs:List Value,QaC c (flat ys) xs∧(∀ w',(Builtin.lenOf yv).run P w'=.ok ys.length w') ∧
   ∀ (w':World) (k:Nat),w'.heap=w.heap→k≤ys.length→(Builtin.firstCells sz k yv).run P w'=.ok (xs.take (k*sz)).toArray w':=by
 have rd:∀ (b off n cap:Nat) (xs:List Value),QaC c (flat ys) xs→(∀ i x,xs[i]? = some x→w.cell? ⟨b,off+i,none⟩ = some x)→∀ (w':World) (k:Nat),w'.heap=w.heap→k≤ys.length →
   (Builtin.firstCells sz k (.slice (some ⟨b,off,none⟩) n cap)).run P w'=.ok (xs.take (k*sz)).toArray w':=by
  intro b off n cap xs hr hx w' k hw hk
  refine run_firstCells_some (P:=P) w' sz k ⟨b,off,none⟩ n cap _ ?_ (fun j v hj=>?_)
  ·have:=hr.1
   rw[qaC hsz]at this
   have h2:k*sz≤ys.length*sz:=Nat.mul_le_mul_right _ hk
   simp;omega
  ·rw[Addr.add_lit,qg7 hw]
   rw[List.getElem?_take]at hj
   split at hj
   ·exact hx j v hj
   ·simp at hj
 cases y with
 | nils =>
  simp[Qag]at hi
  subst hi
  obtain rfl:=hy.Qbp
  exact⟨[],QaC.nil c,fun w'=>by simp[Builtin.lenOf],fun w' k _ _=>by simp[Builtin.firstCells]⟩
 | slice tok full sz' l =>
  simp[Qag]at hi
  subst hi
  obtain⟨b,off,cap,xs,rfl,k1,k2,k3,k4,k5,k6,k7⟩:=hy.QbP
  exact⟨xs,k2,fun w'=>by simp[Builtin.lenOf],rd b off _ cap xs k2 (fun i x hx=>h.shut _ _ _ (k3 i x hx))⟩
 | arr r off len lim sz' ag =>
  obtain⟨b,cap,xs,rfl,hb,hr,hs,hl,hcell,hcap⟩:=qkB h hy hi
  exact⟨xs,hr,fun w'=>by simp[Builtin.lenOf,hl],rd b off _ cap xs hr hcell⟩
 | str s =>
  simp[Qag]at hi
  subst hi
  obtain rfl:=hy.QbA
  refine⟨Lib.strCells s.bytes,?_,fun w'=>by simp[Builtin.lenOf,qdA,s.QaY],fun w' k hw hk=>?_⟩
  ·rw[qiR _ (fun v hv=>by simp only[List.mem_map]at hv;obtain⟨b,_,rfl⟩:=hv;rfl)]
   exact Qd5 c s
  ·have hk2:k≤s.bytes.size:=by rw[s.QaY];simpa[qdA]using hk
   simp only[Builtin.firstCells,Sem.run_pure]
   congr 1
   apply Array.toList_inj.1
   by_cases h0:s.bytes.size=0
   ·have:k=0:=by omega
    subst this
    simp
   ·have:sz=1:=by
     have h2:0<s.bytes.data.size:=by have:s.bytes.data.size=s.bytes.size:=rfl;omega
     have:=hsz (.int .u8 (s.bytes.data[0]).toNat) (by
      simp only[List.mem_map]
      exact⟨s.bytes.data[0],by rw[←s.QaI];simp,rfl⟩)
     simpa[V.cells]using this.symm
    subst this
    simp[Lib.strCells,ByteArray.data_extract,Array.toList_extract,List.extract]
 | _=>simp[Qag]at hi
theorem qfG[Laid]:∀ (l:List V)(bs:List UInt8)(xs:List Value),bytesOf l=some bs→QaC c l xs→∃ ns:List Int,xs=ns.map (Value.int .u8)∧bs=ns.map (fun n=>UInt8.ofNat n.toNat)
 | [],bs,xs,h,hr=>by
  simp[bytesOf]at h
  subst h
  have:xs=[]:=List.eq_nil_of_length_eq_zero (by rw[hr.1];rfl)
  subst this
  exact⟨[],rfl,rfl⟩
 | v::l,bs,xs,h,hr=>by
  cases xs with
  | nil=>have:=hr.1;simp at this
  | cons x xs =>
   cases v with
   | int k n =>
    cases k with
    | u8 =>
     simp only[bytesOf,Option.map_eq_some_iff]at h
     obtain⟨bs',h',rfl⟩:=h
     obtain⟨ns,rfl,rfl⟩:=qfG l bs' xs h' hr.tail
     obtain rfl:=hr.head.QbC
     exact⟨n::ns,rfl,rfl⟩
    | _=>simp[bytesOf]at h
   | _=>simp[bytesOf]at h
theorem qeQ:∀ (l:List V)(bs:List UInt8),bytesOf l=some bs→∀ v ∈ l,v.cells=[v]
 | [],bs,h,v,hv=>by simp at hv
 | u::l,bs,h,v,hv=>by
  cases u with
  | int k n =>
   cases k with
   | u8 =>
    simp only[bytesOf,Option.map_eq_some_iff]at h
    obtain⟨bs',h',rfl⟩:=h
    rcases List.mem_cons.1 hv with rfl | hv
    ·rfl
    ·exact qeQ l bs' h' v hv
   | _=>simp[bytesOf]at h
  | _=>simp[bytesOf]at h
theorem qg8(w:World)(e:TypeId)(s:ByteArray):(Lib.bytesWorld w e s).heap=w.heap.push (.cells (Lib.bytesCells w e s) e ((Lib.bytesCells w e s).size,(Lib.bytesCells w e s).size+1)):=by
 apply Array.ext_getElem?
 intro i
 rw[Array.getElem?_push]
 by_cases hi:i=w.heap.size
 ·subst hi;simp[Lib.bytesWorld_at_new]
 ·rw[if_neg hi]
  rcases Nat.lt_or_ge i w.heap.size with h' | h'
  ·exact Lib.bytesWorld_at_old w e s i h'
  ·rw[Array.getElem?_eq_none (by rw[Lib.bytesWorld_size];omega),Array.getElem?_eq_none (by omega)]
theorem qj3[Laid](h:WRel c st w)(hs:QaT c st.ρ a){o:Oper}{s t:TypeId}{y:Operand}(ho:o.op=.convert s t y){res:Res}(hr:stepG P C gl st o=some res):qcs P c st w (execOp a.eval o) res:=by
 unfold stepG at hr
 simp only[ho]at hr
 have hy:=qay hs y
 split at hr
 ·rename_i d hd
  unfold QbS at hr
  split at hr
  ·rename_i e hus hut
   split at hr
   ·rename_i hue
    split at hr
    ·rename_i l hi
     split at hr
     ·simp at hr
     ·rename_i hns
      simp only[Option.map_eq_some_iff]at hr
      obtain⟨bs,hb,rfl⟩:=hr
      have hone:=qeQ l bs hb
      obtain⟨xs,hx,hlen,hfc⟩:=qfe (P:=P) h hy hi (sz:=1) (fun v hv=>by rw[hone v hv];rfl)
      rw[qiR l hone]at hx
      obtain⟨ns,rfl,rfl⟩:=qfG l bs xs hb hx
      have hfc2:=hfc w l.length rfl (Nat.le_refl _)
      rw[Nat.mul_one,List.take_of_length_le (by rw[hx.1];exact Nat.le_refl _)]at hfc2
      have hrun:(convert s t (a.eval y)).run P w=.ok (.string ⟨(ns.map (fun n=>UInt8.ofNat n.toNat)).toArray⟩) w:=by
       have hln:=hlen w
       cases hv:a.eval y with
       | slice ad n cp =>
        rw[hv]at hfc2 hln
        have hn:n=l.length:=by simpa[Builtin.lenOf]using hln
        rw[run_convert_bytes_string w s t e ad n cp hus hue hut]
        cases ad with
        | none =>
         simp[Builtin.firstCells]at hfc2
         have:ns=[]:=by cases ns<;>simp_all
         subst this
         simp[Conv.bytesToString];rfl
        | some ad =>
         simp only[Builtin.firstCells,Nat.mul_one]at hfc2
         rw[hn,run_bytesToString w ad _ cp ns hfc2,foldl_push_bytes]
         simp[ByteArray.empty,ByteArray.emptyWithCapacity]
         rfl
       | string z =>
        exfalso
        rw[hv]at hy
        cases hu:opd st.ρ y with
        | str z=>exact hns _ hu
        | dead=>rw[hu]at hi;simp[Qag]at hi
        | _=>rw[hu]at hy;cases hy
       | _=>rw[hv]at hln;simp[Builtin.lenOf,stuck]at hln
      refine⟨c,_,w,.inl ?_,.refl c,.strL _,h,.refl c st w,.refl _,rfl⟩
      simp only[execOp,ho]
      rw[Sem.run_bind,hrun];rfl
    ·simp at hr
   ·simp at hr
  ·rename_i e hus hut
   split at hr
   ·rename_i z hue hyv
    rw[hyv]at hy
    have ey:=hy.QbA
    generalize hg:(C.QaN t&&Nat.ble z.n Qaj)=q at hr
    cases q with
    | false=>simp at hr
    | true =>
     simp only[cond_true,Option.some.injEq]at hr
     subst hr
     have hzn:=z.QaY
     rw[←hzn]
     have hbl:∀ n v,(bl n v).length=n:=qdA
     have hge:=grownCap_ge w z.bytes.size 0 e
     have hszz:(Lib.bytesCells w e z.bytes).size=grownCap w z.bytes.size 0 e:=by
      have:z.bytes.data.size=z.bytes.size:=rfl
      simp[Lib.bytesCells];omega
     have hl:((bl z.bytes.size z.v).map fun b=>V.int .u8 b.toNat).length=z.bytes.size:=by simp[hbl]
     refine qch (P:=P) (g:=gl d) (d:=d) (lim:=none) (ag:=false) (cap:=grownCap w z.bytes.size 0 e) h (qg8 w e z.bytes) ⟨rfl,rfl,rfl⟩ (fun o ho hx=>by omega) (by rw[hl,hszz];exact hge) ?_ hge (by omega) (by rw[hszz];omega) (fun k hk=>by simp at hk) (.inl ?_)
     ·have:(Lib.bytesCells w e z.bytes).toList.take ((bl z.bytes.size z.v).map fun b=>V.int .u8 b.toNat).length=Lib.strCells z.bytes:=by
       rw[hl]
       simp only[Lib.bytesCells,Array.toList_append,Array.toList_map]
       rw[List.take_append_of_le_length (by simp)]
       rw[List.take_of_length_le (by simp)]
       rfl
      rw[this];have h9:=Qd5 c z;rw[←hzn]at h9;exact h9
     ·simp only[execOp,ho,ey]
      rw[Sem.run_bind,Lib.run_convert_string_bytes w s t e z.bytes hus hut hue];rfl
   ·simp at hr
  ·simp at hr
 ·simp at hr
end
section
variable {P:Program}{C:Cfg}{c:Ctx}{st:St}{a:Act}{w:World}{gl:Nat→Bool}
structure Qes(P:Program)(ts:Array TypeId)(t e:TypeId)(i:TypeInfo):Prop where
 t0:ts[0]? = some t
 t1:∃ u d,ts[1]? = some u∧P.underlying u=some d∧∀ k,d≠.int k
 ht:P.underlying t=some (.slice e)
 hi:P.info? e=some i
theorem qb0{ts:Array TypeId}{t e ty:TypeId}{i:TypeInfo}(hT:Qes P ts t e i){y:Value}{n:Nat}{news:List Value}(hlen:(Builtin.lenOf y).run P w=.ok n w)
  (hnews:(Builtin.firstCells i.size n y).run P w=.ok news.toArray w) {base:Option Addr} {sLen sCap:Nat} (hroom:sLen+n≤sCap) {w':World}
  (hst:match base with | none=>w'=w | some b=>(storeCells (b.add (sLen*i.size)) news).run P w=.ok () w') :
  (Builtin.append_ ts ty #[.slice base sLen sCap,y]).run P w=.ok (.slice base (sLen+n) sCap) w':=by
 obtain⟨u,d,h1,hu,hd⟩:=hT.t1
 have hm:(match d with | .int _=>true | _=>false)=false:=by
  cases d<;>first | rfl | exact absurd rfl (hd _)
 cases base with
 | none =>
  subst hst
  simp[Builtin.append_,hT.t0,h1,run_underlying hT.ht,run_underlying hu,hm,sizeOf,typeInfo,hT.hi,hlen,hroom,hnews]
 | some b =>
  simp[Builtin.append_,hT.t0,h1,run_underlying hT.ht,run_underlying hu,hm,sizeOf,typeInfo,hT.hi,hlen,hroom,hnews,hst]
theorem qfH{ts:Array TypeId}{t e ty:TypeId}{i:TypeInfo}(hT:Qes P ts t e i){z:Value}(hz:i.zero=some z){y:Value}{n:Nat}{olds news:List Value}(hlen:(Builtin.lenOf y).run P w=.ok n w)
  {base:Option Addr} {sLen sCap:Nat} (holds:(Builtin.firstCells i.size sLen (.slice base sLen sCap)).run P w.drew=.ok olds.toArray w.drew)
  (hnews:(Builtin.firstCells i.size n y).run P w.drew=.ok news.toArray w.drew) (hg:sCap<sLen+n) (h63:sLen+n≤70368744177664) (hfit:(sLen+n)*i.bytes≤70368744177664) :
  (Builtin.append_ ts ty #[.slice base sLen sCap,y]).run P w=.ok (.slice (some ⟨w.heap.size,0,none⟩) (sLen+n) (grownCap w (sLen+n) sCap e))
   (w.drew.alloc (.cells ((olds++news).toArray++Builtin.zeroCells z.cells (grownCap w (sLen+n) sCap e - (sLen+n))) e)):=by
 obtain⟨u,d,h1,hu,hd⟩:=hT.t1
 have hm:(match d with | .int _=>true | _=>false)=false:=by
  cases d<;>first | rfl | exact absurd rfl (hd _)
 have hn:¬(sLen+n≤sCap):=by omega
 have h63':¬(9223372036854775807<((sLen:Int)+(n:Int))):=by omega
 have h48:=growslice_fits hg (bytes:=i.bytes) (by omega)
 have h48':¬(281474976710656<Builtin.nextslicecap (sLen+n) sCap*i.bytes):=by omega
 simp[Builtin.append_,hT.t0,h1,run_underlying hT.ht,run_underlying hu,hm,sizeOf,typeInfo,zeroValue,hT.hi,hz,hlen,hn,h63',h48',Question.forced,holds,hnews,newRow,grownCap]
 congr 2
 apply Array.toList_inj.1
 simp
theorem WRel.gone[Laid](h:WRel c st w){r:Ref}{row:Row}(hr:Qab st r=some row)(hne:row≠.gone):WRel c (setRow st r .gone) w∧Keep c c st (setRow st r .gone) w w:=by
 have sub:∀ r1 row1,Qab (setRow st r .gone) r1=some row1→row1≠.gone→r1≠r∧Qab st r1=some row1:=by
  intro r1 row1 h1 hg
  by_cases e:r1=r
  ·subst e;rw[qbe hr]at h1;obtain rfl:=Option.some.inj h1;exact absurd rfl hg
  ·rw[qaF hr e]at h1;exact⟨e,h1⟩
 refine⟨⟨h.shut,fun r1 row1 hr1=>?_,fun r1 r2 row1 row2 b2 g1 g2 n1 n2=>?_,fun i hi=>?_,fun s g hg=>?_,h.lt,h.tlt,h.elt⟩,⟨rfl,rfl,rfl,Nat.le_refl _,fun _ _ _=>rfl,fun _ _ _ _=>rfl,fun b _ ho=>qgp hr hne b ho⟩⟩
 ·by_cases hg:row1=.gone
  ·subst hg;trivial
  ·exact h.rows r1 row1 (sub r1 row1 hr1 hg).2
 ·exact h.inj r1 r2 row1 row2 b2 (sub r1 row1 g1 n1).2 (sub r2 row2 g2 n2).2 n1 n2
 ·exact h.glb i (by rwa [qf6]at hi)
 ·exact h.lcb s g (by rwa [qjc hr]at hg)
theorem qgu[Laid]{s:Sem Next}(h:WRel c st w){w':World}{e:TypeId}{xs:Array Value}(hw:w'.heap=w.heap.push (.cells xs e))(ho:w'.os=w.os∧w'.tape=w.tape∧w'.output=w.output)
  {g:Bool} {d:Nat} {l:List V} {sz cap:Nat} (hsz:∀ v ∈ l,v.cells.length=sz) (hn:V.Qaf (flat l)=true) (hr:QaC c (flat l) (xs.toList.take (flat l).length)) (hc:l.length≤cap) (hz:0<sz)
  (hs:xs.size=cap*sz) (hstep:Qa2 P s w (.slice (some ⟨w.heap.size,0,none⟩) l.length cap) w') :
  ∃ c' x' w',Qc2 P c st w s (.slice (some (Qaa st g d .tok).1) false sz l) (Qaa st g d .tok).2 c' x' w':=by
 have hfl:=qaC hsz
 have hle0:(flat l).length≤xs.size:=by rw[hfl,hs];exact Nat.mul_le_mul_right _ hc
 obtain⟨h1,h2⟩:=h.QcF (gl:=g) (site:=d) (row:=.tok) (o:=.cells xs e) (n:=xs.size) (tx:=some (flat l).length) (sh:=fun o=>(xs.toList.take (flat l).length)[o]?) hw
  (fun r hr0 hle=>by
   refine⟨w.heap.size,xs,e,(0,0),(flat l).length,by rw[qa0];simp,by rw[hw];simp,fun o _ hx=>by simp at hx,by simp[Ctx.bind],by simp[Ctx.bind],hle0,fun o ho=>?_⟩
   simp only[Ctx.bind,if_true]
   cases hq:c.shut w.heap.size o with
   | none=>simp only[];rw[List.getElem?_eq_none];simp;omega
   | some y=>have:=h.Qb2 hq;omega) (fun i x hx=>by
   rw[qaE (xs:=xs) (e:=e) (fz:=(0,0)) (by rw[hw];simp)]
   rw[List.getElem?_take]at hx
   split at hx
   ·simpa using hx
   ·simp at hx)
 refine⟨_,_,w',hstep,h2,?_,h1,⟨ho.1,ho.2.1,ho.2.2,by rw[hw];simp,fun b hb _=>?_,fun b hb _ o=>?_,fun b hb ho=>qgq hb ho⟩,qbq _ _ _,qi7 _ _ _⟩
 ·refine Rel.Qb6 (sz:=sz) hsz (hr.mono h2) (fun i x hx=>?_) hn hc (fun hf=>by simp at hf) (fun r hr=>?_) rfl
  ·rw[Nat.zero_add]
   simp only[Ctx.bind,if_true]
   cases hq:c.shut w.heap.size i with
   | none=>exact hx
   | some y=>have:=h.Qb2 hq;omega
  ·obtain rfl:=Option.some.inj hr
   exact⟨by rw[qa0];simp,rfl,hz,by simp[Ctx.bind,hs],by simp[Ctx.bind,hfl]⟩
 ·rw[hw,Array.getElem?_push,if_neg (by omega)]
 ·simp only[Ctx.bind];rw[if_neg (by omega)]
theorem qlb{olds news:List Value}{z:Array Value}{n need sz:Nat}(ho:(olds++news).length=need*sz)(hz:z.size=sz)(hn:need≤n) :
  ((olds++news).toArray++Builtin.zeroCells z (n - need)).size=n*sz∧((olds++news).toArray++Builtin.zeroCells z (n - need)).toList.take (need*sz)=olds++news:=by
 refine⟨?_,?_⟩
 ·simp only[Array.size_append,List.size_toArray,size_zeroCells,ho,hz,←Nat.add_mul]
  congr 1;omega
 ·rw[Array.toList_append,←ho];exact List.take_left
end
section
variable {P:Program}{C:Cfg}{c:Ctx}{st:St}{a:Act}{w:World}{gl:Nat→Bool}
theorem qf2[Laid](h:WRel c st w){r:Ref}{row0:Row}(hr:Qab st r=some row0)(hne:row0≠.gone){b m:Nat}(hb:c.blk r=some b)(hm:c.ext b=some m){g:Bool}{d:Nat}{row:Row}{tx:Option Nat}{sh:Nat→Option Value}
  {w':World} (hsize:w'.heap.size=w.heap.size) (hheap:∀ i,i≠b→w'.heap[i]? = w.heap[i]?) (ho:w'.os=w.os∧w'.tape=w.tape∧w'.output=w.output)
  (hshut:∀ o x,c.shut b o=some x→w'.cell? ⟨b,o,none⟩ = some x) (hshut2:∀ o x,sh o=some x→w'.cell? ⟨b,o,none⟩ = some x)
  (hok:∀ r',r'=(Qaa (setRow st r .gone) g d row).1→c.le (c.bind r' b m tx sh)→Qcs (c.bind r' b m tx sh) w' r' row) :
  c.le (c.bind (Qaa (setRow st r .gone) g d row).1 b m tx sh)∧WRel (c.bind (Qaa (setRow st r .gone) g d row).1 b m tx sh) (Qaa (setRow st r .gone) g d row).2 w' ∧
   Keep c (c.bind (Qaa (setRow st r .gone) g d row).1 b m tx sh) st (Qaa (setRow st r .gone) g d row).2 w w':=by
 have h1:=(h.gone hr hne).1
 have hf:c.blk (Qaa (setRow st r .gone) g d row).1=none:=qjT h1
 have htx:c.text (Qaa (setRow st r .gone) g d row).1=none:=by
  cases hq:c.text (Qaa (setRow st r .gone) g d row).1 with
  | none=>rfl
  | some m=>obtain⟨b',hb'⟩:=h.tlt _ m hq;rw[hb']at hf;simp at hf
 have he:∀ m',c.ext b=some m'→m'=m:=fun m' h'=>by rw[hm]at h';exact(Option.some.inj h').symm
 have hle:=qlE (tx:=tx) (sh:=sh) hf htx he
 have hlt:=h.lt r b hb
 have sub:∀ r1 row1,Qab (setRow st r .gone) r1=some row1→row1≠.gone→r1≠r∧Qab st r1=some row1:=by
  intro r1 row1 h1 hg
  by_cases e:r1=r
  ·subst e;rw[qbe hr]at h1;obtain rfl:=Option.some.inj h1;exact absurd rfl hg
  ·rw[qaF hr e]at h1;exact⟨e,h1⟩
 refine⟨hle,h1.QdQ (row:=row) hf he (fun r1 row1 g1 hg=>?_) qhI (hok _ rfl hle) (by rw[hsize];exact hlt) (by rw[hsize];exact Nat.le_refl _) (fun i hi _=>hheap i hi) (fun o x hx=>?_) (fun i hi=>qn7 hi) (fun s g hg=>qn8 hg),⟨ho.1,ho.2.1,ho.2.2,by rw[hsize];exact Nat.le_refl _,fun i hi hn=>hheap i (fun e=>?_),fun i hi hn o=>?_,fun i hi hown=>?_⟩⟩
 ·by_cases e:r1=(Qaa (setRow st r .gone) g d row).1
  ·exact .inl e
  ·have g2:=qb8 g1 e
   obtain⟨g3,g4⟩:=sub r1 row1 g2 hg
   exact .inr ⟨e,g2,fun hb1=>g3 (h.inj r1 r row1 row0 b g4 hr hg hne hb1 hb)⟩
 ·simp only[Ctx.bind,if_true]at hx
  cases hq:c.shut b o with
  | none=>rw[hq]at hx;exact hshut2 o x hx
  | some y=>rw[hq]at hx;rw[←hx];exact hshut o y hq
 ·subst e;exact hn ⟨r,row0,hr,hne,hb⟩
 ·simp only[Ctx.bind]
  rw[if_neg]
  intro e;subst e;exact hn ⟨r,row0,hr,hne,hb⟩
 ·obtain⟨r1,row1,g1,g2,g3⟩:=hown
  rw[qa0]at g3
  by_cases e:(Qaa (setRow st r .gone) g d row).1=r1
  ·rw[if_pos e]at g3
   obtain rfl:=Option.some.inj g3
   exact⟨r,row0,hr,hne,hb⟩
  ·rw[if_neg e]at g3
   obtain⟨g4,g5⟩:=sub r1 row1 (qb8 g1 (Ne.symm e)) g2
   exact⟨r1,row1,g5,g2,g3⟩
theorem qhS{r:Ref}{g:Bool}{d:Nat}{row:Row}:Dirt st.hp (Qaa (setRow st r .gone) g d row).2.hp:=(qaT _ _).trans (qbq _ _ _)
theorem qlQ{r:Ref}{g:Bool}{d:Nat}{row:Row}:(Qaa (setRow st r .gone) g d row).2.tm=st.tm:=(qi7 _ _ _).trans (qd1 _ _)
theorem qlZ{ys:List V}{sz:Nat}(h:ys.all (fun v=>Nat.beq v.cells.length sz&&v.cells.all V.Qaw)=true):(∀ v ∈ ys,v.cells.length=sz)∧∀ v ∈ flat ys,v.Qaw=true:=by
 refine⟨fun v hv=>?_,fun v hv=>?_⟩
 ·have:=List.all_eq_true.1 h v hv
  simp only[Bool.and_eq_true]at this
  simpa using this.1
 ·simp only[flat,List.mem_flatMap]at hv
  obtain⟨u,hu,hv⟩:=hv
  have:=List.all_eq_true.1 h u hu
  simp only[Bool.and_eq_true]at this
  exact List.all_eq_true.1 this.2 v hv
theorem Qcv[Laid]{vs:List V}{xs:List Value}(hr:QaC c vs xs)(h:∀ v ∈ vs,v.Qaw=true):∀ y ∈ xs,y.oneCell'=true:=by
 intro y hy
 obtain⟨i,hi⟩:=List.mem_iff_getElem?.1 hy
 have hi2:i<vs.length:=by
  rw[←hr.1]
  rcases Nat.lt_or_ge i xs.length with h' | h'
  ·exact h'
  ·rw[List.getElem?_eq_none h']at hi;simp at hi
 have hu:vs[i]? = some vs[i]:=List.getElem?_eq_getElem hi2
 have hrel:=hr.2 i _ y hu hi
 have hco:=h vs[i] (List.getElem_mem hi2)
 cases y with
 | agg z=>exact absurd rfl (hrel.oneCell hco z).1
 | tuple z=>exact absurd rfl (hrel.oneCell hco z).2
 | _=>rfl
theorem qiN[Laid](h:WRel c st w){s:Sem Next}{r:Ref}(hr:Qab st r=some .tok){b cap sz:Nat}(hb:c.blk r=some b)(hext:c.ext b=some (cap*sz)){l ys:List V}(htx:c.text r=some (l.length*sz))
  (hz:0<sz) (hl:∀ v ∈ l,v.cells.length=sz) (hy:∀ v ∈ ys,v.cells.length=sz) (hn:V.Qaf (flat (l++ys))=true) (hroom:l.length+ys.length≤cap)
  {xs news:List Value} (hx:QaC c (flat l) xs) (hsh:∀ i x,xs[i]? = some x→c.shut b i=some x) (hnew:QaC c (flat ys) news) {g:Bool} {d:Nat}
  (hstep:Qa2 P s w (.slice (some ⟨b,0,none⟩) (l.length+ys.length) cap) (w.setCells b (l.length*sz) news)) :
  ∃ c' x' w',Qc2 P c st w s (.slice (some (Qaa (setRow st r .gone) g d .tok).1) false sz (l++ys)) (Qaa (setRow st r .gone) g d .tok).2 c' x' w':=by
 obtain⟨b',cs,e,fz,n,k1,k2,k3,k4,k5,k6,k7⟩:=h.rows r _ hr
 rw[hb]at k1
 obtain rfl:=Option.some.inj k1
 rw[hext]at k4
 have hcs:cap*sz=cs.size:=Option.some.inj k4
 rw[htx]at k5
 obtain rfl:=Option.some.inj k5
 have hall:∀ v ∈ l++ys,v.cells.length=sz:=fun v hv=>by rcases List.mem_append.1 hv with h' | h';exact hl v h';exact hy v h'
 have hfl:(flat (l++ys)).length=(l.length+ys.length)*sz:=by rw[qaC hall,List.length_append]
 have hxl:xs.length=l.length*sz:=by rw[hx.1,qaC hl]
 have hnl:news.length=ys.length*sz:=by rw[hnew.1,qaC hy]
 have hmul:l.length*sz+ys.length*sz≤cap*sz:=by rw[←Nat.add_mul];exact Nat.mul_le_mul_right _ hroom
 have hheap:=qcC (vs:=news) k2 (show l.length*sz+news.length≤cs.size by omega)
 have hlay:(lay cs.toList (l.length*sz) news).length=cs.size:=by simpa using qcM (cs:=cs.toList) (off:=l.length*sz) (vs:=news) (by simp;omega)
 have hcell:∀ o,(w.setCells b (l.length*sz) news).cell? ⟨b,o,none⟩ = (lay cs.toList (l.length*sz) news)[o]?:=fun o=>by
  rw[qaE hheap];simp
 have hold:∀ o,o<l.length*sz→(lay cs.toList (l.length*sz) news)[o]? = cs[o]?:=fun o ho=>by
  unfold lay
  rw[List.append_assoc,List.getElem?_append_left (by simp;omega),List.getElem?_take,if_pos ho];simp
 have hxs:∀ i,i<l.length*sz→cs[i]? = xs[i]?:=fun i hi=>by
  have hx1:xs[i]? = some (xs[i]'(by omega)):=List.getElem?_eq_getElem _
  have:=h.shut b i _ (hsh i _ hx1)
  rw[qaE k2]at this
  rw[this,hx1]
 have htake:∀ o,o<(l.length+ys.length)*sz→(lay cs.toList (l.length*sz) news)[o]? = (xs++news)[o]?:=fun o ho=>by
  by_cases h1:o<l.length*sz
  ·rw[hold o h1,List.getElem?_append_left (by omega),hxs o h1]
  ·have e1:(xs++news)[o]? = news[o - xs.length]?:=List.getElem?_append_right (by omega)
   have hlen2:(cs.toList.take (l.length*sz)).length=l.length*sz:=by simp;omega
   have hon:o - l.length*sz<news.length:=by rw[Nat.add_mul]at ho;omega
   have e2:(lay cs.toList (l.length*sz) news)[o]? = news[o - l.length*sz]?:=by
    unfold lay
    rw[List.append_assoc,List.getElem?_append_right (by omega),hlen2,List.getElem?_append_left hon]
   rw[e1,e2,hxl]
 obtain⟨t1,t2,t3⟩:=qf2 (g:=g) (d:=d) (row:=.tok) (tx:=some ((l.length+ys.length)*sz)) (sh:=fun o=>(xs++news)[o]?) (w':=w.setCells b (l.length*sz) news) h hr (by simp) hb hext
  (by rw[qbo]) (fun i hi=>qa6 news _ w i hi) (qb6 news _ w) (fun o x hx=>by
   have ho:o<l.length*sz:=by
    rcases Nat.lt_or_ge o (l.length*sz)with h' | h'
    ·exact h'
    ·rw[k7 o h']at hx;simp at hx
   rw[hcell,hold o ho]
   have:=h.shut b o x hx
   rwa [qaE k2]at this) (fun o x hx=>by
   have ho:o<(l.length+ys.length)*sz:=by
    rcases Nat.lt_or_ge o ((l.length+ys.length)*sz)with h' | h'
    ·exact h'
    ·rw[List.getElem?_eq_none (by rw[Nat.add_mul]at h';simp;omega)]at hx;simp at hx
   rw[hcell,htake o ho];exact hx) (fun r' hr' hle=>by
   refine⟨b,(lay cs.toList (l.length*sz) news).toArray,e,fz,(l.length+ys.length)*sz,by rw[qa0];simp,hheap,fun o ho=>k3 o (by simp at ho;omega),by simp[Ctx.bind,hlay,hcs],by simp[Ctx.bind],?_,fun o ho=>?_⟩
   ·simp only[List.size_toArray,hlay];rw[Nat.add_mul];omega
   ·simp only[Ctx.bind,if_true]
    rw[k7 o (by rw[Nat.add_mul]at ho;omega)]
    simp only[]
    rw[List.getElem?_eq_none (by rw[Nat.add_mul]at ho;simp;omega)])
 refine⟨_,_,_,hstep,t1,?_,t2,t3,qhS,qlQ⟩
 refine Rel.Qb6 (sz:=sz) (xs:=xs++news) hall (by rw[qc7];exact QaC.append (hx.mono t1) (hnew.mono t1)) (fun i x hxi=>?_) hn (by simpa using hroom) (fun hf=>by simp at hf) (fun r' hr'=>?_) (by simp)
 ·rw[Nat.zero_add]
  simp only[Ctx.bind,if_true]
  cases hq:c.shut b i with
  | none=>exact hxi
  | some y =>
   simp only[]
   have hi:i<l.length*sz:=by
    rcases Nat.lt_or_ge i (l.length*sz)with h' | h'
    ·exact h'
    ·rw[k7 i h']at hq;simp at hq
   rw[List.getElem?_append_left (by omega)]at hxi
   have:=hsh i x hxi
   rw[hq]at this;exact this
 ·obtain rfl:=Option.some.inj hr'
  exact⟨by rw[qa0];simp,rfl,hz,by simp[Ctx.bind],by simp[Ctx.bind]⟩
theorem qiO[Laid](h:WRel c st w){s:Sem Next}{r:Ref}{cs:List V}(hr:Qab st r=some (.cells false cs)){b cap len sz:Nat}{ag:Bool}(hb:c.blk r=some b)(hext:c.ext b=some (cap*sz)){ys:List V}(hlen:len*sz=cs.length)
  (hz:0<sz) (hy:∀ v ∈ ys,v.cells.length=sz) (hroom:len+ys.length≤cap) {news:List Value} (hnew:QaC c (flat ys) news) {g:Bool} {d:Nat}
  (hstep:Qa2 P s w (.slice (some ⟨b,0,none⟩) (len+ys.length) cap) (w.setCells b (len*sz) news)) :
  ∃ c' x' w',Qc2 P c st w s (.arr (Qaa (setRow st r .gone) g d (.cells false (cs++flat ys))).1 0 (len+ys.length) none sz ag) (Qaa (setRow st r .gone) g d (.cells false (cs++flat ys))).2 c' x' w':=by
 obtain⟨b',xs,e,fz,k1,k2,k3,k4,k5,k6,k7,k8⟩:=h.rows r _ hr
 rw[hb]at k1
 obtain rfl:=Option.some.inj k1
 rw[hext]at k4
 have hcs:cap*sz=xs.size:=Option.some.inj k4
 have hyl:(flat ys).length=ys.length*sz:=qaC hy
 have hnl:news.length=ys.length*sz:=by rw[hnew.1,hyl]
 have hmul:len*sz+ys.length*sz≤cap*sz:=by rw[←Nat.add_mul];exact Nat.mul_le_mul_right _ hroom
 have hheap:=qcC (vs:=news) k2 (show len*sz+news.length≤xs.size by omega)
 have hlay:(lay xs.toList (len*sz) news).length=xs.size:=by simpa using qcM (cs:=xs.toList) (off:=len*sz) (vs:=news) (by simp;omega)
 have htake:(lay xs.toList (len*sz) news).take (cs++flat ys).length=xs.toList.take cs.length++news:=by
  unfold lay
  rw[hlen]
  rw[List.take_append_of_le_length (by simp;omega),List.take_of_length_le (by simp;omega)]
 obtain⟨t1,t2,t3⟩:=qf2 (g:=g) (d:=d) (row:=.cells false (cs++flat ys)) (tx:=none) (sh:=fun _=>none) (w':=w.setCells b (len*sz) news) h hr (by simp) hb hext
  (by rw[qbo]) (fun i hi=>qa6 news _ w i hi) (qb6 news _ w) (fun o x hx=>by rw[k7 rfl]at hx;simp at hx) (fun o x hx=>by simp at hx) (fun r' hr' hle=>by
   refine⟨b,(lay xs.toList (len*sz) news).toArray,e,fz,by rw[qa0];simp,hheap,fun o ho=>k3 o (by simp at ho;omega),by simp[Ctx.bind,hlay,hcs],by simp[hlay];omega,?_,fun _ o=>?_,fun hf=>by simp at hf⟩
   ·rw[htake];exact QaC.append (k6.mono hle) (hnew.mono hle)
   ·simp only[Ctx.bind,if_true]
    rw[k7 rfl])
 exact⟨_,_,_,hstep,t1,.arr _ _ _ _ _ _ _ _ (cap*sz) (by rw[qa0];simp) hroom (by simp[Ctx.bind]) hz (fun k hk=>by simp at hk) (fun _=>by omega),t2,t3,qhS,qlQ⟩
theorem qpQ[Laid](h:WRel c st w){r:Ref}{frz:Bool}{cs:List V}(hr:Qab st r=some (.cells frz cs)){b off n:Nat}(hb:c.blk r=some b)(hle:off+n≤cs.length) :
  ∃ xs:List Value,QaC c ((cs.drop off).take n) xs∧xs.length=n∧∀ i y,xs[i]? = some y→w.cell? ⟨b,off+i,none⟩ = some y:=by
 obtain⟨b',ys,e,fz,h1,h2,h3,h4,h5,h6,h7,h8⟩:=h.rows r _ hr
 rw[hb]at h1
 obtain rfl:=Option.some.inj h1
 refine⟨((ys.toList.take cs.length).drop off).take n,(h6.drop off).take n,by simp;omega,fun i y hy=>?_⟩
 rw[qaE h2]
 rw[List.getElem?_take]at hy
 split at hy
 ·rw[List.getElem?_drop,List.getElem?_take]at hy
  split at hy
  ·simpa using hy
  ·simp at hy
 ·simp at hy
end
section
variable {P:Program}{C:Cfg}{c:Ctx}{st:St}{a:Act}{w:World}{gl:Nat→Bool}
theorem qgJ{s:Sem Next}{ts:Array TypeId}{t e ty:TypeId}{i:TypeInfo}(hT:Qes P ts t e i){z:Value}(hz:i.zero=some z)(hzs:z.cells.size=i.size){yv:Value}{n:Nat}{olds news:List Value}
  (hlen:(Builtin.lenOf yv).run P w=.ok n w) {base:Option Addr} {sLen sCap:Nat} (holds:(Builtin.firstCells i.size sLen (.slice base sLen sCap)).run P w.drew=.ok olds.toArray w.drew)
  (hnews:(Builtin.firstCells i.size n yv).run P w.drew=.ok news.toArray w.drew) (ho:(olds++news).length=(sLen+n)*i.size) (hg:sCap<sLen+n) (h63:sLen+n≤70368744177664) (hfit:(sLen+n)*i.bytes≤70368744177664)
  (hs:∀ v w',(Builtin.append_ ts ty #[.slice base sLen sCap,yv]).run P w=.ok v w'→Qa2 P s w v w') :
  ∃ (xs:Array Value) (cap:Nat) (w':World),w'.heap=w.heap.push (.cells xs e)∧(w'.os=w.os∧w'.tape=w.tape∧w'.output=w.output)∧xs.size=cap*i.size∧xs.toList.take ((sLen+n)*i.size)=olds++news∧sLen+n≤cap ∧
   Qa2 P s w (.slice (some ⟨w.heap.size,0,none⟩) (sLen+n) cap) w':=by
 have hrun:=qfH (ty:=ty) hT hz hlen holds hnews hg h63 hfit
 have hge:=grownCap_ge w (sLen+n) sCap e
 obtain⟨g1,g2⟩:=qlb (z:=z.cells) ho hzs hge
 exact⟨_,_,w.drew.alloc (.cells _ e),rfl,⟨rfl,rfl,rfl⟩,g1,g2,hge,hs _ _ hrun⟩
theorem qng{e:TypeId}{n:Nat}(h:Qb1 P e=some n):0<n∧∃ i z,P.info? e=some i∧i.bytes=n∧i.zero=some z∧z.cells.size=i.size:=by
 unfold Qb1 at h
 cases hq:P.info? e with
 | none=>simp[hq]at h
 | some i =>
  simp only[hq,Option.bind_some]at h
  split at h
  ·rename_i z hz
   generalize hb:(Nat.beq i.bytes 0 || !Nat.beq z.cells.size i.size)=q at h
   cases q with
   | true=>simp at h
   | false =>
    simp at h
    simp only[Bool.or_eq_false_iff,Bool.not_eq_false']at hb
    refine⟨?_,i,z,rfl,h,hz,by simpa using hb.2⟩
    rcases Nat.eq_zero_or_pos n with h0 | h0
    ·rw[h0]at h;rw[h]at hb;simp at hb
    ·exact h0
  ·simp at h
theorem qcp{α:Type}{b:Bool}{x:Option α}{y:α}(h:(bif b then none else x)=some y):b=false∧x=some y:=by
 cases b with
 | true=>simp at h
 | false=>exact⟨rfl,h⟩
theorem qfa{n b:Nat}(hb:0<b)(h:n*b≤70368744177664):n≤70368744177664:=Nat.le_trans (Nat.le_mul_of_pos_right n hb) h
theorem qk2{o:Option TypeId}(h:Qbv P o=true):∃ u d,o=some u∧P.underlying u=some d∧∀ k,d≠.int k:=by
 unfold Qbv at h
 cases o with
 | none=>simp at h
 | some u =>
  simp only[Option.bind_some]at h
  cases hq:P.underlying u with
  | none=>simp[hq]at h
  | some d =>
   rw[hq]at h
   exact⟨u,d,rfl,hq,fun k e=>by subst e;simp at h⟩
theorem qkC[Laid](h:WRel c st w){x y:V}{xv yv:Value}(hx:Rel c x xv)(hy:Rel c y yv){t ty:TypeId}{d:Nat}{ts:Array TypeId}{res:Res}(hr:Qai P C gl st d t x y=some res)(h0:ts[0]? = some t)(h1:Qbv P ts[1]? = true)
  {s:Sem Next} (hs:∀ v w',(Builtin.append_ ts ty #[xv,yv]).run P w=.ok v w'→Qa2 P s w v w'):qcs P c st w s res:=by
 unfold Qai at hr
 split at hr
 ·simp at hr
 ·rename_i e he
  split at hr
  ·rename_i sz ag bytes ys hlay hby hi
   obtain⟨hz0,hsz,_⟩:=qa4 hlay
   obtain⟨hb0,i,z,hinfo,hbytes,hzz,hzs⟩:=qng hby
   have hisz:i.size=sz:=by rw[hinfo]at hsz;simpa using hsz
   have hT:Qes P ts t e i:=⟨h0,qk2 h1,qbf he,hinfo⟩
   generalize hg:(ys.all (fun v=>Nat.beq v.cells.length sz&&v.cells.all V.Qaw))=q at hr
   cases q with
   | false=>simp at hr
   | true =>
    simp only[cond_true]at hr
    obtain⟨hyl,hyc⟩:=qlZ hg
    obtain⟨news,hnr,hnlen,hnf⟩:=qfe (P:=P) h hy hi hyl
    have hnews:∀ w':World,w'.heap=w.heap→(Builtin.firstCells i.size ys.length yv).run P w'=.ok news.toArray w':=by
     intro w' hw
     have:=hnf w' ys.length hw (Nat.le_refl _)
     rw[List.take_of_length_le (by rw[hnr.1,qaC hyl];exact Nat.le_refl _)]at this
     rw[hisz];exact this
    have hnl:news.length=ys.length*sz:=by rw[hnr.1,qaC hyl]
    subst hisz
    subst hbytes
    have nothing:ys=[]→∀ base n cap,xv=.slice base n cap→n≤cap→Rel c x xv→qcs P c st w s (.val x st):=by
     intro hys base n cap hxv hcap hrel
     subst hys
     subst hxv
     have hn0:news=[]:=List.eq_nil_of_length_eq_zero (by simpa using hnl)
     subst hn0
     have hrun:=qb0 (ty:=ty) hT (hnlen w) (hnews w rfl) (base:=base) (sLen:=n) (sCap:=cap) (by simpa using hcap) (w':=w) (by cases base<;>rfl)
     refine⟨c,_,w,hs _ _ hrun,.refl c,?_,h,.refl c st w,.refl _,rfl⟩
     simpa using hrel
    split at hr
    ·
     obtain rfl:=hx.Qbp
     split at hr
     ·simp only[Option.some.injEq]at hr
      subst hr
      exact nothing rfl _ _ _ rfl (Nat.le_refl _) hx
     ·rename_i hne
      have hpos:0<ys.length:=by cases ys with | nil=>exact absurd rfl hne | cons v vs=>simp
      generalize hgb:Nat.ble (ys.length*i.bytes) Qaj=q2 at hr
      cases q2 with
      | false=>simp at hr
      | true =>
       have hfit:ys.length*i.bytes≤70368744177664:=by simpa[Qaj]using hgb
       simp only[cond_true]at hr
       obtain⟨xs,cap,w',k1,k2,k3,k4,k5,k6⟩:=qgJ (P:=P) (s:=s) (ty:=ty) hT hzz hzs (hnlen w) (base:=none) (sLen:=0) (sCap:=0) (olds:=[]) (by simp[Builtin.firstCells]) (hnews w.drew rfl) (by simpa using hnl) (by omega)
        (by have:=qfa hb0 hfit;omega) (by simpa using hfit) hs
       simp only[Nat.zero_add,List.nil_append]at k4 k5 k6
       cases hA:C.QaN t with
       | true =>
        simp only[hA,cond_true,Qay]at hr
        replace hr:=(qcp hr).2
        simp only[Option.some.injEq]at hr
        subst hr
        refine qch (P:=P) h k1 k2 (fun o _ hx=>by simp at hx) (by rw[qaC hyl,k3];exact Nat.mul_le_mul_right _ k5) ?_ k5 hz0 k3 (fun k hk=>by simp at hk) k6
        rw[qaC hyl,k4];exact hnr
       | false =>
        simp only[hA,cond_false]at hr
        cases hN:V.Qaf ys with
        | false=>simp[hN]at hr
        | true =>
         simp only[hN,cond_true,QaG,Option.some.injEq]at hr
         subst hr
         refine qgu (P:=P) h k1 k2 hyl (qc3 hN) ?_ k5 hz0 k3 k6
         rw[qaC hyl,k4];exact hnr
    ·
     rename_i tok full sz' l
     obtain⟨b,off,cap,xs0,rfl,p1,p2,p3,p4,p5,p6,p7⟩:=hx.QbP
     generalize hgs:Nat.beq i.size sz'=q2 at hr
     cases q2 with
     | false=>simp at hr
     | true =>
      have hsz':i.size=sz':=by simpa using hgs
      subst hsz'
      simp only[cond_true]at hr
      split at hr
      ·simp only[Option.some.injEq]at hr
       subst hr
       exact nothing rfl _ _ _ rfl p5 hx
      ·rename_i hne
       have hpos:0<ys.length:=by cases ys with | nil=>exact absurd rfl hne | cons v vs=>simp
       generalize hgb:Nat.ble ((l.length+ys.length)*i.bytes) Qaj=q3 at hr
       cases q3 with
       | false=>simp at hr
       | true =>
        have hfit:(l.length+ys.length)*i.bytes≤70368744177664:=by simpa[Qaj]using hgb
        simp only[cond_true]at hr
        have hall:∀ v ∈ l++ys,v.cells.length=i.size:=fun v hv=>by rcases List.mem_append.1 hv with h' | h';exact p1 v h';exact hyl v h'
        have hxl:xs0.length=l.length*i.size:=by rw[p2.1,qaC p1]
        have holds:∀ w':World,w'.heap=w.heap→(Builtin.firstCells i.size l.length (.slice (some ⟨b,off,none⟩) l.length cap)).run P w'=.ok xs0.toArray w':=fun w' hw =>
         run_firstCells_some (P:=P) w' i.size l.length ⟨b,off,none⟩ l.length cap xs0 hxl (fun j v hj=>by rw[Addr.add_lit,qg7 hw];exact h.shut _ _ _ (p3 j v hj))
        have grown:cap<l.length+ys.length→∃ (xs:Array Value) (cap':Nat) (w':World),w'.heap=w.heap.push (.cells xs e)∧(w'.os=w.os∧w'.tape=w.tape∧w'.output=w.output)∧xs.size=cap'*i.size∧xs.toList.take ((l.length+ys.length)*i.size)=xs0++news∧l.length+ys.length≤cap' ∧
          Qa2 P s w (.slice (some ⟨w.heap.size,0,none⟩) (l.length+ys.length) cap') w':=fun hlt =>
         qgJ (P:=P) (s:=s) (ty:=ty) hT hzz hzs (hnlen w) (base:=some ⟨b,off,none⟩) (sLen:=l.length) (sCap:=cap) (holds w.drew rfl) (hnews w.drew rfl) (by rw[List.length_append,hxl,hnl,Nat.add_mul]) hlt
          (qfa hb0 hfit) hfit hs
        have hfl:(flat (l++ys)).length=(l.length+ys.length)*i.size:=by rw[qaC hall,List.length_append]
        have hrel:QaC c (flat (l++ys)) (xs0++news):=by rw[qc7];exact QaC.append p2 hnr
        cases hA:C.QaN t with
        | true =>
         simp only[hA,cond_true]at hr
         cases full with
         | false=>simp at hr
         | true =>
          simp only[cond_true,Qay]at hr
          replace hr:=(qcp hr).2
          simp only[Option.some.injEq]at hr
          subst hr
          obtain⟨xs,cap',w',k1,k2,k3,k4,k5,k6⟩:=grown (by rw[p6 rfl];omega)
          refine qch (P:=P) h k1 k2 (fun o _ hx=>by simp at hx) (by rw[hfl,k3];exact Nat.mul_le_mul_right _ k5) ?_ k5 hz0 k3 (fun k hk=>by simp at hk) k6
          rw[hfl,k4];exact hrel
        | false =>
         simp only[hA,cond_false]at hr
         cases hN:V.Qaf ys with
         | false=>simp[hN]at hr
         | true =>
          simp only[hN,cond_true]at hr
          have hnf2:V.Qaf (flat (l++ys))=true:=by rw[qc7,qhm,p4,qc3 hN];rfl
          cases full with
          | true =>
           simp only[cond_true,QaG,Option.some.injEq]at hr
           subst hr
           obtain⟨xs,cap',w',k1,k2,k3,k4,k5,k6⟩:=grown (by rw[p6 rfl];omega)
           refine qgu (P:=P) h k1 k2 hall hnf2 ?_ (by simpa using k5) hz0 k3 (by simpa using k6)
           rw[hfl,k4];exact hrel
          | false =>
           simp only[cond_false]at hr
           split at hr
           ·rename_i r
            split at hr
            ·rename_i hrow
             simp only[QaG,Option.some.injEq]at hr
             subst hr
             obtain⟨q1,q2,q3,q4,q5⟩:=p7 r rfl
             subst q2
             by_cases hroom:l.length+ys.length≤cap
             ·refine qiN (P:=P) h hrow q1 q4 q5 hz0 p1 hyl hnf2 hroom p2 (fun i x hx=>by have:=p3 i x hx;rwa [Nat.zero_add]at this) hnr ?_
              obtain⟨b',cs,e',fz,n',m1,m2,m3,m4,m5,m6,m7⟩:=h.rows r _ hrow
              rw[q1]at m1
              obtain rfl:=Option.some.inj m1
              rw[q4]at m4
              have hcs:cap*i.size=cs.size:=Option.some.inj m4
              have hfit2:l.length*i.size+news.length≤cs.size:=by
               rw[hnl,←Nat.add_mul,←hcs];exact Nat.mul_le_mul_right _ hroom
              have hst:=run_storeCells_cells (P:=P) b (l.length*i.size) news 0 w (fun j hj=>by rw[qaE m2];rw[Array.getElem?_eq_getElem (by omega)];rfl)
               (fun j hj=>qbv m2 m3 (by omega)) (Qcv hnr hyc)
              simp only[Nat.add_zero]at hst
              have hrun:=qb0 (ty:=ty) hT (hnlen w) (hnews w rfl) (base:=some ⟨b,0,none⟩) (sLen:=l.length) (sCap:=cap) hroom (w':=w.setCells b (l.length*i.size) news)
               (by show(storeCells ((⟨b,0,none⟩:Addr).add (l.length*i.size)) news).run P w=_;rw[Addr.add_lit,Nat.zero_add];exact hst)
              exact hs _ _ hrun
             ·obtain⟨xs,cap',w',k1,k2,k3,k4,k5,k6⟩:=grown (by omega)
              obtain⟨g1,g2⟩:=h.gone hrow (by simp)
              obtain⟨c2,x2,w2,k⟩:=qgu (P:=P) (s:=s) (g:=gl d) (d:=d) (l:=l++ys) (sz:=i.size) (cap:=cap') g1 k1 k2 hall hnf2 (by rw[hfl,k4];exact hrel) (by simpa using k5) hz0 k3 (by simpa using k6)
              exact⟨c2,x2,w2,k.after (.refl c) g2 (qaT _ _) (qd1 _ _)⟩
            ·simp at hr
           ·simp at hr
    ·
     rename_i r off len lim sz' ag'
     obtain⟨b,cap,n,rfl,hb,hcap,he1,hzz1,hk,hu⟩:=hx.QbW
     generalize hgs:(Nat.beq i.size sz'&&(ag == ag'))=q2 at hr
     cases q2 with
     | false=>simp at hr
     | true =>
      simp only[Bool.and_eq_true]at hgs
      have hsz':i.size=sz':=by simpa using hgs.1
      have hag:ag=ag':=by simpa using hgs.2
      subst hsz'
      subst hag
      simp only[cond_true]at hr
      split at hr
      ·rename_i frz cs hrow
       generalize hgl:(Nat.ble (off+len*i.size) cs.length&&Nat.ble ((len+ys.length)*i.bytes) Qaj)=q3 at hr
       cases q3 with
       | false=>simp at hr
       | true =>
        simp only[Bool.and_eq_true]at hgl
        have hle:off+len*i.size≤cs.length:=by simpa using hgl.1
        have hfit:(len+ys.length)*i.bytes≤70368744177664:=by simpa[Qaj]using hgl.2
        simp only[cond_true]at hr
        split at hr
        ·simp only[Option.some.injEq]at hr
         subst hr
         exact nothing rfl _ _ _ rfl hcap hx
        ·rename_i hne
         have hpos:0<ys.length:=by cases ys with | nil=>exact absurd rfl hne | cons v vs=>simp
         obtain⟨olds,ho1,ho2,ho3⟩:=qpQ h hrow hb hle
         have holds:∀ w':World,w'.heap=w.heap→(Builtin.firstCells i.size len (.slice (some ⟨b,off,none⟩) len cap)).run P w'=.ok olds.toArray w':=fun w' hw =>
          run_firstCells_some (P:=P) w' i.size len ⟨b,off,none⟩ len cap olds ho2 (fun j v hj=>by rw[Addr.add_lit,qg7 hw];exact ho3 j v hj)
         have grown:cap<len+ys.length→∃ (xs:Array Value) (cap':Nat) (w':World),w'.heap=w.heap.push (.cells xs e)∧(w'.os=w.os∧w'.tape=w.tape∧w'.output=w.output)∧xs.size=cap'*i.size∧xs.toList.take ((len+ys.length)*i.size)=olds++news∧len+ys.length≤cap' ∧
           Qa2 P s w (.slice (some ⟨w.heap.size,0,none⟩) (len+ys.length) cap') w':=fun hlt =>
          qgJ (P:=P) (s:=s) (ty:=ty) hT hzz hzs (hnlen w) (base:=some ⟨b,off,none⟩) (sLen:=len) (sCap:=cap) (holds w.drew rfl) (hnews w.drew rfl) (by rw[List.length_append,ho2,hnl,Nat.add_mul]) hlt
           (qfa hb0 hfit) hfit hs
         have hnyl:(flat ys).length=ys.length*i.size:=qaC hyl
         have hol:((cs.drop off).take (len*i.size)).length=len*i.size:=by simp;omega
         have here:len+ys.length≤cap→off+(len*i.size+news.length)≤n→Qa2 P s w (.slice (some ⟨b,off,none⟩) (len+ys.length) cap) (w.setCells b (off+len*i.size) news):=by
          intro hroom hfit2
          obtain⟨b',xs,e',fz,m1,m2,m3,m4,m5,m6,m7,m8⟩:=h.rows r _ hrow
          rw[hb]at m1
          obtain rfl:=Option.some.inj m1
          rw[he1]at m4
          have hcs:n=xs.size:=Option.some.inj m4
          have hst:=run_storeCells_cells (P:=P) b (off+len*i.size) news 0 w (fun j hj=>by rw[qaE m2];rw[Array.getElem?_eq_getElem (by omega)];rfl)
           (fun j hj=>qbv m2 m3 (by omega)) (Qcv hnr hyc)
          simp only[Nat.add_zero]at hst
          have hrun:=qb0 (ty:=ty) hT (hnlen w) (hnews w rfl) (base:=some ⟨b,off,none⟩) (sLen:=len) (sCap:=cap) hroom (w':=w.setCells b (off+len*i.size) news)
           (by show(storeCells ((⟨b,off,none⟩:Addr).add (len*i.size)) news).run P w=_;rw[Addr.add_lit];exact hst)
          exact hs _ _ hrun
         have written:∀ cs',frz=false→len+ys.length≤cap→setAt cs (off+len*i.size) (flat ys)=some cs'→qcs P c st w s (.val (.arr r off (len+ys.length) lim i.size ag) (setRow st r (.cells false cs'))):=by
          intro cs' hfz hroom hset
          subst hfz
          obtain⟨k1,k2,k3⟩:=h.write hrow hset hnr hb
          have hle2:=(qbp hset).1
          obtain⟨b',xs,e',fz,m1,m2,m3,m4,m5,m6,m7,m8⟩:=h.rows r _ hrow
          rw[hb]at m1
          obtain rfl:=Option.some.inj m1
          rw[he1]at m4
          have hcs:n=xs.size:=Option.some.inj m4
          have hst:=here hroom (by rw[hnyl]at hle2;rw[hnl];omega)
          exact⟨c,_,_,hst,.refl c,.arr _ _ _ _ _ _ _ _ n hb hroom he1 hzz1 hk hu,k1,k2,qaT _ _,qd1 _ _⟩
         replace hr:=(qcp hr).2
         split at hr
         ·rename_i c0
          obtain⟨rfl,hk2⟩:=hk c0 rfl
          generalize hgr:Nat.ble (len+ys.length) cap=q4 at hr
          cases q4 with
          | true =>
           have hroom:len+ys.length≤cap:=by simpa using hgr
           simp only[cond_true]at hr
           cases frz with
           | true=>simp at hr
           | false =>
            simp only[cond_false]at hr
            split at hr
            ·rename_i cs' hset
             simp only[Option.some.injEq]at hr
             subst hr
             exact written cs' rfl hroom hset
            ·simp at hr
          | false =>
           have hroom:¬len+ys.length≤cap:=by
            intro hc;have:Nat.ble (len+ys.length) cap=true:=by simpa using hc
            rw[this]at hgr;simp at hgr
           simp only[cond_false,Qay]at hr
           replace hr:=(qcp hr).2
           simp only[Option.some.injEq]at hr
           subst hr
           obtain⟨xs,cap',w',k1,k2,k3,k4,k5,k6⟩:=grown (by omega)
           have hll:(((cs.drop off).take (len*i.size))++flat ys).length=(len+ys.length)*i.size:=by rw[List.length_append,hol,hnyl,Nat.add_mul]
           refine qch (P:=P) h k1 k2 (fun o _ hx=>by simp at hx) (by rw[hll,k3];exact Nat.mul_le_mul_right _ k5) ?_ k5 hz0 k3 (fun k hk=>by simp at hk) k6
           rw[hll,k4];exact QaC.append ho1 hnr
         ·have hcap2:=hu rfl
          cases frz with
          | true=>simp at hr
          | false =>
           simp only[cond_false]at hr
           obtain⟨b',xs1,e',fz,m1,m2,m3,m4,m5,m6,m7,m8⟩:=h.rows r _ hrow
           rw[hb]at m1
           obtain rfl:=Option.some.inj m1
           rw[he1]at m4
           have hcs:n=xs1.size:=Option.some.inj m4
           generalize hgr:Nat.ble (off+(len+ys.length)*i.size) cs.length=q4 at hr
           cases q4 with
           | true =>
            have hin:off+(len+ys.length)*i.size≤cs.length:=by simpa using hgr
            have hroom:len+ys.length≤cap:=by
             refine Nat.le_of_mul_le_mul_right (c:=i.size) ?_ hz0
             omega
            simp only[cond_true]at hr
            split at hr
            ·rename_i cs' hset
             simp only[Option.some.injEq]at hr
             subst hr
             exact written cs' rfl hroom hset
            ·simp at hr
           | false =>
            simp only[cond_false]at hr
            generalize hgo:(Nat.beq off 0&&Nat.beq (len*i.size) cs.length)=q5 at hr
            cases q5 with
            | false=>simp at hr
            | true =>
             simp only[Bool.and_eq_true]at hgo
             have ho0:off=0:=by simpa using hgo.1
             have hlen:len*i.size=cs.length:=by simpa using hgo.2
             subst ho0
             simp only[cond_true,Qay]at hr
             replace hr:=(qcp hr).2
             simp only[Option.some.injEq]at hr
             subst hr
             by_cases hroom:len+ys.length≤cap
             ·have hnn:n=cap*i.size:=by omega
              subst hnn
              have hmul:(len+ys.length)*i.size≤cap*i.size:=Nat.mul_le_mul_right _ hroom
              have hst:=here hroom (by rw[Nat.add_mul]at hmul;omega)
              rw[Nat.zero_add]at hst
              exact qiO (P:=P) h hrow hb he1 hlen hz0 hyl hroom hnr hst
             ·obtain⟨xs,cap',w',k1,k2,k3,k4,k5,k6⟩:=grown (by omega)
              obtain⟨g1,g2⟩:=h.gone hrow (by simp)
              have hll:(cs++flat ys).length=(len+ys.length)*i.size:=by rw[List.length_append,hnyl,Nat.add_mul,hlen]
              have hcseq:(cs.drop 0).take (len*i.size)=cs:=by rw[hlen];simp
              rw[hcseq]at ho1
              obtain⟨c2,x2,w2,k⟩:=qch (P:=P) (s:=s) (g:=gl d) (d:=d) (cs:=cs++flat ys) (len:=len+ys.length) (cap:=cap') (sz:=i.size) (lim:=none) (ag:=ag) g1 k1 k2 (fun o _ hx=>by simp at hx) (by rw[hll,k3];exact Nat.mul_le_mul_right _ k5)
               (by rw[hll,k4];exact QaC.append ho1 hnr) k5 hz0 k3 (fun k hk=>by simp at hk) k6
              exact⟨c2,x2,w2,k.after (.refl c) g2 (qaT _ _) (qd1 _ _)⟩
      ·simp at hr
    ·simp at hr
  ·simp at hr
end
section
variable {P:Program}{C:Cfg}{c:Ctx}{st:St}{a:Act}{w:World}{gl:Nat→Bool}
theorem Rel.QcU[Laid]{r:Ref}{x:Value}(h:Rel c (.mref r) x):∃ b,x=.map (some b)∧c.blk r=some b:=by
 cases h;exact⟨_,rfl,by assumption⟩
inductive QcO[Laid](c:Ctx):V→Value→TypeDesc→Prop
 | int (k:IntKind) (n:Int) (k':IntKind):QcO c (.int k n) (.int k n) (.int k')
 | str (s:Str):QcO c (.str s) (.string s.bytes) .string
 | bool (b:Bool):QcO c (.bool b) (.bool b) .bool
theorem qfz[Laid]{kt:TypeId}{k:V}{x:Value}(h:Qbc P kt k=true)(hr:Rel c k x):∃ d,P.underlying kt=some d∧QcO c k x d:=by
 unfold Qbc at h
 split at h
 ·rename_i k' _ _ _ hu;exact⟨_,hu,by cases hr;exact .int _ _ _⟩
 ·rename_i hu;exact⟨_,hu,by cases hr;exact .str _⟩
 ·rename_i hu;exact⟨_,hu,by cases hr;exact .bool _⟩
 ·simp at h
theorem qbC[Laid]{kt:TypeId}{d:TypeDesc}{k:V}{x:Value}(hu:P.underlying kt=some d)(hk:QcO c k x d)(e:Bool)(w:World):(Instr.checkKey e 10000 kt x).run P w=.ok () w:=by
 have key:∀ n,(Instr.checkKey e (n+1) kt x).run P w=.ok () w:=fun n=>by
  cases hk<;>simp[Instr.checkKey,run_underlying hu]
 exact key 9999
theorem qtn(a b:ByteArray):(a == b)=true↔a=b:=by
 obtain⟨x⟩:=a
 obtain⟨y⟩:=b
 show(x == y)=true↔_
 simp
theorem qeq[Laid]{d:TypeDesc}{k v:V}{x y:Value}(hk:QcO c k x d)(hv:Rel c v y){b:Bool}(h:Qcj k v=some b):Instr.sameNow d x y=some b:=by
 cases hk with
 | int k n k' =>
  cases v<;>simp[Qcj]at h
  obtain rfl:=hv.QbC
  obtain⟨rfl,rfl⟩:=h
  simp[Instr.sameNow]
 | str s =>
  cases v<;>simp[Qcj]at h
  obtain rfl:=hv.QbA
  subst h
  simp only[Instr.sameNow,Option.some.injEq]
  rename_i s2
  rw[Bool.eq_iff_iff,qtn,Str.QcB]
 | bool q =>
  cases v<;>simp[Qcj]at h
  obtain rfl:=hv.Qbz
  subst h
  simp[Instr.sameNow]
theorem qcO[Laid]{d:TypeDesc}{k:V}{x:Value}(hk:QcO c k x d):∀ (ks:List V)(es:List MapEntry)(i:Nat)(r:Option Nat),QaC c ks (es.map (·.key))→Qb3 k ks i=some r →
  match r with
  | none=>Instr.findNow d x es i=some none
  | some j=>i≤j∧∃ e,es[j - i]? = some e∧Instr.findNow d x es i=some (some (j,e.val))
 | [],es,i,r,hr,h=>by
  simp[Qb3]at h
  subst h
  have h0:=hr.1
  have:es=[]:=by simpa using h0
  subst this
  rfl
 | v::ks,[],i,r,hr,h=>by have h0:=hr.1;simp at h0
 | v::ks,e::es,i,r,hr,h=>by
  have hv:Rel c v e.key:=hr.head
  have ht:QaC c ks (es.map (·.key)):=hr.tail
  simp only[Qb3]at h
  split at h
  ·rename_i hs
   simp at h
   subst h
   exact⟨Nat.le_refl _,e,by simp,by simp only[Instr.findNow,qeq hk hv hs]⟩
  ·rename_i hs
   have ih:=qcO hk ks es (i+1) r ht h
   cases r with
   | none =>
    show Instr.findNow d x (e::es) i=some none
    simp only[Instr.findNow,qeq hk hv hs]
    exact ih
   | some j =>
    obtain⟨h1,e',h2,h3⟩:=ih
    refine⟨by omega,e',?_,?_⟩
    ·rw[show j - i=(j - (i+1))+1 by omega];simpa using h2
    ·simp only[Instr.findNow,qeq hk hv hs];exact h3
  ·simp at h
theorem qbL[Laid]{kt:TypeId}{d:TypeDesc}{x:Value}{es:List MapEntry}{r:Option (Nat × Value)}(hu:P.underlying kt=some d)(h:Instr.findNow d x es 0=some r)(w:World):(Instr.findKey kt x es).run P w=.ok r w:=by
 simp[Instr.findKey,run_underlying hu,h]
theorem qcb{b:Nat}{es:Array MapEntry}{clk:Nat}(h:w.heap[b]? = some (.map es clk)):(getObj b).run P w=.ok (.map es clk) w:=by simp[getObj,Sem.run,h]
theorem qqx[Laid](h:WRel c st w){t:TypeId}{x k:V}{xv kv:Value}(hx:Rel c x xv)(hk:Rel c k kv){ok:Bool}{v:V}(hr:Qcl P t st.hp x k ok=some v) :
  ∃ y,(Instr.lookup t xv kv ok).run P w=.ok y w∧Rel c v y:=by
 unfold Qcl at hr
 split at hr
 ·rename_i r
  obtain⟨b,rfl,hb⟩:=hx.QcU
  split at hr
  ·rename_i ks vs kt et hrow hu
   obtain⟨b',es,clk,h1,h2,h0,h3,h4,h5,h6⟩:=h.rows (.glob r) _ hrow
   rw[hb]at h1
   obtain rfl:=Option.some.inj h1
   cases hf:Qbc P kt k with
   | false=>simp[hf]at hr
   | true =>
    simp only[hf,cond_true]at hr
    obtain⟨d,hd,hki⟩:=qfz hf hk
    split at hr
    ·rename_i j hfind
     obtain⟨_,e,he,hnow⟩:=qcO hki ks es.toList 0 _ h3 hfind
     split at hr
     ·rename_i u hu'
      simp only[Option.some.injEq]at hr
      obtain⟨y,hy,hrel⟩:=h4.get hu'
      have hye:y=e.val:=by
       rw[Nat.sub_zero]at he
       rw[List.getElem?_map,he]at hy
       simpa using hy.symm
      subst hye
      cases ok with
      | false =>
       simp only[cond_false]at hr
       subst hr
       exact⟨e.val,by simp[Instr.lookup,run_underlying hu,qcb h2,qbC hd hki,qbL hd hnow],hrel⟩
      | true =>
       simp only[cond_true]at hr
       subst hr
       exact⟨.tuple #[e.val,.bool true],by simp[Instr.lookup,run_underlying hu,qcb h2,qbC hd hki,qbL hd hnow],Rel.Qbe (QaC.cons hrel (QaC.cons (.bool true) (QaC.nil c)))⟩
     ·simp at hr
    ·rename_i hfind
     have hnow:=qcO hki ks es.toList 0 _ h3 hfind
     split at hr
     ·rename_i z hz
      obtain⟨zz,hrz,hrelz⟩:=qcH (P:=P) hz
      simp only[Option.some.injEq]at hr
      cases ok with
      | false =>
       simp only[cond_false]at hr
       subst hr
       exact⟨zz,by simp[Instr.lookup,run_underlying hu,qcb h2,qbC hd hki,qbL hd hnow,hrz],hrelz c⟩
      | true =>
       simp only[cond_true]at hr
       subst hr
       exact⟨.tuple #[zz,.bool false],by simp[Instr.lookup,run_underlying hu,qcb h2,qbC hd hki,qbL hd hnow,hrz],Rel.Qbe (QaC.cons (hrelz c) (QaC.cons (.bool false) (QaC.nil c)))⟩
     ·simp at hr
    ·simp at hr
  ·simp at hr
 ·simp at hr
theorem WRel.Qd6[Laid](h:WRel c st w){r:Ref}{ks vs ks' vs':List V}(hrow:Qab st r=some (.mp ks vs)){b:Nat}(hb:c.blk r=some b){es':Array MapEntry}{clk':Nat}
  (h0:ks'.length=vs'.length) (h3:QaC c ks' (es'.toList.map (·.key))) (h4:QaC c vs' (es'.toList.map (·.val))) (h5:V.Qak ks'=true) (h6:V.Qak vs'=true) {w':World} (hsz:w'.heap.size=w.heap.size)
  (hw:w'.heap[b]? = some (.map es' clk')) (hne:∀ i,i≠b→w'.heap[i]? = w.heap[i]?) (ho:w'.os=w.os∧w'.tape=w.tape∧w'.output=w.output) :
  WRel c (setRow st r (.mp ks' vs')) w'∧Keep c c st (setRow st r (.mp ks' vs')) w w':=by
 obtain⟨b',es,clk,h1,h2,_⟩:=h.rows r _ hrow
 rw[hb]at h1
 obtain rfl:=Option.some.inj h1
 refine⟨⟨fun i o x hx=>?_,fun r1 row1 hr1=>?_,fun r1 r2 row1 row2 b2 g1 g2 n1 n2=>?_,fun i hi=>?_,fun s g hg=>?_,fun q j hq=>?_,h.tlt,fun j m hq=>?_⟩,?_⟩
 ·by_cases e:i=b
  ·subst e
   have:=h.shut i o x hx
   simp[World.cell?,h2]at this
  ·rw[←h.shut i o x hx]
   simp only[World.cell?,hne i e]
 ·by_cases e:r1=r
  ·subst e
   rw[qbe hrow]at hr1
   obtain rfl:=Option.some.inj hr1
   exact⟨b,es',clk',hb,hw,h0,h3,h4,h5,h6⟩
  ·rw[qaF hrow e]at hr1
   by_cases hg:row1=.gone
   ·subst hg;trivial
   ·refine(h.rows r1 row1 hr1).keep (Ctx.le.refl c) (fun j hj=>⟨hne j (fun e2=>?_),fun o=>rfl⟩)
    subst e2
    exact e (h.inj r1 r _ _ j hr1 hrow hg (by simp) hj hb)
 ·have k1:∃ ro,Qab st r1=some ro∧ro≠.gone:=by
   by_cases e:r1=r
   ·subst e;exact⟨_,hrow,by simp⟩
   ·rw[qaF hrow e]at g1;exact⟨_,g1,n1⟩
  have k2:∃ ro,Qab st r2=some ro∧ro≠.gone:=by
   by_cases e:r2=r
   ·subst e;exact⟨_,hrow,by simp⟩
   ·rw[qaF hrow e]at g2;exact⟨_,g2,n2⟩
  obtain⟨q1,p1,m1⟩:=k1
  obtain⟨q2,p2,m2⟩:=k2
  exact h.inj r1 r2 q1 q2 b2 p1 p2 m1 m2
 ·exact h.glb i (by rwa [qf6]at hi)
 ·exact h.lcb s g (by rwa [qjc hrow]at hg)
 ·rw[hsz];exact h.lt q j hq
 ·rw[hsz];exact h.elt j m hq
 ·exact Keep.mk' ho (by rw[hsz];exact Nat.le_refl _) (fun i hi _=>hne i hi) (fun _=>⟨r,_,hrow,by simp,hb⟩) (fun b ho=>qgp hrow (by simp) b ho)
theorem qgC[Laid]{k:V}{x:Value}{d:TypeDesc}(h:QcO c k x d):k.Qap=true:=by cases h<;>rfl
theorem qh7[Laid]{k:V}{x:Value}{d:TypeDesc}(h:QcO c k x d)(n:Nat):Instr.sameBits n x x=true:=by
 cases h<;>cases n<;>simp[Instr.sameBits,qtn]
theorem qhy{l:List V}{v:V}{j:Nat}(h:V.Qak l=true)(hv:v.Qap=true):V.Qak (l.set j v)=true:=by
 induction l generalizing j with
 | nil=>rfl
 | cons x l ih =>
  simp only[V.Qak,Bool.and_eq_true]at h
  cases j with
  | zero=>simp only[List.set_cons_zero,V.Qak,Bool.and_eq_true];exact⟨hv,h.2⟩
  | succ j=>simp only[List.set_cons_succ,V.Qak,Bool.and_eq_true];exact⟨h.1,ih h.2⟩
theorem qgt{l:List V}{v:V}(h:V.Qak l=true)(hv:v.Qap=true):V.Qak (l++[v])=true:=by
 induction l with
 | nil=>simp[V.Qak,hv]
 | cons x l ih =>
  simp only[V.Qak,Bool.and_eq_true]at h
  simp only[List.cons_append,V.Qak,Bool.and_eq_true]
  exact⟨h.1,ih h.2⟩
theorem qgR[Laid]{d:TypeDesc}{k:V}{x:Value}(hk:QcO c k x d):∀ (ks:List V)(es:List MapEntry)(i j:Nat),QaC c ks (es.map (·.key))→Qb3 k ks i=some (some j)→∃ e,es[j - i]? = some e∧e.key=x
 | [],es,i,j,hr,h=>by simp[Qb3]at h
 | v::ks,[],i,j,hr,h=>by have h0:=hr.1;simp at h0
 | v::ks,e::es,i,j,hr,h=>by
  have hv:Rel c v e.key:=hr.head
  have ht:QaC c ks (es.map (·.key)):=hr.tail
  simp only[Qb3]at h
  split at h
  ·rename_i hs
   simp at h
   subst h
   refine⟨e,by simp,?_⟩
   have h2:=qeq hk hv hs
   cases hk with
   | int k n k' =>
    cases v<;>simp[Qcj]at hs
    obtain⟨rfl,rfl⟩:=hs
    exact hv.QbC
   | str s =>
    cases v<;>simp[Qcj]at hs
    rw[Str.QcB]at hs
    rw[hv.QbA,hs]
   | bool q =>
    cases v<;>simp[Qcj]at hs
    subst hs
    exact hv.Qbz
  ·rename_i hs
   have:=qcO hk ks es (i+1) (some j) ht h
   obtain⟨e',h1,h2⟩:=qgR hk ks es (i+1) j ht h
   exact⟨e',by rw[show j - i=(j - (i+1))+1 by omega];simpa using h1,h2⟩
  ·simp at h
theorem qmD(es:Array MapEntry)(j:Nat)(kv vv:Value):(es.modify j fun e=>{ e with key:=kv,val:=vv }).toList.map (·.key)=(es.toList.map (·.key)).set j kv:=by
 apply List.ext_getElem?
 intro i
 simp only[List.getElem?_map,List.getElem?_set,List.length_map,Array.getElem?_toList,Array.getElem?_modify,Array.length_toList]
 by_cases e:j=i
 ·subst e
  simp only[if_true]
  by_cases hl:j<es.size
  ·simp[hl,Array.getElem?_eq_getElem hl]
  ·simp[hl,Array.getElem?_eq_none (Nat.not_lt.1 hl)]
 ·simp[e]
theorem qmC(es:Array MapEntry)(j:Nat)(kv vv:Value):(es.modify j fun e=>{ e with key:=kv,val:=vv }).toList.map (·.val)=(es.toList.map (·.val)).set j vv:=by
 apply List.ext_getElem?
 intro i
 simp only[List.getElem?_map,List.getElem?_set,List.length_map,Array.getElem?_toList,Array.getElem?_modify,Array.length_toList]
 by_cases e:j=i
 ·subst e
  simp only[if_true]
  by_cases hl:j<es.size
  ·simp[hl,Array.getElem?_eq_getElem hl]
  ·simp[hl,Array.getElem?_eq_none (Nat.not_lt.1 hl)]
 ·simp[e]
theorem qoa[Laid](h:WRel c st w){t:TypeId}{x k v:V}{xv kv vv:Value}(hx:Rel c x xv)(hk:Rel c k kv)(hv:Rel c v vv){res:Res}(hr:Qcu P t st x k v=some res){s:Sem Next}
  (hs:∀ w',(Instr.mapUpdate t xv kv vv).run P w=.ok () w'→s.run P w=.ok .skip w'):qcs P c st w s res:=by
 unfold Qcu at hr
 split at hr
 ·rename_i r v' st1 hexp
  obtain⟨b,rfl,hb⟩:=hx.QcU
  obtain⟨c1,k1⟩:=qeJ (fz:=false) h hv hexp
  split at hr
  ·rename_i ks vs kt et hrow hu
   have hb1:=k1.le.blk hb
   obtain⟨b',es,clk,h1,h2,h0,h3,h4,h5,h6⟩:=k1.wrel.rows (.glob r) _ hrow
   rw[hb1]at h1
   obtain rfl:=Option.some.inj h1
   have hlt:b<w.heap.size:=k1.wrel.lt _ _ hb1
   cases hf:Qbc P kt k with
   | false=>simp[hf]at hr
   | true =>
    simp only[hf,cond_true]at hr
    obtain⟨d,hd,hki⟩:=qfz hf (hk.mono k1.le)
    split at hr
    ·rename_i j hfind
     simp only[Option.some.injEq]at hr
     subst hr
     obtain⟨_,e,he,hnow⟩:=qcO hki ks es.toList 0 _ h3 hfind
     obtain⟨e2,he2,hkey⟩:=qgR hki ks es.toList 0 j h3 hfind
     rw[he]at he2
     obtain rfl:=Option.some.inj he2
     rw[Nat.sub_zero]at he
     have hee:es[j]? = some e:=by simpa using he
     have hstay:(Instr.keyThatStays kv kv).run P w=.ok kv w:=by simp[Instr.keyThatStays,qh7 hki]
     obtain⟨m1,m2⟩:=k1.wrel.Qd6 (r:=.glob r) (ks':=ks.set j k) (vs':=vs.set j v') (es':=es.modify j fun e=>{ e with key:=kv,val:=vv }) (clk':=clk) hrow hb1 (by simpa using h0)
      (by rw[qmD];exact h3.set j (hk.mono k1.le)) (by rw[qmC];exact h4.set j k1.rel) (qhy h5 (qgC hki)) (qhy h6 k1.Qap)
      (w':={ w with heap:=w.heap.setIfInBounds b (.map (es.modify j fun e=>{ e with key:=kv,val:=vv }) clk) }) (by simp) (by simp[hlt]) (fun i hi=>by simp[Array.getElem?_setIfInBounds,Ne.symm hi]) ⟨rfl,rfl,rfl⟩
     refine⟨c1,undef,_,.inr ⟨hs _ ?_,rfl⟩,k1.le,Rel.Qbe (QaC.nil _),m1,k1.keep.trans m2,k1.dirt.trans (qaT _ _),(qd1 _ _).trans k1.tm⟩
     simp[Instr.mapUpdate,run_underlying hu,qcb h2,qbC hd hki,qbL hd hnow,hee,hkey,hstay,setObj,Sem.run]
     rw[h2]
    ·rename_i hfind
     simp only[Option.some.injEq]at hr
     subst hr
     have hnow:=qcO hki ks es.toList 0 _ h3 hfind
     obtain⟨m1,m2⟩:=k1.wrel.Qd6 (r:=.glob r) (ks':=ks++[k]) (vs':=vs++[v']) (es':=es.push { key:=kv,val:=vv,born:=clk }) (clk':=clk+1) hrow hb1 (by simp[h0])
      (by rw[Array.toList_push,List.map_append];exact h3.append (QaC.cons (hk.mono k1.le) (QaC.nil _))) (by rw[Array.toList_push,List.map_append];exact h4.append (QaC.cons k1.rel (QaC.nil _))) (qgt h5 (qgC hki)) (qgt h6 k1.Qap)
      (w':={ w with heap:=w.heap.setIfInBounds b (.map (es.push { key:=kv,val:=vv,born:=clk }) (clk+1)) }) (by simp) (by simp[hlt]) (fun i hi=>by simp[Array.getElem?_setIfInBounds,Ne.symm hi]) ⟨rfl,rfl,rfl⟩
     refine⟨c1,undef,_,.inr ⟨hs _ ?_,rfl⟩,k1.le,Rel.Qbe (QaC.nil _),m1,k1.keep.trans m2,k1.dirt.trans (qaT _ _),(qd1 _ _).trans k1.tm⟩
     simp[Instr.mapUpdate,run_underlying hu,qcb h2,qbC hd hki,qbL hd hnow,setObj,Sem.run]
     rw[h2]
    ·simp at hr
  ·simp at hr
 ·simp at hr
theorem qqw[Laid](h:WRel c st w){d:Nat}{t:TypeId}{s:Sem Next}(hs:∀ x w',(Instr.makeMap t none).run P w=.ok x w'→s.run P w=.ok (.value x) w') :
  qcs P c st w s (.val (.mref (Qaa st true d (.mp [] [])).1) (Qaa st true d (.mp [] [])).2):=by
 have hw:({ w with heap:=w.heap.push (.map #[] 0) }:World).heap=w.heap.push (.map #[] 0):=rfl
 obtain⟨h1,h2⟩:=h.QcF (gl:=true) (site:=d) (row:=.mp [] []) (o:=.map #[] 0) (n:=0) (tx:=none) (sh:=fun _=>none) hw
  (fun r hr0 hle=>⟨w.heap.size,#[],0,by rw[qa0];simp,by simp,rfl,QaC.nil _,QaC.nil _,rfl,rfl⟩) (fun i x hx=>by simp at hx)
 refine⟨_,.map (some w.heap.size),{ w with heap:=w.heap.push (.map #[] 0) },.inl (hs _ _ ?_),h2,.mref _ _ (by rw[qa0];simp[Qaa]),h1,⟨rfl,rfl,rfl,by simp,fun b hb _=>?_,fun b hb _ o=>?_,fun b hb ho=>qgq (gl:=true) (site:=d) (row:=.mp [] []) hb ho⟩,qbq _ _ _,qi7 _ _ _⟩
 ·simp[Instr.makeMap,newObj,Sem.run]
 ·simp[Array.getElem?_push];intro e;omega
 ·simp only[Ctx.bind];rw[if_neg (by omega)]
end
def qhp (P : Program) : Prop := ∀ (f : Nat) fn, P.funcs[f]? = some fn → (fn.name == "runtime.NumGoroutine") = false
section
variable {P:Program}{C:Cfg}{c:Ctx}{st:St}{a:Act}{w:World}{gl:Nat→Bool}
theorem qm8[Laid](h:WRel c st w){x y:V}{xv yv:Value}(hx:Rel c x xv)(hy:Rel c y yv){t ty:TypeId}{ts:Array TypeId}{res:Res}(hr:copyV P st t x y=some res)(h0:ts[0]? = some t)
  {s:Sem Next} (hs:∀ v w',(Builtin.copy_ ts ty #[xv,yv]).run P w=.ok v w'→Qa2 P s w v w'):qcs P c st w s res:=by
 unfold copyV at hr
 split at hr
 ·simp at hr
 ·rename_i e he
  split at hr
  ·rename_i sz ag ys r off len lim sz' ag' hlay hi
   obtain⟨hz0,hsz,_⟩:=qa4 hlay
   generalize hg:(Nat.beq sz sz'&&(Qa3 r || V.Qak (flat ys))&&ys.all (fun v=>Nat.beq v.cells.length sz&&v.cells.all V.Qaw))=q at hr
   cases q with
   | false=>simp at hr
   | true =>
    simp only[cond_true]at hr
    simp only[Bool.and_eq_true]at hg
    have:sz=sz':=by simpa using hg.1.1
    subst this
    obtain⟨hyl,hyc⟩:=qlZ (ys:=ys) (sz:=sz) hg.2
    obtain⟨xs,hxr,hxlen,hxf⟩:=qfe (P:=P) h hy hi hyl
    split at hr
    ·rename_i cs hrow
     split at hr
     ·rename_i cs' hset
      generalize hgl:Nat.ble (off+len*sz) cs.length=q2 at hr
      cases q2 with
      | false=>simp at hr
      | true =>
       simp only[cond_true,Option.some.injEq]at hr
       subst hr
       obtain⟨b,cap,n,rfl,hb,hcap,he1,hzz1,hk,hu⟩:=hx.QbW
       have hf:=hxf w (min ys.length len) rfl (Nat.min_le_left _ _)
       have htk:ys.take len=ys.take (min ys.length len):=by
        by_cases h1:ys.length≤len
        ·rw[List.take_of_length_le h1,List.take_of_length_le (by omega)]
        ·rw[Nat.min_eq_right (by omega)]
       have hrel:QaC c (flat (ys.take len)) (xs.take (min ys.length len*sz)):=by
        rw[htk,←qdv _ hyl];exact hxr.take _
       obtain⟨k1,k2,k3⟩:=h.write hrow hset hrel hb
       have hone:=Qcv hrel (fun v hv=>hyc v (by rw[←qdv _ hyl]at hv;exact List.mem_of_mem_take hv))
       obtain⟨b',cs2,e',fz,m1,m2,m3,m4,m5,m6,m7,m8⟩:=h.rows r _ hrow
       rw[hb]at m1
       obtain rfl:=Option.some.inj m1
       have hl2:=(qbp hset).1
       have hst:=run_storeCells_cells (P:=P) b off (xs.take (min ys.length len*sz)) 0 w (fun j hj=>by rw[qaE m2];rw[Array.getElem?_eq_getElem (by rw[hrel.1]at hj;omega)];rfl)
        (fun j hj=>qbv m2 m3 (by rw[hrel.1]at hj;omega)) hone
       simp only[Nat.add_zero]at hst
       have hrun:(Builtin.copy_ ts ty #[.slice (some ⟨b,off,none⟩) len cap,yv]).run P w=.ok (goInt (min ys.length len:Nat)) (w.setCells b off (xs.take (min ys.length len*sz))):=by
        have hmin:Nat.min ys.length len=min ys.length len:=rfl
        simp[Builtin.copy_,h0,run_underlying (qbf he),hxlen w,qbn hsz,hmin,hf,hst]
       exact⟨c,_,_,hs _ _ hrun,.refl c,.int _ _,k1,k2,qaT _ _,qd1 _ _⟩
     ·simp at hr
    ·simp at hr
  ·simp at hr
theorem qls[Laid](h:WRel c st w){x:V}{xv:Value}(hx:Rel c x xv){t ty:TypeId}{ts:Array TypeId}{res:Res}(hr:Qbi P st t x=some res)(h0:ts[0]? = some t)
  {s:Sem Next} (hs:∀ v w',(Builtin.clear_ ts ty #[xv]).run P w=.ok v w'→Qa2 P s w v w'):qcs P c st w s res:=by
 unfold Qbi at hr
 split at hr
 ·simp at hr
 ·rename_i e he
  split at hr
  ·rename_i sz ag z r off len lim sz' ag' hlay hz
   obtain⟨hz0,hsz,_⟩:=qa4 hlay
   generalize hg:(Nat.beq sz sz'&&Nat.blt 0 len&&z.live&&Nat.beq z.cells.length sz&&z.cells.all V.Qaw&&(Qa3 r || z.Qap))=q at hr
   cases q with
   | false=>simp at hr
   | true =>
    simp only[cond_true]at hr
    simp only[Bool.and_eq_true]at hg
    obtain⟨⟨⟨⟨⟨g1,g2⟩,g3⟩,g4⟩,g5⟩,g6⟩:=hg
    have:sz=sz':=by simpa using g1
    subst this
    have hlen:0<len:=by simpa[Nat.blt_eq]using g2
    have e4:z.cells.length=sz:=by simpa using g4
    obtain⟨i0,zz,hi0,hzz,hzv⟩:=qeT hz
    have hrz0:Rel c z zz:=by rw[←hzv];exact qeS c zz
    have hzr:=qeh hrz0 g3 e4 hz0 len
    have hzs:zz.cells.size=sz:=by have:=(hrz0.cells g3).1;simp at this;omega
    split at hr
    ·rename_i cs hrow
     split at hr
     ·rename_i cs' hset
      simp only[Option.some.injEq]at hr
      subst hr
      obtain⟨b,cap,n,rfl,hb,hcap,he1,hzz1,hk,hu⟩:=hx.QbW
      obtain⟨k1,k2,k3⟩:=h.write hrow hset hzr hb
      have hone:=Qcv hzr (fun v hv=>by
       simp only[flat,List.mem_flatMap]at hv
       obtain⟨u,hu,hv⟩:=hv
       rw[List.eq_of_mem_replicate hu]at hv
       exact List.all_eq_true.1 g5 v hv)
      obtain⟨b',cs2,e',fz,m1,m2,m3,m4,m5,m6,m7,m8⟩:=h.rows r _ hrow
      rw[hb]at m1
      obtain rfl:=Option.some.inj m1
      have hl2:=(qbp hset).1
      have hst:=run_storeCells_cells (P:=P) b off ((Array.range (len*sz)).map (zz.cells[· % zz.cells.size]!)).toList 0 w (fun j hj=>by rw[qaE m2];rw[Array.getElem?_eq_getElem (by rw[hzr.1]at hj;omega)];rfl)
       (fun j hj=>qbv m2 m3 (by rw[hzr.1]at hj;omega)) hone
      simp only[Nat.add_zero]at hst
      have hrzero:(zeroValue e).run P w=.ok zz w:=by
       have hti:(typeInfo e).run P w=.ok i0 w:=by simp[typeInfo,hi0]
       simp[zeroValue,hti,hzz]
      have hrun:(Builtin.clear_ ts ty #[.slice (some ⟨b,off,none⟩) len cap]).run P w=.ok (.tuple #[]) (w.setCells b off ((Array.range (len*sz)).map (zz.cells[· % zz.cells.size]!)).toList):=by
       obtain⟨m,rfl⟩:∃ m,len=m+1:=⟨len - 1,by omega⟩
       simp[Builtin.clear_,Builtin.zeroCells,h0,run_underlying (qbf he),hrzero,hzs]at hst ⊢
       simp[hst]
      exact⟨c,_,_,hs _ _ hrun,.refl c,.tuple _ _ rfl (fun i v x p _=>by simp at p),k1,k2,qaT _ _,qd1 _ _⟩
     ·simp at hr
    ·simp at hr
  ·simp at hr
theorem qnd[Laid](hN:qhp P)(h:WRel c st w)(hs:QaT c st.ρ a){o:Oper}{cl:Call}(ho:o.op=.call cl){res:Res}(hr:QaP P C gl st o.dst cl=some res):qcs P c st w (execOp a.eval o) res:=by
 unfold QaP at hr
 dsimp only at hr
 have hargs:QaC c (opds st.ρ cl.args.toList) (cl.args.map a.eval).toList:=by simpa using qiD hs cl.args.toList
 split at hr
 ·rename_i f hcal
  split at hr
  ·rename_i g first caps hf
   have hfr:=qay hs f
   rw[hf]at hfr
   split at hr
   ·rename_i l st1 hexp
    simp only[Option.some.injEq]at hr
    subst hr
    generalize hev:a.eval f=fv at hfr
    cases hfr with
    | fn _ _ _ xa xb ha hb hra hrb =>
     have r1:QaC c first xa.toList:=⟨by simpa using ha,fun i v x p q=>hra i v x p (by simpa using q)⟩
     have r2:QaC c caps xb.toList:=⟨by simpa using hb,fun i v x p q=>hrb i v x p (by simpa using q)⟩
     obtain⟨c',k⟩:=qcQ (fz:=false) _ c st _ l st1 h (QaC.append (QaC.append r1 hargs) r2) hexp
     refine⟨c',_,fun fn cd h1 h2=>?_,k.le,k.rel,k.wrel,k.keep,k.dirt,k.tm,k.Qap,k.live⟩
     have hnm:=hN g fn h1
     simp only[execOp,ho,resolve,hcal,hev]
     have hnm2 : ¬ (fn.name = "runtime.NumGoroutine") := by simpa using hnm
     simp[Deferred.ofValue,invoke,callFunc,h1,hnm2,h2]
   ·simp at hr
  ·simp at hr
 ·rename_i b hcal
  have two:∀ {x y:V},opds st.ρ cl.args.toList=[x,y]→∃ xv yv,cl.args.map a.eval = #[xv,yv]∧Rel c x xv∧Rel c y yv:=by
   intro x y hxy
   rw[hxy]at hargs
   cases hl:(cl.args.map a.eval).toList with
   | nil=>rw[hl]at hargs;have:=hargs.1;simp at this
   | cons xv r =>
    cases r with
    | nil=>rw[hl]at hargs;have:=hargs.1;simp at this
    | cons yv r =>
     cases r with
     | cons _ _=>rw[hl]at hargs;have:=hargs.1;simp at this
     | nil =>
      rw[hl]at hargs
      exact⟨xv,yv,by apply Array.toList_inj.1;rw[hl],hargs.head,hargs.tail.head⟩
  have app:∀ {t x y d},cl.argTypes[0]? = some t→b=.append→opds st.ρ cl.args.toList=[x,y]→(bif Qbv P cl.argTypes[1]? then Qai P C gl st d t x y else none)=some res→qcs P c st w (execOp a.eval o) res:=by
   intro t x y d h0 hb hxy hr2
   clear hr
   subst hb
   obtain⟨xv,yv,e1,r1,r2⟩:=two hxy
   cases hn:Qbv P cl.argTypes[1]? with
   | false=>simp[hn]at hr2
   | true =>
    simp only[hn,cond_true]at hr2
    refine qkC (P:=P) (ty:=o.type) h r1 r2 hr2 h0 hn (fun v w' hrun=>.inl ?_)
    simp only[execOp,ho,resolve,hcal,e1]
    simp[invoke,builtin,hrun]
  have cop:∀ {t x y},cl.argTypes[0]? = some t→b=.copy→opds st.ρ cl.args.toList=[x,y]→copyV P st t x y=some res→qcs P c st w (execOp a.eval o) res:=by
   intro t x y h0 hb hxy hr2
   clear hr
   subst hb
   obtain⟨xv,yv,e1,r1,r2⟩:=two hxy
   refine qm8 (P:=P) (ty:=o.type) h r1 r2 hr2 h0 (fun v w' hrun=>.inl ?_)
   simp only[execOp,ho,resolve,hcal,e1]
   simp[invoke,builtin,hrun]
  have clr:∀ {t x},cl.argTypes[0]? = some t→b=.clear→opds st.ρ cl.args.toList=[x]→Qbi P st t x=some res→qcs P c st w (execOp a.eval o) res:=by
   intro t x h0 hb hxy hr2
   clear hr
   subst hb
   have hx1:∃ xv,cl.args.map a.eval = #[xv]∧Rel c x xv:=by
    rw[hxy]at hargs
    cases hl:(cl.args.map a.eval).toList with
    | nil=>rw[hl]at hargs;have:=hargs.1;simp at this
    | cons xv r =>
     cases r with
     | cons _ _=>rw[hl]at hargs;have:=hargs.1;simp at this
     | nil =>
      rw[hl]at hargs
      exact⟨xv,by apply Array.toList_inj.1;rw[hl],hargs.head⟩
   obtain⟨xv,e1,r1⟩:=hx1
   refine qls (P:=P) (ty:=o.type) h r1 hr2 h0 (fun v w' hrun=>.inl ?_)
   simp only[execOp,ho,resolve,hcal,e1]
   simp[invoke,builtin,hrun]
  split at hr
  ·rename_i t d h0 hd
   split at hr
   ·rename_i x y hxy;exact app h0 rfl hxy hr
   ·rename_i x y hxy;exact cop h0 rfl hxy hr
   ·simp at hr
  ·rename_i t h0 hd
   split at hr
   ·rename_i x y hxy;exact cop h0 rfl hxy hr
   ·rename_i x hxy;exact clr h0 rfl hxy hr
   ·simp at hr
  ·simp at hr
 ·simp at hr
theorem qkJ[Laid](hN:qhp P)(h:WRel c st w)(hs:QaT c st.ρ a){o:Oper}{res:Res}(hr:stepG P C gl st o=some res):qcs P c st w (execOp a.eval o) res:=by
 cases ho:o.op with
 | load t y=>exact qox h hs ho hr
 | store t y z=>exact qmP h hs ho hr
 | alloc t=>exact qmR h hs ho hr
 | box t y=>exact qrf h hs ho hr
 | build t ps=>exact qmQ h hs ho hr
 | buildSlice t len ps=>exact qgL h hs ho hr
 | makeSlice t l m=>exact qhn h hs ho hr
 | convert s t y=>exact qj3 h hs ho hr
 | next y b=>exact qow h hs ho hr
 | makeMap t rs =>
  unfold stepG at hr
  simp only[ho]at hr
  cases rs with
  | some x=>simp at hr
  | none =>
   simp only[]at hr
   cases hd:o.dst with
   | none=>rw[hd]at hr;simp at hr
   | some d =>
    rw[hd]at hr
    simp only[Option.some.injEq]at hr
    subst hr
    exact qqw (P:=P) (t:=t) h (fun x w' hrun=>by simp only[execOp,ho,Option.map_none];rw[Sem.run_bind,hrun];rfl)
 | lookup t y z b =>
  unfold stepG at hr
  simp only[ho,Option.map_eq_some_iff]at hr
  obtain⟨v,hv,rfl⟩:=hr
  obtain⟨x,hrun,hrel⟩:=qqx (P:=P) h (qay hs y) (qay hs z) hv
  exact⟨c,x,w,.inl (by simp only[execOp,ho];rw[Sem.run_bind,hrun];rfl),.refl c,hrel,h,.refl c st w,.refl _,rfl⟩
 | mapUpdate t m y z =>
  unfold stepG at hr
  simp only[ho]at hr
  exact qoa (P:=P) h (qay hs m) (qay hs y) (qay hs z) hr (fun w' hrun=>by simp only[execOp,ho];rw[Sem.run_bind,hrun];rfl)
 | insert t m y z =>
  unfold stepG at hr
  simp only[ho]at hr
  exact qoa (P:=P) h (qay hs m) (qay hs y) (qay hs z) hr (fun w' hrun=>by simp only[execOp,ho];rw[Sem.run_bind,hrun];rfl)
 | call cl=>unfold stepG at hr;simp only[ho]at hr;exact qnd hN h hs ho hr
 | panic y =>
  unfold stepG at hr
  simp only[ho]at hr
  split at hr
  ·rename_i t v hy
   cases hb:v.Qap with
   | false=>simp[hb]at hr
   | true =>
    simp only[hb,cond_true,Option.some.injEq]at hr
    subst hr
    have hrel:=qay hs y
    rw[hy]at hrel
    refine⟨rfl,by simpa[V.Qap]using hb,a.eval y,?_,hrel⟩
    cases hrel':a.eval y with
    | iface t' x =>
     simp only[execOp,ho,hrel']
     have e:(Instr.panic (.iface t' x)).run P w=.halt (.panic (.iface t' x)) w:=rfl
     rw[Sem.run_bind,e];rfl
    | _=>rw[hrel']at hrel;cases hrel
  ·simp at hr
 | _=>unfold stepG at hr;simp only[ho]at hr;simp at hr
theorem qef(st:St)(u:Option (Nat × Nat × Row)):(Qa4 st u).hp=st.hp∧(Qa4 st u).tm=st.tm:=by
 cases u with
 | none=>exact⟨rfl,rfl⟩
 | some p=>exact⟨rfl,rfl⟩
theorem qd9[Laid](hN:qhp P)(h:WRel c st w)(hs:QaT c st.ρ a){o:Oper}{res:Res}(hr:Qah P C gl st o=some res):qcs P c st w (execOp a.eval o) res:=by
 unfold Qah at hr
 split at hr
 ·rename_i v u hl
  simp only[Option.some.injEq]at hr
  subst hr
  cases hb:qbX o.op with
  | false =>
   obtain⟨x,w',c',k1,k2,k3,k4,k5⟩:=qoe (P:=P) h hs hb hl
   exact⟨c',x,w',k1,k2,k3,k4,k5,by rw[(qef st u).1];exact .refl _,(qef st u).2⟩
  | true =>
   cases ho:o.op with
   | buildSlice t len ps =>
    unfold Qal at hl
    simp only[ho,Option.map_eq_some_iff]at hl
    obtain⟨v',hv,e⟩:=hl
    simp at e
    obtain⟨rfl,rfl⟩:=e
    obtain⟨x,w',c',k1,k2,k3,k4,k5⟩:=qfM (P:=P) (C:=C) (gl:=gl) h hs ho (by rw[ho];exact hv)
    exact⟨c',x,w',k1,k2,k3,k4,k5,.refl _,rfl⟩
   | _=>rw[ho]at hb;simp[qbX]at hb
 ·exact qkJ hN h hs hr
end
end Go.AM
end
