/- Part 2 of the proof: what it says stands at its theorems. -/
import Derived.Test.YtooliddjiiilfaaRrA1
set_option linter.unusedVariables false
set_option linter.unusedSimpArgs false
set_option linter.unusedSectionVars false
section
namespace Go.AM.F
open Go Go.AM
set_option maxHeartbeats 2000000
mutual
theorem QdF:∀ v:V,QcE v=v.Qap
 | .dead=>rfl
 | .int _ _=>rfl
 | .bool _=>rfl
 | .str _=>rfl
 | .nilp=>rfl
 | .ptr (.loc _ _) _=>rfl
 | .ptr (.glob _) _=>rfl
 | .iptr cs=>qhz cs
 | .nils=>rfl
 | .slice none _ _ _=>rfl
 | .slice (some (.loc _ _)) _ _ _=>rfl
 | .slice (some (.glob _)) _ _ _=>rfl
 | .arr (.loc _ _) ..=>rfl
 | .arr (.glob _) ..=>rfl
 | .fn _ a b=>by rw[V.Qap,←qhz a,←qhz b];rfl
 | .nilf=>rfl
 | .iface _ v=>QdF v
 | .nili=>rfl
 | .agg cs=>qhz cs
 | .tuple cs=>qhz cs
 | .sym _=>rfl
 | .mref (.loc _ _)=>rfl
 | .mref (.glob _)=>rfl
 | .nilm=>rfl
theorem qhz:∀ l:List V,V.rec_1 (motive_1:=fun _=>Bool) (motive_2:=fun _=>Bool)
 true (fun _ _=>true) (fun _=>true) (fun _=>true) true (fun r _=>match r with | .loc _ _=>false | _=>true) (fun _ ih=>ih) true
 (fun tok _ _ _ _=>match tok with | some (.loc _ _)=>false | _=>true) (fun r _ _ _ _ _=>match r with | .loc _ _=>false | _=>true)
 (fun _ _ _ a b=>a&&b) true (fun _ _ ih=>ih) true (fun _ ih=>ih) (fun _ ih=>ih) (fun _=>true) (fun r=>match r with | .loc _ _=>false | _=>true) true true (fun _ _ a b=>a&&b) l=V.Qak l
 | []=>rfl
 | v::l=>by rw[V.Qak,←QdF v,←qhz l];rfl
end
theorem qeM:@QcE = @V.Qap:=by funext v;exact QdF v
theorem qg3:@qiF = @V.Qak:=by
 funext l
 induction l with
 | nil=>rfl
 | cons v l ih=>rw[V.Qak,←ih,←qeM];rfl
mutual
theorem Qdf:∀ v:V,Qbk v=v.Qao
 | .dead=>rfl
 | .int _ _=>rfl
 | .bool _=>rfl
 | .str _=>rfl
 | .nilp=>rfl
 | .ptr _ _=>rfl
 | .iptr cs=>qe8 cs
 | .nils=>rfl
 | .slice _ _ _ _=>rfl
 | .arr ..=>rfl
 | .fn _ a b=>by rw[V.Qao,←qe8 a,←qe8 b];rfl
 | .nilf=>rfl
 | .iface _ v=>Qdf v
 | .nili=>rfl
 | .agg cs=>qe8 cs
 | .tuple cs=>qe8 cs
 | .sym _=>rfl
 | .mref _=>rfl
 | .nilm=>rfl
theorem qe8:∀ l:List V,V.rec_1 (motive_1:=fun _=>Bool) (motive_2:=fun _=>Bool)
 true (fun _ _=>true) (fun _=>true) (fun _=>true) true (fun _ _=>false) (fun _ ih=>ih) true
 (fun tok _ _ _ _=>tok.isNone) (fun _ _ _ _ _ _=>false)
 (fun _ _ _ a b=>a&&b) true (fun _ _ ih=>ih) true (fun _ ih=>ih) (fun _ ih=>ih) (fun _=>true) (fun _=>false) true true (fun _ _ a b=>a&&b) l=V.Qaf l
 | []=>rfl
 | v::l=>by rw[V.Qaf,←Qdf v,←qe8 l];rfl
end
theorem Qb5:@Qbk = @V.Qao:=by funext v;exact Qdf v
theorem qfp:@qev = @V.Qaf:=by
 funext l
 induction l with
 | nil=>rfl
 | cons v l ih=>rw[V.Qaf,←ih,←Qb5];rfl
theorem qrz:@F.QdB = @AM.V.plain:=by
 (repeat (apply funext;intro));unfold F.QdB AM.V.plain;simp only[qeM,qaw,qas,Qas,Qav,Qae]<;>rfl
theorem QdI:@F.Qc5 = @AM.V.QbH:=by
 (repeat (apply funext;intro));unfold F.Qc5 AM.V.QbH;simp only[qfd,qaw,qas,Qas,Qav,Qae]<;>rfl
theorem qrw:@F.Qdz = @AM.V.QbM:=by
 (repeat (apply funext;intro));unfold F.Qdz AM.V.QbM;simp only[qfd,qaw,qas,Qas,Qav,Qae]<;>rfl
theorem qiV:@F.opd = @AM.opd:=rfl
theorem Qcg:@F.rho = @AM.St.ρ:=by
 (repeat (apply funext;intro));unfold F.rho AM.St.ρ;simp only[qaw,qas,Qas,Qav,Qae]<;>rfl
theorem Qcq:@F.lcf = @AM.St.lc:=by
 (repeat (apply funext;intro));unfold F.lcf AM.St.lc;simp only[qaw,qas,Qas,Qav,Qae]<;>rfl
theorem qdb:@F.Qab = @AM.Qab:=by
 (repeat (apply funext;intro));unfold F.Qab AM.Qab;simp only[Qcq,Qba,qaw,qas,Qas,Qav,Qae]<;>rfl
theorem qwm:@F.lower = @AM.lower:=rfl
theorem qdV:@F.setRow = @AM.setRow:=by
 (repeat (apply funext;intro));unfold F.setRow AM.setRow;simp only[qwm,QcA,qaw,qas,Qas,Qav,Qae]<;>rfl
theorem qeO:@F.Qaa = @AM.Qaa:=by
 (repeat (apply funext;intro));unfold F.Qaa AM.Qaa;simp only[Qcq,QaH,qeg,qaw,qas,Qas,Qav,Qae]<;>rfl
theorem qkn:@F.Qa1 = @AM.Qa1:=rfl
theorem qko:@F.Qau = @AM.Qau:=rfl
theorem qrD:@F.intCmp = @AM.intCmp:=by
 funext op a b
 have h1:(!decide (b<a))=decide (a≤b):=by rw[←decide_not];exact decide_eq_decide.2 Int.not_lt
 have h2:(!decide (a<b))=decide (a ≥ b):=by rw[←decide_not];exact decide_eq_decide.2 Int.not_lt
 cases op<;>simp only[F.intCmp,AM.intCmp,Qas,Qav,h1,h2]<;>rfl
theorem QcZ:@F.QaS = @AM.QaS:=by
 (repeat (apply funext;intro));unfold F.QaS AM.QaS;simp only[qrD,qaw,qas,Qas,Qav,Qae]<;>rfl
theorem qwf:@F.Qcz = @AM.Qcz:=rfl
theorem qrx:@F.QbQ = @AM.QbQ:=by
 (repeat (apply funext;intro));unfold F.QbQ AM.QbQ;simp only[qaw,qas,Qas,Qav,Qae]<;>rfl
theorem QdM:@F.Qct = @AM.Qct:=by
 (repeat (apply funext;intro));unfold F.Qct AM.Qct;simp only[QcZ,qwf,qrx,qaw,qas,Qas,Qav,Qae]<;>rfl
theorem qoZ:@F.isConst = @AM.isConst:=rfl
theorem Qeo:@F.eqV = @AM.eqV:=rfl
theorem Qem:@F.unV = @AM.unV:=by
 (repeat (apply funext;intro));unfold F.unV AM.unV;simp only[QcZ,qaw,qas,Qas,Qav,Qae]<;>rfl
theorem Qdm:@F.QbG = @AM.QbG:=rfl
theorem Qb4:@F.zeroV = @AM.zeroV:=rfl
theorem QbO:@F.QaB = @AM.QaB:=rfl
theorem Qcn:@F.Qat = @AM.Qat:=rfl
theorem qwy:@F.Qb1 = @AM.Qb1:=rfl
theorem QcY:@F.QaR = @AM.QaR:=rfl
theorem QbR:@F.Qax = @AM.Qax:=rfl
theorem qiU:@F.QaV = @AM.QaV:=by
 (repeat (apply funext;intro));unfold F.QaV AM.QaV;simp only[QbR,QaH,QbT,Qbq,Qba,qaw,qas,Qas,Qav,Qae]<;>rfl
theorem QbD:@F.setAt = @AM.setAt:=by
 funext cs off vs
 unfold F.setAt AM.setAt
 simp only[QaH]
 cases h:Nat.ble (Nat.add off vs.length) cs.length with
 | false=>rfl
 | true =>
  have hle:off+vs.length≤cs.length:=by rw[Nat.ble_eq]at h;exact h
  simp only[cond_true]
  rw[qto _ _ _ (by omega),qlU _ _ (by simp;omega),List.drop_drop,List.append_assoc]
theorem qww:@F.chunk = @AM.chunk:=by
 funext sz ag n
 induction n with
 | zero=>rfl
 | succ n ih =>
  funext cs
  show(bif ag then V.agg (QcK cs sz)else (List.rec (motive:=fun _=>V) .dead (fun x _ _=>x) cs).unagg)::F.chunk sz ag n (QbJ cs sz)=_
  rw[ih,AM.chunk,QbT,Qbq]
  cases cs<;>rfl
theorem qm2:@F.Qbn = @AM.Qbn:=by
 (repeat (apply funext;intro));unfold F.Qbn AM.Qbn;simp only[qko,QaH,QbT,Qbq,qaw,qas,Qas,Qav,Qae]<;>rfl
theorem qrA:@F.QaK = @AM.QaK:=rfl
theorem qm1:@F.QbK = @AM.QbK:=rfl
theorem qm3:@F.Qbo = @AM.Qbo:=rfl
theorem Qdo:@F.Qbd = @AM.Qbd:=by
 (repeat (apply funext;intro));unfold F.Qbd AM.Qbd;simp only[qko,QbO,QbR,qm2,qm1,qm3,qaw,qas,Qas,Qav,Qae]<;>rfl
theorem qkq:@F.QaM = @AM.QaM:=by
 (repeat (apply funext;intro));unfold F.QaM AM.QaM;simp only[qkn,QbO,QbR,QaH,Qba,qaw,qas,Qas,Qav,Qae]<;>rfl
theorem qwt:@F.Qcr = @AM.Qcr:=by
 (repeat (apply funext;intro));unfold F.Qcr AM.Qcr;simp only[qaw,qas,Qas,Qav,Qae]<;>rfl
theorem qo3:@F.Qbl = @AM.Qbl:=by
 funext P t ρ ps
 induction ps with
 | nil=>rfl
 | cons p ps ih =>
  funext cs
  obtain⟨i,x⟩:=p
  rw[AM.Qbl]
  simp only[←Qcn,←Qdm,←qrz,←qrw,←qiV,←QbD,←ih,←QaH]
  rfl
theorem qwp:@F.Qb8 = @AM.Qb8:=by
 funext sz ρ ps
 induction ps with
 | nil=>rfl
 | cons p ps ih =>
  funext l
  obtain⟨i,x⟩:=p
  rw[AM.Qb8]
  simp only[←Qb5,←QdI,←qiV,←ih,←QaH,←QcA]
  rfl
theorem qwk:@F.Qam = @AM.Qam:=by
 (repeat (apply funext;intro));unfold F.Qam AM.Qam;simp only[Qb5,qiV,qkn,QdM,qoZ,Qeo,Qem,Qb4,QbO,Qcn,QbR,qiU,qrA,Qdo,qkq,qwt,qo3,qwp,QaH,qfd,Qbq,Qba,QcC,qaw,qas,Qas,Qav,Qae]<;>rfl
theorem qtf:@F.Qal = @AM.Qal:=by
 (repeat (apply funext;intro));unfold F.Qal AM.Qal;simp only[qiV,Qdm,Qb4,QcY,qiU,QbD,qwk,QaH,Qbm,qaw,qas,Qas,Qav,Qae]<;>rfl
theorem qrI:@F.Qa4 = @AM.Qa4:=by
 (repeat (apply funext;intro));unfold F.Qa4 AM.Qa4;simp only[qaw,qas,Qas,Qav,Qae]<;>rfl
theorem qeN:@F.Qag = @AM.Qag:=by
 (repeat (apply funext;intro));unfold F.Qag AM.Qag;simp only[qdb,qww,QaH,qfd,Qbq,qaw,qas,Qas,Qav,Qae]<;>rfl
theorem qrE:@F.freeze = @AM.freeze:=by
 (repeat (apply funext;intro));unfold F.freeze AM.freeze;simp only[qfp,qdb,qdV,qeN,qaw,qas,Qas,Qav,Qae]<;>rfl
theorem qiW:@F.Qa3 = @AM.Qa3:=rfl
theorem qtg:@F.exp1 = @AM.exp1:=by
 (repeat (apply funext;intro));unfold F.exp1 AM.exp1;simp only[qeM,qrE,qiW,qaw,qas,Qas,Qav,Qae]<;>rfl
theorem qxL:@F.Qcm = @AM.Qcm:=by
 funext fz st l
 induction l generalizing st with
 | nil=>rfl
 | cons v l ih =>
  rw[AM.Qcm]
  simp only[←qtg,←ih]
  rfl
theorem qwr:@F.exp = @AM.exp:=by
 (repeat (apply funext;intro));unfold F.exp AM.exp;simp only[qtg,qxL,qaw,qas,Qas,Qav,Qae]<;>rfl
theorem QcG:@F.exps = @AM.exps:=by
 funext fz st l
 induction l generalizing st with
 | nil=>rfl
 | cons v l ih =>
  rw[AM.exps]
  simp only[←qwr,←ih]
  rfl
theorem qkr:@F.flat = @AM.flat:=by
 funext l
 induction l with
 | nil=>rfl
 | cons v l ih =>
  have:AM.flat (v::l)=v.cells++AM.flat l:=rfl
  rw[this,←ih,←qeg];rfl
theorem qo1:@F.Qay = @AM.Qay:=by
 (repeat (apply funext;intro));unfold F.Qay AM.Qay;simp only[qg3,qeO,qaw,qas,Qas,Qav,Qae]<;>rfl
theorem qo0:@F.QaG = @AM.QaG:=by
 (repeat (apply funext;intro));unfold F.QaG AM.QaG;simp only[qeO,qaw,qas,Qas,Qav,Qae]<;>rfl
theorem qfq:@F.Qaj = @AM.Qaj:=rfl
theorem qo5:@F.Qai = @AM.Qai:=by
 (repeat (apply funext;intro));unfold F.Qai AM.Qai;simp only[qg3,qfp,qdb,qdV,QbO,qwy,QbR,QbD,qeN,qiW,qkr,qo1,qo0,qfq,QaH,qeg,Qbm,QbT,Qbq,qaw,qas,Qas,Qav,Qae]<;>rfl
theorem qwl:@F.QbZ = @AM.QbZ:=by
 (repeat (apply funext;intro));unfold F.QbZ AM.QbZ;simp only[qeO,Qb4,QbO,QbR,qkr,qfq,QaH,QcC,qaw,qas,Qas,Qav,Qae]<;>rfl
theorem qws:@F.copyV = @AM.copyV:=by
 (repeat (apply funext;intro));unfold F.copyV AM.copyV;simp only[qg3,qdb,qdV,QbO,QbR,QbD,qeN,qiW,qkr,QaH,Qbm,QbT,qaw,qas,Qas,Qav,Qae]<;>rfl
theorem qrF:@F.Qbi = @AM.Qbi:=by
 (repeat (apply funext;intro));unfold F.Qbi AM.Qbi;simp only[qeM,qdb,qdV,Qb4,QbO,QbR,QbD,qiW,qkr,QaH,QcC,qaw,qas,Qas,Qav,Qae]<;>rfl
theorem qo4:@F.bytesOf = @AM.bytesOf:=by
 funext l
 induction l with
 | nil=>rfl
 | cons v l ih =>
  cases v with
  | int k n=>cases k<;>first | rfl | (rw[AM.bytesOf,←ih];rfl)
  | _=>rfl
theorem qwu:@F.QbS = @AM.QbS:=by
 (repeat (apply funext;intro));unfold F.QbS AM.QbS;simp only[qeO,qeN,qfq,qo4,qfd,qaw,qas,Qas,Qav,Qae]<;>rfl
theorem qrB:@F.Qbv = @AM.Qbv:=rfl
theorem qoY:@F.opds = @AM.opds:=by
 (repeat (apply funext;intro));unfold F.opds AM.opds;simp only[qiV,qfd,qaw,qas,Qas,Qav,Qae]<;>rfl
theorem qwx:@F.QaP = @AM.QaP:=by
 (repeat (apply funext;intro));unfold F.QaP AM.QaP;simp only[qiV,Qcg,QcG,qo5,qws,qrF,qrB,qoY,qeg,qaw,qas,Qas,Qav,Qae]<;>rfl
theorem qwq:@F.Qb0 = @AM.Qb0:=by
 funext sz is
 induction is with
 | nil=>funext vs l;cases vs<;>rfl
 | cons i is ih =>
  funext vs l
  cases vs with
  | nil=>rfl
  | cons v vs =>
   rw[AM.Qb0]
   simp only[←ih,←QaH,←QcA]
   rfl
theorem qkp:@F.Qbc = @AM.Qbc:=rfl
theorem qwi:@F.Qcj = @AM.Qcj:=by
 funext x y
 cases x<;>cases y<;>first | rfl | simp only[F.Qcj,AM.Qcj,Qav]
theorem qo2:@F.Qb3 = @AM.Qb3:=by
 funext k l
 induction l with
 | nil=>rfl
 | cons x l ih =>
  funext i
  rw[AM.Qb3]
  simp only[←ih,←qwi]
  rfl
theorem qwn:@F.Qcl = @AM.Qcl:=by
 (repeat (apply funext;intro));unfold F.Qcl AM.Qcl;simp only[Qb4,qkp,qo2,Qba,qaw,qas,Qas,Qav,Qae]<;>rfl
theorem qxI:@F.Qcu = @AM.Qcu:=by
 (repeat (apply funext;intro));unfold F.Qcu AM.Qcu;simp only[qdV,qwr,qkp,qo2,qeg,Qba,QcA,qaw,qas,Qas,Qav,Qae]<;>rfl
theorem qwh:@F.stepG = @AM.stepG:=by
 (repeat (apply funext;intro));unfold F.stepG AM.stepG;simp only[qeM,qiV,Qcg,qdb,qdV,qeO,Qdm,Qb4,QbO,QcY,QbR,qiU,QbD,qo3,qwr,QcG,qkr,qwl,qwu,qoY,qwx,qwq,qwn,qxI,QaH,Qbm,Qba,QcC,qaw,qas,Qas,Qav,Qae]<;>rfl
theorem qwg:@F.Qah = @AM.Qah:=by
 (repeat (apply funext;intro));unfold F.Qah AM.Qah;simp only[Qcg,Qcq,qtf,qrI,qwh,qaw,qas,Qas,Qav,Qae]<;>rfl
theorem qte:@F.QaF = @AM.QaF:=by
 (repeat (apply funext;intro));unfold F.QaF AM.QaF;simp only[qaw,qas,Qas,Qav,Qae]<;>rfl
theorem qoX:@F.QaD = @AM.QaD:=rfl
theorem QbL:@F.QaA = @AM.QaA:=by
 (repeat (apply funext;intro));unfold F.QaA AM.QaA;simp only[qwg,qte,qaw,qas,Qas,Qav,Qae]<;>rfl
theorem qry:@F.quiet1 = @AM.quiet1:=rfl
theorem qwj:@F.quiet = @AM.quiet:=by
 (repeat (apply funext;intro));unfold F.quiet AM.quiet;simp only[qry,Qbm,qaw,qas,Qas,Qav,Qae]<;>rfl
theorem qll:@F.Qa7 = @AM.Qa7:=rfl
theorem qlm:@F.Qbg = @AM.Qbg:=rfl
theorem qxK:@F.Qdy = @AM.Qdy:=rfl
theorem qm4:@F.Qbf = @AM.Qbf:=rfl
theorem qxJ:@F.Qd7 = @AM.Qd7:=rfl
theorem qo6:@F.Qa5 = @AM.Qa5:=by
 (repeat (apply funext;intro));unfold F.Qa5 AM.Qa5;simp only[qiV,qll,qlm,qxK,qm4,qxJ,qeg,qaw,qas,Qas,Qav,Qae]<;>rfl
theorem qm5:@F.Qbr = @AM.Qbr:=rfl
theorem QbN:@F.Qaz = @AM.Qaz:=by
 (repeat (apply funext;intro));unfold F.Qaz AM.Qaz;simp only[qiV,qtf,qoY,qwj,qo6,qm5,Qbm,qaw,qas,Qas,Qav,Qae]<;>rfl
theorem QcX:@F.settle = @AM.settle:=by
 (repeat (apply funext;intro));unfold F.settle AM.settle;simp only[QaH,qaw,qas,Qas,Qav,Qae]<;>rfl
theorem qyG(acc:List Nat):∀ n,(List.rec (motive:=fun _=>Nat) 0 (fun x _ _=>x) (QbJ acc n):Nat)=acc.getD n 0:=by
 induction acc with
 | nil=>intro n;rfl
 | cons a l ih =>
  intro n
  cases n with
  | zero=>rfl
  | succ n=>rw[List.getD_cons_succ,←ih n];rfl
theorem qrC:@F.QbX = @AM.QbX:=by
 funext acc l
 induction l with
 | nil=>rfl
 | cons e l ih=>rw[AM.QbX,←ih,←qyG];rfl
theorem QdK:@F.masks = @AM.masks:=by
 funext l
 induction l with
 | nil=>rfl
 | cons o l ih =>
  funext acc
  rw[AM.masks,←ih,←qeg,←qrC];rfl
theorem qrH:@F.behind = @AM.behind:=by
 (repeat (apply funext;intro));unfold F.behind AM.behind;simp only[QdK,qaw,qas,Qas,Qav,Qae]<;>rfl
theorem Qdn:@F.Qa6 = @AM.Qa6:=rfl
theorem qwv:@F.Qbh = @AM.Qbh:=rfl
theorem QdL:@F.Qaq = @AM.Qaq:=by
 funext P C call gl all l
 induction l with
 | nil=>rfl
 | cons o l ih =>
  funext k sp st
  rw[AM.Qaq]
  simp only[←ih,←qoX,←Qcg,←Qcq,←qte,←QbL,←QbN,←QcX,←qrH,←qwv,←Qdn]
  rfl
theorem Qdg:@F.traceless = @AM.traceless:=by
 funext m fs
 induction fs with
 | nil=>rfl
 | cons f fs ih=>funext k;rw[AM.traceless,←ih];rfl
theorem qxM:@F.disj = @AM.disj:=by
 funext a b
 induction a with
 | nil=>rfl
 | cons s a ih=>rw[AM.disj,←ih,←Qbm];rfl
theorem qwo:@F.indep = @AM.indep:=by
 (repeat (apply funext;intro));unfold F.indep AM.indep;simp only[qxM,qaw,qas,Qas,Qav,Qae]<;>rfl
theorem QdJ:@F.QaL = @AM.QaL:=by
 funext fs l
 induction l with
 | nil=>rfl
 | cons p l ih =>
  obtain⟨i,j⟩:=p
  rw[AM.QaL]
  simp only[←ih,←Qba,←qwo]
  rfl
theorem Qd1:@F.Qbx = @AM.Qbx:=by
 funext fs
 induction fs with
 | nil=>funext os;cases os<;>rfl
 | cons f fs ih =>
  funext os
  cases os with
  | nil=>rfl
  | cons o os=>rw[AM.Qbx,←ih];rfl
theorem Qen:@F.Qbj = @AM.Qbj:=by
 funext P st l
 induction l with
 | nil=>rfl
 | cons r l ih =>
  cases r with
  | tmp t=>rw[AM.Qbj];simp only[←ih,←Qcg];rfl
  | cell a t=>rw[AM.Qbj];simp only[←ih,←Qcg,←qdb,←qiU];rfl
theorem qlk:@F.Qa0 = @AM.Qa0:=by
 funext k l
 induction l generalizing k with
 | nil=>rfl
 | cons v l ih =>
  funext t
  rw[AM.Qa0,←ih,←qas];rfl
theorem Qda:@F.QaE = @AM.QaE:=by
 (repeat (apply funext;intro));unfold F.QaE AM.QaE;simp only[qlk,qaw,qas,Qas,Qav,Qae]<;>rfl
theorem qrG:@F.QaX = @AM.QaX:=by
 (repeat (apply funext;intro));unfold F.QaX AM.QaX;simp only[QaH,qaw,qas,Qas,Qav,Qae]<;>rfl
theorem Qc0:@F.Qar = @AM.Qar:=by
 (repeat (apply funext;intro));unfold F.Qar AM.Qar;simp only[qfp,qrG,qaw,qas,Qas,Qav,Qae]<;>rfl
end Go.AM.F
end
section
namespace Go.AM.G
open Go Go.AM
theorem qdq(r:R):next r done=r:=by
 cases r with
 | none=>rfl
 | some p=>obtain⟨e,st⟩:=p;cases e<;>rfl
theorem qcg(r:R)(f k:K):next (next r f) k=next r (fun st=>next (f st) k):=by
 cases r with
 | none=>rfl
 | some p=>obtain⟨e,st⟩:=p;cases e<;>rfl
section
variable {P:Program}{C:Cfg}{call:Qad}{gl:Nat→Bool}
theorem QdC(all:Array Oper)(o:Oper)(l:List Oper)(st:St):opsV P C call gl all (o::l) st=match QaD all o st.ρ with
  | none=>none
  | some false=>opsV P C call gl all l (QaF st o.dst (.tuple []))
  | some true=>next (QaA P C call gl st o) (opsV P C call gl all l):=by
 rw[opsV]
 cases QaD all o st.ρ with
 | none=>rfl
 | some b =>
  cases b with
  | false=>rfl
  | true =>
   simp only[]
   cases QaA P C call gl st o with
   | none=>rfl
   | some p=>obtain⟨e,st'⟩:=p;cases e<;>rfl
theorem Qdx(f fuel:Nat)(a b:Code)(st:St):QaW P C call f fuel (.seq a b) st=next (QaW P C call f fuel a st) (QaW P C call f fuel b):=by
 rw[QaW]
 cases QaW P C call f fuel a st with
 | none=>rfl
 | some p=>obtain⟨e,st'⟩:=p;cases e<;>rfl
end
theorem QcQ(body:St→Option (Ex × St))(n:Nat)(st:St):Qcd body (n+1) st=next (body st) (Qcd body n):=by
 rw[Qcd]
 cases body st with
 | none=>rfl
 | some p=>obtain⟨e,st'⟩:=p;cases e<;>rfl
theorem qbj(x:Operand)(st:St):opd x st=AM.opd st.ρ x:=by
 cases x with
 | tmp t=>show F.Qci V.dead (path t) st.tm=_;rw[F.QbV];rfl
 | _=>rfl
theorem ok_eq(d:Option Nat)(st:St)(v:V)(k:K):ok d st v k=k (QaF st d v):=by
 cases d with
 | none=>rfl
 | some i =>
  cases st with
  | mk tm loc hp=>show k ⟨F.Qdt v (path i) tm,loc,hp⟩ = _;rw[F.Qcc];rfl
theorem qcK(d:Option Nat)(st:St)(v:Option V)(k:K):okO d st v k=next (v.map fun v=>(Ex.normal,QaF st d v)) k:=by
 cases v with
 | none=>rfl
 | some v=>exact ok_eq d st v k
theorem qq2(a b:IntKind):Nat.beq (Qce a) (Qce b)=decide (a=b):=by cases a<;>cases b<;>rfl
section
variable {α:Type}
theorem Qck{β:Type}(o:Option β)(f:β→α)(d:α):Qac o f d=match o with | some b=>f b | none=>d:=by cases o<;>rfl
end
theorem qvX(op:BinOp)(k:IntKind)(a b:Int):int2 op k a b=Qct op (.int k a) (.int k b):=by
 have h1:(!decide (b<a))=decide (a≤b):=by rw[←decide_not];exact decide_eq_decide.2 Int.not_lt
 have h2:(!decide (a<b))=decide (a ≥ b):=by rw[←decide_not];exact decide_eq_decide.2 Int.not_lt
 cases op with
 | add=>simp only[Qct,if_true,QaS,←F.Qae];rfl
 | sub=>simp only[Qct,if_true,QaS,←F.Qae];rfl
 | mul=>simp only[Qct,if_true,QaS,←F.Qae];rfl
 | eql=>simp only[Qct,if_true,QaS,intCmp,←F.Qav];rfl
 | neq=>simp only[Qct,if_true,QaS,intCmp,bne,←F.Qav];rfl
 | lss=>simp only[Qct,if_true,QaS,intCmp,←F.Qas];rfl
 | leq=>simp only[Qct,if_true,QaS,intCmp,←h1,←F.Qas];rfl
 | gtr=>simp only[Qct,if_true,QaS,intCmp,GT.gt,←F.Qas];rfl
 | geq=>simp only[Qct,if_true,QaS,intCmp,←h2,←F.Qas];rfl
 | _=>simp only[Qct,if_true];rfl
theorem qwe(op:BinOp)(d:Option TypeDesc)(cn:Bool)(k:IntKind)(n:Int)(y:V):eqV op d cn (.int k n) y=none:=by
 unfold eqV
 split<;>first | rfl | simp_all
theorem qwd(op:BinOp)(d:Option TypeDesc)(cn:Bool)(s:Str)(y:V):eqV op d cn (.str s) y=none:=by
 unfold eqV
 split<;>first | rfl | simp_all
def qyN(P:Program)(op:BinOp)(t:TypeId)(X Y:Operand)(x y:V):Option V:=match Qct op x y with
 | some v=>some v
 | none=>eqV op (P.underlying t) (isConst X || isConst Y) x y
theorem qxX(P:Program)(op:BinOp)(t:TypeId)(X Y:Operand)(x y:V):bin P op t X Y x y=qyN P op t X Y x y:=by
 have id':∀ (o:Option V),(match o with | some v=>some v | none=>none)=o:=fun o=>by cases o<;>rfl
 unfold qyN
 cases x with
 | int k a =>
  simp only[qwe,id']
  cases y with
  | int k' b =>
   show(bif Nat.beq (Qce k) (Qce k')then int2 op k a b else F.Qct op (.int k a) (.int k' b))=_
   rw[qq2,F.QdM]
   by_cases h:k=k'
   ·subst h;simp[qvX]
   ·simp[h]
  | _=>cases op<;>rfl
 | str a =>
  simp only[qwd,id']
  cases y with
  | str b=>rfl
  | _=>cases op<;>rfl
 | _=>show F.eqV op (P.underlying t) (isConst X || isConst Y) _ y=_;rw[F.Qeo];cases y<;>rfl
section
variable {P:Program}{C:Cfg}{call:Qad}{gl:Nat→Bool}{o:Oper}{st:St}{k:K}
theorem qat{v:Option V}(hl:Qal P C gl st.ρ st.lc o=v.map (·,none))(hg:v=none→stepG P C gl st o=none) :
  QaA P C call gl st o=v.map fun v=>(Ex.normal,QaF st o.dst v):=by
 cases v with
 | none=>simp only[QaA,Qah,hl,Option.map_none,hg rfl]
 | some v=>simp only[QaA,Qah,hl,Option.map_some];rfl
theorem QdY{x:Operand}(h:o.op=.move x):qti x P C call gl o st k=next (QaA P C call gl st o) k:=by
 rw[qat (v:=some (AM.opd st.ρ x)) (by simp only[Qal,h,Qam]) (by simp)]
 show ok o.dst st (opd x st) k=_
 rw[ok_eq,qbj];rfl
theorem Qdu{x:Operand}(h:o.op=.assign x):qti x P C call gl o st k=next (QaA P C call gl st o) k:=by
 rw[qat (v:=some (AM.opd st.ρ x)) (by simp only[Qal,h,Qam]) (by simp)]
 show ok o.dst st (opd x st) k=_
 rw[ok_eq,qbj];rfl
theorem QdX{c a b:Operand}(h:o.op=.pick c a b):Qd8 c a b P C call gl o st k=next (QaA P C call gl st o) k:=by
 rw[qat (v:=match AM.opd st.ρ c with | .bool true=>some (AM.opd st.ρ a) | .bool false=>some (AM.opd st.ρ b) | _=>none) (by simp only[Qal,h,Qam];rfl) (by intro _;simp only[stepG,h])]
 show Qca (opd c st) (fun q=>Bool.rec (motive:=fun _=>R) (ok o.dst st (opd b st) k) (ok o.dst st (opd a st) k) q) none=_
 rw[ok_eq,ok_eq,qbj,qbj,qbj]
 cases AM.opd st.ρ c with
 | bool q=>cases q<;>rfl
 | _=>rfl
theorem Qec{op:BinOp}{t u:TypeId}{x y:Operand}(h:o.op=.binOp op t x y u):qyJ op t x y u P C call gl o st k=next (QaA P C call gl st o) k:=by
 rw[qat (v:=qyN P op t x y (AM.opd st.ρ x) (AM.opd st.ρ y)) (by simp only[Qal,h,Qam];rfl) (by intro _;simp only[stepG,h])]
 show okO o.dst st (bin P op t x y (opd x st) (opd y st)) k=_
 rw[qcK,qxX,qbj,qbj]
theorem Qek{op:UnOp}{t:TypeId}{x:Operand}(h:o.op=.unOp op t x):qBP op t x P C call gl o st k=next (QaA P C call gl st o) k:=by
 rw[qat (v:=unV op (AM.opd st.ρ x)) (by simp only[Qal,h,Qam]) (by intro _;simp only[stepG,h])]
 show okO o.dst st (un op (opd x st)) k=_
 rw[qcK,qbj]
 have:∀ v,un op v=unV op v:=by
  intro v
  rw[←F.Qem]
  cases op with
  | not=>cases v<;>rfl
  | _=>rfl
 rw[this]
theorem Qde{x:Operand}{i:Nat}(h:o.op=.extract x i):Qdb x i P C call gl o st k=next (QaA P C call gl st o) k:=by
 rw[qat (v:=match AM.opd st.ρ x with | .tuple vs=>vs[i]? | _=>none) (by simp only[Qal,h,Qam];rfl) (by intro _;simp only[stepG,h])]
 show QcD (opd x st) (fun vs=>okO o.dst st (F.QbB vs i) k) none=_
 rw[qbj]
 cases AM.opd st.ρ x with
 | tuple vs=>show okO o.dst st (F.QbB vs i) k=_;rw[qcK,F.Qba]
 | _=>rfl
theorem qiB(t:TypeId)(cs:List V)(off:Nat):part (F.Qax P t) cs off=QaV P t cs off:=by
 rw[F.QbR]
 unfold part QaV
 cases Qax P t with
 | none=>rfl
 | some p =>
  obtain⟨n,g⟩:=p
  cases g with
  | false=>exact F.Qba _ _
  | true =>
   show(bif Nat.ble (Nat.add off n) (F.QaZ cs)then some (V.agg (F.QcK (F.QbJ cs off) n))else none)=_
   rw[F.QaH,F.QbT,F.Qbq];rfl
theorem QdZ{t:TypeId}{x:Operand}(h:o.op=.load t x):Qd9 t x P C call gl o st k=next (QaA P C call gl st o) k:=by
 show Qb7 (opd x st) (fun r off=>QcT r
   (fun s g=>onCells (F.Qci (0,.gone) (path s) st.loc).2 (fun _ cs=>bif Nat.beq g (F.Qci (0,.gone) (path s) st.loc).1 then okO o.dst st (part (F.Qax P t) cs off) k else none) none)
   (fun r=>Qac (F.QbB st.hp.rows r) (fun row=>onCells row (fun _ cs=>okO o.dst st (part (F.Qax P t) cs off) k) none) none))
  (fun cs=>okO o.dst st (part (F.Qax P t) cs 0) k) none=_
 rw[qbj]
 cases hx:AM.opd st.ρ x with
 | ptr r off =>
  cases r with
  | loc s g =>
   have hlc:F.Qci (0,.gone) (path s) st.loc=st.lc s:=by rw[F.QbV];rfl
   show onCells (F.Qci (0,.gone) (path s) st.loc).2 (fun _ cs=>bif Nat.beq g (F.Qci (0,.gone) (path s) st.loc).1 then okO o.dst st (part (F.Qax P t) cs off) k else none) none=_
   rw[hlc]
   have hg:stepG P C gl st o=none:=by simp only[stepG,h,hx]
   cases hr:st.lc s with
   | mk g' row =>
    cases row with
    | cells b cs =>
     rw[qat (v:=bif Nat.beq g g' then QaV P t cs off else none) (by simp only[Qal,h,hx,hr];cases Nat.beq g g'<;>rfl) (fun _=>hg)]
     show(bif Nat.beq g g' then okO o.dst st (part (F.Qax P t) cs off) k else none)=_
     cases Nat.beq g g' with
     | false=>rfl
     | true=>simp only[cond_true];rw[qcK,qiB]
    | _=>rw[qat (v:=none) (by simp only[Qal,h,hx,hr];rfl) (fun _=>hg)];rfl
  | glob r =>
   have hl:Qal P C gl st.ρ st.lc o=none:=by simp only[Qal,h,hx]
   show Qac (F.QbB st.hp.rows r) (fun row=>onCells row (fun _ cs=>okO o.dst st (part (F.Qax P t) cs off) k) none) none=_
   rw[F.Qba]
   cases hr:st.hp.rows[r]? with
   | none=>simp only[QaA,Qah,hl,stepG,h,hx,hr];rfl
   | some row =>
    cases row with
    | cells b cs =>
     show okO o.dst st (part (F.Qax P t) cs off) k=_
     rw[qcK,qiB]
     simp only[QaA,Qah,hl,stepG,h,hx,hr]
     cases QaV P t cs off<;>rfl
    | _=>simp only[QaA,Qah,hl,stepG,h,hx,hr];rfl
 | iptr cs =>
  rw[qat (v:=QaV P t cs 0) (by simp only[Qal,h,hx]) (by intro _;simp only[stepG,h,hx])]
  show okO o.dst st (part (F.Qax P t) cs 0) k=_
  rw[qcK,qiB]
 | _=>rw[qat (v:=none) (by simp only[Qal,h,hx];rfl) (by intro _;simp only[stepG,h,hx])];rfl
theorem QcS{t:TypeId}{x:Operand}{i:Nat}(h:o.op=.fieldAddr t x i):QcI t x i P C call gl o st k=next (QaA P C call gl st o) k:=by
 have hg:stepG P C gl st o=none:=by simp only[stepG,h]
 show Qac (F.Qat P t i) (fun f=>Qac (F.Qax P f.type) (fun _=>Qb7 (opd x st) (fun r off=>ok o.dst st (.ptr r (Nat.add off f.offset)) k) (fun cs=>ok o.dst st (.iptr (F.QbJ cs f.offset)) k) none) none) none=_
 rw[F.Qcn,F.QbR,qbj]
 cases hf:Qat P t i with
 | none=>rw[qat (v:=none) (by simp only[Qal,h,Qam,hf]) (fun _=>hg)];rfl
 | some f =>
  show Qac (Qax P f.type) (fun _=>Qb7 (AM.opd st.ρ x) (fun r off=>ok o.dst st (.ptr r (Nat.add off f.offset)) k) (fun cs=>ok o.dst st (.iptr (F.QbJ cs f.offset)) k) none) none=_
  cases hl:Qax P f.type with
  | none=>rw[qat (v:=none) (by simp only[Qal,h,Qam,hf,hl]) (fun _=>hg)];rfl
  | some p =>
   show Qb7 (AM.opd st.ρ x) (fun r off=>ok o.dst st (.ptr r (Nat.add off f.offset)) k) (fun cs=>ok o.dst st (.iptr (F.QbJ cs f.offset)) k) none=_
   cases hx:AM.opd st.ρ x with
   | ptr r off =>
    rw[qat (v:=some (.ptr r (off+f.offset))) (by simp only[Qal,h,Qam,hf,hl,hx]) (fun _=>hg)]
    exact ok_eq _ _ _ _
   | iptr cs =>
    rw[qat (v:=some (.iptr (cs.drop f.offset))) (by simp only[Qal,h,Qam,hf,hl,hx]) (fun _=>hg)]
    show ok o.dst st (.iptr (F.QbJ cs f.offset)) k=_
    rw[ok_eq,F.Qbq];rfl
   | _=>rw[qat (v:=none) (by simp only[Qal,h,Qam,hf,hl,hx]) (fun _=>hg)];rfl
theorem QdE{t:TypeId}{x:Operand}{i:Nat}(h:o.op=.field t x i):QdO t x i P C call gl o st k=next (QaA P C call gl st o) k:=by
 have hg:stepG P C gl st o=none:=by simp only[stepG,h]
 show Qac (F.Qat P t i) (fun f=>Qdv (opd x st) (fun cs=>okO o.dst st (part (F.Qax P f.type) cs f.offset) k) none) none=_
 rw[F.Qcn,qbj]
 cases hf:Qat P t i with
 | none=>rw[qat (v:=none) (by simp only[Qal,h,Qam,hf]) (fun _=>hg)];rfl
 | some f =>
  show Qdv (AM.opd st.ρ x) (fun cs=>okO o.dst st (part (F.Qax P f.type) cs f.offset) k) none=_
  cases hx:AM.opd st.ρ x with
  | agg cs =>
   rw[qat (v:=QaV P f.type cs f.offset) (by simp only[Qal,h,Qam,hf,hx]) (fun _=>hg)]
   show okO o.dst st (part (F.Qax P f.type) cs f.offset) k=_
   rw[qcK,qiB]
  | _=>rw[qat (v:=none) (by simp only[Qal,h,Qam,hf,hx]) (fun _=>hg)];rfl
theorem qiE(n:Int)(m:Nat)(f:Nat→R):Qbs n (fun j=>bif Nat.blt j m then f j else none) none=match Qa1 n m with | some j=>f j | none=>none:=by
 cases n with
 | ofNat j=>show(bif Nat.blt j m then f j else none)=_;simp only[Qa1];cases Nat.blt j m<;>rfl
 | negSucc j=>rfl
theorem QcR{t:TypeId}{x i:Operand}(h:o.op=.indexAddr t x i):QcH t x i P C call gl o st k=next (QaA P C call gl st o) k:=by
 have hg:stepG P C gl st o=none:=by simp only[stepG,h]
 show QbI (opd i st) (fun _ n=>Qac (F.QaB P t) (fun e=>Qac (F.Qax P e) (fun p=>Qcp (opd x st)
  (fun sz l=>bif Nat.beq p.1 sz then Qbs n (fun m=>bif Nat.blt m (F.QaZ l)then Qac (F.QbB l m) (fun v=>ok o.dst st (.iptr v.cells) k) none else none) none else none)
  (fun r off len sz ag=>bif Nat.beq p.1 sz then Qbs n (fun m=>bif Nat.blt m len then ok o.dst st (.ptr r (Nat.add off (Nat.mul m p.1))) k else none) none else none) none) none) none) none=_
 rw[F.QbO,F.QbR,qbj,qbj]
 cases hi:AM.opd st.ρ i with
 | int ki n =>
  rw[qat (v:=QaM P t (AM.opd st.ρ x) n) (by simp only[Qal,h,Qam,hi]) (fun _=>hg)]
  show Qac (QaB P t) _ none=_
  cases he:QaB P t with
  | none=>simp only[QaM,he];rfl
  | some e =>
   show Qac (Qax P e) _ none=_
   cases hl:Qax P e with
   | none=>simp only[QaM,he,hl];rfl
   | some p =>
    obtain⟨sz0,g⟩:=p
    cases hx:AM.opd st.ρ x with
    | slice tok full sz l =>
     show(bif Nat.beq sz0 sz then Qbs n (fun m=>bif Nat.blt m (F.QaZ l)then Qac (F.QbB l m) (fun v=>ok o.dst st (.iptr v.cells) k) none else none) none else none)=_
     simp only[QaM,he,hl]
     cases Nat.beq sz0 sz with
     | false=>rfl
     | true =>
      simp only[cond_true]
      rw[qiE,F.QaH]
      cases Qa1 n l.length with
      | none=>rfl
      | some j =>
       simp only[]
       rw[F.Qba]
       cases l[j]? with
       | none=>rfl
       | some v=>exact ok_eq _ _ _ _
    | arr r off len lim sz ag =>
     show(bif Nat.beq sz0 sz then Qbs n (fun m=>bif Nat.blt m len then ok o.dst st (.ptr r (Nat.add off (Nat.mul m sz0))) k else none) none else none)=_
     simp only[QaM,he,hl]
     cases hb:Nat.beq sz0 sz with
     | false=>rfl
     | true =>
      have:sz0=sz:=Nat.eq_of_beq_eq_true hb
      subst this
      simp only[cond_true]
      rw[qiE]
      cases Qa1 n len with
      | none=>rfl
      | some j=>exact ok_eq _ _ _ _
    | _=>simp only[QaM,he,hl];rfl
 | _=>rw[qat (v:=none) (by simp only[Qal,h,Qam,hi]) (fun _=>hg)];rfl
theorem ql0(d:Option TypeDesc):isStr d=true↔d=some .string:=by
 unfold isStr
 split
 ·simp
 ·rename_i hn;constructor
  ·intro h;simp at h
  ·intro h;exact absurd h hn
theorem QdD{t:TypeId}{x i:Operand}(h:o.op=.index t x i):QdN t x i P C call gl o st k=next (QaA P C call gl st o) k:=by
 have hg:stepG P C gl st o=none:=by simp only[stepG,h]
 show(bif isStr (P.underlying t)then QcL (opd x st) (fun s=>QbI (opd i st) (fun _ n=>Qbs n (fun m=>bif Nat.blt m s.n then ok o.dst st (.int .u8 (.ofNat (s.get m))) k else none) none) none) none else none)=_
 rw[qbj,qbj]
 cases hb:isStr (P.underlying t)with
 | false =>
  have hn:P.underlying t≠some .string:=fun e=>by rw[(ql0 _).2 e]at hb;simp at hb
  rw[qat (v:=none) (by
   simp only[Qal,h,Qam]
   split
   ·rename_i hu;exact absurd hu hn
   ·rfl) (fun _=>hg)]
  rfl
 | true =>
  have hu:=(ql0 _).1 hb
  simp only[cond_true]
  cases hx:AM.opd st.ρ x with
  | str s =>
   show QbI (AM.opd st.ρ i) (fun _ n=>Qbs n (fun m=>bif Nat.blt m s.n then ok o.dst st (.int .u8 (.ofNat (s.get m))) k else none) none) none=_
   cases hi:AM.opd st.ρ i with
   | int ki n =>
    show Qbs n (fun m=>bif Nat.blt m s.n then ok o.dst st (.int .u8 (.ofNat (s.get m))) k else none) none=_
    rw[qiE,qat (v:=match Qa1 n s.n with | none=>none | some j=>some (.int .u8 (.ofNat (s.get j)))) (by simp only[Qal,h,Qam,hx,hi,hu];rfl) (fun _=>hg)]
    cases Qa1 n s.n with
    | none=>rfl
    | some j=>exact ok_eq _ _ _ _
   | _=>rw[qat (v:=none) (by simp only[Qal,h,Qam,hx,hi]) (fun _=>hg)];rfl
  | _=>rw[qat (v:=none) (by simp only[Qal,h,Qam,hx]) (fun _=>hg)];rfl
def Qel(d:Option TypeDesc)(v:V):Option V:=match v,d with
 | .nils,some (.slice _)=>some (.int .i64 0)
 | .slice _ _ _ l,some (.slice _)=>some (.int .i64 l.length)
 | .arr _ _ n _ _ _,some (.slice _)=>some (.int .i64 n)
 | .str s,some .string=>some (.int .i64 s.n)
 | _,_=>none
end
end Go.AM.G
end
section
namespace Go.AM
open Go
def St.as(st:St)(T:Tr V):St:={ st with tm:=T }
def Res.as(r:Res)(T:Tr V):Res:=match r with
 | .val v st=>.val v (st.as T)
 | .enter f l st=>.enter f l (st.as T)
 | .panic v st=>.panic v (st.as T)
def asV{α:Type}(p:α × St)(T:Tr V):α × St:=(p.1,p.2.as T)
section
variable {P:Program}{C:Cfg}{gl:Nat→Bool}{T:Tr V}
theorem qyO(st:St):(st.as T).lc=st.lc:=rfl
theorem qcl(st:St)(r:Ref):Qab (st.as T) r=Qab st r:=by cases r<;>rfl
theorem qcd(st:St)(r:Ref)(row:Row):setRow (st.as T) r row=(setRow st r row).as T:=by cases r<;>rfl
theorem qcr(st:St)(g:Bool)(s:Nat)(row:Row):Qaa (st.as T) g s row=asV (Qaa st g s row) T:=by cases g<;>rfl
theorem qdQ(st:St)(v:V):Qag (st.as T) v=Qag st v:=by
 cases v<;>first | rfl | (simp only[Qag,qcl])
theorem qoK(st:St)(v:V):freeze (st.as T) v=(freeze st v).map (asV · T):=by
 cases v with
 | arr r off len lim sz ag =>
  simp only[freeze,qcl,qdQ]
  cases Qab st r with
  | none=>rfl
  | some row =>
   cases row with
   | cells b cs =>
    simp only[]
    cases Qag st (.arr r off len lim sz ag)with
    | none=>rfl
    | some l=>simp only[];cases V.Qaf l<;>simp[qcd,asV]
   | _=>rfl
 | _=>rfl
theorem qoU(fz:Bool)(st:St)(v:V):exp1 fz (st.as T) v=(exp1 fz st v).map (asV · T):=by
 cases v with
 | arr r off len lim sz ag =>
  simp only[exp1,qoK]
  cases(fz || Qa3 r)<;>rfl
 | slice tok f sz l =>
  cases tok with
  | none=>rfl
  | some r=>cases r with
   | loc s g=>rfl
   | glob r=>cases fz<;>rfl
 | _=>simp only[exp1];cases(V.live _&&V.Qap _)<;>rfl
theorem qoS(fz:Bool):∀ (l:List V)(st:St),Qcm fz (st.as T) l=(Qcm fz st l).map (asV · T)
 | [],st=>rfl
 | v::l,st=>by
  simp only[Qcm,qoU]
  cases exp1 fz st v with
  | none=>rfl
  | some p =>
   obtain⟨u,s⟩:=p
   simp only[Option.map_some,asV,qoS fz l s]
   cases Qcm fz s l<;>rfl
theorem ql8(fz:Bool)(st:St)(v:V):exp fz (st.as T) v=(exp fz st v).map (asV · T):=by
 cases v with
 | agg cs =>
  simp only[exp,qoS]
  cases Qcm fz st cs<;>rfl
 | _=>simp only[exp];exact qoU _ _ _
theorem qc9(fz:Bool):∀ (l:List V)(st:St),exps fz (st.as T) l=(exps fz st l).map (asV · T)
 | [],st=>rfl
 | v::l,st=>by
  simp only[exps,ql8]
  cases exp fz st v with
  | none=>rfl
  | some p =>
   obtain⟨u,s⟩:=p
   simp only[Option.map_some,asV,qc9 fz l s]
   cases exps fz s l<;>rfl
theorem qdS(st:St)(d:Nat)(cs:List V)(len sz:Nat)(ag:Bool):Qay gl (st.as T) d cs len sz ag=(Qay gl st d cs len sz ag).map (·.as T):=by
 simp only[Qay,qcr]
 cases(gl d && !V.Qak cs)<;>rfl
theorem qfh(st:St)(d sz:Nat)(l:List V):QaG gl (st.as T) d sz l=(QaG gl st d sz l).map (·.as T):=by
 simp only[QaG,qcr];rfl
theorem qaS{α β:Type}(f:α→β)(b:Bool)(x y:Option α):(bif b then x else y).map f=bif b then x.map f else y.map f:=by cases b<;>rfl
theorem qnk(st:St)(d:Nat)(t:TypeId)(x y:V):Qai P C gl (st.as T) d t x y=(Qai P C gl st d t x y).map (·.as T):=by
 unfold Qai
 simp only[qdQ]
 cases QaB P t with
 | none=>rfl
 | some e =>
  simp only[]
  cases Qax P e with
  | none=>rfl
  | some p =>
   obtain⟨sz,ag⟩:=p
   cases Qb1 P e with
   | none=>rfl
   | some bytes =>
    cases Qag st y with
    | none=>rfl
    | some ys =>
     simp only[]
     rw[qaS]
     refine congrArg (fun q=>bif _ then q else _) ?_
     cases x with
     | nils =>
      simp only[]
      cases ys with
      | nil=>rfl
      | cons y0 ys=>simp only[qaS,qdS,qfh,Option.map_none]
     | slice tok full sz' l =>
      simp only[]
      rw[qaS]
      refine congrArg (fun q=>bif _ then q else _) ?_
      cases ys with
      | nil=>rfl
      | cons y0 ys =>
       simp only[qaS,qdS,qfh,Option.map_none]
       cases tok with
       | none=>rfl
       | some r =>
        simp only[qcl]
        cases Qab st r with
        | none=>rfl
        | some row =>
         cases row with
         | tok=>simp only[qcd,qfh]
         | _=>rfl
     | arr r off len lim sz' ag' =>
      simp only[qcl]
      rw[qaS]
      refine congrArg (fun q=>bif _ then q else _) ?_
      cases Qab st r with
      | none=>rfl
      | some row =>
       cases row with
       | cells frz cs =>
        simp only[]
        rw[qaS]
        refine congrArg (fun q=>bif _ then q else _) ?_
        cases ys with
        | nil=>rfl
        | cons y0 ys =>
         simp only[qaS,Option.map_none]
         refine congrArg (fun q=>bif _ then _ else q) ?_
         cases lim with
         | some c =>
          simp only[qaS,Option.map_none,qdS]
          cases setAt cs (off+len*sz) (flat (y0::ys))<;>simp only[qcd,Option.map_some,Option.map_none]<;>rfl
         | none =>
          simp only[qaS,Option.map_none,qdS,qcd]
          cases setAt cs (off+len*sz) (flat (y0::ys))<;>rfl
       | _=>rfl
     | _=>rfl
theorem qqy(st:St)(d:Nat)(t:TypeId)(x y:V):QbZ P gl (st.as T) d t x y=(QbZ P gl st d t x y).map (·.as T):=by
 unfold QbZ
 split
 ·split
  ·simp only[qcr,qaS];rfl
  ·rfl
 ·rfl
theorem qsy(st:St)(t:TypeId)(x y:V):copyV P (st.as T) t x y=(copyV P st t x y).map (·.as T):=by
 unfold copyV
 simp only[qdQ]
 cases QaB P t with
 | none=>rfl
 | some e =>
  simp only[]
  split
  ·simp only[qcl]
   rw[qaS]
   refine congrArg (fun q=>bif _ then q else _) ?_
   split
   ·split
    ·simp only[qaS,qcd];rfl
    ·rfl
   ·rfl
  ·rfl
theorem qpA(st:St)(t:TypeId)(x:V):Qbi P (st.as T) t x=(Qbi P st t x).map (·.as T):=by
 unfold Qbi
 cases QaB P t with
 | none=>rfl
 | some e =>
  simp only[]
  split
  ·simp only[qcl]
   rw[qaS]
   refine congrArg (fun q=>bif _ then q else _) ?_
   split
   ·split
    ·simp only[qcd];rfl
    ·rfl
   ·rfl
  ·rfl
theorem qsz(st:St)(d:Nat)(s t:TypeId)(x:V):QbS P C gl (st.as T) d s t x=(QbS P C gl st d s t x).map (·.as T):=by
 unfold QbS
 simp only[qdQ]
 split
 ·split
  ·split
   ·split
    ·rfl
    ·simp only[Option.map_map];rfl
   ·rfl
  ·rfl
 ·split
  ·simp only[qcr,qaS];rfl
  ·rfl
 ·rfl
def qpC(P:Program)(C:Cfg)(gl:Nat→Bool)(ρ:Nat→V)(st:St)(dst:Option Nat)(c:Call):Option Res :=
 let args:=opds ρ c.args.toList
 match c.callee with
 | .value f=>(match opd ρ f with
  | .fn (.func g) first caps=>(match exps false st (first++args++caps)with
   | some (l,st')=>some (.enter g l st')
   | none=>none)
  | _=>none)
 | .builtin b=>(match c.argTypes[0]?,dst with
  | some t,some d=>(match b,args with
   | .append,[x,y]=>bif Qbv P c.argTypes[1]? then Qai P C gl st d t x y else none
   | .copy,[x,y]=>copyV P st t x y
   | _,_=>none)
  | some t,none=>(match b,args with
   | .copy,[x,y]=>copyV P st t x y
   | .clear,[x]=>Qbi P st t x
   | _,_=>none)
  | _,_=>none)
 | .invoke _ _=>none
theorem qsF(ρ:Nat→V)(st:St)(dst:Option Nat)(c:Call):qpC P C gl ρ (st.as T) dst c=(qpC P C gl ρ st dst c).map (·.as T):=by
 unfold qpC
 simp only[qc9,qnk,qsy,qpA]
 split
 ·split
  ·cases exps false st _<;>rfl
  ·rfl
 ·split
  ·split
   ·rw[qaS];rfl
   ·rfl
   ·rfl
  ·split<;>rfl
  ·rfl
 ·rfl
end
def qkI(P:Program)(C:Cfg)(gl:Nat→Bool)(ρ:Nat→V)(st:St)(o:Oper):Option Res :=
 match o.op with
 | .load t x=>(match opd ρ x with
  | .ptr (.glob r) off=>(match st.hp.rows[r]? with
   | some (.cells _ cs)=>(QaV P t cs off).map (.val · st)
   | _=>none)
  | _=>none)
 | .store t a x=>(match opd ρ a with
  | .ptr (.glob r) off=>(match st.hp.rows[r]?,exp false st (opd ρ x)with
   | some (.cells false _),some (v,st')=>(match st'.hp.rows[r]? with
    | some (.cells false cs)=>bif v.cells.all V.Qaw&&QaR P t v.cells.length then
      (match setAt cs off v.cells with
      | some cs'=>some (.val (.tuple []) (setRow st' (.glob r) (.cells false cs')))
      | none=>none)
     else none
    | _=>none)
   | _,_=>none)
  | _=>none)
 | .alloc t=>(match o.dst with
  | none=>none
  | some d=>match zeroV P t,QbG P t with
   | some z,some n=>bif gl d&&z.live&&Nat.beq z.cells.length n then
     (let (r,st'):=Qaa st true d (.cells false z.cells)
      some (.val (.ptr r 0) st'))
    else none
   | _,_=>none)
 | .box _ x=>(match o.dst with
  | none=>none
  | some d=>match exp false st (opd ρ x)with
   | some (v,st')=>bif gl d then
     (let (r,st''):=Qaa st' true d (.cells false v.cells)
      some (.val (.ptr r 0) st''))
    else none
   | none=>none)
 | .build t ps=>(match P.underlying t,zeroV P t,exps true st (opds ρ (ps.toList.map (·.2)))with
  | some (.struct fs),some z,some (l,st') =>
   let ρ':Nat→V:=fun i=>l.getD i .dead
   bif !(z.live&&fs.all (fun f=>(P.info? f.type).isSome))then none else
   (match Qbl P t ρ' (ps.toList.zipIdx.map fun(p,i)=>(p.1,Operand.tmp i)) z.cells with
   | some cs=>some (.val (.agg cs) st')
   | none=>none)
  | _,_,_=>none)
 | .buildSlice t len ps=>(match QaB P t,o.dst with
  | some e,some d=>(match Qax P e,zeroV P e,exps false st (opds ρ (ps.toList.map (·.2)))with
   | some (n,ag),some z,some (l,st') =>
    bif C.QaN t&&Nat.ble (len*n) 16777216&&z.live&&Nat.beq z.cells.length n&&(ag || Nat.beq n 1)then
     (match Qb0 n (ps.toList.map (·.1)) l (List.replicate len z)with
     | some items=>(let (r,st''):=Qaa st' (gl d) d (.cells false (flat items))
       some (.val (.arr r 0 len (some len) n ag) st''))
     | none=>none)
    else none
   | _,_,_=>none)
  | _,_=>none)
 | .makeSlice t l c=>(match o.dst with
  | some d=>QbZ P gl st d t (opd ρ l) (opd ρ c)
  | none=>none)
 | .convert s t x=>(match o.dst with
  | some d=>QbS P C gl st d s t (opd ρ x)
  | none=>none)
 | .next x isStr=>(match opd ρ x with
  | .ptr r 0=>(match Qab st r,isStr with
   | some (.iter s pos),true =>
    bif Nat.blt pos s.n then
     (let (c,width):=s.rune pos
      some (.val (.tuple [.bool true,.int .i64 pos,.int .i32 c]) (setRow st r (.iter s (pos+width)))))
    else some (.val (.tuple [.bool false]) st)
   | _,_=>none)
  | _=>none)
 | .call c=>qpC P C gl ρ st o.dst c
 | .panic x=>(match opd ρ x with
  | .iface t v=>bif v.Qap then some (.panic (.iface t v) st)else none
  | _=>none)
 | .makeMap _ none=>(match o.dst with
  | some d=>(let (r,st'):=Qaa st true d (.mp [] [])
    some (.val (.mref r) st'))
  | none=>none)
 | .lookup t x i ok=>(Qcl P t st.hp (opd ρ x) (opd ρ i) ok).map (.val · st)
 | .mapUpdate t m k x=>Qcu P t st (opd ρ m) (opd ρ k) (opd ρ x)
 | .insert t m k x=>Qcu P t st (opd ρ m) (opd ρ k) (opd ρ x)
 | _=>none
section
variable {P:Program}{C:Cfg}{gl:Nat→Bool}{T:Tr V}
theorem qny(st:St)(o:Oper):stepG P C gl st o=qkI P C gl st.ρ st o:=rfl
theorem qok(t:TypeId)(st:St)(x k v:V):Qcu P t (st.as T) x k v=(Qcu P t st x k v).map (·.as T):=by
 unfold Qcu
 rw[ql8]
 cases x with
 | mref r =>
  cases r with
  | loc s g=>cases exp false st v<;>rfl
  | glob r =>
   cases exp false st v with
   | none=>rfl
   | some p =>
    obtain⟨u,s⟩:=p
    simp only[Option.map_some,asV]
    show(match s.hp.rows[r]?,P.underlying t with
     | some (.mp ks vs),some (.map kt _)=>bif Qbc P kt k then (match Qb3 k ks 0 with
      | some (some j)=>some (Res.val (.tuple []) (setRow (s.as T) (.glob r) (.mp (ks.set j k) (vs.set j u))))
      | some none=>some (Res.val (.tuple []) (setRow (s.as T) (.glob r) (.mp (ks++[k]) (vs++[u]))))
      | none=>none)else none
     | _,_=>none)=_
    cases s.hp.rows[r]? with
    | none=>rfl
    | some row =>
     cases row with
     | mp ks vs =>
      cases P.underlying t with
      | none=>rfl
      | some d =>
       cases d with
       | map kt et =>
        simp only[qaS]
        cases Qbc P kt k with
        | false=>rfl
        | true =>
         simp only[cond_true]
         cases Qb3 k ks 0 with
         | none=>rfl
         | some q=>cases q<;>rfl
       | _=>rfl
     | _=>rfl
 | _=>cases exp false st v<;>rfl
theorem qp1(ρ:Nat→V)(st:St)(o:Oper):qkI P C gl ρ (st.as T) o=(qkI P C gl ρ st o).map (·.as T):=by
 unfold qkI
 cases o.op with
 | load t x =>
  simp only[]
  split
  ·rename_i r off _
   show(match st.hp.rows[r]? with | some (Row.cells _ cs)=>(QaV P t cs off).map (Res.val · (st.as T)) | _=>none)=_
   cases st.hp.rows[r]? with
   | none=>rfl
   | some row =>
    cases row with
    | cells b cs=>simp only[];cases QaV P t cs off<;>rfl
    | _=>rfl
  ·rfl
 | store t a x =>
  simp only[ql8]
  split
  ·rename_i r off _
   show(match st.hp.rows[r]?,(exp false st (opd ρ x)).map (asV · T)with
    | some (.cells false _),some (v,st')=>(match st'.hp.rows[r]? with
     | some (.cells false cs)=>bif v.cells.all V.Qaw&&QaR P t v.cells.length then
       (match setAt cs off v.cells with
       | some cs'=>some (Res.val (.tuple []) (setRow st' (.glob r) (.cells false cs')))
       | none=>none)
      else none
     | _=>none)
    | _,_=>none)=_
   cases st.hp.rows[r]? with
   | none=>rfl
   | some row =>
    cases row with
    | cells frz cs0 =>
     cases frz with
     | true=>rfl
     | false =>
      cases exp false st (opd ρ x)with
      | none=>rfl
      | some p =>
       obtain⟨v,s⟩:=p
       simp only[Option.map_some,asV]
       show(match s.hp.rows[r]? with
        | some (.cells false cs)=>bif v.cells.all V.Qaw&&QaR P t v.cells.length then
          (match setAt cs off v.cells with
          | some cs'=>some (Res.val (.tuple []) (setRow (s.as T) (.glob r) (.cells false cs')))
          | none=>none)
         else none
        | _=>none)=_
       split
       ·rw[qaS]
        refine congrArg (fun q=>bif _ then q else _) ?_
        cases setAt _ off v.cells<;>rfl
       ·rfl
    | _=>rfl
  ·rfl
 | alloc t =>
  simp only[qcr]
  cases o.dst with
  | none=>rfl
  | some d =>
   simp only[]
   split
   ·rw[qaS];rfl
   ·rfl
 | box t x =>
  simp only[ql8]
  cases o.dst with
  | none=>rfl
  | some d =>
   simp only[]
   cases exp false st (opd ρ x)with
   | none=>rfl
   | some p=>obtain⟨v,s⟩:=p;simp only[Option.map_some,asV,qcr,qaS];rfl
 | build t ps =>
  simp only[qc9]
  cases exps true st (opds ρ (ps.toList.map (·.2)))with
  | none=>simp only[Option.map_none];split<;>first | rfl | (rename_i h;simp at h)
  | some p =>
   obtain⟨l,s⟩:=p
   simp only[Option.map_some,asV]
   split
   ·rename_i fs z l' s' h1 h2 h3
    simp only[Option.some.injEq,Prod.mk.injEq]at h3
    obtain⟨rfl,rfl⟩:=h3
    simp only[qaS,Option.map_none,h1,h2]
    refine congrArg (fun q=>bif _ then _ else q) ?_
    split<;>rfl
   ·rename_i hn
    split
    ·rename_i fs z l' s' h1 h2 h3
     exact(hn fs z l' (s'.as T) h1 h2 (by simp at h3;rw[h3.1,h3.2])).elim
    ·rfl
 | buildSlice t len ps =>
  simp only[qc9]
  cases QaB P t with
  | none=>rfl
  | some e =>
   cases o.dst with
   | none=>rfl
   | some d =>
    simp only[]
    cases Qax P e with
    | none=>rfl
    | some lay =>
     obtain⟨n,ag⟩:=lay
     cases zeroV P e with
     | none=>rfl
     | some z =>
      cases exps false st (opds ρ (ps.toList.map (·.2)))with
      | none=>rfl
      | some p =>
       obtain⟨l,s⟩:=p
       simp only[Option.map_some,asV,qaS,Option.map_none]
       refine congrArg (fun q=>bif _ then q else _) ?_
       split
       ·simp only[qcr];rfl
       ·rfl
 | makeSlice t l c =>
  simp only[qqy]
  cases o.dst<;>rfl
 | convert s t x =>
  simp only[qsz]
  cases o.dst<;>rfl
 | next x isStr =>
  simp only[qcl]
  split
  ·split
   ·rw[qaS];simp only[qcd];rfl
   ·rfl
  ·rfl
 | call c=>simp only[qsF]
 | makeMap t rs =>
  cases rs with
  | some x=>rfl
  | none=>cases o.dst<;>rfl
 | lookup t x i b =>
  show(Qcl P t st.hp (opd ρ x) (opd ρ i) b).map (Res.val · (st.as T))=((Qcl P t st.hp (opd ρ x) (opd ρ i) b).map (Res.val · st)).map (·.as T)
  cases Qcl P t st.hp (opd ρ x) (opd ρ i) b<;>rfl
 | mapUpdate t m k x=>simp only[qok]
 | insert t m k x=>simp only[qok]
 | panic x =>
  simp only[]
  split
  ·rw[qaS];rfl
  ·rfl
 | _=>rfl
theorem qdL{ρ σ:Nat→V}{l:List Operand}(h:∀ x ∈ l,opd ρ x=opd σ x):opds ρ l=opds σ l:=List.map_congr_left h
theorem qkH{ρ σ:Nat→V}{st:St}{o:Oper}(h:Agree ρ σ o):qkI P C gl ρ st o=qkI P C gl σ st o:=by
 unfold Agree at h
 unfold qkI
 cases ho:o.op with
 | load t x=>simp only[ho,Op.operands]at h;simp only[h x (by simp)]
 | store t a x=>simp only[ho,Op.operands]at h;simp only[h a (by simp),h x (by simp)]
 | box t x=>simp only[ho,Op.operands]at h;simp only[h x (by simp)]
 | build t ps =>
  simp only[ho,Op.operands]at h
  have:opds ρ (ps.toList.map (·.2))=opds σ (ps.toList.map (·.2)):=qdL (fun x hx=>h x (by simpa using hx))
  simp only[this]
 | buildSlice t len ps =>
  simp only[ho,Op.operands]at h
  have:opds ρ (ps.toList.map (·.2))=opds σ (ps.toList.map (·.2)):=qdL (fun x hx=>h x (by simpa using hx))
  simp only[this]
 | makeSlice t l c=>simp only[ho,Op.operands]at h;simp only[h l (by simp),h c (by simp)]
 | convert s t x=>simp only[ho,Op.operands]at h;simp only[h x (by simp)]
 | next x isStr=>simp only[ho,Op.operands]at h;simp only[h x (by simp)]
 | panic x=>simp only[ho,Op.operands]at h;simp only[h x (by simp)]
 | makeMap t rs=>cases rs<;>rfl
 | lookup t x i b=>simp only[ho,Op.operands]at h;simp only[h x (by simp),h i (by simp)]
 | mapUpdate t m k x=>simp only[ho,Op.operands]at h;simp only[h m (by simp),h k (by simp),h x (by simp)]
 | insert t m k x=>simp only[ho,Op.operands]at h;simp only[h m (by simp),h k (by simp),h x (by simp)]
 | call c =>
  simp only[ho,Op.operands,Call.operands]at h
  simp only[qpC]
  have ha:opds ρ c.args.toList=opds σ c.args.toList:=qdL (fun x hx=>h x (by simp[hx]))
  rw[ha]
  cases hc:c.callee with
  | value f=>simp only[h f (by simp[hc])]
  | _=>rfl
 | _=>rfl
theorem qgy{ρ σ:Nat→V}{lc:Nat→Nat × Row}{o:Oper}(h:Agree ρ σ o):Qal P C gl ρ lc o=Qal P C gl σ lc o:=by
 have hp:=qbz (P:=P) (C:=C) h
 unfold Agree at h
 unfold Qal
 cases ho:o.op with
 | load t x=>simp only[ho,Op.operands]at h;simp only[h x (by simp)]
 | store t a x=>simp only[ho,Op.operands]at h;simp only[h a (by simp),h x (by simp)]
 | alloc t=>rfl
 | box t x=>simp only[ho,Op.operands]at h;simp only[h x (by simp)]
 | range t x=>simp only[ho,Op.operands]at h;simp only[h x (by simp)]
 | _=>rw[ho]at hp;simp only[hp]
theorem qh4{st:St}{o:Oper}(h:Agree st.ρ (St.ρ (st.as T)) o):Qah P C gl (st.as T) o=(Qah P C gl st o).map (·.as T):=by
 unfold Qah
 rw[qny,qny,qp1,←qkH h,qyO,←qgy h]
 cases Qal P C gl st.ρ st.lc o with
 | none=>rfl
 | some p =>
  obtain⟨v,u⟩:=p
  cases u with
  | none=>rfl
  | some q=>rfl
end
end Go.AM
end
section
namespace Go.AM.S
open Go Go.AM
open _root_.Go.AM.G (R QbI Qca QcL Qb7 QcD Qdv Qcp Qac QcT onCells Qbs isStr Qei qBx int2 Qce)
abbrev Tm:=Tr V
abbrev Lo:=Tr (Nat × Row)
abbrev K:=Tm→Lo→Hp→R
noncomputable section
def jn{α β:Type}(c:α)(f:α→β):β:=f c
def bO(v:Option V)(f:V→R):R:=Option.rec (motive:=fun _=>(V→R)→R) (fun _=>none) (fun v f=>f v) v f
def gt(tm:Tm)(t:Nat):V:=F.Qci .dead (path t) tm
def pt(tm:Tm)(t:Nat)(v:V):Tm:=F.Qdt v (path t) tm
def bin(P:Program)(op:BinOp)(t:TypeId)(cn:Bool)(x y:V):Option V :=
 QbI x (fun k a=>QbI y (fun k' b=>bif Nat.beq (Qce k) (Qce k')then int2 op k a b else F.Qct op (.int k a) (.int k' b)) none)
  (QcL x (fun a=>QcL y (fun b=>Qcz op a b) none) (F.eqV op (P.underlying t) cn x y))
def pick(c a b:V):Option V:=Qca c (fun q=>Bool.rec (motive:=fun _=>Option V) (some b) (some a) q) none
def qx8(x:V):Option V:=Qb7 x (fun r o=>some (.ptr r o)) (fun cs=>some (.iptr cs)) none
def ext(x:V)(i:Nat):Option V:=QcD x (fun vs=>F.QbB vs i) none
def fa(P:Program)(t:TypeId)(x:V)(i:Nat):Option V :=
 Qac (F.Qat P t i) (fun f=>Qac (F.Qax P f.type) (fun _=>Qb7 x (fun r off=>some (.ptr r (Nat.add off f.offset))) (fun cs=>some (.iptr (F.QbJ cs f.offset))) none) none) none
def fld(P:Program)(t:TypeId)(x:V)(i:Nat):Option V :=
 Qac (F.Qat P t i) (fun f=>Qdv x (fun cs=>G.part (F.Qax P f.type) cs f.offset) none) none
def ia(P:Program)(t:TypeId)(x i:V):Option V :=
 QbI i (fun _ n=>Qac (F.QaB P t) (fun e=>Qac (F.Qax P e) (fun p=>Qcp x
  (fun sz l=>bif Nat.beq p.1 sz then Qbs n (fun m=>bif Nat.blt m (F.QaZ l)then Qac (F.QbB l m) (fun v=>some (.iptr v.cells)) none else none) none else none)
  (fun r off len sz ag=>bif Nat.beq p.1 sz then Qbs n (fun m=>bif Nat.blt m len then some (.ptr r (Nat.add off (Nat.mul m p.1)))else none) none else none) none) none) none) none
def idx(P:Program)(t:TypeId)(x i:V):Option V :=
 bif isStr (P.underlying t)then QcL x (fun s=>QbI i (fun _ n=>Qbs n (fun m=>bif Nat.blt m s.n then some (.int .u8 (.ofNat (s.get m)))else none) none) none) none else none
def ld(P:Program)(t:TypeId)(x:V)(loc:Lo)(hp:Hp):Option V :=
 Qb7 x (fun r off=>QcT r
   (fun s g=>onCells (F.Qci (0,.gone) (path s) loc).2 (fun _ cs=>bif Nat.beq g (F.Qci (0,.gone) (path s) loc).1 then G.part (F.Qax P t) cs off else none) none)
   (fun r=>Qac (F.QbB hp.rows r) (fun row=>onCells row (fun _ cs=>G.part (F.Qax P t) cs off) none) none))
  (fun cs=>G.part (F.Qax P t) cs 0) none
def len(d:Option TypeDesc)(x:V):Option V :=
 Qcp x (fun _ l=>bif Qei d then some (.int .i64 (.ofNat (F.QaZ l)))else none) (fun _ _ n _ _=>bif Qei d then some (.int .i64 (.ofNat n))else none)
  (QcL x (fun s=>bif isStr d then some (.int .i64 (.ofNat s.n))else none) (G.Qel d x))
def Qeq(x:Option V)(f:Option Int→Option V):Option V :=
 Option.rec (motive:=fun _=>(Option Int→Option V)→Option V) (fun f=>f none) (fun v f=>QbI v (fun _ n=>f (some n)) none) x f
def slc(P:Program)(t:TypeId)(x:V)(lo hi mx:Option V):Option V:=Qeq lo fun lo=>Qeq hi fun hi=>Qeq mx fun mx=>F.Qbd P t x lo hi mx
def Qed(sz:Nat)(ps:List (Nat × V))(l:List V):Option (List V) :=
 List.rec (motive:=fun _=>List V→Option (List V)) (fun l=>some l) (fun p _ ih l =>
  jn (F.Qc5 p.2) fun v=>bif v.live&&F.Qbk v&&Nat.beq (F.QaZ v.cells) sz&&Nat.blt p.1 (F.QaZ l)then ih (F.Qdh l p.1 v)else none) ps l
def bs(P:Program)(t:TypeId)(len:Nat)(ps:List (Nat × V)):Option V :=
 Qac (F.QaB P t) (fun e=>Qac (F.Qax P e) (fun p=>Qac (F.zeroV P e) (fun z =>
  bif Nat.ble (Nat.mul len p.1) 16777216&&F.Qbk z&&z.live&&Nat.beq (F.QaZ z.cells) p.1 then Qac (Qed p.1 ps (F.QdU len z)) (fun l=>some (.slice none true p.1 l)) none else none) none) none) none
def mnV(x y:V):Option V:=QbI x (fun k a=>QbI y (fun _ b=>some (.int k (Bool.rec (motive:=fun _=>Int) a b (F.ltI b a)))) none) none
def mxV(x y:V):Option V:=QbI x (fun k a=>QbI y (fun _ b=>some (.int k (Bool.rec (motive:=fun _=>Int) a b (F.ltI a b)))) none) none
def Qd0(c:Call):Nat:=match c.callee,c.args.toList with
 | .builtin .min,[_,_]=>1
 | .builtin .max,[_,_]=>2
 | _,_=>0
def wv(v:V)(w:Bool):Option Bool:=match v with
 | .bool b=>some (b == w)
 | .dead=>none
 | _=>some false
def brB(b:Option Bool)(x y:R):R:=Qac b (fun b=>Bool.rec (motive:=fun _=>R) x y b) none
def al(P:Program)(t:TypeId)(d:Nat)(loc:Lo)(j:V→Lo→R):R :=
 Qac (F.zeroV P t) (fun z=>Qac (F.QbG P t) (fun n=>bif z.live&&Nat.beq (F.QaZ z.cells) n then
  (jn (Nat.succ (F.Qci (0,.gone) (path d) loc).1) fun g=>j (.ptr (.loc d g) 0) (F.Qdt (g,.cells false z.cells) (path d) loc))else none) none) none
def stL(P:Program)(t:TypeId)(s g off:Nat)(x:V)(loc:Lo)(j:Lo→R):R :=
 onCells (F.Qci (0,.gone) (path s) loc).2 (fun frz cs=>Bool.rec (motive:=fun _=>R)
  (bif Nat.beq g (F.Qci (0,.gone) (path s) loc).1&&F.QcN V.Qaw x.cells&&F.QaR P t (F.QaZ x.cells)then
   Qac (F.setAt cs off x.cells) (fun cs'=>j (F.Qdt (g,.cells false cs') (path s) loc)) none else none) none frz) none
def Qef(r:Option Out)(loc:Lo)(tm:Tm)(j:V→Hp→R):R :=
 Qac r (fun out=>Out.rec (motive:=fun _=>Tm→Lo→(V→Hp→R)→R) (fun v h _ _ j=>j v h) (fun v h tm loc _=>some (.panic v,⟨tm,loc,h⟩)) out tm loc j) none
def cl(call:Qad)(f:FuncId)(args:List V)(tm:Tm)(loc:Lo)(hp:Hp)(j:V→Lo→Hp→R):R :=
 Qac (F.exps false ⟨.lf,loc,hp⟩ args) (fun p=>Qef (call f p.1 p.2.hp) p.2.loc tm (fun v h=>j v p.2.loc h)) none
def gtO(tm:Tm)(d:Option Nat):V:=Option.rec (motive:=fun _=>V) (.tuple []) (fun d=>gt tm d) d
def gen(P:Program)(C:Cfg)(call:Qad)(gl:Nat→Bool)(o:Oper)(tm' tm:Tm)(loc:Lo)(hp:Hp)(j:V→Lo→Hp→R):R :=
 Qac (F.QaA P C call gl ⟨tm',loc,hp⟩ o) (fun p=>Ex.rec (motive:=fun _=>Tm→(V→Lo→Hp→R)→St→R) (fun _ j st=>j (gtO st.tm o.dst) st.loc st.hp)
  (fun _ _ _ _=>none) (fun _ _ _=>none) (fun v tm _ st=>some (.panic v,⟨tm,st.loc,st.hp⟩)) p.1 tm j p.2) none
def lkT(env:List (Nat × V))(tm:Tm)(t:Nat):V:=List.rec (motive:=fun _=>V) (gt tm t) (fun p _ ih=>bif Nat.beq p.1 t then p.2 else ih) env
def lk(env:List (Nat × V))(tm:Tm)(x:Operand):V:=match x with
 | .tmp t=>lkT env tm t
 | .const v=>QdT v
 | .func f=>.fn (.func f) [] []
 | .global _=>.dead
def psh(d:Option Nat)(v:V)(env:List (Nat × V)):List (Nat × V):=match d with
 | none=>env
 | some d=>(d,v)::env
def tmpsOf(o:Oper):List Nat:=o.op.operands.toList.filterMap fun | .tmp t=>some t | _=>none
def lay(env:List (Nat × V))(tm:Tm)(l:List Nat):Tm:=l.foldl (fun T t=>pt T t (lkT env tm t)) tm
def qiQ(keeps:List Nat)(tm:Tm):List (Nat × V)→List Nat→Tm
 | [],_=>tm
 | (d,v)::env,seen=>bif keeps.contains d && !seen.contains d then pt (qiQ keeps tm env (d::seen)) d v else qiQ keeps tm env seen
def ft0:Foot:=⟨[],[],false,false,false,false⟩
def ldF(x:V):Foot:=G.Qb7 x (fun r _=>G.QcT r (fun s _=>⟨[s],[],false,false,false,false⟩) (fun _=>⟨[],[],true,false,true,false⟩)) (fun _=>ft0) ft0
abbrev JD:=V→Foot→Lo→Hp→R
abbrev XD:=V→Foot→Hp→R
def QdW(l:List Foot)(acc:List Foot):List Foot:=List.rec (motive:=fun _=>List Foot→List Foot) (fun acc=>acc) (fun x _ ih acc=>ih (x::acc)) l acc
def qx9(env:List (Nat × V))(tm:Tm):Tm:=List.rec (motive:=fun _=>Tm) tm (fun p _ ih=>pt ih p.1 p.2) env
def clD(call:Qad)(f:FuncId)(args:List V)(loc:Lo)(hp:Hp)(j:JD)(x:XD):R :=
 bif F.QcN quiet args then Qac (F.exps false ⟨.lf,loc,hp⟩ args) (fun p=>Qac (call f p.1 p.2.hp) (fun out=>Out.rec (motive:=fun _=>R) (fun v h=>j v (F.settle hp h ⟨[],[],true,true,false,false⟩) p.2.loc h) (fun v h=>x v ⟨[],[],true,true,false,false⟩ h) out) none) none else none
def qgN(P:Program)(C:Cfg)(call:Qad)(gl:Nat→Bool)(o:Oper)(tm':Tm)(loc:Lo)(hp:Hp)(j:JD)(x:XD):R :=
 Qac (F.Qaz P C gl (F.rho ⟨tm',loc,hp⟩) (F.lcf ⟨tm',loc,hp⟩) o) (fun ft=>Qac (F.QaA P C call gl ⟨tm',loc,hp⟩ o) (fun p=>Ex.rec (motive:=fun _=>R) (j (gtO p.2.tm o.dst) (F.settle hp p.2.hp ft) p.2.loc p.2.hp) (fun _=>none) none
  (fun v=>bif F.Qa6 o then x v ft p.2.hp else none) p.1) none) none
def chk(ops:List Oper)(P1 P2:List (Nat × Nat))(l:List Foot):Bool:=F.QaL l P1&&(!F.Qbx l ops || F.QaL l P2)
def Qbw(ops:List Oper)(P1 P2:List (Nat × Nat))(fs:List Foot)(x:R):R:=jn (QdW fs []) fun l=>bif chk ops P1 P2 l then x else none
def qmo(P:Program)(C:Cfg)(call:Qad)(gl:Nat→Bool)(all:Array Oper)(P1 P2:List (Nat × Nat))(k:Nat)(d:Option Nat)(env:List (Nat × V))(fs:List Foot)(tm:Tm)(loc:Lo)(hp:Hp):XD:=fun v ft h =>
 Qac (F.Qaq P C call gl all (F.QbJ all.toList (Nat.succ k)) (Nat.succ k) (some (k,v,h)) ⟨qx9 (psh d (.tuple []) env) tm,loc,hp⟩) (fun r=>Qac r.2.2 (fun q =>
  jn (QdW fs (ft::r.1)) fun l=>bif chk all.toList P1 P2 l&&F.traceless ((F.masks all.toList []).getD q.1 0) l 0 then some (.panic q.2.1,⟨tm,r.2.1.loc,q.2.2⟩)else none) none) none
variable (P:Program)(C:Cfg)
def stp(call:Qad)(gl:Nat→Bool)(o:Oper)(env:List (Nat × V))(tm:Tm)(loc:Lo)(hp:Hp)(j:V→Lo→Hp→R):R :=
 match o.op with
 | .move x=>j (lk env tm x) loc hp
 | .assign x=>j (lk env tm x) loc hp
 | .pick c a b=>bO (pick (lk env tm c) (lk env tm a) (lk env tm b)) fun v=>j v loc hp
 | .nilCheck x=>bO (qx8 (lk env tm x)) fun v=>j v loc hp
 | .binOp op t x y _=>bO (bin P op t (isConst x || isConst y) (lk env tm x) (lk env tm y)) fun v=>j v loc hp
 | .unOp op _ x=>bO (G.un op (lk env tm x)) fun v=>j v loc hp
 | .extract x i=>bO (ext (lk env tm x) i) fun v=>j v loc hp
 | .fieldAddr t x i=>bO (fa P t (lk env tm x) i) fun v=>j v loc hp
 | .field t x i=>bO (fld P t (lk env tm x) i) fun v=>j v loc hp
 | .indexAddr t x i=>bO (ia P t (lk env tm x) (lk env tm i)) fun v=>j v loc hp
 | .index t x i=>bO (idx P t (lk env tm x) (lk env tm i)) fun v=>j v loc hp
 | .load t x=>bO (ld P t (lk env tm x) loc hp) fun v=>j v loc hp
 | .slice t x lo hi mx=>bO (slc P t (lk env tm x) (lo.map (lk env tm)) (hi.map (lk env tm)) (mx.map (lk env tm))) fun v=>j v loc hp
 | .buildSlice t n ps=>(match C.QaN t with
  | false=>bO (bs P t n (ps.toList.map fun p=>(p.1,lk env tm p.2))) fun v=>j v loc hp
  | true=>gen P C call gl o (lay env tm (tmpsOf o)) tm loc hp j)
 | .alloc t=>(match o.dst,(match o.dst with | some d=>gl d | none=>true)with
  | some d,false=>al P t d loc (fun v loc=>j v loc hp)
  | _,_=>gen P C call gl o (lay env tm (tmpsOf o)) tm loc hp j)
 | .store t a x=>G.Qb7 (lk env tm a) (fun r off=>QcT r (fun s g=>stL P t s g off (lk env tm x) loc (fun loc=>j (.tuple []) loc hp))
   (fun _=>gen P C call gl o (lay env tm (tmpsOf o)) tm loc hp j)) (fun _=>none) none
 | .call c=>(match G.callee c with
  | (1,f)=>cl call f (c.args.toList.map (lk env tm)) tm loc hp j
  | (2,_)=>(match c.args.toList,c.argTypes[0]? with
   | [x],some t=>bO (len (P.underlying t) (lk env tm x)) fun v=>j v loc hp
   | _,_=>none)
  | _=>(match Qd0 c,c.args.toList with
   | 1,[x,y]=>bO (mnV (lk env tm x) (lk env tm y)) fun v=>j v loc hp
   | 2,[x,y]=>bO (mxV (lk env tm x) (lk env tm y)) fun v=>j v loc hp
   | _,_=>gen P C call gl o (lay env tm (tmpsOf o)) tm loc hp j))
 | _=>gen P C call gl o (lay env tm (tmpsOf o)) tm loc hp j
def comp(call:Qad)(gl:Nat→Bool)(all:Array Oper)(keeps:List Nat):List Oper→List (Nat × V)→Tm→Lo→Hp→K→R
 | [],env,tm,loc,hp,k=>k (qiQ keeps tm env []) loc hp
 | o::rest,env,tm,loc,hp,k=>match o.guard with
  | none=>stp P C call gl o env tm loc hp (fun v loc hp=>comp call gl all keeps rest (psh o.dst v env) tm loc hp k)
  | some (i,w)=>match (all[i]?).bind (·.dst)with
   | none=>none
   | some d=>jn (fun v loc hp=>comp call gl all keeps rest (psh o.dst v env) tm loc hp k) fun j =>
    brB (wv (lkT env tm d) w) (j (.tuple []) loc hp) (stp P C call gl o env tm loc hp j)
def qx6(call:Qad)(gl:Nat→Bool)(o:Oper)(env:List (Nat × V))(tm:Tm)(loc:Lo)(hp:Hp)(j:JD)(x:XD):R :=
 match o.op with
 | .move a=>j (lk env tm a) ft0 loc hp
 | .assign a=>j (lk env tm a) ft0 loc hp
 | .pick c a b=>bO (pick (lk env tm c) (lk env tm a) (lk env tm b)) fun v=>j v ft0 loc hp
 | .nilCheck a=>bO (qx8 (lk env tm a)) fun v=>j v ft0 loc hp
 | .binOp op t a b _=>bO (bin P op t (isConst a || isConst b) (lk env tm a) (lk env tm b)) fun v=>j v ft0 loc hp
 | .unOp op _ a=>bO (G.un op (lk env tm a)) fun v=>j v ft0 loc hp
 | .extract a i=>bO (ext (lk env tm a) i) fun v=>j v ft0 loc hp
 | .fieldAddr t a i=>bO (fa P t (lk env tm a) i) fun v=>j v ft0 loc hp
 | .field t a i=>bO (fld P t (lk env tm a) i) fun v=>j v ft0 loc hp
 | .indexAddr t a i=>bO (ia P t (lk env tm a) (lk env tm i)) fun v=>j v ft0 loc hp
 | .index t a i=>bO (idx P t (lk env tm a) (lk env tm i)) fun v=>j v ft0 loc hp
 | .load t a=>bO (ld P t (lk env tm a) loc hp) fun v=>j v (ldF (lk env tm a)) loc hp
 | .slice t a lo hi mx=>bO (slc P t (lk env tm a) (lo.map (lk env tm)) (hi.map (lk env tm)) (mx.map (lk env tm))) fun v=>j v ft0 loc hp
 | .call c=>(match G.callee c with
  | (1,f)=>clD call f (c.args.toList.map (lk env tm)) loc hp j x
  | (2,_)=>(match c.args.toList,c.argTypes[0]? with
   | [a],some t=>bO (len (P.underlying t) (lk env tm a)) fun v=>j v ft0 loc hp
   | _,_=>none)
  | _=>(match Qd0 c,c.args.toList with
   | 1,[a,b]=>bO (mnV (lk env tm a) (lk env tm b)) fun v=>j v ft0 loc hp
   | 2,[a,b]=>bO (mxV (lk env tm a) (lk env tm b)) fun v=>j v ft0 loc hp
   | _,_=>qgN P C call gl o (lay env tm (tmpsOf o)) loc hp j x))
 | _=>qgN P C call gl o (lay env tm (tmpsOf o)) loc hp j x
def QcM(call:Qad)(gl:Nat→Bool)(all:Array Oper)(keeps:List Nat)(P1 P2:List (Nat × Nat)):List Oper→Nat→List (Nat × V)→List Foot→Tm→Lo→Hp→K→R
 | [],k,env,fs,tm,loc,hp,kk=>Qbw all.toList P1 P2 fs (kk (qiQ keeps tm env []) loc hp)
 | o::rest,k,env,fs,tm,loc,hp,kk=>match o.guard with
  | none=>qx6 P C call gl o env tm loc hp (fun v ft loc hp=>QcM call gl all keeps P1 P2 rest (k+1) (psh o.dst v env) (ft::fs) tm loc hp kk) (qmo P C call gl all P1 P2 k o.dst env fs tm loc hp)
  | some (i,w)=>match (all[i]?).bind (·.dst)with
   | none=>none
   | some d=>jn (fun v ft loc hp=>QcM call gl all keeps P1 P2 rest (k+1) (psh o.dst v env) (ft::fs) tm loc hp kk) fun j =>
    brB (wv (lkT env tm d) w) (j (.tuple []) ft0 loc hp) (qx6 P C call gl o env tm loc hp j (qmo P C call gl all P1 P2 k o.dst env fs tm loc hp))
inductive RC where
 | skip
 | reg (f:Qad→Tm→Lo→Hp→K→R)
 | seq (a b:RC)
 | cond (x:Operand) (a b:RC)
 | block (id:Nat) (b:RC)
 | loop (b:RC)
 | exit (id:Nat)
 | ret
 | bad
def mild(o:Oper):Bool:=match o.op with
 | .move _ | .assign _ | .pick _ _ _ | .nilCheck _ | .unOp _ _ _ | .extract _ _ | .fieldAddr _ _ _ | .field _ _ _ | .indexAddr _ _ _ | .index _ _ _ | .load _ _ | .binOp _ _ _ _ _ | .slice _ _ _ _ _=>true
 | .call c=>Nat.beq (G.callee c).1 2 || !Nat.beq (Qd0 c) 0
 | _=>false
def qn9(f id:Nat)(ops:Array Oper):Bool:=ops.toList.all mild&&(C.pairs f id).isEmpty&&(C.QaU f id).isEmpty
def Qdd(keeps:List Nat)(f:FuncId):Code→RC
 | .skip=>.skip
 | .region id ops draw=>.reg (bif !draw || qn9 C f id ops then (fun call tm loc hp k=>comp P C call (C.glob f) ops keeps ops.toList [] tm loc hp k)
   else (fun call tm loc hp k=>QcM P C call (C.glob f) ops keeps (C.pairs f id) (C.QaU f id) ops.toList 0 [] [] tm loc hp k))
 | .seq a b=>.seq (Qdd keeps f a) (Qdd keeps f b)
 | .cond c a b=>.cond c (Qdd keeps f a) (Qdd keeps f b)
 | .block id b=>.block id (Qdd keeps f b)
 | .loop b=>.loop (Qdd keeps f b)
 | .exit i=>.exit i
 | .ret=>.ret
 | _=>.bad
def done:K:=fun tm loc hp=>some (.normal,⟨tm,loc,hp⟩)
def run(call:Qad)(fuel:Nat)(c:RC)(tm:Tm)(loc:Lo)(hp:Hp)(k:K):R :=
 RC.rec (motive:=fun _=>Tm→Lo→Hp→K→R)
  (fun tm loc hp k=>k tm loc hp)
  (fun f tm loc hp k=>f call tm loc hp k)
  (fun _ _ iha ihb tm loc hp k=>iha tm loc hp (fun tm loc hp=>ihb tm loc hp k))
  (fun x _ _ iha ihb tm loc hp k=>Qca (lk [] tm x) (fun b=>Bool.rec (motive:=fun _=>R) (ihb tm loc hp k) (iha tm loc hp k) b) none)
  (fun id _ ih tm loc hp k=>Qac (ih tm loc hp done) (fun p=>Ex.rec (motive:=fun _=>Nat→K→St→R) (fun _ k st=>k st.tm st.loc st.hp)
   (fun i id k st=>bif Nat.beq i id then k st.tm st.loc st.hp else some (.exit i,st)) (fun _ _ st=>some (.ret,st)) (fun v _ _ st=>some (.panic v,st)) p.1 id k p.2) none)
  (fun _ ih tm loc hp k=>Nat.rec (motive:=fun _=>K) (fun _ _ _=>none) (fun _ il tm loc hp=>ih tm loc hp il) fuel tm loc hp)
  (fun i tm loc hp _=>some (.exit i,⟨tm,loc,hp⟩))
  (fun tm loc hp _=>some (.ret,⟨tm,loc,hp⟩))
  (fun _ _ _ _=>none)
  c tm loc hp k
structure Fc where
 rc:RC
 res:List ResultVar
def body(tbl:Nat→Option Fc)(call:Qad)(fuel:Nat)(f:FuncId)(args:List V)(h:Hp):Option Out :=
 Qac (tbl f) (fun fc=>Qac (run call fuel fc.rc (F.QaE args) .lf { h with dirty:=none } done) (fun p=>Ex.rec (motive:=fun _=>St→Option Out)
  (fun st=>Qac (F.Qbj P st fc.res) (fun l=>Qac (F.exps false st l) (fun q=>match q.1 with
   | [v]=>some (.val v (F.Qar h q.2.hp [v]))
   | vs=>some (.val (.tuple vs) (F.Qar h q.2.hp vs))) none) none)
  (fun _ _=>none)
  (fun st=>Qac (F.Qbj P st fc.res) (fun l=>Qac (F.exps false st l) (fun q=>match q.1 with
   | [v]=>some (.val v (F.Qar h q.2.hp [v]))
   | vs=>some (.val (.tuple vs) (F.Qar h q.2.hp vs))) none) none)
  (fun v st=>some (.panic v (F.Qar h st.hp [v]))) p.1 p.2) none) none
def fn(kn:Kn)(tbl:Nat→Option Fc)(n:Nat):Qad :=
 Nat.rec (motive:=fun _=>Qad) (fun _ _ _=>none) (fun n ih f args h=>Qac (kn f) (fun k=>k ih args h) (body P tbl ih n f args h)) n
end
end Go.AM.S
end
section
namespace Go.AM.S
open Go Go.AM
open _root_.Go.AM.G (R next qcg qdq qcK qbj Qck qat)
theorem qcN(tm:Tm)(t:Nat):gt tm t=aget .dead tm t:=F.QbV _ _ _
theorem qjN(tm:Tm)(t:Nat)(v:V):pt tm t v=aset tm t v:=F.Qcc _ _ _
def Ag(keeps:List Nat)(T T':Tm):Prop:=∀ t ∈ keeps,aget .dead T t=aget .dead T' t
def Qa9(keeps:List Nat)(r r':R):Prop:=match r,r' with
 | none,none=>True
 | some (e,s),some (e',s')=>e=e'∧s.loc=s'.loc∧s.hp=s'.hp∧((∃ v,e=.panic v)∨Ag keeps s.tm s'.tm)
 | _,_=>False
section
variable {P:Program}{C:Cfg}{call:Qad}{gl:Nat→Bool}{o:Oper}{st:St}{env:List (Nat × V)}{tm:Tm}{keeps:List Nat}
theorem qcD(h:∀ t ∈ tmpsOf o,aget .dead st.tm t=lkT env tm t){x:Operand}(hx:x ∈ o.op.operands.toList):AM.opd st.ρ x=lk env tm x:=by
 cases x with
 | tmp t=>exact h t (by unfold tmpsOf;rw[List.mem_filterMap];exact⟨.tmp t,hx,rfl⟩)
 | _=>rfl
theorem qb2(h:∀ t ∈ tmpsOf o,aget .dead st.tm t=lkT env tm t){x:Operand}(hx:x ∈ o.op.operands.toList):G.opd x st=lk env tm x:=by
 rw[qbj];exact qcD h hx
theorem qby{v:Option V}{kk:G.K}{j:V→Lo→Hp→R}(ho:next (QaA P C call gl st o) kk=next (v.map fun v=>(Ex.normal,QaF st o.dst v)) kk)
  (hj:∀ v l h,Qa9 keeps (kk (QaF { st with loc:=l,hp:=h } o.dst v)) (j v l h)):Qa9 keeps (next (QaA P C call gl st o) kk) (bO v fun v=>j v st.loc st.hp):=by
 rw[ho]
 cases v with
 | none=>trivial
 | some v=>exact hj v st.loc st.hp
theorem qea(d:Option Nat)(v:Option V)(k:G.K):G.okO d st v k=next (v.map fun v=>(Ex.normal,QaF st d v)) k:=qcK d st v k
theorem qtV{c a b:Operand}{k:G.K}:G.Qd8 c a b P C call gl o st k=G.okO o.dst st (pick (G.opd c st) (G.opd a st) (G.opd b st)) k:=by
 show G.Qca (G.opd c st) (fun q=>Bool.rec (motive:=fun _=>R) (G.ok o.dst st (G.opd b st) k) (G.ok o.dst st (G.opd a st) k) q) none=_
 cases G.opd c st with
 | bool q=>cases q<;>rfl
 | _=>rfl
theorem qxG{x:Operand}{i:Nat}{k:G.K}:G.Qdb x i P C call gl o st k=G.okO o.dst st (ext (G.opd x st) i) k:=by
 show G.QcD (G.opd x st) (fun vs=>G.okO o.dst st (F.QbB vs i) k) none=_
 cases G.opd x st<;>rfl
theorem qyI{t:TypeId}{x:Operand}{i:Nat}{k:G.K}:G.QcI t x i P C call gl o st k=G.okO o.dst st (fa P t (G.opd x st) i) k:=by
 show G.Qac (F.Qat P t i) (fun f=>G.Qac (F.Qax P f.type) (fun _=>G.Qb7 (G.opd x st) (fun r off=>G.ok o.dst st (.ptr r (Nat.add off f.offset)) k) (fun cs=>G.ok o.dst st (.iptr (F.QbJ cs f.offset)) k) none) none) none=_
 unfold fa
 cases F.Qat P t i with
 | none=>rfl
 | some f =>
  show G.Qac (F.Qax P f.type) _ none=G.okO o.dst st (G.Qac (F.Qax P f.type) _ none) k
  cases F.Qax P f.type with
  | none=>rfl
  | some p=>cases G.opd x st<;>rfl
theorem qxF{t:TypeId}{x:Operand}{i:Nat}{k:G.K}:G.QdO t x i P C call gl o st k=G.okO o.dst st (fld P t (G.opd x st) i) k:=by
 show G.Qac (F.Qat P t i) (fun f=>G.Qdv (G.opd x st) (fun cs=>G.okO o.dst st (G.part (F.Qax P f.type) cs f.offset) k) none) none=_
 unfold fld
 cases F.Qat P t i with
 | none=>rfl
 | some f=>cases G.opd x st<;>rfl
theorem qk1{n:Int}{m:Nat}{f:Nat→Option V}{k:G.K}{d:Option Nat}:G.Qbs n (fun q=>bif Nat.blt q m then G.okO d st (f q) k else none) none=G.okO d st (G.Qbs n (fun q=>bif Nat.blt q m then f q else none) none) k:=by
 cases n with
 | ofNat q=>show(bif Nat.blt q m then G.okO d st (f q) k else none)=G.okO d st (bif Nat.blt q m then f q else none) k;cases Nat.blt q m<;>rfl
 | negSucc q=>rfl
theorem qyx{t:TypeId}{x i:Operand}{k:G.K}:G.QcH t x i P C call gl o st k=G.okO o.dst st (ia P t (G.opd x st) (G.opd i st)) k:=by
 show G.QbI (G.opd i st) (fun _ n=>G.Qac (F.QaB P t) (fun e=>G.Qac (F.Qax P e) (fun p=>G.Qcp (G.opd x st)
  (fun sz l=>bif Nat.beq p.1 sz then G.Qbs n (fun m=>bif Nat.blt m (F.QaZ l)then G.Qac (F.QbB l m) (fun v=>G.ok o.dst st (.iptr v.cells) k) none else none) none else none)
  (fun r off len sz ag=>bif Nat.beq p.1 sz then G.Qbs n (fun m=>bif Nat.blt m len then G.ok o.dst st (.ptr r (Nat.add off (Nat.mul m p.1))) k else none) none else none) none) none) none) none=_
 unfold ia
 cases G.opd i st with
 | int ki n =>
  show G.Qac (F.QaB P t) _ none=G.okO o.dst st (G.Qac (F.QaB P t) _ none) k
  cases F.QaB P t with
  | none=>rfl
  | some e =>
   show G.Qac (F.Qax P e) _ none=G.okO o.dst st (G.Qac (F.Qax P e) _ none) k
   cases F.Qax P e with
   | none=>rfl
   | some p =>
    cases G.opd x st with
    | slice tok full sz l =>
     show(bif Nat.beq p.1 sz then G.Qbs n (fun m=>bif Nat.blt m (F.QaZ l)then G.Qac (F.QbB l m) (fun v=>G.ok o.dst st (.iptr v.cells) k) none else none) none else none) =
      G.okO o.dst st (bif Nat.beq p.1 sz then G.Qbs n (fun m=>bif Nat.blt m (F.QaZ l)then G.Qac (F.QbB l m) (fun v=>some (.iptr v.cells)) none else none) none else none) k
     cases Nat.beq p.1 sz with
     | false=>rfl
     | true =>
      simp only[cond_true]
      rw[←qk1]
      congr 1
      funext m
      cases Nat.blt m (F.QaZ l)with
      | false=>rfl
      | true=>simp only[cond_true];cases F.QbB l m<;>rfl
    | arr r off len lim sz ag =>
     show(bif Nat.beq p.1 sz then G.Qbs n (fun m=>bif Nat.blt m len then G.ok o.dst st (.ptr r (Nat.add off (Nat.mul m p.1))) k else none) none else none) =
      G.okO o.dst st (bif Nat.beq p.1 sz then G.Qbs n (fun m=>bif Nat.blt m len then some (.ptr r (Nat.add off (Nat.mul m p.1)))else none) none else none) k
     cases Nat.beq p.1 sz with
     | false=>rfl
     | true=>simp only[cond_true];rw[←qk1];rfl
    | _=>rfl
 | _=>rfl
theorem qxu{t:TypeId}{x i:Operand}{k:G.K}:G.QdN t x i P C call gl o st k=G.okO o.dst st (idx P t (G.opd x st) (G.opd i st)) k:=by
 show(bif G.isStr (P.underlying t)then G.QcL (G.opd x st) (fun s=>G.QbI (G.opd i st) (fun _ n=>G.Qbs n (fun m=>bif Nat.blt m s.n then G.ok o.dst st (.int .u8 (.ofNat (s.get m))) k else none) none) none) none else none)=_
 unfold idx
 cases G.isStr (P.underlying t)with
 | false=>rfl
 | true =>
  simp only[cond_true]
  cases G.opd x st with
  | str s =>
   cases G.opd i st with
   | int ki n =>
    show G.Qbs n (fun m=>bif Nat.blt m s.n then G.ok o.dst st (.int .u8 (.ofNat (s.get m))) k else none) none=G.okO o.dst st (G.Qbs n (fun m=>bif Nat.blt m s.n then some (.int .u8 (.ofNat (s.get m)))else none) none) k
    rw[←qk1];rfl
   | _=>rfl
  | _=>rfl
theorem qyu{t:TypeId}{x:Operand}{k:G.K}:G.Qd9 t x P C call gl o st k=G.okO o.dst st (ld P t (G.opd x st) st.loc st.hp) k:=by
 show G.Qb7 (G.opd x st) (fun r off=>G.QcT r
   (fun s g=>G.onCells (F.Qci (0,.gone) (path s) st.loc).2 (fun _ cs=>bif Nat.beq g (F.Qci (0,.gone) (path s) st.loc).1 then G.okO o.dst st (G.part (F.Qax P t) cs off) k else none) none)
   (fun r=>G.Qac (F.QbB st.hp.rows r) (fun row=>G.onCells row (fun _ cs=>G.okO o.dst st (G.part (F.Qax P t) cs off) k) none) none))
  (fun cs=>G.okO o.dst st (G.part (F.Qax P t) cs 0) k) none=_
 unfold ld
 cases G.opd x st with
 | ptr r off =>
  cases r with
  | loc s g =>
   show G.onCells (F.Qci (0,.gone) (path s) st.loc).2 (fun _ cs=>bif Nat.beq g (F.Qci (0,.gone) (path s) st.loc).1 then G.okO o.dst st (G.part (F.Qax P t) cs off) k else none) none =
    G.okO o.dst st (G.onCells (F.Qci (0,.gone) (path s) st.loc).2 (fun _ cs=>bif Nat.beq g (F.Qci (0,.gone) (path s) st.loc).1 then G.part (F.Qax P t) cs off else none) none) k
   cases(F.Qci (0,.gone) (path s) st.loc).2 with
   | cells b cs =>
    show(bif Nat.beq g (F.Qci (0,.gone) (path s) st.loc).1 then G.okO o.dst st (G.part (F.Qax P t) cs off) k else none)=G.okO o.dst st (bif Nat.beq g (F.Qci (0,.gone) (path s) st.loc).1 then G.part (F.Qax P t) cs off else none) k
    cases Nat.beq g (F.Qci (0,.gone) (path s) st.loc).1<;>rfl
   | _=>rfl
  | glob r =>
   show G.Qac (F.QbB st.hp.rows r) (fun row=>G.onCells row (fun _ cs=>G.okO o.dst st (G.part (F.Qax P t) cs off) k) none) none =
    G.okO o.dst st (G.Qac (F.QbB st.hp.rows r) (fun row=>G.onCells row (fun _ cs=>G.part (F.Qax P t) cs off) none) none) k
   cases F.QbB st.hp.rows r with
   | none=>rfl
   | some row=>cases row<;>rfl
 | _=>rfl
theorem qxr(d:Option TypeDesc)(x:V):len d x=G.Qel d x:=by
 unfold len
 have hs:∀ n:Nat,(bif G.Qei d then some (V.int .i64 (.ofNat n))else none)=(match d with | some (.slice _)=>some (V.int .i64 n) | _=>none):=by
  intro n
  cases d with
  | none=>rfl
  | some d=>cases d<;>rfl
 cases x with
 | slice tok full sz l =>
  show(bif G.Qei d then some (V.int .i64 (.ofNat (F.QaZ l)))else none)=_
  rw[F.QaH,hs]
  cases d with
  | none=>rfl
  | some d=>cases d<;>rfl
 | arr r off n lim sz ag =>
  show(bif G.Qei d then some (V.int .i64 (.ofNat n))else none)=_
  rw[hs]
  cases d with
  | none=>rfl
  | some d=>cases d<;>rfl
 | str s =>
  show(bif G.isStr d then some (V.int .i64 (.ofNat s.n))else none)=_
  cases d with
  | none=>rfl
  | some d=>cases d<;>rfl
 | _=>rfl
theorem qxg{x:Operand}{kk:G.K}(h:o.op=.nilCheck x):next (QaA P C call gl st o) kk=next ((qx8 (AM.opd st.ρ x)).map fun v=>(Ex.normal,QaF st o.dst v)) kk:=by
 rw[qat (v:=qx8 (AM.opd st.ρ x)) (by
  simp only[Qal,h,Qam]
  cases AM.opd st.ρ x<;>rfl) (by intro _;simp only[stepG,h])]
theorem qtX{x:Option Operand}{f:Option Int→Option V}:Qeq (x.map (AM.opd st.ρ)) f=match QaK st.ρ x with | some n=>f n | none=>none:=by
 cases x with
 | none=>rfl
 | some x =>
  show G.QbI (AM.opd st.ρ x) (fun _ n=>f (some n)) none=_
  simp only[QaK]
  cases AM.opd st.ρ x<;>rfl
theorem qw8{t:TypeId}{x:Operand}{lo hi mx:Option Operand}{kk:G.K}(h:o.op=.slice t x lo hi mx) :
  next (QaA P C call gl st o) kk=next ((slc P t (AM.opd st.ρ x) (lo.map (AM.opd st.ρ)) (hi.map (AM.opd st.ρ)) (mx.map (AM.opd st.ρ))).map fun v=>(Ex.normal,QaF st o.dst v)) kk:=by
 rw[qat (v:=slc P t (AM.opd st.ρ x) (lo.map (AM.opd st.ρ)) (hi.map (AM.opd st.ρ)) (mx.map (AM.opd st.ρ))) (by
  simp only[Qal,h,Qam,slc,qtX,F.Qdo]
  cases QaK st.ρ lo with
  | none=>rfl
  | some a =>
   cases QaK st.ρ hi with
   | none=>rfl
   | some b =>
    cases QaK st.ρ mx with
    | none=>rfl
    | some c=>rfl) (by intro _;simp only[stepG,h])]
theorem qoP(sz:Nat)(ρ:Nat→V):∀ (ps:List (Nat × Operand))(l:List V),Qed sz (ps.map fun p=>(p.1,AM.opd ρ p.2)) l=Qb8 sz ρ ps l
 | [],l=>rfl
 | (i,x)::ps,l=>by
  show(bif (F.Qc5 (AM.opd ρ x)).live&&F.Qbk (F.Qc5 (AM.opd ρ x))&&Nat.beq (F.QaZ (F.Qc5 (AM.opd ρ x)).cells) sz&&Nat.blt i (F.QaZ l)then Qed sz (ps.map fun p=>(p.1,AM.opd ρ p.2)) (F.Qdh l i (F.Qc5 (AM.opd ρ x)))else none)=_
  rw[F.QdI,F.Qb5,F.QaH,F.QaH,F.QcA,qoP sz ρ ps]
  rfl
theorem qyM{t:TypeId}{n:Nat}{ps:Array (Nat × Operand)}{kk:G.K}(h:o.op=.buildSlice t n ps)(hA:C.QaN t=false) :
  next (QaA P C call gl st o) kk=next ((bs P t n (ps.toList.map fun p=>(p.1,AM.opd st.ρ p.2))).map fun v=>(Ex.normal,QaF st o.dst v)) kk:=by
 have hg:stepG P C gl st o=none:=by
  simp only[stepG,h,hA,Bool.false_and,cond_false]
  split
  ·split<;>rfl
  ·rfl
 rw[qat (v:=bs P t n (ps.toList.map fun p=>(p.1,AM.opd st.ρ p.2))) (by
  simp only[Qal,h,Qam,bs,F.QbO,F.QbR,F.Qb4]
  cases QaB P t with
  | none=>rfl
  | some e =>
   simp only[G.Qck]
   cases Qax P e with
   | none=>rfl
   | some p =>
    obtain⟨sz,g⟩:=p
    cases zeroV P e with
    | none=>rfl
    | some z =>
     simp only[hA,F.Qb5,F.QaH,F.QcC,qoP]
     show(bif Nat.ble (n*sz) 16777216&&z.Qao&&z.live&&Nat.beq z.cells.length sz then _ else none:Option V).map _=_
     show Option.map _ (bif (true&&Nat.ble (n*sz) 16777216&&z.Qao&&z.live&&Nat.beq z.cells.length sz)then (Qb8 sz st.ρ ps.toList (List.replicate n z)).map (V.slice none true sz)else none)=_
     rw[Bool.true_and]
     show _=Option.map _ (bif (Nat.ble (Nat.mul n sz) 16777216&&z.Qao&&z.live&&Nat.beq z.cells.length sz)then _ else none)
     cases(Nat.ble (n*sz) 16777216&&z.Qao&&z.live&&Nat.beq z.cells.length sz)with
     | false=>rfl
     | true=>simp only[cond_true];cases Qb8 sz st.ρ ps.toList (List.replicate n z)<;>rfl) (fun _=>hg)]
end
section
variable {P:Program}{C:Cfg}{call:Qad}{gl:Nat→Bool}{o:Oper}{st:St}{env:List (Nat × V)}{tm:Tm}{keeps:List Nat}
def Two(o:Oper)(st:St)(T:Tm)(r r':R):Prop:=match r,r' with
 | none,none=>True
 | some (.normal,s),some (.normal,s')=>∃ v l h,s=QaF { st with loc:=l,hp:=h } o.dst v∧s'=QaF { ({ st with loc:=l,hp:=h }:St)with tm:=T } o.dst v
 | some (.panic v,s),some (.panic v',s')=>v=v'∧s.loc=s'.loc∧s.hp=s'.hp
 | _,_=>False
theorem qp0{st:St}{o:Oper}{r:Res}(h:Qah P C gl st o=some r):r.as st.tm=r:=by
 have:=qh4 (P:=P) (C:=C) (gl:=gl) (T:=st.tm) (st:=st) (o:=o) (fun x _=>rfl)
 have e:st.as st.tm=st:=rfl
 rw[e,h]at this
 simp at this
 exact this.symm
theorem qfT(T:Tm)(h:Agree st.ρ (St.ρ (st.as T)) o):Two o st T (QaA P C call gl st o) (QaA P C call gl (st.as T) o):=by
 unfold QaA
 rw[qh4 h]
 cases hs:Qah P C gl st o with
 | none=>trivial
 | some r =>
  have ht:=qp0 hs
  cases r with
  | val v s =>
   simp only[Res.as,Res.val.injEq,true_and]at ht
   refine⟨v,s.loc,s.hp,?_,rfl⟩
   have:({ st with loc:=s.loc,hp:=s.hp }:St)=s:=by rw[←ht];rfl
   rw[this]
  | enter f args s =>
   simp only[Res.as,Res.enter.injEq,true_and]at ht
   show Two o st T (match call f args s.hp with | some (.val v h)=>some (.normal,QaF { s with hp:=h } o.dst v) | some (.panic v h)=>some (.panic v,{ s with hp:=h }) | none=>none)
    (match call f args s.hp with | some (.val v h)=>some (.normal,QaF { s.as T with hp:=h } o.dst v) | some (.panic v h)=>some (.panic v,{ s.as T with hp:=h }) | none=>none)
   cases call f args s.hp with
   | none=>trivial
   | some out =>
    cases out with
    | val v h =>
     refine⟨v,s.loc,h,?_,rfl⟩
     have:({ st with loc:=s.loc,hp:=h }:St)={ s with hp:=h }:=by rw[←ht];rfl
     rw[this]
    | panic v h=>exact⟨rfl,rfl,rfl⟩
  | panic v s=>exact⟨rfl,rfl,rfl⟩
theorem qoi(env:List (Nat × V))(tm:Tm):∀ (l:List Nat)(T:Tm)(t:Nat),aget .dead (l.foldl (fun T t=>pt T t (lkT env tm t)) T) t=aget .dead T t∨aget .dead (l.foldl (fun T t=>pt T t (lkT env tm t)) T) t=lkT env tm t
 | [],T,t=>.inl rfl
 | u::l,T,t=>by
  simp only[List.foldl_cons]
  rcases qoi env tm l (pt T u (lkT env tm u)) t with h | h
  ·rw[h,qjN,qaI]
   by_cases e:u=t
   ·subst e;right;simp
   ·left;simp[e]
  ·exact .inr h
theorem qoh(env:List (Nat × V))(tm:Tm):∀ (l:List Nat)(T:Tm)(t:Nat),t ∈ l→aget .dead (l.foldl (fun T t=>pt T t (lkT env tm t)) T) t=lkT env tm t
 | [],T,t,h=>by simp at h
 | u::l,T,t,h=>by
  simp only[List.foldl_cons]
  by_cases hl:t ∈ l
  ·exact qoh env tm l _ t hl
  ·have e:t=u:=by rcases List.mem_cons.1 h with e | e;exact e;exact absurd e hl
   subst e
   rcases qoi env tm l (pt T t (lkT env tm t)) t with h | h
   ·rw[h,qjN,qaI];simp
   ·exact h
theorem qiM(T:Tm)(l:Lo)(h:Hp)(d:Option Nat)(v:V)(i:Nat)(hd:d=some i):gtO (QaF { tm:=T,loc:=l,hp:=h } d v).tm d=v:=by
 subst hd
 show gt (aset T i v) i=v
 rw[qcN,qaI];simp
theorem qhK(hI:∀ t ∈ tmpsOf o,aget .dead st.tm t=lkT env tm t){kk:G.K}{j:V→Lo→Hp→R}
  (hj:∀ v l h,Qa9 keeps (kk (QaF { st with loc:=l,hp:=h } o.dst v)) (j v l h)) :
  Qa9 keeps (next (QaA P C call gl st o) kk) (gen P C call gl o (lay env tm (tmpsOf o)) tm st.loc st.hp j):=by
 have hag:Agree st.ρ (St.ρ (st.as (lay env tm (tmpsOf o)))) o:=by
  intro x hx
  cases x with
  | tmp t =>
   have ht:t ∈ tmpsOf o:=by unfold tmpsOf;rw[List.mem_filterMap];exact⟨.tmp t,hx,rfl⟩
   show aget .dead st.tm t=aget .dead (lay env tm (tmpsOf o)) t
   rw[hI t ht]
   exact(qoh env tm (tmpsOf o) tm t ht).symm
  | _=>rfl
 have h2:=qfT (P:=P) (C:=C) (call:=call) (gl:=gl) (lay env tm (tmpsOf o)) hag
 unfold gen
 rw[F.QbL]
 have e:st.as (lay env tm (tmpsOf o))=⟨lay env tm (tmpsOf o),st.loc,st.hp⟩:=rfl
 rw[e]at h2
 generalize QaA P C call gl st o=r at h2 ⊢
 generalize QaA P C call gl ⟨lay env tm (tmpsOf o),st.loc,st.hp⟩ o=r' at h2 ⊢
 cases r with
 | none =>
  cases r' with
  | none=>trivial
  | some p=>exact h2.elim
 | some p =>
  obtain⟨ex,s⟩:=p
  cases r' with
  | none=>cases ex<;>exact h2.elim
  | some p' =>
   obtain⟨ex',s'⟩:=p'
   cases ex with
   | normal =>
    cases ex' with
    | normal =>
     obtain⟨v,l,h,h3,h4⟩:=h2
     subst h3;subst h4
     show Qa9 keeps (kk (QaF { st with loc:=l,hp:=h } o.dst v)) (j (gtO (QaF { tm:=lay env tm (tmpsOf o),loc:=l,hp:=h } o.dst v).tm o.dst) (QaF { tm:=lay env tm (tmpsOf o),loc:=l,hp:=h } o.dst v).loc (QaF { tm:=lay env tm (tmpsOf o),loc:=l,hp:=h } o.dst v).hp)
     cases hd:o.dst with
     | none=>have:=hj (.tuple []) l h;rw[hd]at this;exact this
     | some i =>
      have e1:=qiM (lay env tm (tmpsOf o)) l h (some i) v i rfl
      rw[e1]
      have:=hj v l h
      rw[hd]at this
      exact this
    | _=>exact h2.elim
   | panic v =>
    cases ex' with
    | panic v' =>
     obtain⟨rfl,h3,h4⟩:=h2
     exact⟨rfl,h3,h4,.inl ⟨v,rfl⟩⟩
    | _=>exact h2.elim
   | _=>exact h2.elim
theorem qs8(st:St)(s:Nat):F.Qci (0,.gone) (path s) st.loc=st.lc s:=F.QbV _ _ _
theorem qyP{t:TypeId}{d:Nat}(h:o.op=.alloc t)(hd:o.dst=some d)(hg:gl d=false){kk:G.K}{j:V→Lo→Hp→R}
  (hj:∀ v l h,Qa9 keeps (kk (QaF { st with loc:=l,hp:=h } o.dst v)) (j v l h)) :
  Qa9 keeps (next (QaA P C call gl st o) kk) (al P t d st.loc (fun v loc=>j v loc st.hp)):=by
 unfold al
 rw[F.Qb4,F.Qdm,qs8]
 have hgg:stepG P C gl st o=none:=by simp only[stepG,h,hd,hg];split<;>simp
 cases hz:zeroV P t with
 | none =>
  have hl:Qal P C gl st.ρ st.lc o=none:=by simp only[Qal,h,hd,hg,cond_false,hz]
  simp only[QaA,Qah,hl,hgg];trivial
 | some z =>
  show Qa9 keeps _ (G.Qac (QbG P t) _ none)
  cases hn:QbG P t with
  | none =>
   have hl:Qal P C gl st.ρ st.lc o=none:=by simp only[Qal,h,hd,hg,cond_false,hz,hn]
   simp only[QaA,Qah,hl,hgg];trivial
  | some n =>
   show Qa9 keeps _ (bif z.live&&Nat.beq (F.QaZ z.cells) n then jn (Nat.succ (st.lc d).1) (fun g=>j (.ptr (.loc d g) 0) (F.Qdt (g,.cells false z.cells) (path d) st.loc) st.hp)else none)
   rw[F.QaH]
   cases hb:(z.live&&Nat.beq z.cells.length n)with
   | false =>
    have hl:Qal P C gl st.ρ st.lc o=none:=by simp only[Qal,h,hd,hg,cond_false,hz,hn,hb]
    simp only[QaA,Qah,hl,hgg];trivial
   | true =>
    have hl:Qal P C gl st.ρ st.lc o=some (.ptr (.loc d ((st.lc d).1+1)) 0,some (d,(st.lc d).1+1,.cells false z.cells)):=by simp only[Qal,h,hd,hg,cond_false,hz,hn,hb,cond_true]
    simp only[QaA,Qah,hl]
    have:=hj (.ptr (.loc d ((st.lc d).1+1)) 0) (aset st.loc d ((st.lc d).1+1,.cells false z.cells)) st.hp
    show Qa9 keeps (kk (QaF (Qa4 st (some (d,(st.lc d).1+1,.cells false z.cells))) o.dst _)) (j _ (F.Qdt _ (path d) st.loc) st.hp)
    rw[F.Qcc]
    exact this
theorem qyg{t:TypeId}{a x:Operand}(h:o.op=.store t a x)(hI:∀ t ∈ tmpsOf o,aget .dead st.tm t=lkT env tm t){kk:G.K}{j:V→Lo→Hp→R}
  (hj:∀ v l h,Qa9 keeps (kk (QaF { st with loc:=l,hp:=h } o.dst v)) (j v l h)) :
  Qa9 keeps (next (QaA P C call gl st o) kk) (G.Qb7 (lk env tm a) (fun r off=>G.QcT r (fun s g=>stL P t s g off (lk env tm x) st.loc (fun loc=>j (.tuple []) loc st.hp))
   (fun _=>gen P C call gl o (lay env tm (tmpsOf o)) tm st.loc st.hp j)) (fun _=>none) none):=by
 have ha:AM.opd st.ρ a=lk env tm a:=qcD hI (by simp[h,Op.operands])
 have hx:AM.opd st.ρ x=lk env tm x:=qcD hI (by simp[h,Op.operands])
 cases hv:lk env tm a with
 | ptr r off =>
  rw[hv]at ha
  cases r with
  | glob r=>exact qhK hI hj
  | loc s g =>
   have hg:stepG P C gl st o=none:=by simp only[stepG,h,ha]
   show Qa9 keeps _ (stL P t s g off (lk env tm x) st.loc (fun loc=>j (.tuple []) loc st.hp))
   unfold stL
   rw[qs8,←hx,F.QcY,F.QbD]
   simp only[F.Qbm,F.QaH]
   cases hr:st.lc s with
   | mk g' row =>
    cases row with
    | cells frz cs =>
     cases frz with
     | true =>
      have hl:Qal P C gl st.ρ st.lc o=none:=by simp only[Qal,h,ha,hr]
      simp only[QaA,Qah,hl,hg];trivial
     | false =>
      show Qa9 keeps _ (bif Nat.beq g g'&&(AM.opd st.ρ x).cells.all V.Qaw&&QaR P t (AM.opd st.ρ x).cells.length then
       G.Qac (setAt cs off (AM.opd st.ρ x).cells) (fun cs'=>j (.tuple []) (F.Qdt (g,.cells false cs') (path s) st.loc) st.hp) none else none)
      cases hb:(Nat.beq g g'&&(AM.opd st.ρ x).cells.all V.Qaw&&QaR P t (AM.opd st.ρ x).cells.length)with
      | false =>
       have hl:Qal P C gl st.ρ st.lc o=none:=by simp only[Qal,h,ha,hr,hb,cond_false]
       simp only[QaA,Qah,hl,hg];trivial
      | true =>
       simp only[cond_true]
       cases hs:setAt cs off (AM.opd st.ρ x).cells with
       | none =>
        have hl:Qal P C gl st.ρ st.lc o=none:=by simp only[Qal,h,ha,hr,hb,cond_true,hs]
        simp only[QaA,Qah,hl,hg];trivial
       | some cs' =>
        have hl:Qal P C gl st.ρ st.lc o=some (.tuple [],some (s,g,.cells false cs')):=by simp only[Qal,h,ha,hr,hb,cond_true,hs]
        simp only[QaA,Qah,hl]
        have:=hj (.tuple []) (aset st.loc s (g,.cells false cs')) st.hp
        show Qa9 keeps (kk (QaF (Qa4 st (some (s,g,.cells false cs'))) o.dst _)) (j _ (F.Qdt _ (path s) st.loc) st.hp)
        rw[F.Qcc]
        exact this
    | _ =>
     have hl:Qal P C gl st.ρ st.lc o=none:=by simp only[Qal,h,ha,hr]
     simp only[QaA,Qah,hl,hg];trivial
 | _ =>
  rw[hv]at ha
  have hl:Qal P C gl st.ρ st.lc o=none:=by simp only[Qal,h,ha]
  have hg:stepG P C gl st o=none:=by simp only[stepG,h,ha]
  simp only[QaA,Qah,hl,hg];trivial
theorem qyL{c:Call}{f:FuncId}(h:o.op=.call c)(hc:c.callee=.value (.func f))(hI:∀ t ∈ tmpsOf o,aget .dead st.tm t=lkT env tm t){kk:G.K}{j:V→Lo→Hp→R}
  (hj:∀ v l h,Qa9 keeps (kk (QaF { st with loc:=l,hp:=h } o.dst v)) (j v l h)) :
  Qa9 keeps (next (QaA P C call gl st o) kk) (cl call f (c.args.toList.map (lk env tm)) tm st.loc st.hp j):=by
 have ha:opds st.ρ c.args.toList=c.args.toList.map (lk env tm):=List.map_congr_left (fun x hx=>qcD hI (by simp[h,Op.operands,Call.operands,hx]))
 have hl:Qal P C gl st.ρ st.lc o=none:=by simp only[Qal,h,Qam,hc];rfl
 have he:=qc9 (T:=.lf) false (c.args.toList.map (lk env tm)) st
 have e:st.as .lf=⟨.lf,st.loc,st.hp⟩:=rfl
 unfold cl
 rw[F.QcG,←e,he]
 simp only[QaA,Qah,hl,stepG,h,QaP,hc,AM.opd,List.nil_append,List.append_nil,ha]
 have ht:=qc9 (T:=st.tm) false (c.args.toList.map (lk env tm)) st
 have e2:st.as st.tm=st:=rfl
 rw[e2]at ht
 cases hx:exps false st (c.args.toList.map (lk env tm))with
 | none=>trivial
 | some p =>
  obtain⟨l,s⟩:=p
  rw[hx]at ht
  simp only[Option.map_some,Option.some.injEq,asV,Prod.mk.injEq,true_and]at ht
  show Qa9 keeps (next (match call f l s.hp with | some (.val v h)=>some (.normal,QaF { s with hp:=h } o.dst v) | some (.panic v h)=>some (.panic v,{ s with hp:=h }) | none=>none) kk)
   (Qef (call f l s.hp) s.loc tm (fun v h=>j v s.loc h))
  cases call f l s.hp with
  | none=>trivial
  | some out =>
   cases out with
   | val v h2 =>
    have:=hj v s.loc h2
    have e3:({ st with loc:=s.loc,hp:=h2 }:St)={ s with hp:=h2 }:=by
     conv=>rhs;rw[ht]
     rfl
    rw[e3]at this
    exact this
   | panic v h2=>exact⟨rfl,rfl,rfl,.inl ⟨v,rfl⟩⟩
end
section
variable {P:Program}{C:Cfg}{call:Qad}{gl:Nat→Bool}{o:Oper}{st:St}{env:List (Nat × V)}{tm:Tm}{keeps:List Nat}
theorem qee(c:Call):(∃ f,c.callee=.value (.func f)∧G.callee c=(1,f))∨(∃ x,c.callee=.builtin .len∧c.args.toList=[x]∧G.callee c=(2,0))∨G.callee c=(0,0):=by
 unfold G.callee
 split
 ·rename_i hc;exact .inl ⟨_,hc,rfl⟩
 ·rename_i hc ha;exact .inr (.inl ⟨_,hc,ha,rfl⟩)
 ·exact .inr (.inr rfl)
theorem qgv(c:Call):(∃ x y,c.callee=.builtin .min∧c.args.toList=[x,y]∧Qd0 c=1)∨(∃ x y,c.callee=.builtin .max∧c.args.toList=[x,y]∧Qd0 c=2)∨Qd0 c=0:=by
 unfold Qd0
 split
 ·rename_i hc ha;exact .inl ⟨_,_,hc,ha,rfl⟩
 ·rename_i hc ha;exact .inr (.inl ⟨_,_,hc,ha,rfl⟩)
 ·exact .inr (.inr rfl)
theorem qxm(x y:V):mnV x y=match x,y with | .int k a,.int _ b=>some (.int k (if b<a then b else a)) | _,_=>none:=by
 cases x with
 | int k a =>
  cases y with
  | int k' b =>
   show some (V.int k (Bool.rec (motive:=fun _=>Int) a b (F.ltI b a)))=_
   rw[F.Qas]
   by_cases h:b<a<;>simp[h]
  | _=>rfl
 | _=>cases y<;>rfl
theorem qxk(x y:V):mxV x y=match x,y with | .int k a,.int _ b=>some (.int k (if b > a then b else a)) | _,_=>none:=by
 cases x with
 | int k a =>
  cases y with
  | int k' b =>
   show some (V.int k (Bool.rec (motive:=fun _=>Int) a b (F.ltI a b)))=_
   rw[F.Qas]
   by_cases h:a<b<;>simp[h]
  | _=>rfl
 | _=>cases y<;>rfl
theorem qxn{c:Call}{x y:Operand}{kk:G.K}{f:V→V→Option V}(h:o.op=.call c)(hc:(c.callee=.builtin .min∧f=mnV)∨(c.callee=.builtin .max∧f=mxV))(ha:c.args.toList=[x,y]) :
  next (QaA P C call gl st o) kk=next ((f (AM.opd st.ρ x) (AM.opd st.ρ y)).map fun v=>(Ex.normal,QaF st o.dst v)) kk:=by
 have hg:stepG P C gl st o=none:=by
  rcases hc with ⟨hc,_⟩ | ⟨hc,_⟩ <;>
  ·simp only[stepG,h,QaP,hc]
   cases c.argTypes[0]? with
   | none=>rfl
   | some t=>cases o.dst<;>rfl
 have hp:Qam P C st.ρ (.call c)=f (AM.opd st.ρ x) (AM.opd st.ρ y):=by
  rcases hc with ⟨hc,rfl⟩ | ⟨hc,rfl⟩
  ·rw[qxm];simp only[Qam,hc,ha];rfl
  ·rw[qxk];simp only[Qam,hc,ha];rfl
 rw[qat (v:=f (AM.opd st.ρ x) (AM.opd st.ρ y)) (by simp only[Qal,h,hp]) (fun _=>hg)]
theorem qs4(hI:∀ t ∈ tmpsOf o,aget .dead st.tm t=lkT env tm t){kk:G.K}{j:V→Lo→Hp→R}
  (hj:∀ v l h,Qa9 keeps (kk (QaF { st with loc:=l,hp:=h } o.dst v)) (j v l h)) :
  Qa9 keeps (next (QaA P C call gl st o) kk) (stp P C call gl o env tm st.loc st.hp j):=by
 unfold stp
 cases ho:o.op with
 | move x =>
  have hx:AM.opd st.ρ x=lk env tm x:=qcD hI (by simp[ho,Op.operands])
  rw[←G.QdY ho]
  show Qa9 keeps (G.ok o.dst st (G.opd x st) kk) _
  rw[G.ok_eq,qbj,hx]
  exact hj _ st.loc st.hp
 | assign x =>
  have hx:AM.opd st.ρ x=lk env tm x:=qcD hI (by simp[ho,Op.operands])
  rw[←G.Qdu ho]
  show Qa9 keeps (G.ok o.dst st (G.opd x st) kk) _
  rw[G.ok_eq,qbj,hx]
  exact hj _ st.loc st.hp
 | pick c a b =>
  have h1:=qb2 hI (x:=c) (by simp[ho,Op.operands])
  have h2:=qb2 hI (x:=a) (by simp[ho,Op.operands])
  have h3:=qb2 hI (x:=b) (by simp[ho,Op.operands])
  exact qby (by rw[←G.QdX ho,qtV,h1,h2,h3,qea]) hj
 | nilCheck x =>
  have h1:=qcD hI (x:=x) (by simp[ho,Op.operands])
  exact qby (by rw[qxg ho,h1]) hj
 | binOp op t x y u =>
  have h1:=qcD hI (x:=x) (by simp[ho,Op.operands])
  have h2:=qcD hI (x:=y) (by simp[ho,Op.operands])
  exact qby (by
   rw[←G.Qec ho]
   show G.okO o.dst st (G.bin P op t x y (G.opd x st) (G.opd y st)) kk=_
   rw[qcK,qbj,qbj,h1,h2];rfl) hj
 | unOp op t x =>
  have h1:=qb2 hI (x:=x) (by simp[ho,Op.operands])
  exact qby (by
   rw[←G.Qek ho]
   show G.okO o.dst st (G.un op (G.opd x st)) kk=_
   rw[qcK,h1]) hj
 | extract x i =>
  have h1:=qb2 hI (x:=x) (by simp[ho,Op.operands])
  exact qby (by rw[←G.Qde ho,qxG,h1,qea]) hj
 | fieldAddr t x i =>
  have h1:=qb2 hI (x:=x) (by simp[ho,Op.operands])
  exact qby (by rw[←G.QcS ho,qyI,h1,qea]) hj
 | field t x i =>
  have h1:=qb2 hI (x:=x) (by simp[ho,Op.operands])
  exact qby (by rw[←G.QdE ho,qxF,h1,qea]) hj
 | indexAddr t x i =>
  have h1:=qb2 hI (x:=x) (by simp[ho,Op.operands])
  have h2:=qb2 hI (x:=i) (by simp[ho,Op.operands])
  exact qby (by rw[←G.QcR ho,qyx,h1,h2,qea]) hj
 | index t x i =>
  have h1:=qb2 hI (x:=x) (by simp[ho,Op.operands])
  have h2:=qb2 hI (x:=i) (by simp[ho,Op.operands])
  exact qby (by rw[←G.QdD ho,qxu,h1,h2,qea]) hj
 | load t x =>
  have h1:=qb2 hI (x:=x) (by simp[ho,Op.operands])
  exact qby (by rw[←G.QdZ ho,qyu,h1,qea]) hj
 | slice t x lo hi mx =>
  have h1:=qcD hI (x:=x) (by simp[ho,Op.operands])
  have h2:lo.map (AM.opd st.ρ)=lo.map (lk env tm):=by
   cases lo with
   | none=>rfl
   | some y=>exact congrArg some (qcD hI (x:=y) (by simp[ho,Op.operands]))
  have h3:hi.map (AM.opd st.ρ)=hi.map (lk env tm):=by
   cases hi with
   | none=>rfl
   | some y=>exact congrArg some (qcD hI (x:=y) (by simp[ho,Op.operands]))
  have h4:mx.map (AM.opd st.ρ)=mx.map (lk env tm):=by
   cases mx with
   | none=>rfl
   | some y=>exact congrArg some (qcD hI (x:=y) (by simp[ho,Op.operands]))
  exact qby (by rw[qw8 ho,h1,h2,h3,h4]) hj
 | buildSlice t n ps =>
  simp only[]
  cases hA:C.QaN t with
  | true=>exact qhK hI hj
  | false =>
   have h1:(ps.toList.map fun p=>(p.1,AM.opd st.ρ p.2))=ps.toList.map fun p=>(p.1,lk env tm p.2) :=
    List.map_congr_left (fun p hp=>by rw[qcD hI (x:=p.2) (by simp only[ho,Op.operands];simp;exact⟨p.1,by simpa using hp⟩)])
   exact qby (by rw[qyM ho hA,h1]) hj
 | alloc t =>
  simp only[]
  cases hd:o.dst with
  | none=>exact qhK hI hj
  | some d =>
   cases hg:gl d with
   | true=>simp only[hg];exact qhK hI hj
   | false =>
    simp only[hg]
    exact qyP ho hd hg hj
 | store t a x=>exact qyg ho hI hj
 | call c =>
  simp only[]
  rcases qee c with ⟨f,hc,he⟩ | ⟨x,hc,ha,he⟩ | he
  ·rw[he];exact qyL ho hc hI hj
  ·rw[he]
   simp only[ha]
   cases hat:c.argTypes[0]? with
   | none =>
    have hp:Qam P C st.ρ (.call c)=none:=by simp only[Qam,hc,ha,hat]
    have hl:Qal P C gl st.ρ st.lc o=none:=by simp only[Qal,ho,hp];rfl
    have hg:stepG P C gl st o=none:=by simp only[stepG,ho,QaP,hc,hat]
    simp only[QaA,Qah,hl,hg];trivial
   | some t =>
    simp only[]
    have h1:AM.opd st.ρ x=lk env tm x:=qcD hI (by simp[ho,Op.operands,Call.operands,hc,ha])
    have hp:Qam P C st.ρ (.call c)=G.Qel (P.underlying t) (AM.opd st.ρ x):=by
     simp only[Qam,hc,ha,hat]
     unfold G.Qel
     cases AM.opd st.ρ x<;>(cases P.underlying t with | none=>rfl | some d=>cases d<;>rfl)
    have hg:stepG P C gl st o=none:=by
     simp only[stepG,ho,QaP,hc,hat]
     cases o.dst<;>(split<;>simp_all)
    exact qby (by
     rw[qat (v:=G.Qel (P.underlying t) (AM.opd st.ρ x)) (by simp only[Qal,ho,hp]) (fun _=>hg),qxr,h1]) hj
  ·rw[he]
   simp only[]
   rcases qgv c with ⟨x,y,hc,ha,hm⟩ | ⟨x,y,hc,ha,hm⟩ | hm
   ·rw[hm]
    simp only[ha]
    have h1:=qcD hI (x:=x) (by simp[ho,Op.operands,Call.operands,hc,ha])
    have h2:=qcD hI (x:=y) (by simp[ho,Op.operands,Call.operands,hc,ha])
    exact qby (by rw[qxn ho (.inl ⟨hc,rfl⟩) ha,h1,h2]) hj
   ·rw[hm]
    simp only[ha]
    have h1:=qcD hI (x:=x) (by simp[ho,Op.operands,Call.operands,hc,ha])
    have h2:=qcD hI (x:=y) (by simp[ho,Op.operands,Call.operands,hc,ha])
    exact qby (by rw[qxn ho (.inr ⟨hc,rfl⟩) ha,h1,h2]) hj
   ·rw[hm];exact qhK hI hj
 | _=>exact qhK hI hj
def Qcf(all:Array Oper)(D:List Nat)(o:Oper):Bool:=match o.guard with
 | none=>true
 | some (i,_)=>match (all[i]?).bind (·.dst)with
  | none=>true
  | some d=>D.contains d
def psd(d:Option Nat)(D:List Nat):List Nat:=match d with
 | none=>D
 | some d=>d::D
def qh3(all:Array Oper):List Oper→List Nat→Bool
 | [],_=>true
 | o::l,D=>(tmpsOf o).all (D.contains ·)&&Qcf all D o&&qh3 all l (psd o.dst D)
theorem qiJ(env:List (Nat × V))(d:Nat)(v:V)(t:Nat):lkT ((d,v)::env) tm t=if d=t then v else lkT env tm t:=by
 show(bif Nat.beq d t then v else lkT env tm t)=_
 by_cases h:d=t
 ·subst h;simp
 ·have:Nat.beq d t=false:=by
   cases hb:Nat.beq d t with
   | false=>rfl
   | true=>exact absurd (Nat.eq_of_beq_eq_true hb) h
  rw[this];simp[h]
theorem qeH:∀ (env:List (Nat × V))(seen:List Nat)(t:Nat),t ∈ keeps→t ∉ seen→aget .dead (qiQ keeps tm env seen) t=lkT env tm t
 | [],seen,t,hk,hs=>by rw[qiQ];exact(qcN tm t).symm
 | (d,v)::env,seen,t,hk,hs=>by
  rw[qiJ,qiQ]
  by_cases e:d=t
  ·subst e
   have h1:(keeps.contains d && !seen.contains d)=true:=by simp[hk,hs]
   rw[h1]
   simp only[cond_true,if_true]
   rw[qjN,qaI];simp
  ·rw[if_neg e]
   cases hb:(keeps.contains d && !seen.contains d)with
   | true =>
    simp only[cond_true]
    rw[qjN,qaI,if_neg e]
    exact qeH env (d::seen) t hk (by simp;exact⟨fun h=>e h.symm,hs⟩)
   | false=>exact qeH env seen t hk hs
theorem qnW{D:List Nat}(h:∀ t ∈ D,aget .dead st.tm t=lkT env tm t)(l:Lo)(hh:Hp)(d:Option Nat)(v:V) :
  ∀ t ∈ psd d D,aget .dead (QaF { st with loc:=l,hp:=hh } d v).tm t=lkT (psh d v env) tm t:=by
 cases d with
 | none=>exact h
 | some d =>
  intro t ht
  show aget .dead (aset st.tm d v) t=lkT ((d,v)::env) tm t
  rw[qaI,qiJ]
  by_cases e:d=t
  ·simp[e]
  ·rw[if_neg e,if_neg e]
   refine h t ?_
   rcases List.mem_cons.1 ht with e2 | e2
   ·exact absurd e2.symm e
   ·exact e2
theorem qbg(s:St)(d:Option Nat)(v:V):(QaF s d v).loc=s.loc∧(QaF s d v).hp=s.hp:=by cases d<;>exact⟨rfl,rfl⟩
theorem qpu(all:Array Oper):∀ (ops:List Oper)(env:List (Nat × V))(D:List Nat)(st:St)(k:G.K)(k':K),qh3 all ops D=true→(∀ t ∈ D,aget .dead st.tm t=lkT env tm t)→(∀ t ∈ keeps,t ∈ D) →
  (∀ st' T',Ag keeps st'.tm T'→Qa9 keeps (k st') (k' T' st'.loc st'.hp))→Qa9 keeps (next (opsV P C call gl all ops st) k) (comp P C call gl all keeps ops env tm st.loc st.hp k')
 | [],env,D,st,k,k',hu,hD,hk,hc=>by
  show Qa9 keeps (k st) (k' (qiQ keeps tm env []) st.loc st.hp)
  exact hc st _ (fun t ht=>by rw[qeH env [] t ht (by simp)];exact hD t (hk t ht))
 | o::l,env,D,st,k,k',hu,hD,hk,hc=>by
  simp only[qh3,Bool.and_eq_true]at hu
  obtain⟨⟨hu1,hu2⟩,hu3⟩:=hu
  have hI:∀ t ∈ tmpsOf o,aget .dead st.tm t=lkT env tm t:=fun t ht=>hD t (by simpa using List.all_eq_true.1 hu1 t ht)
  have hj:∀ v lo h,Qa9 keeps (next (opsV P C call gl all l (QaF { st with loc:=lo,hp:=h } o.dst v)) k) (comp P C call gl all keeps l (psh o.dst v env) tm lo h k'):=by
   intro v lo h
   have:=qpu all l (psh o.dst v env) (psd o.dst D) (QaF { st with loc:=lo,hp:=h } o.dst v) k k' hu3 (qnW hD lo h o.dst v)
    (fun t ht=>by cases o.dst with | none=>exact hk t ht | some d=>exact List.mem_cons_of_mem _ (hk t ht)) hc
   rw[(qbg _ _ _).1,(qbg _ _ _).2]at this
   exact this
  have hone:=qs4 (P:=P) (C:=C) (call:=call) (gl:=gl) (keeps:=keeps) (kk:=fun s=>next (opsV P C call gl all l s) k) (j:=fun v lo h=>comp P C call gl all keeps l (psh o.dst v env) tm lo h k') hI hj
  rw[G.QdC]
  cases hg:o.guard with
  | none =>
   have hw:QaD all o st.ρ = some true:=by simp only[QaD,hg]
   rw[hw]
   simp only[qcg]
   rw[comp]
   simp only[hg]
   exact hone
  | some q =>
   obtain⟨i,w⟩:=q
   rw[comp]
   simp only[hg]
   cases hd:(all[i]?).bind (·.dst)with
   | none =>
    have hw:QaD all o st.ρ = none:=by simp only[QaD,hg,hd]
    rw[hw];trivial
   | some d =>
    have hdD:d ∈ D:=by
     have:Qcf all D o=D.contains d:=by simp only[Qcf,hg,hd]
     rw[this]at hu2;simpa using hu2
    have hw:QaD all o st.ρ = wv (lkT env tm d) w:=by
     rw[←hD d hdD]
     simp only[QaD,hg,hd]
     rfl
    rw[hw]
    simp only[jn,brB]
    cases wv (lkT env tm d) w with
    | none=>trivial
    | some b =>
     cases b with
     | false=>exact hj (.tuple []) st.loc st.hp
     | true=>simp only[qcg];exact hone
end
section
variable {P:Program}{C:Cfg}{call:Qad}{gl:Nat→Bool}{keeps:List Nat}
theorem qgw{o:Oper}(h:mild o=true){st st':St}{ex:Ex}(hr:QaA P C call gl st o=some (ex,st')):ex=.normal∧∃ ft,Qaz P C gl st.ρ st.lc o=some ft:=by
 cases hl:Qal P C gl st.ρ st.lc o with
 | some p =>
  obtain⟨v,u⟩:=p
  simp only[QaA,Qah,hl]at hr
  simp at hr
  refine⟨hr.1.symm,?_⟩
  unfold Qaz
  rw[hl]
  cases u with
  | none =>
   simp only[]
   split
   ·split<;>exact⟨_,rfl⟩
   ·exact⟨_,rfl⟩
  | some q=>exact⟨_,rfl⟩
 | none =>
  cases ho:o.op with
  | load t x =>
   cases hs:stepG P C gl st o with
   | none=>simp only[QaA,Qah,hl,hs]at hr;simp at hr
   | some r =>
    have hs0:=hs
    simp only[stepG,ho]at hs
    split at hs
    ·rename_i r off hx
     split at hs
     ·cases hp:QaV P t _ off with
      | none=>rw[hp]at hs;simp at hs
      | some v =>
       rw[hp]at hs
       simp at hs
       subst hs
       simp only[QaA,Qah,hl,hs0]at hr
       simp at hr
       refine⟨hr.1.symm,⟨[],[],true,false,true,false⟩,?_⟩
       unfold Qaz;rw[hl];simp only[ho,hx]
     ·simp at hs
    ·simp at hs
  | call c =>
   exfalso
   have:stepG P C gl st o=none:=by
    unfold mild at h
    rw[ho]at h
    simp only[]at h
    rcases qee c with ⟨f,hc,he⟩ | ⟨x,hc,ha,he⟩ | he
    ·rw[he]at h
     have hm:Qd0 c=0:=by unfold Qd0;rw[hc]
     rw[hm]at h;simp at h
    ·simp only[stepG,ho,QaP,hc]
     cases c.argTypes[0]? with
     | none=>rfl
     | some t=>cases o.dst<;>rfl
    ·rw[he]at h
     rcases qgv c with ⟨x,y,hc,ha,hm⟩ | ⟨x,y,hc,ha,hm⟩ | hm
     ·simp only[stepG,ho,QaP,hc]
      cases c.argTypes[0]? with
      | none=>rfl
      | some t=>cases o.dst<;>rfl
     ·simp only[stepG,ho,QaP,hc]
      cases c.argTypes[0]? with
      | none=>rfl
      | some t=>cases o.dst<;>rfl
     ·rw[hm]at h;simp at h
   simp only[QaA,Qah,hl,this]at hr
   simp at hr
  | _ =>
   exfalso
   have:stepG P C gl st o=none:=by
    unfold mild at h
    rw[ho]at h
    first
    | (simp at h;done)
    | simp only[stepG,ho]
   simp only[QaA,Qah,hl,this]at hr
   simp at hr
theorem qg5(all:Array Oper):∀ (l:List Oper)(k:Nat)(st:St),l.all mild=true →
  (Qaq P C call gl all l k none st=none∧opsV P C call gl all l st=none)∨∃ fs st',Qaq P C call gl all l k none st=some (fs,st',none)∧opsV P C call gl all l st=some (.normal,st')
 | [],k,st,_=>.inr ⟨[],st,rfl,rfl⟩
 | o::l,k,st,h=>by
  simp only[List.all_cons,Bool.and_eq_true]at h
  simp only[Qaq,opsV,behind,cond_false]
  cases QaD all o st.ρ with
  | none=>exact .inl ⟨rfl,rfl⟩
  | some b =>
   cases b with
   | false =>
    simp only[]
    rcases qg5 all l (k+1) (QaF st o.dst (.tuple [])) h.2 with ⟨h1,h2⟩ | ⟨fs,s,h1,h2⟩
    ·rw[h1,h2];exact .inl ⟨rfl,rfl⟩
    ·rw[h1,h2];exact .inr ⟨_,s,rfl,rfl⟩
   | true =>
    simp only[]
    cases hone:QaA P C call gl st o with
    | none=>left;constructor<;>(cases Qaz P C gl st.ρ st.lc o<;>rfl)
    | some p =>
     obtain⟨ex,s⟩:=p
     obtain⟨rfl,ft,hft⟩:=qgw h.1 hone
     rw[hft]
     simp only[]
     rcases qg5 all l (k+1) s h.2 with ⟨h1,h2⟩ | ⟨fs,s',h1,h2⟩
     ·rw[h1,h2];exact .inl ⟨rfl,rfl⟩
     ·rw[h1,h2];exact .inr ⟨_,s',rfl,rfl⟩
theorem qkN{f id:Nat}{ops:Array Oper}(h:qn9 C f id ops=true)(st:St):qbN P C call f id ops true st=opsV P C call (C.glob f) ops ops.toList st:=by
 unfold qn9 at h
 simp only[Bool.and_eq_true]at h
 obtain⟨⟨h1,h2⟩,h3⟩:=h
 have e2:C.pairs f id=[]:=by simpa using h2
 have e3:C.QaU f id=[]:=by simpa using h3
 unfold qbN
 simp only[]
 rcases qg5 (P:=P) (C:=C) (call:=call) (gl:=C.glob f) ops ops.toList 0 st h1 with ⟨k1,k2⟩ | ⟨fs,s,k1,k2⟩
 ·rw[k1,k2]
 ·rw[k1,k2,e2,e3]
  simp[QaL,qm0]
theorem qhM{ρ σ:Nat→V}{lc:Nat→Nat × Row}{o:Oper}(h:Agree ρ σ o):Qaz P C gl ρ lc o=Qaz P C gl σ lc o:=by
 have hl:=qgy (P:=P) (C:=C) (gl:=gl) (lc:=lc) h
 unfold Agree at h
 unfold Qaz
 rw[hl]
 cases ho:o.op with
 | load t x=>simp only[ho,Op.operands]at h;simp only[h x (by simp)]
 | store t a x=>simp only[ho,Op.operands]at h;simp only[h a (by simp),h x (by simp)]
 | box t x=>simp only[ho,Op.operands]at h;simp only[h x (by simp)]
 | convert s t x=>simp only[ho,Op.operands]at h;simp only[h x (by simp)]
 | mapUpdate t m k x=>simp only[ho,Op.operands]at h;simp only[h x (by simp)]
 | insert t m k x=>simp only[ho,Op.operands]at h;simp only[h x (by simp)]
 | call c =>
  simp only[ho,Op.operands,Call.operands]at h
  have ha:opds ρ c.args.toList=opds σ c.args.toList:=qdL (fun x hx=>h x (by simp[hx]))
  have hap:Qa5 gl ρ o.dst c=Qa5 gl σ o.dst c:=by
   unfold Qa5
   split
   ·rename_i d x y hd hargs
    rw[h x (by simp[hargs]),h y (by simp[hargs])]
   ·rfl
  cases hc:c.callee with
  | value g=>simp only[hc,h g (by simp[hc]),ha]
  | builtin b=>cases b<;>simp only[hc,hap]
  | invoke a b=>simp only[hc]
 | _=>rfl
theorem qi5{all:Array Oper}{o:Oper}{D:List Nat} {ρ σ:Nat→V}(hg:Qcf all D o=true)(h:∀ t ∈ D,ρ t = σ t):QaD all o ρ = QaD all o σ:=by
 unfold QaD
 unfold Qcf at hg
 cases hq:o.guard with
 | none=>rfl
 | some p =>
  obtain⟨i,w⟩:=p
  rw[hq]at hg
  simp only[]at hg ⊢
  cases hd:(all[i]?).bind (·.dst)with
  | none=>rfl
  | some d =>
   rw[hd]at hg
   simp only[]at hg ⊢
   rw[h d (by simpa using hg)]
theorem qma(all:Array Oper):∀ (l:List Oper)(D:List Nat)(k:Nat)(sp:Stop)(st st2:St),qh3 all l D=true→(∀ t ∈ D,aget .dead st.tm t=aget .dead st2.tm t)→st.loc=st2.loc→st.hp=st2.hp →
  (Qaq P C call gl all l k sp st=none∧Qaq P C call gl all l k sp st2=none) ∨
  ∃ fs s s2 q,Qaq P C call gl all l k sp st=some (fs,s,q)∧Qaq P C call gl all l k sp st2=some (fs,s2,q)∧s.loc=s2.loc∧s.hp=s2.hp∧∀ t ∈ D,aget .dead s.tm t=aget .dead s2.tm t
 | [],D,k,sp,st,st2,_,hD,h1,h2=>.inr ⟨[],st,st2,sp,rfl,rfl,h1,h2,hD⟩
 | o::l,D,k,sp,st,st2,hu,hD,h1,h2=>by
  simp only[qh3,Bool.and_eq_true]at hu
  obtain⟨⟨hu1,hu2⟩,hu3⟩:=hu
  have hag:Agree st.ρ st2.ρ o:=by
   intro x hx
   cases x with
   | tmp t =>
    have ht:t ∈ tmpsOf o:=by unfold tmpsOf;rw[List.mem_filterMap];exact⟨.tmp t,hx,rfl⟩
    exact hD t (by simpa using List.all_eq_true.1 hu1 t ht)
   | _=>rfl
  have hst2:st2=st.as st2.tm:=by
   cases st;cases st2
   simp at h1 h2
   subst h1;subst h2;rfl
  have hw:QaD all o st.ρ = QaD all o st2.ρ:=qi5 hu2 hD
  have rest:∀ (f:Foot) (q0:Stop) (v:V) (lo:Lo) (hh:Hp),(Qbh f (Qaq P C call gl all l (k+1) q0 (QaF { st with loc:=lo,hp:=hh } o.dst v))=none∧Qbh f (Qaq P C call gl all l (k+1) q0 (QaF { ({ st with loc:=lo,hp:=hh }:St)with tm:=st2.tm } o.dst v))=none) ∨
    ∃ fs s s2 q,Qbh f (Qaq P C call gl all l (k+1) q0 (QaF { st with loc:=lo,hp:=hh } o.dst v))=some (fs,s,q)∧Qbh f (Qaq P C call gl all l (k+1) q0 (QaF { ({ st with loc:=lo,hp:=hh }:St)with tm:=st2.tm } o.dst v))=some (fs,s2,q)∧s.loc=s2.loc∧s.hp=s2.hp∧∀ t ∈ D,aget .dead s.tm t=aget .dead s2.tm t:=by
   intro f q0 v lo hh
   have hp1:=qbg ({ st with loc:=lo,hp:=hh }) o.dst v
   have hp2:=qbg ({ ({ st with loc:=lo,hp:=hh }:St)with tm:=st2.tm }) o.dst v
   have hDD:∀ t ∈ psd o.dst D,aget .dead (QaF { st with loc:=lo,hp:=hh } o.dst v).tm t=aget .dead (QaF { ({ st with loc:=lo,hp:=hh }:St)with tm:=st2.tm } o.dst v).tm t:=by
    cases o.dst with
    | none=>exact hD
    | some d =>
     intro t ht
     show aget .dead (aset st.tm d v) t=aget .dead (aset st2.tm d v) t
     rw[qaI,qaI]
     by_cases e:d=t
     ·simp[e]
     ·rw[if_neg e,if_neg e]
      refine hD t ?_
      rcases List.mem_cons.1 ht with e2 | e2
      ·exact absurd e2.symm e
      ·exact e2
   rcases qma all l (psd o.dst D) (k+1) q0 _ _ hu3 hDD (by rw[hp1.1,hp2.1]) (by rw[hp1.2,hp2.2])with ⟨a1,a2⟩ | ⟨fs,s,s2,q,a1,a2,a3,a4,a5⟩
   ·rw[a1,a2];exact .inl ⟨rfl,rfl⟩
   ·rw[a1,a2];exact .inr ⟨_,s,s2,q,rfl,rfl,a3,a4,fun t ht=>a5 t (by cases o.dst with | none=>exact ht | some d=>exact List.mem_cons_of_mem _ ht)⟩
  have skip:∀ q0,(Qbh ⟨[],[],false,false,false,false⟩ (Qaq P C call gl all l (k+1) q0 (QaF st o.dst (.tuple [])))=none∧Qbh ⟨[],[],false,false,false,false⟩ (Qaq P C call gl all l (k+1) q0 (QaF st2 o.dst (.tuple [])))=none) ∨
    ∃ fs s s2 q,Qbh ⟨[],[],false,false,false,false⟩ (Qaq P C call gl all l (k+1) q0 (QaF st o.dst (.tuple [])))=some (fs,s,q)∧Qbh ⟨[],[],false,false,false,false⟩ (Qaq P C call gl all l (k+1) q0 (QaF st2 o.dst (.tuple [])))=some (fs,s2,q)∧s.loc=s2.loc∧s.hp=s2.hp∧∀ t ∈ D,aget .dead s.tm t=aget .dead s2.tm t:=by
   intro q0
   have e2:QaF st2 o.dst (.tuple [])=QaF { ({ st with loc:=st.loc,hp:=st.hp }:St)with tm:=st2.tm } o.dst (.tuple []):=by
    conv=>lhs;rw[hst2]
    rfl
   rw[e2]
   exact rest _ q0 (.tuple []) st.loc st.hp
  have skipF:∀ (f:Foot) q0,(Qbh f (Qaq P C call gl all l (k+1) q0 (QaF st o.dst (.tuple [])))=none∧Qbh f (Qaq P C call gl all l (k+1) q0 (QaF st2 o.dst (.tuple [])))=none) ∨
    ∃ fs s s2 q,Qbh f (Qaq P C call gl all l (k+1) q0 (QaF st o.dst (.tuple [])))=some (fs,s,q)∧Qbh f (Qaq P C call gl all l (k+1) q0 (QaF st2 o.dst (.tuple [])))=some (fs,s2,q)∧s.loc=s2.loc∧s.hp=s2.hp∧∀ t ∈ D,aget .dead s.tm t=aget .dead s2.tm t:=by
   intro f q0
   have e2:QaF st2 o.dst (.tuple [])=QaF { ({ st with loc:=st.loc,hp:=st.hp }:St)with tm:=st2.tm } o.dst (.tuple []):=by
    conv=>lhs;rw[hst2]
    rfl
   rw[e2]
   exact rest f q0 (.tuple []) st.loc st.hp
  simp only[Qaq]
  cases hb:behind all.toList k sp with
  | true=>exact skip sp
  | false =>
  simp only[cond_false]
  rw[←hw]
  cases QaD all o st.ρ with
  | none=>exact .inl ⟨rfl,rfl⟩
  | some b =>
   cases b with
   | false=>exact skip sp
   | true =>
    simp only[]
    have hf:Qaz P C gl st.ρ st.lc o=Qaz P C gl st2.ρ st2.lc o:=by
     have:st.lc=st2.lc:=by unfold St.lc;rw[h1]
     rw[←this];exact qhM hag
    rw[←hf]
    have h2r:=qfT (P:=P) (C:=C) (call:=call) (gl:=gl) st2.tm (o:=o) (st:=st) (by rw[←hst2];exact hag)
    rw[←hst2]at h2r
    cases Qaz P C gl st.ρ st.lc o with
    | none=>exact .inl ⟨rfl,rfl⟩
    | some ft =>
     generalize QaA P C call gl st o=r at h2r ⊢
     generalize QaA P C call gl st2 o=r' at h2r ⊢
     cases r with
     | none =>
      cases r' with
      | none=>exact .inl ⟨rfl,rfl⟩
      | some p=>exact h2r.elim
     | some p =>
      obtain⟨ex,s⟩:=p
      cases r' with
      | none=>cases ex<;>exact h2r.elim
      | some p' =>
       obtain⟨ex',s'⟩:=p'
       cases ex with
       | normal =>
        cases ex' with
        | normal =>
         obtain⟨v,lo,hh,e1,e2⟩:=h2r
         subst e1;subst e2
         simp only[]
         have hp1:=qbg ({ st with loc:=lo,hp:=hh }) o.dst v
         have hp2:=qbg ({ ({ st with loc:=lo,hp:=hh }:St)with tm:=st2.tm }) o.dst v
         rw[hp1.2,hp2.2,h2]
         exact rest _ sp v lo hh
        | _=>exact h2r.elim
       | panic v =>
        cases ex' with
        | panic v' =>
         simp only[]
         cases sp with
         | some p=>exact .inl ⟨rfl,rfl⟩
         | none =>
          simp only[]
          cases hso:Qa6 o with
          | false=>exact .inl ⟨rfl,rfl⟩
          | true =>
           simp only[cond_true]
           obtain⟨e1,_,e3⟩:=h2r
           subst e1
           rw[e3]
           exact skipF ft _
        | _=>exact h2r.elim
       | _=>exact h2r.elim
end
end Go.AM.S
end
section
namespace Go.AM.S
open Go Go.AM
open _root_.Go.AM.G (R next qcg qdq qcK qbj Qck qat Qac)
section
variable {P:Program}{C:Cfg}{call:Qad}{gl:Nat→Bool}{o:Oper}{st:St}{env:List (Nat × V)}{tm:Tm}{keeps:List Nat}
theorem qkM:∀ (l acc:List Foot),QdW l acc=l.reverse++acc
 | [],acc=>rfl
 | x::l,acc=>by
  show QdW l (x::acc)=_
  rw[qkM l];simp
theorem qlX(tm:Tm):∀ (env:List (Nat × V))(t:Nat),aget .dead (qx9 env tm) t=lkT env tm t
 | [],t=>(qcN tm t).symm
 | (d,v)::env,t=>by
  show aget .dead (pt (qx9 env tm) d v) t=_
  rw[qjN,qaI,qiJ,qlX tm env t]
theorem qkL(h:Hp){ft:Foot}(hp:ft.hp=false):settle h h ft=ft:=by
 unfold settle
 simp only[Nat.beq_refl,Bool.and_self,cond_true]
 cases ft;simp at hp;subst hp;rfl
def qho(P:Program)(C:Cfg)(call:Qad)(gl:Nat→Bool)(st:St)(o:Oper)(KK:Foot→St→R)(X:V→Foot→Hp→R):R:=match Qaz P C gl st.ρ st.lc o,QaA P C call gl st o with
 | some ft,some (.normal,st')=>KK (settle st.hp st'.hp ft) st'
 | some ft,some (.panic v,st')=>bif Qa6 o then X v ft st'.hp else none
 | _,_=>none
theorem qdM(hI:∀ t ∈ tmpsOf o,aget .dead st.tm t=lkT env tm t){v:Option V}(hv:∀ j,stp P C call gl o env tm st.loc st.hp j=bO v fun u=>j u st.loc st.hp) :
  QaA P C call gl st o=v.map fun u=>(Ex.normal,QaF st o.dst u):=by
 have key:=qs4 (P:=P) (C:=C) (call:=call) (gl:=gl) (keeps:=[0]) (kk:=fun s=>some (.normal,⟨pt .lf 0 (gtO s.tm o.dst),s.loc,s.hp⟩)) (j:=fun u l h=>some (.normal,⟨pt .lf 0 (gtO (QaF st o.dst u).tm o.dst),l,h⟩)) hI
  (fun u l h=>by
   refine⟨rfl,(qbg _ _ _).1,(qbg _ _ _).2,.inr fun t ht=>?_⟩
   have:(QaF { st with loc:=l,hp:=h } o.dst u).tm=(QaF st o.dst u).tm:=by cases o.dst<;>rfl
   rw[this])
 rw[hv]at key
 have htwo:=qfT (P:=P) (C:=C) (call:=call) (gl:=gl) (o:=o) (st:=st) st.tm (fun x _=>rfl)
 have e2:st.as st.tm=st:=rfl
 rw[e2]at htwo
 generalize QaA P C call gl st o=r at key htwo ⊢
 cases v with
 | none =>
  cases r with
  | none=>rfl
  | some p =>
   obtain⟨ex,s⟩:=p
   cases ex<;>exact key.elim
 | some u =>
  cases r with
  | none=>exact key.elim
  | some p =>
   obtain⟨ex,s⟩:=p
   cases ex with
   | normal =>
    obtain⟨u',l,h,h1,_⟩:=htwo
    obtain⟨_,k1,k2,k3⟩:=key
    have k3:=k3.resolve_left (fun⟨v,e⟩=>by simp at e)
    have k4:=k3 0 (by simp)
    have k1:s.loc=st.loc:=k1
    have k2:s.hp=st.hp:=k2
    rw[h1,(qbg _ _ _).1]at k1
    rw[h1,(qbg _ _ _).2]at k2
    have k1:l=st.loc:=k1
    have k2:h=st.hp:=k2
    subst k1;subst k2
    have k4:aget V.dead (pt .lf 0 (gtO s.tm o.dst)) 0=aget .dead (pt .lf 0 (gtO (QaF st o.dst u).tm o.dst)) 0:=k4
    rw[qjN,qjN,qaI,qaI]at k4
    simp only[if_true]at k4
    rw[h1]at k4
    have e3:s=QaF st o.dst u:=by
     rw[h1]
     cases hd:o.dst with
     | none=>rfl
     | some i =>
      rw[hd]at k4
      have a1:=qiM st.tm st.loc st.hp (some i) u' i rfl
      have a2:=qiM st.tm st.loc st.hp (some i) u i rfl
      have k4:gtO (QaF { tm:=st.tm,loc:=st.loc,hp:=st.hp } (some i) u').tm (some i)=gtO (QaF { tm:=st.tm,loc:=st.loc,hp:=st.hp } (some i) u).tm (some i):=k4
      rw[a1,a2]at k4
      subst k4;rfl
    rw[e3];rfl
   | exit i=>exact htwo.elim
   | ret=>exact htwo.elim
   | panic v=>have:=key.1;simp at this
theorem qkj{KK:Foot→St→R}{X:V→Foot→Hp→R}{j:JD}{v:Option V}{ft:Foot}(ho:QaA P C call gl st o=v.map fun u=>(Ex.normal,QaF st o.dst u))(hf:v.isSome=true→Qaz P C gl st.ρ st.lc o=some ft)(hh:ft.hp=false)
  (hj:∀ v l h,Qa9 keeps (KK ft (QaF { st with loc:=l,hp:=h } o.dst v)) (j v ft l h)):Qa9 keeps (qho P C call gl st o KK X) (bO v fun u=>j u ft st.loc st.hp):=by
 unfold qho
 rw[ho]
 cases v with
 | none=>cases Qaz P C gl st.ρ st.lc o<;>trivial
 | some u =>
  rw[hf rfl]
  show Qa9 keeps (KK (settle st.hp (QaF st o.dst u).hp ft) (QaF st o.dst u)) (j u ft st.loc st.hp)
  rw[(qbg _ _ _).2,qkL _ hh]
  exact hj u st.loc st.hp
theorem qoL{v:Option V}(ho:QaA P C call gl st o=v.map fun u=>(Ex.normal,QaF st o.dst u))(hm:mild o=true)(hc:cls o.op=0):v.isSome=true→Qaz P C gl st.ρ st.lc o=some ft0:=by
 intro hs
 cases v with
 | none=>simp at hs
 | some u =>
  obtain⟨_,ft,hft⟩:=qgw hm ho
  rw[hft,(qmd hft).1 hc];rfl
theorem qxR{c:Call}{f:FuncId}(h:o.op=.call c)(hc:c.callee=.value (.func f))(hI:∀ t ∈ tmpsOf o,aget .dead st.tm t=lkT env tm t){KK:Foot→St→R}{X:V→Foot→Hp→R}{j:JD}{x:XD}
  (hj:∀ v ft l h,Qa9 keeps (KK ft (QaF { st with loc:=l,hp:=h } o.dst v)) (j v ft l h)) (hx:∀ v ft h,Qa9 keeps (X v ft h) (x v ft h)) :
  Qa9 keeps (qho P C call gl st o KK X) (clD call f (c.args.toList.map (lk env tm)) st.loc st.hp j x):=by
 have ha:opds st.ρ c.args.toList=c.args.toList.map (lk env tm):=List.map_congr_left (fun x hx=>qcD hI (by simp[h,Op.operands,Call.operands,hx]))
 have hl:Qal P C gl st.ρ st.lc o=none:=by simp only[Qal,h,Qam,hc];rfl
 have hs:Qa6 o=true:=by simp only[Qa6,h,hc]
 unfold clD qho
 rw[F.Qbm,F.QcG,F.QcX]
 have hf:Qaz P C gl st.ρ st.lc o=(bif (c.args.toList.map (lk env tm)).all quiet then some ⟨[],[],true,true,false,false⟩else none):=by
  unfold Qaz
  rw[hl]
  simp only[h,hc,AM.opd,ha]
  simp
 rw[hf]
 cases(c.args.toList.map (lk env tm)).all quiet with
 | false=>trivial
 | true =>
  simp only[cond_true]
  have he:=qc9 (T:=.lf) false (c.args.toList.map (lk env tm)) st
  have e:st.as .lf=⟨.lf,st.loc,st.hp⟩:=rfl
  rw[←e,he]
  simp only[QaA,Qah,hl,stepG,h,QaP,hc,AM.opd,List.nil_append,List.append_nil,ha]
  have ht:=qc9 (T:=st.tm) false (c.args.toList.map (lk env tm)) st
  have e2:st.as st.tm=st:=rfl
  rw[e2]at ht
  cases hxp:exps false st (c.args.toList.map (lk env tm))with
  | none=>trivial
  | some p =>
   obtain⟨l,s⟩:=p
   rw[hxp]at ht
   simp only[Option.map_some,Option.some.injEq,asV,Prod.mk.injEq,true_and]at ht
   show Qa9 keeps (match (some (⟨[],[],true,true,false,false⟩:Foot)),(match call f l s.hp with | some (.val v h)=>some (Ex.normal,QaF { s with hp:=h } o.dst v) | some (.panic v h)=>some (.panic v,{ s with hp:=h }) | none=>none)with
     | some ft,some (.normal,st')=>KK (settle st.hp st'.hp ft) st'
     | some ft,some (.panic v,st')=>bif Qa6 o then X v ft st'.hp else none
     | _,_=>none)
    (Qac (call f l s.hp) (fun out=>Out.rec (motive:=fun _=>R) (fun v h=>j v (settle st.hp h ⟨[],[],true,true,false,false⟩) s.loc h) (fun v h=>x v ⟨[],[],true,true,false,false⟩ h) out) none)
   cases call f l s.hp with
   | none=>trivial
   | some out =>
    cases out with
    | val v h2 =>
     have:=hj v (settle st.hp h2 ⟨[],[],true,true,false,false⟩) s.loc h2
     have e3:({ st with loc:=s.loc,hp:=h2 }:St)={ s with hp:=h2 }:=by
      conv=>rhs;rw[ht]
      rfl
     rw[e3]at this
     show Qa9 keeps (KK (settle st.hp (QaF { s with hp:=h2 } o.dst v).hp ⟨[],[],true,true,false,false⟩) _) _
     rw[(qbg _ _ _).2]
     exact this
    | panic v h2 =>
     simp only[hs,cond_true]
     exact hx v _ h2
theorem qoF(hI:∀ t ∈ tmpsOf o,aget .dead st.tm t=lkT env tm t){KK:Foot→St→R}{X:V→Foot→Hp→R}{j:JD}{x:XD}
  (hj:∀ v ft l h,Qa9 keeps (KK ft (QaF { st with loc:=l,hp:=h } o.dst v)) (j v ft l h)) (hx:∀ v ft h,Qa9 keeps (X v ft h) (x v ft h)) :
  Qa9 keeps (qho P C call gl st o KK X) (qgN P C call gl o (lay env tm (tmpsOf o)) st.loc st.hp j x):=by
 have hag:Agree st.ρ (St.ρ (st.as (lay env tm (tmpsOf o)))) o:=by
  intro x hx
  cases x with
  | tmp t =>
   have ht:t ∈ tmpsOf o:=by unfold tmpsOf;rw[List.mem_filterMap];exact⟨.tmp t,hx,rfl⟩
   show aget .dead st.tm t=aget .dead (lay env tm (tmpsOf o)) t
   rw[hI t ht]
   exact(qoh env tm (tmpsOf o) tm t ht).symm
  | _=>rfl
 have h2:=qfT (P:=P) (C:=C) (call:=call) (gl:=gl) (lay env tm (tmpsOf o)) hag
 have hf:=qhM (P:=P) (C:=C) (gl:=gl) (lc:=st.lc) hag
 unfold qgN qho
 rw[F.QbN,F.QbL,F.Qcg,F.Qcq,F.QcX,F.Qdn]
 have e:st.as (lay env tm (tmpsOf o))=⟨lay env tm (tmpsOf o),st.loc,st.hp⟩:=rfl
 rw[e]at h2 hf
 have elc:St.lc ⟨lay env tm (tmpsOf o),st.loc,st.hp⟩ = st.lc:=rfl
 rw[elc,←hf]
 generalize Qaz P C gl st.ρ st.lc o=ff
 generalize QaA P C call gl st o=r at h2 ⊢
 generalize QaA P C call gl ⟨lay env tm (tmpsOf o),st.loc,st.hp⟩ o=r' at h2 ⊢
 cases ff with
 | none=>trivial
 | some ft =>
 show Qa9 keeps _ (Qac r' (fun p=>Ex.rec (motive:=fun _=>R) (j (gtO p.2.tm o.dst) (settle st.hp p.2.hp ft) p.2.loc p.2.hp) (fun _=>none) none (fun v=>bif Qa6 o then x v ft p.2.hp else none) p.1) none)
 cases r with
 | none =>
  cases r' with
  | none=>trivial
  | some p=>exact h2.elim
 | some p =>
  obtain⟨ex,s⟩:=p
  cases r' with
  | none=>cases ex<;>exact h2.elim
  | some p' =>
   obtain⟨ex',s'⟩:=p'
   cases ex with
   | normal =>
    cases ex' with
    | normal =>
     obtain⟨v,l,h,h3,h4⟩:=h2
     subst h3;subst h4
     show Qa9 keeps (KK (settle st.hp (QaF { st with loc:=l,hp:=h } o.dst v).hp ft) (QaF { st with loc:=l,hp:=h } o.dst v)) (j (gtO (QaF { tm:=lay env tm (tmpsOf o),loc:=l,hp:=h } o.dst v).tm o.dst) (settle st.hp (QaF { tm:=lay env tm (tmpsOf o),loc:=l,hp:=h } o.dst v).hp ft) (QaF { tm:=lay env tm (tmpsOf o),loc:=l,hp:=h } o.dst v).loc (QaF { tm:=lay env tm (tmpsOf o),loc:=l,hp:=h } o.dst v).hp)
     rw[(qbg _ _ _).2,(qbg _ _ _).2,(qbg _ _ _).1]
     cases hd:o.dst with
     | none=>have:=hj (.tuple []) (settle st.hp h ft) l h;rw[hd]at this;exact this
     | some i =>
      have e1:=qiM (lay env tm (tmpsOf o)) l h (some i) v i rfl
      rw[e1]
      have:=hj v (settle st.hp h ft) l h
      rw[hd]at this
      exact this
    | _=>exact h2.elim
   | panic v =>
    cases ex' with
    | panic v' =>
     obtain⟨rfl,h3,h4⟩:=h2
     show Qa9 keeps (bif Qa6 o then X v ft s.hp else none) (bif Qa6 o then x v ft s'.hp else none)
     rw[h4]
     cases Qa6 o with
     | false=>trivial
     | true=>exact hx v ft s'.hp
    | _=>exact h2.elim
   | exit i=>cases ex'<;>exact h2.elim
   | ret=>cases ex'<;>exact h2.elim
theorem qvV{t:TypeId}{x:Operand}(h:o.op=.load t x){v:Option V}(ho:QaA P C call gl st o=v.map fun u=>(Ex.normal,QaF st o.dst u)):v.isSome=true→Qaz P C gl st.ρ st.lc o=some (ldF (AM.opd st.ρ x)):=by
 intro hs
 cases v with
 | none=>simp at hs
 | some u =>
  obtain⟨_,ft,hft⟩:=qgw (P:=P) (C:=C) (call:=call) (gl:=gl) (by simp only[mild,h]) ho
  rw[hft]
  unfold Qaz at hft
  simp only[h]at hft
  split at hft
  ·split at hft
   ·rename_i s g off hx
    simp at hft;subst hft;rw[hx];rfl
   ·rename_i hn
    simp at hft
    subst hft
    rename_i hloc
    cases hx:AM.opd st.ρ x with
    | ptr r off =>
     cases r with
     | loc s g=>exact absurd hx (hn s g off)
     | glob r=>exfalso;rename_i hq;simp only[Qal,h,hx]at hq;simp at hq
    | _=>rfl
  ·rename_i hloc
   exfalso
   simp only[Qal,h]at hloc
   split at hloc
   ·split at hloc
    ·rename_i g' frz cs _
     generalize Nat.beq _ _=b at hloc
     cases b with
     | false=>simp at hloc
     | true =>
      simp only[cond_true,Option.map_eq_some_iff]at hloc
      obtain⟨_,_,e⟩:=hloc
      simp at e
    ·simp at hloc
   ·simp only[Option.map_eq_some_iff]at hloc
    obtain⟨_,_,e⟩:=hloc
    simp at e
   ·simp at hloc
  ·split at hft
   ·rename_i r off hx
    simp at hft;subst hft;rw[hx];rfl
   ·simp at hft
theorem qtB(hI:∀ t ∈ tmpsOf o,aget .dead st.tm t=lkT env tm t){KK:Foot→St→R}{X:V→Foot→Hp→R}{j:JD}{x:XD}
  (hj:∀ v ft l h,Qa9 keeps (KK ft (QaF { st with loc:=l,hp:=h } o.dst v)) (j v ft l h)) (hx:∀ v ft h,Qa9 keeps (X v ft h) (x v ft h)) :
  Qa9 keeps (qho P C call gl st o KK X) (qx6 P C call gl o env tm st.loc st.hp j x):=by
 have pure:∀ v:Option V,mild o=true→cls o.op=0→(∀ j,stp P C call gl o env tm st.loc st.hp j=bO v fun u=>j u st.loc st.hp) →
   Qa9 keeps (qho P C call gl st o KK X) (bO v fun u=>j u ft0 st.loc st.hp):=fun v hm hc hv =>
  qkj (qdM hI hv) (qoL (qdM hI hv) hm hc) rfl (fun v l h=>hj v ft0 l h)
 unfold qx6
 cases ho:o.op with
 | move a =>
  have hs:∀ j,stp P C call gl o env tm st.loc st.hp j=bO (some (lk env tm a)) fun u=>j u st.loc st.hp:=fun j=>by unfold stp;simp only[ho];rfl
  exact pure (some (lk env tm a)) (by simp only[mild,ho]) (by simp only[cls,ho]) hs
 | assign a =>
  have hs:∀ j,stp P C call gl o env tm st.loc st.hp j=bO (some (lk env tm a)) fun u=>j u st.loc st.hp:=fun j=>by unfold stp;simp only[ho];rfl
  exact pure (some (lk env tm a)) (by simp only[mild,ho]) (by simp only[cls,ho]) hs
 | pick c a b=>exact pure _ (by simp only[mild,ho]) (by simp only[cls,ho]) (fun j=>by unfold stp;simp only[ho])
 | nilCheck a=>exact pure _ (by simp only[mild,ho]) (by simp only[cls,ho]) (fun j=>by unfold stp;simp only[ho])
 | binOp op t a b u=>exact pure _ (by simp only[mild,ho]) (by simp only[cls,ho]) (fun j=>by unfold stp;simp only[ho])
 | unOp op t a=>exact pure _ (by simp only[mild,ho]) (by simp only[cls,ho]) (fun j=>by unfold stp;simp only[ho])
 | extract a i=>exact pure _ (by simp only[mild,ho]) (by simp only[cls,ho]) (fun j=>by unfold stp;simp only[ho])
 | fieldAddr t a i=>exact pure _ (by simp only[mild,ho]) (by simp only[cls,ho]) (fun j=>by unfold stp;simp only[ho])
 | field t a i=>exact pure _ (by simp only[mild,ho]) (by simp only[cls,ho]) (fun j=>by unfold stp;simp only[ho])
 | indexAddr t a i=>exact pure _ (by simp only[mild,ho]) (by simp only[cls,ho]) (fun j=>by unfold stp;simp only[ho])
 | index t a i=>exact pure _ (by simp only[mild,ho]) (by simp only[cls,ho]) (fun j=>by unfold stp;simp only[ho])
 | slice t a lo hi mx=>exact pure _ (by simp only[mild,ho]) (by simp only[cls,ho]) (fun j=>by unfold stp;simp only[ho])
 | load t a =>
  have hs:∀ j,stp P C call gl o env tm st.loc st.hp j=bO (ld P t (lk env tm a) st.loc st.hp) fun u=>j u st.loc st.hp:=fun j=>by unfold stp;simp only[ho]
  have h1:AM.opd st.ρ a=lk env tm a:=qcD hI (by simp[ho,Op.operands])
  have h2:=qvV ho (qdM hI hs)
  rw[h1]at h2
  refine qkj (qdM hI hs) h2 ?_ (fun v l h=>hj v _ l h)
  unfold ldF
  cases lk env tm a with
  | ptr r off=>cases r<;>rfl
  | _=>rfl
 | call c =>
  simp only[]
  rcases qee c with ⟨f,hc,he⟩ | ⟨a,hc,ha,he⟩ | he
  ·rw[he];exact qxR ho hc hI hj hx
  ·rw[he]
   simp only[ha]
   cases hat:c.argTypes[0]? with
   | none =>
    have hs:∀ j,stp P C call gl o env tm st.loc st.hp j=bO none fun u=>j u st.loc st.hp:=fun j=>by unfold stp;simp only[ho,he,ha,hat];rfl
    exact pure none (by unfold mild;simp only[ho,he];rfl) (by simp only[cls,ho,hc]) hs
   | some t=>exact pure _ (by unfold mild;simp only[ho,he];rfl) (by simp only[cls,ho,hc]) (fun j=>by unfold stp;simp only[ho,he,ha,hat])
  ·rw[he]
   simp only[]
   rcases qgv c with ⟨a,b,hc,ha,hm⟩ | ⟨a,b,hc,ha,hm⟩ | hm
   ·rw[hm]
    simp only[ha]
    exact pure _ (by unfold mild;simp only[ho,hm];exact Bool.or_eq_true_iff.mpr (Or.inr rfl)) (by simp only[cls,ho,hc]) (fun j=>by unfold stp;simp only[ho,he,hm,ha])
   ·rw[hm]
    simp only[ha]
    exact pure _ (by unfold mild;simp only[ho,hm];exact Bool.or_eq_true_iff.mpr (Or.inr rfl)) (by simp only[cls,ho,hc]) (fun j=>by unfold stp;simp only[ho,he,hm,ha])
   ·rw[hm];exact qoF hI hj hx
 | _=>exact qoF hI hj hx
def Qcb(P:Program)(C:Cfg)(call:Qad)(gl:Nat→Bool)(all:Array Oper)(P1 P2:List (Nat × Nat))(st0:St)(l:List Oper)(k:Nat)(fs:List Foot)(st:St)(sp:Stop):Option (Ex × St) :=
 match Qaq P C call gl all l k sp st with
 | some (gs,s,q)=>qm0 P1 P2 all.toList st0 (fs.reverse++gs) s q
 | none=>none
theorem qeX{all:Array Oper}{P1 P2:List (Nat × Nat)}{st0 st:St}{l:List Oper}{k:Nat}{fs:List Foot}{sp:Stop}{f:Foot} :
  (match Qbh f (Qaq P C call gl all l k sp st)with
  | some (gs,s,q)=>qm0 P1 P2 all.toList st0 (fs.reverse++gs) s q
  | none=>none)=Qcb P C call gl all P1 P2 st0 l k (f::fs) st sp:=by
 unfold Qcb
 cases Qaq P C call gl all l k sp st with
 | none=>rfl
 | some p =>
  obtain⟨gs,s,q⟩:=p
  show qm0 P1 P2 all.toList st0 (fs.reverse++(f::gs)) s q=qm0 P1 P2 all.toList st0 ((f::fs).reverse++gs) s q
  simp
theorem qtj(ops:List Oper)(P1 P2:List (Nat × Nat))(l:List Foot):chk ops P1 P2 l=(QaL l P1&&(!Qbx l ops || QaL l P2)):=by
 unfold chk;rw[F.QdJ,F.Qd1]
theorem qmb(all:Array Oper)(P1 P2:List (Nat × Nat))(st0:St):∀ (l:List Oper)(k:Nat)(env:List (Nat × V))(D:List Nat)(fs:List Foot)(st:St)(kk:G.K)(k':K),all.toList.drop k=l→qh3 all l D=true→(∀ t ∈ D,aget .dead st.tm t=lkT env tm t)→(∀ t ∈ keeps,t ∈ D) →
  (∀ st' T',Ag keeps st'.tm T'→Qa9 keeps (kk st') (k' T' st'.loc st'.hp))→Qa9 keeps (next (Qcb P C call gl all P1 P2 st0 l k fs st none) kk) (QcM P C call gl all keeps P1 P2 l k env fs tm st.loc st.hp k')
 | [],k,env,D,fs,st,kk,k',hl,hu,hD,hk,hc=>by
  show Qa9 keeps (next (qm0 P1 P2 all.toList st0 (fs.reverse++[]) st none) kk) (bif chk all.toList P1 P2 (QdW fs [])then k' (qiQ keeps tm env []) st.loc st.hp else none)
  rw[qkM,qtj]
  simp only[qm0]
  cases(QaL (fs.reverse++[]) P1&&(!Qbx (fs.reverse++[]) all.toList || QaL (fs.reverse++[]) P2))with
  | false=>trivial
  | true=>exact hc st _ (fun t ht=>by rw[qeH env [] t ht (by simp)];exact hD t (hk t ht))
 | o::l,k,env,D,fs,st,kk,k',hl,hu,hD,hk,hc=>by
  have hl':all.toList.drop (k+1)=l:=by
   have:=congrArg (List.drop 1) hl
   rw[List.drop_drop]at this
   simpa using this
  simp only[qh3,Bool.and_eq_true]at hu
  obtain⟨⟨hu1,hu2⟩,hu3⟩:=hu
  have hI:∀ t ∈ tmpsOf o,aget .dead st.tm t=lkT env tm t:=fun t ht=>hD t (by simpa using List.all_eq_true.1 hu1 t ht)
  have hsub:∀ t ∈ keeps,t ∈ psd o.dst D:=fun t ht=>by cases o.dst with | none=>exact hk t ht | some d=>exact List.mem_cons_of_mem _ (hk t ht)
  have hj:∀ v ft lo h,Qa9 keeps (next (Qcb P C call gl all P1 P2 st0 l (k+1) (ft::fs) (QaF { st with loc:=lo,hp:=h } o.dst v) none) kk) (QcM P C call gl all keeps P1 P2 l (k+1) (psh o.dst v env) (ft::fs) tm lo h k'):=by
   intro v ft lo h
   have:=qmb all P1 P2 st0 l (k+1) (psh o.dst v env) (psd o.dst D) (ft::fs) (QaF { st with loc:=lo,hp:=h } o.dst v) kk k' hl' hu3 (qnW hD lo h o.dst v) hsub hc
   rw[(qbg _ _ _).1,(qbg _ _ _).2]at this
   exact this
  have hx:∀ v ft h,Qa9 keeps (next (Qcb P C call gl all P1 P2 st0 l (k+1) (ft::fs) (QaF st o.dst (.tuple [])) (some (k,v,h))) kk) (qmo P C call gl all P1 P2 k o.dst env fs tm st.loc st.hp v ft h):=by
   intro v ft h
   unfold qmo Qcb
   rw[F.QdL,F.Qbq,hl']
   have h0:=qnW hD st.loc st.hp o.dst (.tuple [])
   have e0:({ st with loc:=st.loc,hp:=st.hp }:St)=st:=rfl
   rw[e0]at h0
   rcases qma (P:=P) (C:=C) (call:=call) (gl:=gl) all l (psd o.dst D) (k+1) (some (k,v,h)) (QaF st o.dst (.tuple [])) ⟨qx9 (psh o.dst (.tuple []) env) tm,st.loc,st.hp⟩ hu3
     (fun t ht=>by rw[h0 t ht];exact(qlX tm _ t).symm) (qbg _ _ _).1 (qbg _ _ _).2 with ⟨a1,a2⟩ | ⟨gs,s,s2,q,a1,a2,a3,a4,a5⟩
   ·rw[a1]
    show Qa9 keeps (next none kk) (Qac (Qaq P C call gl all l (Nat.succ k) (some (k,v,h)) _) _ none)
    rw[show Nat.succ k=k+1 from rfl,a2];trivial
   ·rw[a1]
    have hq:=qbY _ _ _ _ _ _ _ a1
    subst hq
    show Qa9 keeps (next (qm0 P1 P2 all.toList st0 ((ft::fs).reverse++gs) s (some (k,v,h))) kk) (Qac (Qaq P C call gl all l (Nat.succ k) (some (k,v,h)) _) _ none)
    rw[show Nat.succ k=k+1 from rfl,a2]
    show Qa9 keeps _ (bif chk all.toList P1 P2 (QdW fs (ft::gs))&&F.traceless ((F.masks all.toList []).getD k 0) (QdW fs (ft::gs)) 0 then some (Ex.panic v,⟨tm,s2.loc,h⟩)else none)
    rw[qkM,qtj,F.Qdg,F.QdK]
    have e1:(ft::fs).reverse++gs=fs.reverse++(ft::gs):=by simp
    rw[e1]
    simp only[qm0]
    cases(QaL (fs.reverse++(ft::gs)) P1&&(!Qbx (fs.reverse++(ft::gs)) all.toList || QaL (fs.reverse++(ft::gs)) P2)&&traceless ((masks all.toList []).getD k 0) (fs.reverse++(ft::gs)) 0)with
    | false=>trivial
    | true=>exact⟨rfl,a3,rfl,.inl ⟨v,rfl⟩⟩
  have hone:=qtB (P:=P) (C:=C) (call:=call) (gl:=gl) (keeps:=keeps) (KK:=fun ft s=>next (Qcb P C call gl all P1 P2 st0 l (k+1) (ft::fs) s none) kk) (X:=fun v ft h=>next (Qcb P C call gl all P1 P2 st0 l (k+1) (ft::fs) (QaF st o.dst (.tuple [])) (some (k,v,h))) kk)
   (j:=fun v ft lo h=>QcM P C call gl all keeps P1 P2 l (k+1) (psh o.dst v env) (ft::fs) tm lo h k') (x:=qmo P C call gl all P1 P2 k o.dst env fs tm st.loc st.hp) hI hj hx
  have hstep:next (Qcb P C call gl all P1 P2 st0 (o::l) k fs st none) kk=match QaD all o st.ρ with
    | none=>none
    | some false=>next (Qcb P C call gl all P1 P2 st0 l (k+1) (ft0::fs) (QaF st o.dst (.tuple [])) none) kk
    | some true=>qho P C call gl st o (fun ft s=>next (Qcb P C call gl all P1 P2 st0 l (k+1) (ft::fs) s none) kk) (fun v ft h=>next (Qcb P C call gl all P1 P2 st0 l (k+1) (ft::fs) (QaF st o.dst (.tuple [])) (some (k,v,h))) kk):=by
   conv=>lhs;unfold Qcb
   simp only[Qaq,behind,cond_false]
   cases QaD all o st.ρ with
   | none=>rfl
   | some b =>
    cases b with
    | false =>
     simp only[]
     rw[qeX];rfl
    | true =>
     simp only[]
     unfold qho
     cases Qaz P C gl st.ρ st.lc o with
     | none=>rfl
     | some ft =>
      cases QaA P C call gl st o with
      | none=>rfl
      | some p =>
       obtain⟨ex,s⟩:=p
       cases ex with
       | normal=>simp only[];rw[qeX]
       | exit i=>rfl
       | ret=>rfl
       | panic v =>
        simp only[]
        cases Qa6 o with
        | false=>rfl
        | true=>simp only[cond_true];rw[qeX]
  rw[hstep]
  cases hg:o.guard with
  | none =>
   have hw:QaD all o st.ρ = some true:=by simp only[QaD,hg]
   rw[hw]
   simp only[]
   rw[QcM]
   simp only[hg]
   exact hone
  | some q =>
   obtain⟨i,w⟩:=q
   rw[QcM]
   simp only[hg]
   cases hd:(all[i]?).bind (·.dst)with
   | none =>
    have hw:QaD all o st.ρ = none:=by simp only[QaD,hg,hd]
    rw[hw];trivial
   | some d =>
    have hdD:d ∈ D:=by
     have:Qcf all D o=D.contains d:=by simp only[Qcf,hg,hd]
     rw[this]at hu2;simpa using hu2
    have hw:QaD all o st.ρ = wv (lkT env tm d) w:=by
     rw[←hD d hdD]
     simp only[QaD,hg,hd]
     rfl
    rw[hw]
    simp only[jn,brB]
    cases wv (lkT env tm d) w with
    | none=>trivial
    | some b =>
     cases b with
     | false =>
      have:=hj (.tuple []) ft0 st.loc st.hp
      exact this
     | true=>exact hone
theorem qkO{f id:Nat}{ops:Array Oper}{kk:G.K}{k':K}(hu:qh3 ops ops.toList keeps=true)(ha:Ag keeps st.tm tm)(hc:∀ st' T',Ag keeps st'.tm T'→Qa9 keeps (kk st') (k' T' st'.loc st'.hp)) :
  Qa9 keeps (next (qbN P C call f id ops true st) kk) (QcM P C call (C.glob f) ops keeps (C.pairs f id) (C.QaU f id) ops.toList 0 [] [] tm st.loc st.hp k'):=by
 have:=qmb (P:=P) (C:=C) (call:=call) (gl:=C.glob f) (tm:=tm) (keeps:=keeps) ops (C.pairs f id) (C.QaU f id) st ops.toList 0 [] keeps [] st kk k' rfl hu (fun t ht=>by rw[ha t ht];exact(qcN tm t).symm) (fun t ht=>ht) hc
 have e:Qcb P C call (C.glob f) ops (C.pairs f id) (C.QaU f id) st ops.toList 0 [] st none=qbN P C call f id ops true st:=by
  unfold Qcb qbN
  simp only[List.reverse_nil,List.nil_append]
  cases Qaq P C call (C.glob f) ops ops.toList 0 none st with
  | none=>rfl
  | some p=>rfl
 rw[e]at this
 exact this
end
end Go.AM.S
end
section
namespace Go.AM.S
open Go Go.AM
open _root_.Go.AM.G (R next qcg qdq qcK qbj Qck qat)
section
variable {P:Program}{C:Cfg}{call:Qad}{gl:Nat→Bool}{keeps:List Nat}
def okC(keeps:List Nat)(f:FuncId):Code→Bool
 | .region _ ops _=>qh3 ops ops.toList keeps
 | .seq a b=>okC keeps f a&&okC keeps f b
 | .cond c a b=>(match c with | .tmp t=>keeps.contains t | _=>true)&&okC keeps f a&&okC keeps f b
 | .block _ b=>okC keeps f b
 | .loop b=>okC keeps f b
 | _=>true
theorem qwE(f fuel:Nat):∀ (c:Code)(st:St)(T:Tm)(k:G.K)(k':K),okC keeps f c=true→Ag keeps st.tm T →
  (∀ st' T',Ag keeps st'.tm T'→Qa9 keeps (k st') (k' T' st'.loc st'.hp))→Qa9 keeps (next (QaW P C call f fuel c st) k) (run call fuel (Qdd P C keeps f c) T st.loc st.hp k'):=by
 intro c
 induction c with
 | skip=>intro st T k k' _ ha hc;exact hc st T ha
 | exit i=>intro st T k k' _ ha hc;exact⟨rfl,rfl,rfl,.inr ha⟩
 | ret=>intro st T k k' _ ha hc;exact⟨rfl,rfl,rfl,.inr ha⟩
 | region id ops draw =>
  intro st T k k' hu ha hc
  simp only[okC]at hu
  have main:Qa9 keeps (next (opsV P C call (C.glob f) ops ops.toList st) k) (comp P C call (C.glob f) ops keeps ops.toList [] T st.loc st.hp k') :=
   qpu (keeps:=keeps) ops ops.toList [] keeps st k k' hu (fun t ht=>by rw[ha t ht];exact(qcN T t).symm) (fun t ht=>ht) hc
  rw[QaW]
  show Qa9 keeps (next (qbN P C call f id ops draw st) k) ((bif !draw || qn9 C f id ops then (fun call tm loc hp k=>comp P C call (C.glob f) ops keeps ops.toList [] tm loc hp k)
   else (fun call tm loc hp k=>QcM P C call (C.glob f) ops keeps (C.pairs f id) (C.QaU f id) ops.toList 0 [] [] tm loc hp k)) call T st.loc st.hp k')
  cases draw with
  | false=>exact main
  | true =>
   cases hm:qn9 C f id ops with
   | true=>rw[qkN hm];exact main
   | false=>exact qkO hu ha hc
 | seq a b iha ihb =>
  intro st T k k' hu ha hc
  simp only[okC,Bool.and_eq_true]at hu
  rw[G.Qdx,qcg]
  exact iha st T _ _ hu.1 ha (fun st' T' ha'=>ihb st' T' k k' hu.2 ha' hc)
 | cond x a b iha ihb =>
  intro st T k k' hu ha hc
  simp only[okC,Bool.and_eq_true]at hu
  have hx:AM.opd st.ρ x=lk [] T x:=by
   cases x with
   | tmp t=>show aget .dead st.tm t=gt T t;rw[qcN];exact ha t (by simpa using hu.1.1)
   | _=>rfl
  rw[QaW,hx]
  show Qa9 keeps _ (G.Qca (lk [] T x) (fun q=>Bool.rec (motive:=fun _=>R) (run call fuel (Qdd P C keeps f b) T st.loc st.hp k') (run call fuel (Qdd P C keeps f a) T st.loc st.hp k') q) none)
  cases lk [] T x with
  | bool q =>
   cases q with
   | true=>exact iha st T k k' hu.1.2 ha hc
   | false=>exact ihb st T k k' hu.2 ha hc
  | _=>trivial
 | block id b ih =>
  intro st T k k' hu ha hc
  simp only[okC]at hu
  have hb:=ih st T G.done done hu ha (fun st' T' ha'=>⟨rfl,rfl,rfl,.inr ha'⟩)
  rw[qdq]at hb
  rw[QaW]
  show Qa9 keeps _ (G.Qac (run call fuel (Qdd P C keeps f b) T st.loc st.hp done) (fun p=>Ex.rec (motive:=fun _=>Nat→K→St→R) (fun _ k st=>k st.tm st.loc st.hp)
   (fun i id k st=>bif Nat.beq i id then k st.tm st.loc st.hp else some (.exit i,st)) (fun _ _ st=>some (.ret,st)) (fun v _ _ st=>some (.panic v,st)) p.1 id k' p.2) none)
  generalize QaW P C call f fuel b st=r at hb ⊢
  generalize run call fuel (Qdd P C keeps f b) T st.loc st.hp done=r' at hb ⊢
  cases r with
  | none =>
   cases r' with
   | none=>trivial
   | some p=>exact hb.elim
  | some p =>
   obtain⟨ex,s⟩:=p
   cases r' with
   | none=>exact hb.elim
   | some p' =>
    obtain⟨ex',s'⟩:=p'
    obtain⟨rfl,h1,h2,h3⟩:=hb
    cases ex with
    | normal =>
     show Qa9 keeps (k s) (k' s'.tm s'.loc s'.hp)
     rw[←h1,←h2]
     exact hc s s'.tm (h3.resolve_left (fun⟨v,e⟩=>by simp at e))
    | exit i =>
     have h3:=h3.resolve_left (fun⟨v,e⟩=>by simp at e)
     show Qa9 keeps (next (bif Nat.beq i id then some (.normal,s)else some (.exit i,s)) k) (bif Nat.beq i id then k' s'.tm s'.loc s'.hp else some (.exit i,s'))
     cases Nat.beq i id with
     | true =>
      show Qa9 keeps (k s) (k' s'.tm s'.loc s'.hp)
      rw[←h1,←h2];exact hc s s'.tm h3
     | false=>exact⟨rfl,h1,h2,.inr h3⟩
    | ret=>exact⟨rfl,h1,h2,h3⟩
    | panic v=>exact⟨rfl,h1,h2,h3⟩
 | loop b ih =>
  intro st T k k' hu ha hc
  simp only[okC]at hu
  rw[QaW]
  show Qa9 keeps _ (Nat.rec (motive:=fun _=>K) (fun _ _ _=>none) (fun _ il tm loc hp=>run call fuel (Qdd P C keeps f b) tm loc hp il) fuel T st.loc st.hp)
  have key:∀ (n:Nat) (st:St) (T:Tm),Ag keeps st.tm T→Qa9 keeps (Qcd (QaW P C call f fuel b) n st) (Nat.rec (motive:=fun _=>K) (fun _ _ _=>none) (fun _ il tm loc hp=>run call fuel (Qdd P C keeps f b) tm loc hp il) n T st.loc st.hp):=by
   intro n
   induction n with
   | zero=>intro st T _;trivial
   | succ n ihn =>
    intro st T ha
    rw[G.QcQ]
    exact ih st T _ _ hu ha (fun st' T' ha'=>ihn st' T' ha')
  have out:∀ (n:Nat) (st:St),next (Qcd (QaW P C call f fuel b) n st) k=Qcd (QaW P C call f fuel b) n st:=by
   intro n
   induction n with
   | zero=>intro st;rfl
   | succ n ihn =>
    intro st
    rw[G.QcQ,qcg]
    exact congrArg _ (funext ihn)
  rw[out]
  exact key fuel st T ha
 | _=>intro st T k k' hu ha hc;trivial
end
section
variable {P:Program}{C:Cfg}{call:Qad}{keeps:List Nat}
def Qds(keeps:List Nat)(l:List ResultVar):Bool:=l.all fun r=>match r with
 | .tmp t=>keeps.contains t
 | .cell a _=>keeps.contains a
theorem qf9{s s':St}(h1:s.loc=s'.loc)(h2:s.hp=s'.hp)(ha:Ag keeps s.tm s'.tm):∀ l:List ResultVar,Qds keeps l=true→Qbj P s l=Qbj P s' l
 | [],_=>rfl
 | .tmp t::l,h=>by
  simp only[Qds,List.all_cons,Bool.and_eq_true]at h
  have:=qf9 h1 h2 ha l h.2
  have ht:s.ρ t=s'.ρ t:=ha t (by simpa using h.1)
  simp only[Qbj,this,ht]
 | .cell a t::l,h=>by
  simp only[Qds,List.all_cons,Bool.and_eq_true]at h
  have:=qf9 h1 h2 ha l h.2
  have ht:s.ρ a=s'.ρ a:=ha a (by simpa using h.1)
  have hr:∀ r,Qab s r=Qab s' r:=by
   intro r
   cases r with
   | loc x g=>simp only[Qab,St.lc,h1]
   | glob x=>simp only[Qab,h2]
  simp only[Qbj,this,ht,hr]
def fin(P:Program)(h:Hp)(res:List ResultVar)(st:St):Option Out:=match Qbj P st res with
 | none=>none
 | some l=>match exps false st l with
  | none=>none
  | some (l,st')=>match l with
   | [v]=>some (.val v (Qar h st'.hp [v]))
   | vs=>some (.val (.tuple vs) (Qar h st'.hp vs))
theorem qkd{h:Hp}{res:List ResultVar}{s s':St}(h1:s.loc=s'.loc)(h2:s.hp=s'.hp)(ha:Ag keeps s.tm s'.tm)(hr:Qds keeps res=true):fin P h res s=fin P h res s':=by
 unfold fin
 rw[qf9 h1 h2 ha res hr]
 have e:s'=s.as s'.tm:=by
  cases s;cases s'
  simp at h1 h2
  subst h1;subst h2;rfl
 cases Qbj P s' res with
 | none=>rfl
 | some l =>
  simp only[]
  rw[e,qc9]
  cases exps false s l with
  | none=>rfl
  | some p=>obtain⟨l,st'⟩:=p;rfl
structure FOk(P:Program)(C:Cfg)(f:FuncId)(fc:Fc):Prop where
 ok:∃ fn cd keeps,P.funcs[f]? = some fn∧fn.body=some cd∧fc.rc=Qdd P C keeps f cd∧fc.res=fn.results.toList∧okC keeps f cd=true∧Qds keeps fn.results.toList=true
theorem qyb(h:Hp)(res:List ResultVar)(st:St):G.Qac (F.Qbj P st res) (fun l=>G.Qac (F.exps false st l) (fun q=>match q.1 with
   | [v]=>some (Out.val v (F.Qar h q.2.hp [v]))
   | vs=>some (.val (.tuple vs) (F.Qar h q.2.hp vs))) none) none=fin P h res st:=by
 rw[F.Qen,F.QcG,F.Qc0]
 unfold fin
 cases Qbj P st res with
 | none=>rfl
 | some l =>
  show G.Qac (exps false st l) _ none=_
  simp only[]
  cases exps false st l with
  | none=>rfl
  | some p=>obtain⟨l,s⟩:=p;rfl
theorem qwM{tbl:Nat→Option Fc}(h1:∀ f fc,tbl f=some fc→C.use f=true∧FOk P C f fc)(h2:∀ f,tbl f=none→C.use f=false)(call:Qad)(fuel:Nat):body P tbl call fuel=qlA P C call fuel:=by
 funext f args h
 unfold body qlA
 cases hf:tbl f with
 | none=>rw[h2 f hf];rfl
 | some fc =>
  obtain⟨hu,fn,cd,keeps,e1,e2,e3,e4,e5,e6⟩:=h1 f fc hf
  rw[hu,e1]
  simp only[e2]
  show G.Qac (run call fuel fc.rc (F.QaE args) .lf { h with dirty:=none } done) _ none=_
  rw[F.Qda,e3,e4]
  have hrun:=qwE (P:=P) (C:=C) (call:=call) (keeps:=keeps) f fuel cd { tm:=QaE args,loc:=.lf,hp:={ h with dirty:=none } } (QaE args) G.done done e5 (fun t _=>rfl) (fun st' T' ha=>⟨rfl,rfl,rfl,.inr ha⟩)
  rw[qdq]at hrun
  generalize QaW P C call f fuel cd { tm:=QaE args,loc:=.lf,hp:={ h with dirty:=none } }=r at hrun ⊢
  generalize run call fuel (Qdd P C keeps f cd) (QaE args) .lf { h with dirty:=none } done=r' at hrun ⊢
  cases r with
  | none =>
   cases r' with
   | none=>rfl
   | some p=>exact hrun.elim
  | some p =>
   obtain⟨ex,s⟩:=p
   cases r' with
   | none=>exact hrun.elim
   | some p' =>
    obtain⟨ex',s'⟩:=p'
    obtain⟨rfl,k1,k2,k3⟩:=hrun
    cases ex with
    | normal =>
     have k3:=k3.resolve_left (fun⟨v,e⟩=>by simp at e)
     refine(qyb h fn.results.toList s').trans ?_
     rw[←qkd k1 k2 k3 e6];rfl
    | ret =>
     have k3:=k3.resolve_left (fun⟨v,e⟩=>by simp at e)
     refine(qyb h fn.results.toList s').trans ?_
     rw[←qkd k1 k2 k3 e6];rfl
    | exit i=>rfl
    | panic v =>
     show some (Out.panic v (F.Qar h s'.hp [v]))=some (Out.panic v (Qar h s.hp [v]))
     rw[F.Qc0,k2]
theorem qxE{kn:Kn}{tbl:Nat→Option Fc}(h1:∀ f fc,tbl f=some fc→C.use f=true∧FOk P C f fc)(h2:∀ f,tbl f=none→C.use f=false):∀ n,fn P kn tbl n=fnV P C kn n
 | 0=>rfl
 | n+1=>by
  funext f args h
  show G.Qac (kn f) (fun k=>k (fn P kn tbl n) args h) (body P tbl (fn P kn tbl n) n f args h)=qlD P C kn (fnV P C kn n) n f args h
  rw[qxE h1 h2 n,qwM h1 h2]
  unfold qlD
  cases kn f<;>rfl
def lkL{α:Type}:List (Nat × α)→Nat→Option α
 | [],_=>none
 | (k,a)::l,f=>bif Nat.beq k f then some a else lkL l f
theorem qk4{α:Type}:∀ {l:List (Nat × α)}{f:Nat}{a:α},lkL l f=some a→(f,a) ∈ l
 | [],f,a,h=>by simp[lkL]at h
 | (k,b)::l,f,a,h=>by
  simp only[lkL]at h
  cases hb:Nat.beq k f with
  | true =>
   rw[hb]at h
   simp at h
   have:=Nat.eq_of_beq_eq_true hb
   subst this;subst h;simp
  | false=>rw[hb]at h;exact List.mem_cons_of_mem _ (qk4 h)
theorem qlW{α:Type}:∀ {l:List (Nat × α)}{f:Nat},lkL l f=none→f ∉ l.map (·.1)
 | [],f,_=>by simp
 | (k,b)::l,f,h=>by
  simp only[lkL]at h
  cases hb:Nat.beq k f with
  | true=>rw[hb]at h;simp at h
  | false =>
   rw[hb]at h
   have h2:=qlW h
   simp only[List.map_cons,List.mem_cons,not_or]
   exact⟨fun e=>by subst e;simp at hb,h2⟩
end
end Go.AM.S
end
section
namespace Go.AM.S
open Go Go.AM
def rgn(id:Nat):Code→Option (Array Oper)
 | .region i ops _=>bif Nat.beq i id then some ops else none
 | .seq a b=>(match rgn id a with
  | some o=>some o
  | none=>rgn id b)
 | .cond _ a b=>(match rgn id a with
  | some o=>some o
  | none=>rgn id b)
 | .block _ b=>rgn id b
 | .loop b=>rgn id b
 | _=>none
def rgA(fn:Func)(id:Nat):Array Oper:=match fn.body with
 | some c=>(rgn id c).getD #[]
 | none=>#[]
def qBu : Oper := { dst := none, op := .panic (.func 0), type := 0, pos := "", after := #[], guard := none }
def opA(fn:Func)(id i:Nat):Oper:=((rgA fn id)[i]?).getD qBu
theorem fok{P:Program}{C:Cfg}{f:FuncId}{fn:Func}{cd:Code}{kp:List Nat}{rc:RC}(h1:fn.body=some cd)(h2:P.funcs[f]? = some fn)(h3:rc=Qdd P C kp f cd)(h4:okC kp f cd=true)(h5:Qds kp fn.results.toList=true) :
  FOk P C f ⟨rc,fn.results.toList⟩:=⟨⟨fn,cd,kp,h2,h1,h3,rfl,h4,h5⟩⟩
end Go.AM.S
end
