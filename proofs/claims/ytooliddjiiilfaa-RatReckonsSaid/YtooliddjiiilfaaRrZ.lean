/- RatReckons: the law returns true for all texts: sums, differences, products, inverses, orders, floors of any fractions are the document's. No condition. -/
import Derived.Test.YtooliddjiiilfaaRrA5
import Derived.Test.YtooliddjiiilfaaRrA3
import Derived.Test.YtooliddjiiilfaaRows
import Derived.ProofKit
import Derived.OpenShut
import Derived.Carry
set_option linter.unusedVariables false
set_option linter.unusedSimpArgs false
set_option linter.unusedSectionVars false
namespace Go.Proofs.Ytooliddjiiilfaa
open Go Go.AM Go.AM.S Go.Proofs Go.ChangeShapes Go.WideShapes Go.ChangeAt Go.RowKit NumL
open Go.ChangeMaps (open_string shut_string)
set_option maxRecDepth 100000
theorem Try.own:ownKnob Try.prog.godebug=none:=by kernel_rfl
theorem qtU:∀ l:List UInt8,pk l=vl 256 (l.map UInt8.toNat):=by
 intro l
 induction l with
 | nil=>rfl
 | cons b l ih=>simp only[List.map_cons,vl,←ih];rfl
theorem qqg(s:ByteArray):Str.of s=sl (s.data.toList.map UInt8.toNat):=by
 unfold Str.of sl
 rw[qtU,List.length_map]
 rfl
theorem qfY(l:List UInt8):Dg 256 (l.map UInt8.toNat):=by
 intro x hx
 obtain⟨b,_,rfl⟩:=List.mem_map.1 hx
 exact b.toNat_lt
@[reducible] def QdG:Laid:=⟨fun _=>(.i64,0),fun _ _=>none⟩
theorem qBw:@QcJ QdG Pg kn0:=by
 letI:=QdG
 exact⟨(fun f k h=>by cases h),(fun f k h=>by cases h)⟩
theorem qq1{n:Nat}{f:FuncId}{args:List V}{xs:List Value}(hr:S.fn Pg kn0 tbl n f args Qbb=some (.val (.bool true) Qbb)){W:World}
  (hargs:∀ c:Ctx,@QaC QdG c args xs) (hnl:V.Qak args=true):Calls Try.prog f xs.toArray W fun e W'=>e=.returned (.bool true)∧Qc3 W W':=by
 letI:=QdG
 rw[qtG]at hr
 exact qpX (qkc prog_ok qBw n) hr hargs hnl (fun _ _ _ h=>by cases h)
theorem qga(a z y x:ByteArray)(W:World):Calls Try.prog 12 #[.string a,.string z,.string y,.string x] W fun e W'=>e=.returned (.bool true)∧Qc3 W W':=by
 obtain⟨n,hn⟩:=(law12 (qfY a.data.toList) (qfY z.data.toList) (qfY y.data.toList) (qfY x.data.toList)).at
 rw[←qqg,←qqg,←qqg,←qqg]at hn
 letI:=QdG
 exact qq1 (xs:=[.string a,.string z,.string y,.string x]) hn (fun c=>.cons (.str' a) (.cons (.str' z) (.cons (.str' y) (.cons (.str' x) (.nil c))))) rfl
set_option maxRecDepth 100000 in
theorem qe0(os:Os)(started:os.Started)(H:Type)(enc:TypeId × Value→H) :
  ReturnsInHanded {} Try.checked os 12 .any (Rows.ratReckonsSpec.pre6 enc Try.prog Try.f12 Rows.ratReckonsRow.domain false) (Rows.ratReckonsSpec.post enc Try.prog Try.f12 false true false false):=by
 refine returnsInHanded_of_change (C:=Try.checked) Try.own started (by kernel_rfl) Try.func12
  (ChangeSpec.witness6 (enc:=enc) (C:=Try.checked) false ⟨#[],#[.string ⟨#[]⟩,.string ⟨#[]⟩,.string ⟨#[]⟩,.string ⟨#[]⟩],[]⟩ 8 (by kernel_rfl) (by kernel_rfl) (by kernel_rfl) (by kernel_rfl)) ?_
 intro W base args ds gs before hval0 hW hcnd0 _
 clear hcnd0
 have hval:∀ (j:Nat) t v,Try.f12.params[j]? = some t→args[j]? = some v→Value.okWide Try.prog W .any base t v:=hval0
 have hW':=hW
 obtain⟨p,q,hA0,hV,rfl,hfz,_⟩:=hW
 have hA:DataW.TrodAll enc Try.prog W 0 (fun _=>true) true Try.f12.params.toList args.toList ds p:=hA0
 rw[Try.params12]at hA hval
 obtain⟨v0,v1,v2,v3,d0,d1,d2,d3,p0,p1,p2,p3,rfl,rfl,rfl,h0,h1,h2,h3⟩:=trodAll_four hA
 obtain⟨rfl,rfl⟩:=trodVars_none hV
 obtain⟨a,rfl,rfl,rfl,wa⟩:=open_string Try.underlying9 (hval 0 9 v0 rfl rfl) h0
 obtain⟨z,rfl,rfl,rfl,wz⟩:=open_string Try.underlying9 (hval 1 9 v1 rfl rfl) h1
 obtain⟨y,rfl,rfl,rfl,wy⟩:=open_string Try.underlying9 (hval 2 9 v2 rfl rfl) h2
 obtain⟨x,rfl,rfl,rfl,wx⟩:=open_string Try.underlying9 (hval 3 9 v3 rfl rfl) h3
 clear hA0 hval0
 refine(qga a z y x W).mono fun e W' ⟨he,hs⟩=>?_
 subst he
 simp only[List.append_nil]at hW'
 exact⟨_,rfl,qiA (pa:=[]) (pv:=[]) hW' (fun _ _ _=>trodAll_mk1 (shut_bool Try.underlying4 true)) (fun sp _=>trodAll_mk4 (shut_string Try.underlying9 wa) (shut_string Try.underlying9 wz) (shut_string Try.underlying9 wy) (shut_string Try.underlying9 wx)) (fun _ _=>rfl) rfl
  hs (ok_one (by kernel_rfl) rfl (okWide_bool_mk Try.underlying4 true))⟩
theorem ratReckons_holds:Rows.RatReckonsSaid :=
 OpenClaim.holds_of_wide 12 Try.f12 rfl rfl rfl rfl rfl rfl rfl ⟨rfl,rfl,rfl,rfl,rfl⟩ rfl rfl rfl rfl rfl (by kernel_rfl) Try.func12 (by kernel_rfl)
  (of_decide_eq_true (by kernel_rfl)) (by unfold Func.isWrapper;first | (rw[if_pos (by decide +kernel)];kernel_rfl) | (rw[if_neg (by decide +kernel)];exact⟨rfl,rfl⟩))
  (fun os started H enc _=>qe0 os started H enc)
end Go.Proofs.Ytooliddjiiilfaa
