/- RatMakes: the law returns true for all texts: any two numbers make just their fraction, in lowest terms, and 0 below none. No condition. -/
import Derived.Test.YtooliddjiiilfaaRmA5
import Derived.Test.YtooliddjiiilfaaRmA3
import Derived.Test.YtooliddjiiilfaaRows
import Derived.ProofKit
import Derived.OpenShut
set_option linter.unusedVariables false
set_option linter.unusedSimpArgs false
set_option linter.unusedSectionVars false
namespace Go.Proofs.Ytooliddjiiilfaa
open Go Go.AM Go.AM.S Go.Proofs Go.ChangeShapes Go.WideShapes Go.ChangeAt Go.RowKit NumL
open Go.ChangeMaps (open_string shut_string)
set_option maxRecDepth 100000
theorem Try.own:ownKnob Try.prog.godebug=none:=by kernel_rfl
theorem pk_vl:∀ l:List UInt8,pk l=vl 256 (l.map UInt8.toNat):=by
 intro l
 induction l with
 | nil=>rfl
 | cons b l ih=>simp only [List.map_cons,vl,←ih];rfl
theorem of_sl (s:ByteArray):Str.of s=sl (s.data.toList.map UInt8.toNat):=by
 unfold Str.of sl
 rw [pk_vl,List.length_map]
 rfl
theorem dg_bytes (l:List UInt8):Dg 256 (l.map UInt8.toNat):=by
 intro x hx
 obtain ⟨b,_,rfl⟩:=List.mem_map.1 hx
 exact b.toNat_lt
@[reducible] def noLay:Laid:=⟨fun _=>(.i64,0),fun _ _=>none⟩
theorem knNo:@KnownOk noLay Pg kn0:=by
 letI:=noLay
 exact ⟨(fun f k h=>by cases h),(fun f k h=>by cases h)⟩
theorem law_true {n:Nat} {f:FuncId} {args:List V} {xs:List Value} (hr:S.fn Pg kn0 tbl n f args noHp=some (.val (.bool true) noHp)) {W:World}
  (hargs:∀ c:Ctx,@RelL noLay c args xs) (hnl:V.noLocL args=true):Calls Try.prog f xs.toArray W fun e W'=>e=.returned (.bool true)∧Stays W W':=by
 letI:=noLay
 rw [seat_eq] at hr
 exact top_true (fnV_sound prog_ok knNo n) hr hargs hnl (fun _ _ _ h=>by cases h)
theorem ratMakes_walk (a z:ByteArray) (W:World):Calls Try.prog 9 #[.string a,.string z] W fun e W'=>e=.returned (.bool true)∧Stays W W':=by
 obtain ⟨n,hn⟩:=(law9 (dg_bytes a.data.toList) (dg_bytes z.data.toList)).at
 rw [←of_sl,←of_sl] at hn
 letI:=noLay
 exact law_true (xs:=[.string a,.string z]) hn (fun c=>.cons (.str' a) (.cons (.str' z) (.nil c))) rfl
set_option maxRecDepth 100000 in
theorem ratMakes_lifted (os:Os) (started:os.Started) (H:Type) (enc:TypeId × Value→H) :
  ReturnsInHanded {} Try.checked os 9 .any (Rows.ratMakesSpec.pre6 enc Try.prog Try.f9 Rows.ratMakesRow.domain false) (Rows.ratMakesSpec.post enc Try.prog Try.f9 false true false false):=by
 refine returnsInHanded_of_change (C:=Try.checked) Try.own started (by kernel_rfl) Try.func9
  (ChangeSpec.witness6 (enc:=enc) (C:=Try.checked) false ⟨#[],#[.string ⟨#[]⟩,.string ⟨#[]⟩],[]⟩ 8 (by kernel_rfl) (by kernel_rfl) (by kernel_rfl) (by kernel_rfl)) ?_
 intro W base args ds gs before hval0 hW hcnd0 _
 clear hcnd0
 have hval:∀ (j:Nat) t v,Try.f9.params[j]? = some t→args[j]? = some v→Value.okWide Try.prog W .any base t v:=hval0
 have hW':=hW
 obtain ⟨p,q,hA0,hV,rfl,hfz,_⟩:=hW
 have hA:DataW.TrodAll enc Try.prog W 0 (fun _=>true) true Try.f9.params.toList args.toList ds p:=hA0
 rw [Try.params9] at hA hval
 obtain ⟨v0,v1,d0,d1,p0,p1,rfl,rfl,rfl,h0,h1⟩:=trodAll_two hA
 obtain ⟨rfl,rfl⟩:=trodVars_none hV
 obtain ⟨a,rfl,rfl,rfl,wa⟩:=open_string Try.underlying9 (hval 0 9 v0 rfl rfl) h0
 obtain ⟨z,rfl,rfl,rfl,wz⟩:=open_string Try.underlying9 (hval 1 9 v1 rfl rfl) h1
 clear hA0 hval0
 refine (ratMakes_walk a z W).mono fun e W' ⟨he,hs⟩=>?_
 subst he
 simp only [List.append_nil] at hW'
 exact ⟨_,rfl,post_of_stays (pa:=[]) (pv:=[]) hW' (fun _ _ _=>trodAll_mk1 (shut_bool Try.underlying4 true)) (fun sp _=>trodAll_mk2 (shut_string Try.underlying9 wa) (shut_string Try.underlying9 wz)) (fun _ _=>rfl) rfl
  hs (ok_one (by kernel_rfl) rfl (okWide_bool_mk Try.underlying4 true))⟩
theorem ratMakes_holds:Rows.RatMakesSaid :=
 OpenClaim.holds_of_wide 9 Try.f9 rfl rfl rfl rfl rfl rfl rfl ⟨rfl,rfl,rfl,rfl,rfl⟩ rfl rfl rfl rfl rfl (by kernel_rfl) Try.func9 (by kernel_rfl)
  (of_decide_eq_true (by kernel_rfl)) (by unfold Func.isWrapper;first | (rw [if_pos (by decide +kernel)];kernel_rfl) | (rw [if_neg (by decide +kernel)];exact ⟨rfl,rfl⟩))
  (fun os started H enc _=>ratMakes_lifted os started H enc)
end Go.Proofs.Ytooliddjiiilfaa
