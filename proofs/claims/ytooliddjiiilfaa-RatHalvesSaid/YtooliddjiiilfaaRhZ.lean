/- RatHalves: the law returns true for all texts: between any two fractions there is their half, that it is just between, and that halves of halves come back. No condition. -/
import Derived.Test.YtooliddjiiilfaaRhA5
import Derived.Test.YtooliddjiiilfaaRhA3
import Derived.Test.YtooliddjiiilfaaRows
import Derived.ProofKit
import Derived.OpenShut
import Derived.Carry
set_option linter.unusedVariables false
set_option linter.unusedSimpArgs false
set_option linter.unusedSectionVars false
namespace Go.Proofs.Ytooliddjiiilfaa
open Go Go.AM Go.AM.S Go.Proofs Go.ChangeShapes Go.WideShapes Go.ChangeAt Go.RowKit NumL
open Go.ChangeMaps (open_string shut_string)
set_option maxRecDepth 100000
theorem Try.own:ownKnob Try.prog.godebug=none:=by kernel_rfl
theorem pk_vl:∀ l:List UInt8,pk l=vl 256 (l.map UInt8.toNat):=by
 intro l
 induction l with
 | nil=>rfl
 | cons b l ih=>simp only [List.map_cons,vl,←ih];rfl
theorem of_sl (s:ByteArray):Str.of s=sl (s.data.toList.map UInt8.toNat):=by
 unfold Str.of sl
 rw [pk_vl,List.length_map]
 rfl
theorem dg_bytes (l:List UInt8):Dg 256 (l.map UInt8.toNat):=by
 intro x hx
 obtain ⟨b,_,rfl⟩:=List.mem_map.1 hx
 exact b.toNat_lt
@[reducible] def noLay:Laid:=⟨fun _=>(.i64,0),fun _ _=>none⟩
theorem knNo:@KnownOk noLay Pg kn0:=by
 letI:=noLay
 exact ⟨(fun f k h=>by cases h),(fun f k h=>by cases h)⟩
theorem law_true {n:Nat} {f:FuncId} {args:List V} {xs:List Value} (hr:S.fn Pg kn0 tbl n f args noHp=some (.val (.bool true) noHp)) {W:World}
  (hargs:∀ c:Ctx,@RelL noLay c args xs) (hnl:V.noLocL args=true):Calls Try.prog f xs.toArray W fun e W'=>e=.returned (.bool true)∧Stays W W':=by
 letI:=noLay
 rw [seat_eq] at hr
 exact top_true (fnV_sound prog_ok knNo n) hr hargs hnl (fun _ _ _ h=>by cases h)
theorem ratHalves_walk (a z y x:ByteArray) (W:World):Calls Try.prog 11 #[.string a,.string z,.string y,.string x] W fun e W'=>e=.returned (.bool true)∧Stays W W':=by
 obtain ⟨n,hn⟩:=(law11 (dg_bytes a.data.toList) (dg_bytes z.data.toList) (dg_bytes y.data.toList) (dg_bytes x.data.toList)).at
 rw [←of_sl,←of_sl,←of_sl,←of_sl] at hn
 letI:=noLay
 exact law_true (xs:=[.string a,.string z,.string y,.string x]) hn (fun c=>.cons (.str' a) (.cons (.str' z) (.cons (.str' y) (.cons (.str' x) (.nil c))))) rfl
set_option maxRecDepth 100000 in
theorem ratHalves_lifted (os:Os) (started:os.Started) (H:Type) (enc:TypeId × Value→H) :
  ReturnsInHanded {} Try.checked os 11 .any (Rows.ratHalvesSpec.pre6 enc Try.prog Try.f11 Rows.ratHalvesRow.domain false) (Rows.ratHalvesSpec.post enc Try.prog Try.f11 false true false false):=by
 refine returnsInHanded_of_change (C:=Try.checked) Try.own started (by kernel_rfl) Try.func11
  (ChangeSpec.witness6 (enc:=enc) (C:=Try.checked) false ⟨#[],#[.string ⟨#[]⟩,.string ⟨#[]⟩,.string ⟨#[]⟩,.string ⟨#[]⟩],[]⟩ 8 (by kernel_rfl) (by kernel_rfl) (by kernel_rfl) (by kernel_rfl)) ?_
 intro W base args ds gs before hval0 hW hcnd0 _
 clear hcnd0
 have hval:∀ (j:Nat) t v,Try.f11.params[j]? = some t→args[j]? = some v→Value.okWide Try.prog W .any base t v:=hval0
 have hW':=hW
 obtain ⟨p,q,hA0,hV,rfl,hfz,_⟩:=hW
 have hA:DataW.TrodAll enc Try.prog W 0 (fun _=>true) true Try.f11.params.toList args.toList ds p:=hA0
 rw [Try.params11] at hA hval
 obtain ⟨v0,v1,v2,v3,d0,d1,d2,d3,p0,p1,p2,p3,rfl,rfl,rfl,h0,h1,h2,h3⟩:=trodAll_four hA
 obtain ⟨rfl,rfl⟩:=trodVars_none hV
 obtain ⟨a,rfl,rfl,rfl,wa⟩:=open_string Try.underlying9 (hval 0 9 v0 rfl rfl) h0
 obtain ⟨z,rfl,rfl,rfl,wz⟩:=open_string Try.underlying9 (hval 1 9 v1 rfl rfl) h1
 obtain ⟨y,rfl,rfl,rfl,wy⟩:=open_string Try.underlying9 (hval 2 9 v2 rfl rfl) h2
 obtain ⟨x,rfl,rfl,rfl,wx⟩:=open_string Try.underlying9 (hval 3 9 v3 rfl rfl) h3
 clear hA0 hval0
 refine (ratHalves_walk a z y x W).mono fun e W' ⟨he,hs⟩=>?_
 subst he
 simp only [List.append_nil] at hW'
 exact ⟨_,rfl,post_of_stays (pa:=[]) (pv:=[]) hW' (fun _ _ _=>trodAll_mk1 (shut_bool Try.underlying4 true)) (fun sp _=>trodAll_mk4 (shut_string Try.underlying9 wa) (shut_string Try.underlying9 wz) (shut_string Try.underlying9 wy) (shut_string Try.underlying9 wx)) (fun _ _=>rfl) rfl
  hs (ok_one (by kernel_rfl) rfl (okWide_bool_mk Try.underlying4 true))⟩
theorem ratHalves_holds:Rows.RatHalvesSaid :=
 OpenClaim.holds_of_wide 11 Try.f11 rfl rfl rfl rfl rfl rfl rfl ⟨rfl,rfl,rfl,rfl,rfl⟩ rfl rfl rfl rfl rfl (by kernel_rfl) Try.func11 (by kernel_rfl)
  (of_decide_eq_true (by kernel_rfl)) (by unfold Func.isWrapper;first | (rw [if_pos (by decide +kernel)];kernel_rfl) | (rw [if_neg (by decide +kernel)];exact ⟨rfl,rfl⟩))
  (fun os started H enc _=>ratHalves_lifted os started H enc)
end Go.Proofs.Ytooliddjiiilfaa
