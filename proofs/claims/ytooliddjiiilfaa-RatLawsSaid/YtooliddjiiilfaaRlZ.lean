/- RatLaws: the law returns true for all texts: fractions are a field, in order. No condition. -/
import Derived.Test.YtooliddjiiilfaaRlA5
import Derived.Test.YtooliddjiiilfaaRlA3
import Derived.Test.YtooliddjiiilfaaRows
import Derived.ProofKit
import Derived.OpenShut
import Derived.Carry
set_option linter.unusedVariables false
set_option linter.unusedSimpArgs false
set_option linter.unusedSectionVars false
namespace Go.Proofs.Ytooliddjiiilfaa
open Go Go.AM Go.AM.S Go.Proofs Go.ChangeShapes Go.WideShapes Go.ChangeAt Go.RowKit NumL
open Go.ChangeMaps (open_string shut_string)
set_option maxRecDepth 100000
theorem Try.own:ownKnob Try.prog.godebug=none:=by kernel_rfl
theorem pk_vl:∀ l:List UInt8,pk l=vl 256 (l.map UInt8.toNat):=by
 intro l
 induction l with
 | nil=>rfl
 | cons b l ih=>simp only [List.map_cons,vl,←ih];rfl
theorem of_sl (s:ByteArray):Str.of s=sl (s.data.toList.map UInt8.toNat):=by
 unfold Str.of sl
 rw [pk_vl,List.length_map]
 rfl
theorem dg_bytes (l:List UInt8):Dg 256 (l.map UInt8.toNat):=by
 intro x hx
 obtain ⟨b,_,rfl⟩:=List.mem_map.1 hx
 exact b.toNat_lt
@[reducible] def noLay:Laid:=⟨fun _=>(.i64,0),fun _ _=>none⟩
theorem knNo:@KnownOk noLay Pg kn0:=by
 letI:=noLay
 exact ⟨(fun f k h=>by cases h),(fun f k h=>by cases h)⟩
theorem law_true {n:Nat} {f:FuncId} {args:List V} {xs:List Value} (hr:S.fn Pg kn0 tbl n f args noHp=some (.val (.bool true) noHp)) {W:World}
  (hargs:∀ c:Ctx,@RelL noLay c args xs) (hnl:V.noLocL args=true):Calls Try.prog f xs.toArray W fun e W'=>e=.returned (.bool true)∧Stays W W':=by
 letI:=noLay
 rw [seat_eq] at hr
 exact top_true (fnV_sound prog_ok knNo n) hr hargs hnl (fun _ _ _ h=>by cases h)
section
variable {H:Type} {enc:TypeId × Value→H} {P:Program} {w:World} {base:Nat} {spare:Nat→Bool} {held:Bool}
theorem trodAll_six {t0 t1 t2 t3 t4 t5:TypeId} {args:Array Value} {ds:List (DataW H)} {ps:List MemPlace} (h:DataW.TrodAll enc P w base spare held [t0,t1,t2,t3,t4,t5] args.toList ds ps) :
  ∃ v0 v1 v2 v3 v4 v5 d0 d1 d2 d3 d4 d5 p0 p1 p2 p3 p4 p5,args = #[v0,v1,v2,v3,v4,v5]∧ds=[d0,d1,d2,d3,d4,d5]∧ps=p0++(p1++(p2++(p3++(p4++p5))))∧DataW.Trod enc P w base spare held t0 v0 d0 p0∧DataW.Trod enc P w base spare held t1 v1 d1 p1∧DataW.Trod enc P w base spare held t2 v2 d2 p2∧DataW.Trod enc P w base spare held t3 v3 d3 p3∧DataW.Trod enc P w base spare held t4 v4 d4 p4∧DataW.Trod enc P w base spare held t5 v5 d5 p5:=by
 obtain ⟨v0,vs0,d0,ds0,p0,q0,hargs,rfl,rfl,h0,r0⟩:=trodAll_cons h
 obtain ⟨v1,vs1,d1,ds1,p1,q1,rfl,rfl,rfl,h1,r1⟩:=trodAll_cons r0
 obtain ⟨v2,vs2,d2,ds2,p2,q2,rfl,rfl,rfl,h2,r2⟩:=trodAll_cons r1
 obtain ⟨v3,vs3,d3,ds3,p3,q3,rfl,rfl,rfl,h3,r3⟩:=trodAll_cons r2
 obtain ⟨v4,vs4,d4,ds4,p4,q4,rfl,rfl,rfl,h4,r4⟩:=trodAll_cons r3
 obtain ⟨v5,vs5,d5,ds5,p5,q5,rfl,rfl,rfl,h5,r5⟩:=trodAll_cons r4
 obtain ⟨rfl,rfl,rfl⟩:=trodAll_nil r5
 exact ⟨v0,v1,v2,v3,v4,v5,d0,d1,d2,d3,d4,d5,p0,p1,p2,p3,p4,p5,by cases args;simp_all,rfl,by simp,h0,h1,h2,h3,h4,h5⟩
theorem trodAll_mk6 {t0 t1 t2 t3 t4 t5:TypeId} {v0 v1 v2 v3 v4 v5:Value} {d0 d1 d2 d3 d4 d5:DataW H} {p0 p1 p2 p3 p4 p5:List MemPlace} (h0:DataW.Trod enc P w base spare held t0 v0 d0 p0) (h1:DataW.Trod enc P w base spare held t1 v1 d1 p1) (h2:DataW.Trod enc P w base spare held t2 v2 d2 p2) (h3:DataW.Trod enc P w base spare held t3 v3 d3 p3) (h4:DataW.Trod enc P w base spare held t4 v4 d4 p4) (h5:DataW.Trod enc P w base spare held t5 v5 d5 p5) :
  DataW.TrodAll enc P w base spare held [t0,t1,t2,t3,t4,t5] [v0,v1,v2,v3,v4,v5] [d0,d1,d2,d3,d4,d5] (p0++(p1++(p2++(p3++(p4++p5))))):=⟨p0,_,h0,⟨p1,_,h1,trodAll_mk4 h2 h3 h4 h5,rfl⟩,rfl⟩
end
theorem ratLaws_walk (a z y x b k:ByteArray) (W:World):Calls Try.prog 10 #[.string a,.string z,.string y,.string x,.string b,.string k] W fun e W'=>e=.returned (.bool true)∧Stays W W':=by
 obtain ⟨n,hn⟩:=(law10 (dg_bytes a.data.toList) (dg_bytes z.data.toList) (dg_bytes y.data.toList) (dg_bytes x.data.toList) (dg_bytes b.data.toList) (dg_bytes k.data.toList)).at
 rw [←of_sl,←of_sl,←of_sl,←of_sl,←of_sl,←of_sl] at hn
 letI:=noLay
 exact law_true (xs:=[.string a,.string z,.string y,.string x,.string b,.string k]) hn (fun c=>.cons (.str' a) (.cons (.str' z) (.cons (.str' y) (.cons (.str' x) (.cons (.str' b) (.cons (.str' k) (.nil c))))))) rfl
set_option maxRecDepth 100000 in
theorem ratLaws_lifted (os:Os) (started:os.Started) (H:Type) (enc:TypeId × Value→H) :
  ReturnsInHanded {} Try.checked os 10 .any (Rows.ratLawsSpec.pre6 enc Try.prog Try.f10 Rows.ratLawsRow.domain false) (Rows.ratLawsSpec.post enc Try.prog Try.f10 false true false false):=by
 refine returnsInHanded_of_change (C:=Try.checked) Try.own started (by kernel_rfl) Try.func10
  (ChangeSpec.witness6 (enc:=enc) (C:=Try.checked) false ⟨#[],#[.string ⟨#[]⟩,.string ⟨#[]⟩,.string ⟨#[]⟩,.string ⟨#[]⟩,.string ⟨#[]⟩,.string ⟨#[]⟩],[]⟩ 8 (by kernel_rfl) (by kernel_rfl) (by kernel_rfl) (by kernel_rfl)) ?_
 intro W base args ds gs before hval0 hW hcnd0 _
 clear hcnd0
 have hval:∀ (j:Nat) t v,Try.f10.params[j]? = some t→args[j]? = some v→Value.okWide Try.prog W .any base t v:=hval0
 have hW':=hW
 obtain ⟨p,q,hA0,hV,rfl,hfz,_⟩:=hW
 have hA:DataW.TrodAll enc Try.prog W 0 (fun _=>true) true Try.f10.params.toList args.toList ds p:=hA0
 rw [Try.params10] at hA hval
 obtain ⟨v0,v1,v2,v3,v4,v5,d0,d1,d2,d3,d4,d5,p0,p1,p2,p3,p4,p5,rfl,rfl,rfl,h0,h1,h2,h3,h4,h5⟩:=trodAll_six hA
 obtain ⟨rfl,rfl⟩:=trodVars_none hV
 obtain ⟨a,rfl,rfl,rfl,wa⟩:=open_string Try.underlying9 (hval 0 9 v0 rfl rfl) h0
 obtain ⟨z,rfl,rfl,rfl,wz⟩:=open_string Try.underlying9 (hval 1 9 v1 rfl rfl) h1
 obtain ⟨y,rfl,rfl,rfl,wy⟩:=open_string Try.underlying9 (hval 2 9 v2 rfl rfl) h2
 obtain ⟨x,rfl,rfl,rfl,wx⟩:=open_string Try.underlying9 (hval 3 9 v3 rfl rfl) h3
 obtain ⟨b,rfl,rfl,rfl,wb⟩:=open_string Try.underlying9 (hval 4 9 v4 rfl rfl) h4
 obtain ⟨k,rfl,rfl,rfl,wk⟩:=open_string Try.underlying9 (hval 5 9 v5 rfl rfl) h5
 clear hA0 hval0
 refine (ratLaws_walk a z y x b k W).mono fun e W' ⟨he,hs⟩=>?_
 subst he
 simp only [List.append_nil] at hW'
 exact ⟨_,rfl,post_of_stays (pa:=[]) (pv:=[]) hW' (fun _ _ _=>trodAll_mk1 (shut_bool Try.underlying4 true)) (fun sp _=>trodAll_mk6 (shut_string Try.underlying9 wa) (shut_string Try.underlying9 wz) (shut_string Try.underlying9 wy) (shut_string Try.underlying9 wx) (shut_string Try.underlying9 wb) (shut_string Try.underlying9 wk)) (fun _ _=>rfl) rfl
  hs (ok_one (by kernel_rfl) rfl (okWide_bool_mk Try.underlying4 true))⟩
theorem ratLaws_holds:Rows.RatLawsSaid :=
 OpenClaim.holds_of_wide 10 Try.f10 rfl rfl rfl rfl rfl rfl rfl ⟨rfl,rfl,rfl,rfl,rfl⟩ rfl rfl rfl rfl rfl (by kernel_rfl) Try.func10 (by kernel_rfl)
  (of_decide_eq_true (by kernel_rfl)) (by unfold Func.isWrapper;first | (rw [if_pos (by decide +kernel)];kernel_rfl) | (rw [if_neg (by decide +kernel)];exact ⟨rfl,rfl⟩))
  (fun os started H enc _=>ratLaws_lifted os started H enc)
end Go.Proofs.Ytooliddjiiilfaa
