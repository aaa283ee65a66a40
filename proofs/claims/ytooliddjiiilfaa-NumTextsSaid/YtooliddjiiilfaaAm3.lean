/- An abstract machine for the model's code, proved sound: what it computes, every run of the code comes to (part 3). -/
import Derived.Test.YtooliddjiiilfaaAm2
import Derived.ChangeSame
set_option linter.unusedVariables false
set_option linter.unusedSimpArgs false
set_option linter.unusedSectionVars false
section
/- .. and that they are the machine's. -/
namespace Go.AM.S
open Go Go.AM
open _root_.Go.AM.G (R next next_next next_done okO_eq opd_eq onSome_eq oneV_pure onSome)
section
variable {P : Program} {C : Cfg} {call : CallF} {gl : Nat → Bool} {o : Oper} {st : St} {env : List (Nat × V)} {tm : Tm} {keeps : List Nat}
theorem revA_eq : ∀ (l acc : List Foot), revA l acc = l.reverse ++ acc
  | [], acc => rfl
  | x :: l, acc => by
    show revA l (x :: acc) = _
    rw [revA_eq l]; simp
theorem layS_get (tm : Tm) : ∀ (env : List (Nat × V)) (t : Nat), aget .dead (layS env tm) t = lkT env tm t
  | [], t => (gt_eq tm t).symm
  | (d, v) :: env, t => by
    show aget .dead (pt (layS env tm) d v) t = _
    rw [pt_eq, aget_aset, lkT_cons, layS_get tm env t]
theorem settle_same (h : Hp) {ft : Foot} (hp : ft.hp = false) : settle h h ft = ft := by
  unfold settle
  simp only [Nat.beq_refl, Bool.and_self, cond_true]
  cases ft; simp at hp; subst hp; rfl
def estep (P : Program) (C : Cfg) (call : CallF) (gl : Nat → Bool) (st : St) (o : Oper) (KK : Foot → St → R) (X : V → Foot → Hp → R) : R := match footV P C gl st.ρ st.lc o, oneV P C call gl st o with
  | some ft, some (.normal, st') => KK (settle st.hp st'.hp ft) st'
  | some ft, some (.panic v, st') => bif stopOp o then X v ft st'.hp else none
  | _, _ => none
theorem one_of_stp (hI : ∀ t ∈ tmpsOf o, aget .dead st.tm t = lkT env tm t) {v : Option V} (hv : ∀ j, stp P C call gl o env tm st.loc st.hp j = bO v fun u => j u st.loc st.hp) :
    oneV P C call gl st o = v.map fun u => (Ex.normal, putV st o.dst u) := by
  have key := stp_ok (P := P) (C := C) (call := call) (gl := gl) (keeps := [0]) (kk := fun s => some (.normal, ⟨pt .lf 0 (gtO s.tm o.dst), s.loc, s.hp⟩)) (j := fun u l h => some (.normal, ⟨pt .lf 0 (gtO (putV st o.dst u).tm o.dst), l, h⟩)) hI
    (fun u l h => by
      refine ⟨rfl, (put_loc _ _ _).1, (put_loc _ _ _).2, .inr fun t ht => ?_⟩
      have : (putV { st with loc := l, hp := h } o.dst u).tm = (putV st o.dst u).tm := by cases o.dst <;> rfl
      rw [this])
  rw [hv] at key
  have htwo := oneV_two (P := P) (C := C) (call := call) (gl := gl) (o := o) (st := st) st.tm (fun x _ => rfl)
  have e2 : st.as st.tm = st := rfl
  rw [e2] at htwo
  generalize oneV P C call gl st o = r at key htwo ⊢
  cases v with
  | none =>
    cases r with
    | none => rfl
    | some p =>
      obtain ⟨ex, s⟩ := p
      cases ex <;> exact key.elim
  | some u =>
    cases r with
    | none => exact key.elim
    | some p =>
      obtain ⟨ex, s⟩ := p
      cases ex with
      | normal =>
        obtain ⟨u', l, h, h1, _⟩ := htwo
        obtain ⟨_, k1, k2, k3⟩ := key
        have k3 := k3.resolve_left (fun ⟨v, e⟩ => by simp at e)
        have k4 := k3 0 (by simp)
        have k1 : s.loc = st.loc := k1
        have k2 : s.hp = st.hp := k2
        rw [h1, (put_loc _ _ _).1] at k1
        rw [h1, (put_loc _ _ _).2] at k2
        have k1 : l = st.loc := k1
        have k2 : h = st.hp := k2
        subst k1; subst k2
        have k4 : aget V.dead (pt .lf 0 (gtO s.tm o.dst)) 0 = aget .dead (pt .lf 0 (gtO (putV st o.dst u).tm o.dst)) 0 := k4
        rw [pt_eq, pt_eq, aget_aset, aget_aset] at k4
        simp only [if_true] at k4
        rw [h1] at k4
        have e3 : s = putV st o.dst u := by
          rw [h1]
          cases hd : o.dst with
          | none => rfl
          | some i =>
            rw [hd] at k4
            have a1 := gtO_put st.tm st.loc st.hp (some i) u' i rfl
            have a2 := gtO_put st.tm st.loc st.hp (some i) u i rfl
            have k4 : gtO (putV { tm := st.tm, loc := st.loc, hp := st.hp } (some i) u').tm (some i) = gtO (putV { tm := st.tm, loc := st.loc, hp := st.hp } (some i) u).tm (some i) := k4
            rw [a1, a2] at k4
            subst k4; rfl
        rw [e3]; rfl
      | exit i => exact htwo.elim
      | ret => exact htwo.elim
      | panic v => have := key.1; simp at this
theorem estep_val {KK : Foot → St → R} {X : V → Foot → Hp → R} {j : JD} {v : Option V} {ft : Foot} (ho : oneV P C call gl st o = v.map fun u => (Ex.normal, putV st o.dst u)) (hf : v.isSome = true → footV P C gl st.ρ st.lc o = some ft) (hh : ft.hp = false)
    (hj : ∀ v l h, RelR keeps (KK ft (putV { st with loc := l, hp := h } o.dst v)) (j v ft l h)) : RelR keeps (estep P C call gl st o KK X) (bO v fun u => j u ft st.loc st.hp) := by
  unfold estep
  rw [ho]
  cases v with
  | none => cases footV P C gl st.ρ st.lc o <;> trivial
  | some u =>
    rw [hf rfl]
    show RelR keeps (KK (settle st.hp (putV st o.dst u).hp ft) (putV st o.dst u)) (j u ft st.loc st.hp)
    rw [(put_loc _ _ _).2, settle_same _ hh]
    exact hj u st.loc st.hp
theorem foot_mild {v : Option V} (ho : oneV P C call gl st o = v.map fun u => (Ex.normal, putV st o.dst u)) (hm : mild o = true) (hc : cls o.op = 0) : v.isSome = true → footV P C gl st.ρ st.lc o = some ft0 := by
  intro hs
  cases v with
  | none => simp at hs
  | some u =>
    obtain ⟨_, ft, hft⟩ := mild_foot hm ho
    rw [hft, (cls_foot hft).1 hc]; rfl
theorem clD_ok {c : Call} {f : FuncId} (h : o.op = .call c) (hc : c.callee = .value (.func f)) (hI : ∀ t ∈ tmpsOf o, aget .dead st.tm t = lkT env tm t) {KK : Foot → St → R} {X : V → Foot → Hp → R} {j : JD} {x : XD}
    (hj : ∀ v ft l h, RelR keeps (KK ft (putV { st with loc := l, hp := h } o.dst v)) (j v ft l h)) (hx : ∀ v ft h, RelR keeps (X v ft h) (x v ft h)) :
    RelR keeps (estep P C call gl st o KK X) (clD call f (c.args.toList.map (lk env tm)) st.loc st.hp j x) := by
  have ha : opds st.ρ c.args.toList = c.args.toList.map (lk env tm) := List.map_congr_left (fun x hx => lk_ok hI (by simp [h, Op.operands, Call.operands, hx]))
  have hl : locV P C gl st.ρ st.lc o = none := by simp only [locV, h, pureV, hc]; rfl
  have hs : stopOp o = true := by simp only [stopOp, h, hc]
  unfold clD estep
  rw [F.allR_eq, F.e_exps, F.e_settle]
  have hf : footV P C gl st.ρ st.lc o = (bif (c.args.toList.map (lk env tm)).all quiet then some ⟨[], [], true, true, false, false⟩ else none) := by
    unfold footV
    rw [hl]
    simp only [h, hc, AM.opd, ha]
    simp
  rw [hf]
  cases (c.args.toList.map (lk env tm)).all quiet with
  | false => trivial
  | true =>
    simp only [cond_true]
    have he := exps_as (T := .lf) false (c.args.toList.map (lk env tm)) st
    have e : st.as .lf = ⟨.lf, st.loc, st.hp⟩ := rfl
    rw [← e, he]
    simp only [oneV, stepV, hl, stepG, h, callS, hc, AM.opd, List.nil_append, List.append_nil, ha]
    have ht := exps_as (T := st.tm) false (c.args.toList.map (lk env tm)) st
    have e2 : st.as st.tm = st := rfl
    rw [e2] at ht
    cases hxp : exps false st (c.args.toList.map (lk env tm)) with
    | none => trivial
    | some p =>
      obtain ⟨l, s⟩ := p
      rw [hxp] at ht
      simp only [Option.map_some, Option.some.injEq, asV, Prod.mk.injEq, true_and] at ht
      show RelR keeps (match (some (⟨[], [], true, true, false, false⟩ : Foot)), (match call f l s.hp with | some (.val v h) => some (Ex.normal, putV { s with hp := h } o.dst v) | some (.panic v h) => some (.panic v, { s with hp := h }) | none => none) with
          | some ft, some (.normal, st') => KK (settle st.hp st'.hp ft) st'
          | some ft, some (.panic v, st') => bif stopOp o then X v ft st'.hp else none
          | _, _ => none)
        (onSome (call f l s.hp) (fun out => Out.rec (motive := fun _ => R) (fun v h => j v (settle st.hp h ⟨[], [], true, true, false, false⟩) s.loc h) (fun v h => x v ⟨[], [], true, true, false, false⟩ h) out) none)
      cases call f l s.hp with
      | none => trivial
      | some out =>
        cases out with
        | val v h2 =>
          have := hj v (settle st.hp h2 ⟨[], [], true, true, false, false⟩) s.loc h2
          have e3 : ({ st with loc := s.loc, hp := h2 } : St) = { s with hp := h2 } := by
            conv => rhs; rw [ht]
            rfl
          rw [e3] at this
          show RelR keeps (KK (settle st.hp (putV { s with hp := h2 } o.dst v).hp ⟨[], [], true, true, false, false⟩) _) _
          rw [(put_loc _ _ _).2]
          exact this
        | panic v h2 =>
          simp only [hs, cond_true]
          exact hx v _ h2
theorem genD_ok (hI : ∀ t ∈ tmpsOf o, aget .dead st.tm t = lkT env tm t) {KK : Foot → St → R} {X : V → Foot → Hp → R} {j : JD} {x : XD}
    (hj : ∀ v ft l h, RelR keeps (KK ft (putV { st with loc := l, hp := h } o.dst v)) (j v ft l h)) (hx : ∀ v ft h, RelR keeps (X v ft h) (x v ft h)) :
    RelR keeps (estep P C call gl st o KK X) (genD P C call gl o (lay env tm (tmpsOf o)) st.loc st.hp j x) := by
  have hag : Agree st.ρ (St.ρ (st.as (lay env tm (tmpsOf o)))) o := by
    intro x hx
    cases x with
    | tmp t =>
      have ht : t ∈ tmpsOf o := by unfold tmpsOf; rw [List.mem_filterMap]; exact ⟨.tmp t, hx, rfl⟩
      show aget .dead st.tm t = aget .dead (lay env tm (tmpsOf o)) t
      rw [hI t ht]
      exact (lay_in env tm (tmpsOf o) tm t ht).symm
    | _ => rfl
  have h2 := oneV_two (P := P) (C := C) (call := call) (gl := gl) (lay env tm (tmpsOf o)) hag
  have hf := foot_congr (P := P) (C := C) (gl := gl) (lc := st.lc) hag
  unfold genD estep
  rw [F.e_footV, F.e_oneV, F.e_rho, F.e_lcf, F.e_settle, F.e_stopOp]
  have e : st.as (lay env tm (tmpsOf o)) = ⟨lay env tm (tmpsOf o), st.loc, st.hp⟩ := rfl
  rw [e] at h2 hf
  have elc : St.lc ⟨lay env tm (tmpsOf o), st.loc, st.hp⟩ = st.lc := rfl
  rw [elc, ← hf]
  generalize footV P C gl st.ρ st.lc o = ff
  generalize oneV P C call gl st o = r at h2 ⊢
  generalize oneV P C call gl ⟨lay env tm (tmpsOf o), st.loc, st.hp⟩ o = r' at h2 ⊢
  cases ff with
  | none => trivial
  | some ft =>
  show RelR keeps _ (onSome r' (fun p => Ex.rec (motive := fun _ => R) (j (gtO p.2.tm o.dst) (settle st.hp p.2.hp ft) p.2.loc p.2.hp) (fun _ => none) none (fun v => bif stopOp o then x v ft p.2.hp else none) p.1) none)
  cases r with
  | none =>
    cases r' with
    | none => trivial
    | some p => exact h2.elim
  | some p =>
    obtain ⟨ex, s⟩ := p
    cases r' with
    | none => cases ex <;> exact h2.elim
    | some p' =>
      obtain ⟨ex', s'⟩ := p'
      cases ex with
      | normal =>
        cases ex' with
        | normal =>
          obtain ⟨v, l, h, h3, h4⟩ := h2
          subst h3; subst h4
          show RelR keeps (KK (settle st.hp (putV { st with loc := l, hp := h } o.dst v).hp ft) (putV { st with loc := l, hp := h } o.dst v)) (j (gtO (putV { tm := lay env tm (tmpsOf o), loc := l, hp := h } o.dst v).tm o.dst) (settle st.hp (putV { tm := lay env tm (tmpsOf o), loc := l, hp := h } o.dst v).hp ft) (putV { tm := lay env tm (tmpsOf o), loc := l, hp := h } o.dst v).loc (putV { tm := lay env tm (tmpsOf o), loc := l, hp := h } o.dst v).hp)
          rw [(put_loc _ _ _).2, (put_loc _ _ _).2, (put_loc _ _ _).1]
          cases hd : o.dst with
          | none => have := hj (.tuple []) (settle st.hp h ft) l h; rw [hd] at this; exact this
          | some i =>
            have e1 := gtO_put (lay env tm (tmpsOf o)) l h (some i) v i rfl
            rw [e1]
            have := hj v (settle st.hp h ft) l h
            rw [hd] at this
            exact this
        | _ => exact h2.elim
      | panic v =>
        cases ex' with
        | panic v' =>
          obtain ⟨rfl, h3, h4⟩ := h2
          show RelR keeps (bif stopOp o then X v ft s.hp else none) (bif stopOp o then x v ft s'.hp else none)
          rw [h4]
          cases stopOp o with
          | false => trivial
          | true => exact hx v ft s'.hp
        | _ => exact h2.elim
      | exit i => cases ex' <;> exact h2.elim
      | ret => cases ex' <;> exact h2.elim
theorem ld_foot {t : TypeId} {x : Operand} (h : o.op = .load t x) {v : Option V} (ho : oneV P C call gl st o = v.map fun u => (Ex.normal, putV st o.dst u)) : v.isSome = true → footV P C gl st.ρ st.lc o = some (ldF (AM.opd st.ρ x)) := by
  intro hs
  cases v with
  | none => simp at hs
  | some u =>
    obtain ⟨_, ft, hft⟩ := mild_foot (P := P) (C := C) (call := call) (gl := gl) (by simp only [mild, h]) ho
    rw [hft]
    unfold footV at hft
    simp only [h] at hft
    split at hft
    · split at hft
      · rename_i s g off hx
        simp at hft; subst hft; rw [hx]; rfl
      · rename_i hn
        simp at hft
        subst hft
        rename_i hloc
        cases hx : AM.opd st.ρ x with
        | ptr r off =>
          cases r with
          | loc s g => exact absurd hx (hn s g off)
          | glob r => exfalso; rename_i hq; simp only [locV, h, hx] at hq; simp at hq
        | _ => rfl
    · rename_i hloc
      exfalso
      simp only [locV, h] at hloc
      split at hloc
      · split at hloc
        · rename_i g' frz cs _
          generalize Nat.beq _ _ = b at hloc
          cases b with
          | false => simp at hloc
          | true =>
            simp only [cond_true, Option.map_eq_some_iff] at hloc
            obtain ⟨_, _, e⟩ := hloc
            simp at e
        · simp at hloc
      · simp only [Option.map_eq_some_iff] at hloc
        obtain ⟨_, _, e⟩ := hloc
        simp at e
      · simp at hloc
    · split at hft
      · rename_i r off hx
        simp at hft; subst hft; rw [hx]; rfl
      · simp at hft
theorem stpD_ok (hI : ∀ t ∈ tmpsOf o, aget .dead st.tm t = lkT env tm t) {KK : Foot → St → R} {X : V → Foot → Hp → R} {j : JD} {x : XD}
    (hj : ∀ v ft l h, RelR keeps (KK ft (putV { st with loc := l, hp := h } o.dst v)) (j v ft l h)) (hx : ∀ v ft h, RelR keeps (X v ft h) (x v ft h)) :
    RelR keeps (estep P C call gl st o KK X) (stpD P C call gl o env tm st.loc st.hp j x) := by
  have pure : ∀ v : Option V, mild o = true → cls o.op = 0 → (∀ j, stp P C call gl o env tm st.loc st.hp j = bO v fun u => j u st.loc st.hp) →
      RelR keeps (estep P C call gl st o KK X) (bO v fun u => j u ft0 st.loc st.hp) := fun v hm hc hv =>
    estep_val (one_of_stp hI hv) (foot_mild (one_of_stp hI hv) hm hc) rfl (fun v l h => hj v ft0 l h)
  unfold stpD
  cases ho : o.op with
  | move a =>
    have hs : ∀ j, stp P C call gl o env tm st.loc st.hp j = bO (some (lk env tm a)) fun u => j u st.loc st.hp := fun j => by unfold stp; simp only [ho]; rfl
    exact pure (some (lk env tm a)) (by simp only [mild, ho]) (by simp only [cls, ho]) hs
  | assign a =>
    have hs : ∀ j, stp P C call gl o env tm st.loc st.hp j = bO (some (lk env tm a)) fun u => j u st.loc st.hp := fun j => by unfold stp; simp only [ho]; rfl
    exact pure (some (lk env tm a)) (by simp only [mild, ho]) (by simp only [cls, ho]) hs
  | pick c a b => exact pure _ (by simp only [mild, ho]) (by simp only [cls, ho]) (fun j => by unfold stp; simp only [ho])
  | nilCheck a => exact pure _ (by simp only [mild, ho]) (by simp only [cls, ho]) (fun j => by unfold stp; simp only [ho])
  | binOp op t a b u => exact pure _ (by simp only [mild, ho]) (by simp only [cls, ho]) (fun j => by unfold stp; simp only [ho])
  | unOp op t a => exact pure _ (by simp only [mild, ho]) (by simp only [cls, ho]) (fun j => by unfold stp; simp only [ho])
  | extract a i => exact pure _ (by simp only [mild, ho]) (by simp only [cls, ho]) (fun j => by unfold stp; simp only [ho])
  | fieldAddr t a i => exact pure _ (by simp only [mild, ho]) (by simp only [cls, ho]) (fun j => by unfold stp; simp only [ho])
  | field t a i => exact pure _ (by simp only [mild, ho]) (by simp only [cls, ho]) (fun j => by unfold stp; simp only [ho])
  | indexAddr t a i => exact pure _ (by simp only [mild, ho]) (by simp only [cls, ho]) (fun j => by unfold stp; simp only [ho])
  | index t a i => exact pure _ (by simp only [mild, ho]) (by simp only [cls, ho]) (fun j => by unfold stp; simp only [ho])
  | slice t a lo hi mx => exact pure _ (by simp only [mild, ho]) (by simp only [cls, ho]) (fun j => by unfold stp; simp only [ho])
  | load t a =>
    have hs : ∀ j, stp P C call gl o env tm st.loc st.hp j = bO (ld P t (lk env tm a) st.loc st.hp) fun u => j u st.loc st.hp := fun j => by unfold stp; simp only [ho]
    have h1 : AM.opd st.ρ a = lk env tm a := lk_ok hI (by simp [ho, Op.operands])
    have h2 := ld_foot ho (one_of_stp hI hs)
    rw [h1] at h2
    refine estep_val (one_of_stp hI hs) h2 ?_ (fun v l h => hj v _ l h)
    unfold ldF
    cases lk env tm a with
    | ptr r off => cases r <;> rfl
    | _ => rfl
  | call c =>
    simp only []
    rcases callee_spec c with ⟨f, hc, he⟩ | ⟨a, hc, ha, he⟩ | he
    · rw [he]; exact clD_ok ho hc hI hj hx
    · rw [he]
      simp only [ha]
      cases hat : c.argTypes[0]? with
      | none =>
        have hs : ∀ j, stp P C call gl o env tm st.loc st.hp j = bO none fun u => j u st.loc st.hp := fun j => by unfold stp; simp only [ho, he, ha, hat]; rfl
        exact pure none (by unfold mild; simp only [ho, he]; rfl) (by simp only [cls, ho, hc]) hs
      | some t => exact pure _ (by unfold mild; simp only [ho, he]; rfl) (by simp only [cls, ho, hc]) (fun j => by unfold stp; simp only [ho, he, ha, hat])
    · rw [he]
      simp only []
      rcases mmOf_spec c with ⟨a, b, hc, ha, hm⟩ | ⟨a, b, hc, ha, hm⟩ | hm
      · rw [hm]
        simp only [ha]
        exact pure _ (by unfold mild; simp only [ho, hm]; exact Bool.or_eq_true_iff.mpr (Or.inr rfl)) (by simp only [cls, ho, hc]) (fun j => by unfold stp; simp only [ho, he, hm, ha])
      · rw [hm]
        simp only [ha]
        exact pure _ (by unfold mild; simp only [ho, hm]; exact Bool.or_eq_true_iff.mpr (Or.inr rfl)) (by simp only [cls, ho, hc]) (fun j => by unfold stp; simp only [ho, he, hm, ha])
      · rw [hm]; exact genD_ok hI hj hx
  | _ => exact genD_ok hI hj hx
def restE (P : Program) (C : Cfg) (call : CallF) (gl : Nat → Bool) (all : Array Oper) (P1 P2 : List (Nat × Nat)) (st0 : St) (l : List Oper) (k : Nat) (fs : List Foot) (st : St) (sp : Stop) : Option (Ex × St) :=
  match drawOps P C call gl all l k sp st with
  | some (gs, s, q) => endV P1 P2 all.toList st0 (fs.reverse ++ gs) s q
  | none => none
theorem restE_cons {all : Array Oper} {P1 P2 : List (Nat × Nat)} {st0 st : St} {l : List Oper} {k : Nat} {fs : List Foot} {sp : Stop} {f : Foot} :
    (match consF f (drawOps P C call gl all l k sp st) with
    | some (gs, s, q) => endV P1 P2 all.toList st0 (fs.reverse ++ gs) s q
    | none => none) = restE P C call gl all P1 P2 st0 l k (f :: fs) st sp := by
  unfold restE
  cases drawOps P C call gl all l k sp st with
  | none => rfl
  | some p =>
    obtain ⟨gs, s, q⟩ := p
    show endV P1 P2 all.toList st0 (fs.reverse ++ (f :: gs)) s q = endV P1 P2 all.toList st0 ((f :: fs).reverse ++ gs) s q
    simp
theorem chk_eq (ops : List Oper) (P1 P2 : List (Nat × Nat)) (l : List Foot) : chk ops P1 P2 l = (pairsOk l P1 && (!anyFar l ops || pairsOk l P2)) := by
  unfold chk; rw [F.e_pairsOk, F.e_anyFar]
theorem compD_ok (all : Array Oper) (P1 P2 : List (Nat × Nat)) (st0 : St) : ∀ (l : List Oper) (k : Nat) (env : List (Nat × V)) (D : List Nat) (fs : List Foot) (st : St) (kk : G.K) (k' : K), all.toList.drop k = l → useOk all l D = true → (∀ t ∈ D, aget .dead st.tm t = lkT env tm t) → (∀ t ∈ keeps, t ∈ D) →
    (∀ st' T', Ag keeps st'.tm T' → RelR keeps (kk st') (k' T' st'.loc st'.hp)) → RelR keeps (next (restE P C call gl all P1 P2 st0 l k fs st none) kk) (compD P C call gl all keeps P1 P2 l k env fs tm st.loc st.hp k')
  | [], k, env, D, fs, st, kk, k', hl, hu, hD, hk, hc => by
    show RelR keeps (next (endV P1 P2 all.toList st0 (fs.reverse ++ []) st none) kk) (bif chk all.toList P1 P2 (revA fs []) then k' (flush keeps tm env []) st.loc st.hp else none)
    rw [revA_eq, chk_eq]
    simp only [endV]
    cases (pairsOk (fs.reverse ++ []) P1 && (!anyFar (fs.reverse ++ []) all.toList || pairsOk (fs.reverse ++ []) P2)) with
    | false => trivial
    | true => exact hc st _ (fun t ht => by rw [flush_get env [] t ht (by simp)]; exact hD t (hk t ht))
  | o :: l, k, env, D, fs, st, kk, k', hl, hu, hD, hk, hc => by
    have hl' : all.toList.drop (k + 1) = l := by
      have := congrArg (List.drop 1) hl
      rw [List.drop_drop] at this
      simpa using this
    simp only [useOk, Bool.and_eq_true] at hu
    obtain ⟨⟨hu1, hu2⟩, hu3⟩ := hu
    have hI : ∀ t ∈ tmpsOf o, aget .dead st.tm t = lkT env tm t := fun t ht => hD t (by simpa using List.all_eq_true.1 hu1 t ht)
    have hsub : ∀ t ∈ keeps, t ∈ psd o.dst D := fun t ht => by cases o.dst with | none => exact hk t ht | some d => exact List.mem_cons_of_mem _ (hk t ht)
    have hj : ∀ v ft lo h, RelR keeps (next (restE P C call gl all P1 P2 st0 l (k + 1) (ft :: fs) (putV { st with loc := lo, hp := h } o.dst v) none) kk) (compD P C call gl all keeps P1 P2 l (k + 1) (psh o.dst v env) (ft :: fs) tm lo h k') := by
      intro v ft lo h
      have := compD_ok all P1 P2 st0 l (k + 1) (psh o.dst v env) (psd o.dst D) (ft :: fs) (putV { st with loc := lo, hp := h } o.dst v) kk k' hl' hu3 (psd_ok hD lo h o.dst v) hsub hc
      rw [(put_loc _ _ _).1, (put_loc _ _ _).2] at this
      exact this
    have hx : ∀ v ft h, RelR keeps (next (restE P C call gl all P1 P2 st0 l (k + 1) (ft :: fs) (putV st o.dst (.tuple [])) (some (k, v, h))) kk) (stopD P C call gl all P1 P2 k o.dst env fs tm st.loc st.hp v ft h) := by
      intro v ft h
      unfold stopD restE
      rw [F.e_drawOps, F.dropR_eq, hl']
      have h0 := psd_ok hD st.loc st.hp o.dst (.tuple [])
      have e0 : ({ st with loc := st.loc, hp := st.hp } : St) = st := rfl
      rw [e0] at h0
      rcases draw_two (P := P) (C := C) (call := call) (gl := gl) all l (psd o.dst D) (k + 1) (some (k, v, h)) (putV st o.dst (.tuple [])) ⟨layS (psh o.dst (.tuple []) env) tm, st.loc, st.hp⟩ hu3
          (fun t ht => by rw [h0 t ht]; exact (layS_get tm _ t).symm) (put_loc _ _ _).1 (put_loc _ _ _).2 with ⟨a1, a2⟩ | ⟨gs, s, s2, q, a1, a2, a3, a4, a5⟩
      · rw [a1]
        show RelR keeps (next none kk) (onSome (drawOps P C call gl all l (Nat.succ k) (some (k, v, h)) _) _ none)
        rw [show Nat.succ k = k + 1 from rfl, a2]; trivial
      · rw [a1]
        have hq := drawOps_stop _ _ _ _ _ _ _ a1
        subst hq
        show RelR keeps (next (endV P1 P2 all.toList st0 ((ft :: fs).reverse ++ gs) s (some (k, v, h))) kk) (onSome (drawOps P C call gl all l (Nat.succ k) (some (k, v, h)) _) _ none)
        rw [show Nat.succ k = k + 1 from rfl, a2]
        show RelR keeps _ (bif chk all.toList P1 P2 (revA fs (ft :: gs)) && F.traceless ((F.masks all.toList []).getD k 0) (revA fs (ft :: gs)) 0 then some (Ex.panic v, ⟨tm, s2.loc, h⟩) else none)
        rw [revA_eq, chk_eq, F.e_traceless, F.e_masks]
        have e1 : (ft :: fs).reverse ++ gs = fs.reverse ++ (ft :: gs) := by simp
        rw [e1]
        simp only [endV]
        cases (pairsOk (fs.reverse ++ (ft :: gs)) P1 && (!anyFar (fs.reverse ++ (ft :: gs)) all.toList || pairsOk (fs.reverse ++ (ft :: gs)) P2) && traceless ((masks all.toList []).getD k 0) (fs.reverse ++ (ft :: gs)) 0) with
        | false => trivial
        | true => exact ⟨rfl, a3, rfl, .inl ⟨v, rfl⟩⟩
    have hone := stpD_ok (P := P) (C := C) (call := call) (gl := gl) (keeps := keeps) (KK := fun ft s => next (restE P C call gl all P1 P2 st0 l (k + 1) (ft :: fs) s none) kk) (X := fun v ft h => next (restE P C call gl all P1 P2 st0 l (k + 1) (ft :: fs) (putV st o.dst (.tuple [])) (some (k, v, h))) kk)
      (j := fun v ft lo h => compD P C call gl all keeps P1 P2 l (k + 1) (psh o.dst v env) (ft :: fs) tm lo h k') (x := stopD P C call gl all P1 P2 k o.dst env fs tm st.loc st.hp) hI hj hx
    have hstep : next (restE P C call gl all P1 P2 st0 (o :: l) k fs st none) kk = match wantedV all o st.ρ with
        | none => none
        | some false => next (restE P C call gl all P1 P2 st0 l (k + 1) (ft0 :: fs) (putV st o.dst (.tuple [])) none) kk
        | some true => estep P C call gl st o (fun ft s => next (restE P C call gl all P1 P2 st0 l (k + 1) (ft :: fs) s none) kk) (fun v ft h => next (restE P C call gl all P1 P2 st0 l (k + 1) (ft :: fs) (putV st o.dst (.tuple [])) (some (k, v, h))) kk) := by
      conv => lhs; unfold restE
      simp only [drawOps, behind, cond_false]
      cases wantedV all o st.ρ with
      | none => rfl
      | some b =>
        cases b with
        | false =>
          simp only []
          rw [restE_cons]; rfl
        | true =>
          simp only []
          unfold estep
          cases footV P C gl st.ρ st.lc o with
          | none => rfl
          | some ft =>
            cases oneV P C call gl st o with
            | none => rfl
            | some p =>
              obtain ⟨ex, s⟩ := p
              cases ex with
              | normal => simp only []; rw [restE_cons]
              | exit i => rfl
              | ret => rfl
              | panic v =>
                simp only []
                cases stopOp o with
                | false => rfl
                | true => simp only [cond_true]; rw [restE_cons]
    rw [hstep]
    cases hg : o.guard with
    | none =>
      have hw : wantedV all o st.ρ = some true := by simp only [wantedV, hg]
      rw [hw]
      simp only []
      rw [compD]
      simp only [hg]
      exact hone
    | some q =>
      obtain ⟨i, w⟩ := q
      rw [compD]
      simp only [hg]
      cases hd : (all[i]?).bind (·.dst) with
      | none =>
        have hw : wantedV all o st.ρ = none := by simp only [wantedV, hg, hd]
        rw [hw]; trivial
      | some d =>
        have hdD : d ∈ D := by
          have : guardOk all D o = D.contains d := by simp only [guardOk, hg, hd]
          rw [this] at hu2; simpa using hu2
        have hw : wantedV all o st.ρ = wv (lkT env tm d) w := by
          rw [← hD d hdD]
          simp only [wantedV, hg, hd]
          rfl
        rw [hw]
        simp only [jn, brB]
        cases wv (lkT env tm d) w with
        | none => trivial
        | some b =>
          cases b with
          | false =>
            have := hj (.tuple []) ft0 st.loc st.hp
            exact this
          | true => exact hone
theorem region_comp {f id : Nat} {ops : Array Oper} {kk : G.K} {k' : K} (hu : useOk ops ops.toList keeps = true) (ha : Ag keeps st.tm tm) (hc : ∀ st' T', Ag keeps st'.tm T' → RelR keeps (kk st') (k' T' st'.loc st'.hp)) :
    RelR keeps (next (regionV P C call f id ops true st) kk) (compD P C call (C.glob f) ops keeps (C.pairs f id) (C.pairsH f id) ops.toList 0 [] [] tm st.loc st.hp k') := by
  have := compD_ok (P := P) (C := C) (call := call) (gl := C.glob f) (tm := tm) (keeps := keeps) ops (C.pairs f id) (C.pairsH f id) st ops.toList 0 [] keeps [] st kk k' rfl hu (fun t ht => by rw [ha t ht]; exact (gt_eq tm t).symm) (fun t ht => ht) hc
  have e : restE P C call (C.glob f) ops (C.pairs f id) (C.pairsH f id) st ops.toList 0 [] st none = regionV P C call f id ops true st := by
    unfold restE regionV
    simp only [List.reverse_nil, List.nil_append]
    cases drawOps P C call (C.glob f) ops ops.toList 0 none st with
    | none => rfl
    | some p => rfl
  rw [e] at this
  exact this
end
end Go.AM.S
end

section
namespace Go.AM.S
open Go Go.AM
open _root_.Go.AM.G (R next next_next next_done okO_eq opd_eq onSome_eq oneV_pure)
section
variable {P : Program} {C : Cfg} {call : CallF} {gl : Nat → Bool} {keeps : List Nat}
def okC (keeps : List Nat) (f : FuncId) : Code → Bool
  | .region _ ops _ => useOk ops ops.toList keeps
  | .seq a b => okC keeps f a && okC keeps f b
  | .cond c a b => (match c with | .tmp t => keeps.contains t | _ => true) && okC keeps f a && okC keeps f b
  | .block _ b => okC keeps f b
  | .loop b => okC keeps f b
  | _ => true
theorem code_ok (f fuel : Nat) : ∀ (c : Code) (st : St) (T : Tm) (k : G.K) (k' : K), okC keeps f c = true → Ag keeps st.tm T →
    (∀ st' T', Ag keeps st'.tm T' → RelR keeps (k st') (k' T' st'.loc st'.hp)) → RelR keeps (next (codeV P C call f fuel c st) k) (run call fuel (toRC P C keeps f c) T st.loc st.hp k') := by
  intro c
  induction c with
  | skip => intro st T k k' _ ha hc; exact hc st T ha
  | exit i => intro st T k k' _ ha hc; exact ⟨rfl, rfl, rfl, .inr ha⟩
  | ret => intro st T k k' _ ha hc; exact ⟨rfl, rfl, rfl, .inr ha⟩
  | region id ops draw =>
    intro st T k k' hu ha hc
    simp only [okC] at hu
    have main : RelR keeps (next (opsV P C call (C.glob f) ops ops.toList st) k) (comp P C call (C.glob f) ops keeps ops.toList [] T st.loc st.hp k') :=
      comp_ok (keeps := keeps) ops ops.toList [] keeps st k k' hu (fun t ht => by rw [ha t ht]; exact (gt_eq T t).symm) (fun t ht => ht) hc
    rw [codeV]
    show RelR keeps (next (regionV P C call f id ops draw st) k) ((bif !draw || mildR C f id ops then (fun call tm loc hp k => comp P C call (C.glob f) ops keeps ops.toList [] tm loc hp k)
      else (fun call tm loc hp k => compD P C call (C.glob f) ops keeps (C.pairs f id) (C.pairsH f id) ops.toList 0 [] [] tm loc hp k)) call T st.loc st.hp k')
    cases draw with
    | false => exact main
    | true =>
      cases hm : mildR C f id ops with
      | true => rw [region_mild hm]; exact main
      | false => exact region_comp hu ha hc
  | seq a b iha ihb =>
    intro st T k k' hu ha hc
    simp only [okC, Bool.and_eq_true] at hu
    rw [G.codeV_next, next_next]
    exact iha st T _ _ hu.1 ha (fun st' T' ha' => ihb st' T' k k' hu.2 ha' hc)
  | cond x a b iha ihb =>
    intro st T k k' hu ha hc
    simp only [okC, Bool.and_eq_true] at hu
    have hx : AM.opd st.ρ x = lk [] T x := by
      cases x with
      | tmp t => show aget .dead st.tm t = gt T t; rw [gt_eq]; exact ha t (by simpa using hu.1.1)
      | _ => rfl
    rw [codeV, hx]
    show RelR keeps _ (G.onBool (lk [] T x) (fun q => Bool.rec (motive := fun _ => R) (run call fuel (toRC P C keeps f b) T st.loc st.hp k') (run call fuel (toRC P C keeps f a) T st.loc st.hp k') q) none)
    cases lk [] T x with
    | bool q =>
      cases q with
      | true => exact iha st T k k' hu.1.2 ha hc
      | false => exact ihb st T k k' hu.2 ha hc
    | _ => trivial
  | block id b ih =>
    intro st T k k' hu ha hc
    simp only [okC] at hu
    have hb := ih st T G.done done hu ha (fun st' T' ha' => ⟨rfl, rfl, rfl, .inr ha'⟩)
    rw [next_done] at hb
    rw [codeV]
    show RelR keeps _ (G.onSome (run call fuel (toRC P C keeps f b) T st.loc st.hp done) (fun p => Ex.rec (motive := fun _ => Nat → K → St → R) (fun _ k st => k st.tm st.loc st.hp)
      (fun i id k st => bif Nat.beq i id then k st.tm st.loc st.hp else some (.exit i, st)) (fun _ _ st => some (.ret, st)) (fun v _ _ st => some (.panic v, st)) p.1 id k' p.2) none)
    generalize codeV P C call f fuel b st = r at hb ⊢
    generalize run call fuel (toRC P C keeps f b) T st.loc st.hp done = r' at hb ⊢
    cases r with
    | none =>
      cases r' with
      | none => trivial
      | some p => exact hb.elim
    | some p =>
      obtain ⟨ex, s⟩ := p
      cases r' with
      | none => exact hb.elim
      | some p' =>
        obtain ⟨ex', s'⟩ := p'
        obtain ⟨rfl, h1, h2, h3⟩ := hb
        cases ex with
        | normal =>
          show RelR keeps (k s) (k' s'.tm s'.loc s'.hp)
          rw [← h1, ← h2]
          exact hc s s'.tm (h3.resolve_left (fun ⟨v, e⟩ => by simp at e))
        | exit i =>
          have h3 := h3.resolve_left (fun ⟨v, e⟩ => by simp at e)
          show RelR keeps (next (bif Nat.beq i id then some (.normal, s) else some (.exit i, s)) k) (bif Nat.beq i id then k' s'.tm s'.loc s'.hp else some (.exit i, s'))
          cases Nat.beq i id with
          | true =>
            show RelR keeps (k s) (k' s'.tm s'.loc s'.hp)
            rw [← h1, ← h2]; exact hc s s'.tm h3
          | false => exact ⟨rfl, h1, h2, .inr h3⟩
        | ret => exact ⟨rfl, h1, h2, h3⟩
        | panic v => exact ⟨rfl, h1, h2, h3⟩
  | loop b ih =>
    intro st T k k' hu ha hc
    simp only [okC] at hu
    rw [codeV]
    show RelR keeps _ (Nat.rec (motive := fun _ => K) (fun _ _ _ => none) (fun _ il tm loc hp => run call fuel (toRC P C keeps f b) tm loc hp il) fuel T st.loc st.hp)
    have key : ∀ (n : Nat) (st : St) (T : Tm), Ag keeps st.tm T → RelR keeps (loopV (codeV P C call f fuel b) n st) (Nat.rec (motive := fun _ => K) (fun _ _ _ => none) (fun _ il tm loc hp => run call fuel (toRC P C keeps f b) tm loc hp il) n T st.loc st.hp) := by
      intro n
      induction n with
      | zero => intro st T _; trivial
      | succ n ihn =>
        intro st T ha
        rw [G.loopV_next]
        exact ih st T _ _ hu ha (fun st' T' ha' => ihn st' T' ha')
    have out : ∀ (n : Nat) (st : St), next (loopV (codeV P C call f fuel b) n st) k = loopV (codeV P C call f fuel b) n st := by
      intro n
      induction n with
      | zero => intro st; rfl
      | succ n ihn =>
        intro st
        rw [G.loopV_next, next_next]
        exact congrArg _ (funext ihn)
    rw [out]
    exact key fuel st T ha
  | _ => intro st T k k' hu ha hc; trivial
end
end Go.AM.S
end

section
namespace Go.AM.S
open Go Go.AM
open _root_.Go.AM.G (R next next_next next_done okO_eq opd_eq onSome_eq oneV_pure)
section
variable {P : Program} {C : Cfg} {call : CallF} {keeps : List Nat}
def resOk (keeps : List Nat) (l : List ResultVar) : Bool := l.all fun r => match r with
  | .tmp t => keeps.contains t
  | .cell a _ => keeps.contains a
theorem res_congr {s s' : St} (h1 : s.loc = s'.loc) (h2 : s.hp = s'.hp) (ha : Ag keeps s.tm s'.tm) : ∀ l : List ResultVar, resOk keeps l = true → resV P s l = resV P s' l
  | [], _ => rfl
  | .tmp t :: l, h => by
    simp only [resOk, List.all_cons, Bool.and_eq_true] at h
    have := res_congr h1 h2 ha l h.2
    have ht : s.ρ t = s'.ρ t := ha t (by simpa using h.1)
    simp only [resV, this, ht]
  | .cell a t :: l, h => by
    simp only [resOk, List.all_cons, Bool.and_eq_true] at h
    have := res_congr h1 h2 ha l h.2
    have ht : s.ρ a = s'.ρ a := ha a (by simpa using h.1)
    have hr : ∀ r, getRow s r = getRow s' r := by
      intro r
      cases r with
      | loc x g => simp only [getRow, St.lc, h1]
      | glob x => simp only [getRow, h2]
    simp only [resV, this, ht, hr]
def fin (P : Program) (h : Hp) (res : List ResultVar) (st : St) : Option Out := match resV P st res with
  | none => none
  | some l => match exps false st l with
    | none => none
    | some (l, st') => match l with
      | [v] => some (.val v (backHp h st'.hp [v]))
      | vs => some (.val (.tuple vs) (backHp h st'.hp vs))
theorem fin_congr {h : Hp} {res : List ResultVar} {s s' : St} (h1 : s.loc = s'.loc) (h2 : s.hp = s'.hp) (ha : Ag keeps s.tm s'.tm) (hr : resOk keeps res = true) : fin P h res s = fin P h res s' := by
  unfold fin
  rw [res_congr h1 h2 ha res hr]
  have e : s' = s.as s'.tm := by
    cases s; cases s'
    simp at h1 h2
    subst h1; subst h2; rfl
  cases resV P s' res with
  | none => rfl
  | some l =>
    simp only []
    rw [e, exps_as]
    cases exps false s l with
    | none => rfl
    | some p => obtain ⟨l, st'⟩ := p; rfl
structure FOk (P : Program) (C : Cfg) (f : FuncId) (fc : Fc) : Prop where
  ok : ∃ fn cd keeps, P.funcs[f]? = some fn ∧ fn.body = some cd ∧ fc.rc = toRC P C keeps f cd ∧ fc.res = fn.results.toList ∧ okC keeps f cd = true ∧ resOk keeps fn.results.toList = true
theorem finS (h : Hp) (res : List ResultVar) (st : St) : G.onSome (F.resV P st res) (fun l => G.onSome (F.exps false st l) (fun q => match q.1 with
      | [v] => some (Out.val v (F.backHp h q.2.hp [v]))
      | vs => some (.val (.tuple vs) (F.backHp h q.2.hp vs))) none) none = fin P h res st := by
  rw [F.e_resV, F.e_exps, F.e_backHp]
  unfold fin
  cases resV P st res with
  | none => rfl
  | some l =>
    show G.onSome (exps false st l) _ none = _
    simp only []
    cases exps false st l with
    | none => rfl
    | some p => obtain ⟨l, s⟩ := p; rfl
theorem body_ok {tbl : Nat → Option Fc} (h1 : ∀ f fc, tbl f = some fc → C.use f = true ∧ FOk P C f fc) (h2 : ∀ f, tbl f = none → C.use f = false) (call : CallF) (fuel : Nat) : body P tbl call fuel = bodyV P C call fuel := by
  funext f args h
  unfold body bodyV
  cases hf : tbl f with
  | none => rw [h2 f hf]; rfl
  | some fc =>
    obtain ⟨hu, fn, cd, keeps, e1, e2, e3, e4, e5, e6⟩ := h1 f fc hf
    rw [hu, e1]
    simp only [e2]
    show G.onSome (run call fuel fc.rc (F.startTm args) .lf { h with dirty := none } done) _ none = _
    rw [F.e_startTm, e3, e4]
    have hrun := code_ok (P := P) (C := C) (call := call) (keeps := keeps) f fuel cd { tm := startTm args, loc := .lf, hp := { h with dirty := none } } (startTm args) G.done done e5 (fun t _ => rfl) (fun st' T' ha => ⟨rfl, rfl, rfl, .inr ha⟩)
    rw [next_done] at hrun
    generalize codeV P C call f fuel cd { tm := startTm args, loc := .lf, hp := { h with dirty := none } } = r at hrun ⊢
    generalize run call fuel (toRC P C keeps f cd) (startTm args) .lf { h with dirty := none } done = r' at hrun ⊢
    cases r with
    | none =>
      cases r' with
      | none => rfl
      | some p => exact hrun.elim
    | some p =>
      obtain ⟨ex, s⟩ := p
      cases r' with
      | none => exact hrun.elim
      | some p' =>
        obtain ⟨ex', s'⟩ := p'
        obtain ⟨rfl, k1, k2, k3⟩ := hrun
        cases ex with
        | normal =>
          have k3 := k3.resolve_left (fun ⟨v, e⟩ => by simp at e)
          refine (finS h fn.results.toList s').trans ?_
          rw [← fin_congr k1 k2 k3 e6]; rfl
        | ret =>
          have k3 := k3.resolve_left (fun ⟨v, e⟩ => by simp at e)
          refine (finS h fn.results.toList s').trans ?_
          rw [← fin_congr k1 k2 k3 e6]; rfl
        | exit i => rfl
        | panic v =>
          show some (Out.panic v (F.backHp h s'.hp [v])) = some (Out.panic v (backHp h s.hp [v]))
          rw [F.e_backHp, k2]
theorem fn_eq {kn : Kn} {tbl : Nat → Option Fc} (h1 : ∀ f fc, tbl f = some fc → C.use f = true ∧ FOk P C f fc) (h2 : ∀ f, tbl f = none → C.use f = false) : ∀ n, fn P kn tbl n = fnV P C kn n
  | 0 => rfl
  | n + 1 => by
    funext f args h
    show G.onSome (kn f) (fun k => k (fn P kn tbl n) args h) (body P tbl (fn P kn tbl n) n f args h) = bodyK P C kn (fnV P C kn n) n f args h
    rw [fn_eq h1 h2 n, body_ok h1 h2]
    unfold bodyK
    cases kn f <;> rfl
def lkL {α : Type} : List (Nat × α) → Nat → Option α
  | [], _ => none
  | (k, a) :: l, f => bif Nat.beq k f then some a else lkL l f
theorem lkL_mem {α : Type} : ∀ {l : List (Nat × α)} {f : Nat} {a : α}, lkL l f = some a → (f, a) ∈ l
  | [], f, a, h => by simp [lkL] at h
  | (k, b) :: l, f, a, h => by
    simp only [lkL] at h
    cases hb : Nat.beq k f with
    | true =>
      rw [hb] at h
      simp at h
      have := Nat.eq_of_beq_eq_true hb
      subst this; subst h; simp
    | false => rw [hb] at h; exact List.mem_cons_of_mem _ (lkL_mem h)
theorem lkL_none {α : Type} : ∀ {l : List (Nat × α)} {f : Nat}, lkL l f = none → f ∉ l.map (·.1)
  | [], f, _ => by simp
  | (k, b) :: l, f, h => by
    simp only [lkL] at h
    cases hb : Nat.beq k f with
    | true => rw [hb] at h; simp at h
    | false =>
      rw [hb] at h
      have h2 := lkL_none h
      simp only [List.map_cons, List.mem_cons, not_or]
      exact ⟨fun e => by subst e; simp at hb, h2⟩
end
end Go.AM.S
end

section
/- looking up an operation of the program -/
namespace Go.AM.S
open Go Go.AM
def rgn (id : Nat) : Code → Option (Array Oper)
  | .region i ops _ => bif Nat.beq i id then some ops else none
  | .seq a b => (match rgn id a with
    | some o => some o
    | none => rgn id b)
  | .cond _ a b => (match rgn id a with
    | some o => some o
    | none => rgn id b)
  | .block _ b => rgn id b
  | .loop b => rgn id b
  | _ => none
def rgA (fn : Func) (id : Nat) : Array Oper := match fn.body with
  | some c => (rgn id c).getD #[]
  | none => #[]
def noOp : Oper := { dst := none, op := .panic (.func 0), type := 0, pos := "", after := #[], guard := none }
def opA (fn : Func) (id i : Nat) : Oper := ((rgA fn id)[i]?).getD noOp
theorem fok {P : Program} {C : Cfg} {f : FuncId} {fn : Func} {cd : Code} {kp : List Nat} {rc : RC} (h1 : fn.body = some cd) (h2 : P.funcs[f]? = some fn) (h3 : rc = toRC P C kp f cd) (h4 : okC kp f cd = true) (h5 : resOk kp fn.results.toList = true) :
    FOk P C f ⟨rc, fn.results.toList⟩ := ⟨⟨fn, cd, kp, h2, h1, h3, rfl, h4, h5⟩⟩
end Go.AM.S
end

section
/- From a run of the abstract machine to what a row asks. -/
namespace Go.AM
open Go Go.ChangeShapes Go.WideShapes
structure Stays (W W' : World) : Prop where
  os : W'.os = W.os
  output : W'.output = W.output
  size : W.heap.size ≤ W'.heap.size
  heap : ∀ i, i < W.heap.size → W'.heap[i]? = W.heap[i]?
theorem Stays.kept {W W' : World} (h : Stays W W') (may : MemPlace → Prop) : W.keptBut W' may := by
  refine ⟨h.os, h.output, fun i hi => ?_⟩
  rw [h.heap i hi]
  cases hq : W.heap[i]? with
  | none => simp
  | some o =>
    cases o <;> simp
theorem Stays.frozen {W W' : World} (h : Stays W W') {a : Addr} (ha : a.block < W.heap.size) : W'.frozen? a = W.frozen? a := by
  unfold World.frozen?
  rw [h.heap _ ha]
def noHp : Hp := ⟨[], none, 0⟩
def topCtx [Laid] : Ctx := { gl := fun _ => none, lc := fun _ _ => none, shut := Laid.cells, ext := fun _ => none, text := fun _ => none }
theorem top_sound [Laid] {P : Program} {call : CallF} (hC : CallOk P call) {f : FuncId} {args : List V} {v : V} {h : Hp} (hr : call f args noHp = some (.val v h)) {W : World} {xs : List Value}
    (hargs : ∀ c : Ctx, RelL c args xs) (hnl : V.noLocL args = true) (hl : ∀ b o x, Laid.cells b o = some x → W.cell? ⟨b, o, none⟩ = some x) :
    Calls P f xs.toArray W fun e W' => (∃ x, e = .returned x ∧ ∃ c, Rel c v x) ∧ Stays W W' := by
  have hrow : ∀ r row, getRow (⟨.lf, .lf, noHp⟩ : St) r = some row → row = .gone := by
    intro r row hr
    cases r with
    | loc s g =>
      rw [getRow_loc] at hr
      have : (⟨.lf, .lf, noHp⟩ : St).lc s = (0, .gone) := aget_lf _ _
      rw [this] at hr
      split at hr
      · simpa using hr.symm
      · simp at hr
    | glob r => simp [getRow, noHp] at hr
  have hblk : ∀ r, (topCtx).blk r = none := fun r => by cases r <;> rfl
  have hW : WRel topCtx ⟨.lf, .lf, noHp⟩ W := by
    refine ⟨fun b o x hx => hl b o x hx, fun r row hr => ?_, fun r1 r2 row1 row2 b g1 g2 n1 n2 => absurd (hrow _ _ g1) n1, fun _ _ => rfl, fun _ _ _ => rfl, fun r b hb => ?_, fun r n hn => ?_, fun b n hn => ?_⟩
    · rw [hrow r row hr]; trivial
    · rw [hblk] at hb; simp at hb
    · simp [topCtx] at hn
    · simp [topCtx] at hn
  obtain ⟨_, hc⟩ := hC f args noHp _ hr topCtx W ⟨.lf, .lf, noHp⟩ xs rfl hW (fun r frz cs hr => by simp [noHp] at hr) (hargs _) hnl (fun _ _ _ h => h)
  refine hc.mono (fun e W' he => ?_)
  cases e with
  | returned x =>
    obtain ⟨c', r⟩ := he
    have hno : ∀ b, ¬ Own topCtx ⟨.lf, .lf, noHp⟩ b := fun b ⟨r, row, h1, h2, _⟩ => h2 (hrow r row h1)
    exact ⟨⟨x, rfl, c', r.rel⟩, ⟨r.keep.os, r.keep.output, r.keep.size, fun i hi => r.keep.block i hi (hno i)⟩⟩
  | panicked ch => exact he.elim
  | outgrown => exact he.elim
theorem top_true [Laid] {P : Program} {call : CallF} (hC : CallOk P call) {f : FuncId} {args : List V} {h : Hp} (hr : call f args noHp = some (.val (.bool true) h)) {W : World} {xs : List Value}
    (hargs : ∀ c : Ctx, RelL c args xs) (hnl : V.noLocL args = true) (hl : ∀ b o x, Laid.cells b o = some x → W.cell? ⟨b, o, none⟩ = some x) :
    Calls P f xs.toArray W fun e W' => e = .returned (.bool true) ∧ Stays W W' :=
  (top_sound hC hr hargs hnl hl).mono (fun e W' ⟨⟨x, he, c, hx⟩, hs⟩ => by
    rw [hx.bool_inv] at he
    exact ⟨he, hs⟩)
theorem post_of_stays {H : Type} {enc : TypeId × Value → H} {P : Program} {f : Func} {s : ChangeSpec} {apart fresh handsOn again : Bool} {W W' : World} {args : Array Value} {v : Value} {ds gs : List (DataW H)} {before pa pv : List MemPlace}
    (hW : DataW.Whole enc P f.params.toList s.vars apart W args.toList ds gs before)
    (hres : ∀ (b : Nat) (sp : Nat → Bool) (hd : Bool), DataW.TrodAll enc P W' b sp hd f.resultTypes.toList (v.resultList f.resultTypes.size) (s.fn H (ds ++ gs)).results [])
    (hargs : ∀ sp : Nat → Bool, (∀ p ∈ before, sp p.block = true) → DataW.TrodAll enc P W' 0 sp true f.params.toList args.toList (s.fn H (ds ++ gs)).args pa)
    (hvars : ∀ sp : Nat → Bool, (∀ p ∈ before, sp p.block = true) → DataW.TrodVars enc P W' sp s.vars (s.fn H (ds ++ gs)).vars pv)
    (hps : before = pa ++ pv) (hs : Stays W W')
    (hok : ∀ (j : Nat) (t : TypeId) (r : Value), f.resultTypes[j]? = some t → (v.resultList f.resultTypes.size)[j]? = some r → Value.okWide P W' .any 0 t r) :
    s.post enc P f apart fresh handsOn again W args v W' := by
  have hold : ∀ p ∈ before, (fun b => decide (b < W.heap.size)) p.block = true := fun p hp => by simpa using hW.lt p hp
  have hlt := fun p hp => hW.lt p hp
  refine ⟨ds, gs, before, [], pa, pv, hW, hres _ _ _, hargs _ hold, hvars _ hold, World.keptBut_mono (fun p hp => ⟨hp, ?_⟩) (hs.kept (· ∈ before)), fun _ => ?_⟩
  · rw [hps, List.mem_append] at hp
    exact Or.inr hp
  · obtain ⟨_, _, _, _, _, hz, hn⟩ := hW
    refine ⟨hok, _, _, ([] ++ pa) ++ pv, ⟨[] ++ pa, pv, trodAll_append (hargs _ (fun _ _ => rfl)) (hres _ _ _), hvars _ (fun _ _ => rfl), rfl, ?_, ?_⟩, ?_⟩
    · intro b off hp
      have hp' : MemPlace.cell b off ∈ before := by rw [hps]; simpa using hp
      rw [hs.frozen (hlt _ hp')]
      exact hz b off hp'
    · intro ha
      have := hn ha
      rw [hps] at this
      simpa using this
    · intro p hp _
      rw [hps]
      simpa using hp
end Go.AM
end
