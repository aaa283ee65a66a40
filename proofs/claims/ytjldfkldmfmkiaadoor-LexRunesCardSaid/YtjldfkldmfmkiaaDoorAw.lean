/- Part Aw of the proof: what it says stands at its theorems. -/
import Derived.Test.YtjldfkldmfmkiaaDoorAm3
set_option linter.unusedVariables false
set_option linter.unusedSimpArgs false
set_option linter.unusedSectionVars false
section
namespace Go.AM.S
open Go Go.AM
open _root_.Go.AM.G (R)
def Ev (p : Nat → Prop) : Prop := ∃ N, ∀ n, N ≤ n → p n
theorem Ev.of {p : Nat → Prop} (h : ∀ n, p n) : Ev p := ⟨0, fun n _ => h n⟩
theorem Ev.mono {p q : Nat → Prop} (h : Ev p) (hq : ∀ n, p n → q n) : Ev q := ⟨h.choose, fun n hn => hq n (h.choose_spec n hn)⟩
theorem Ev.and {p q : Nat → Prop} (h : Ev p) (k : Ev q) : Ev fun n => p n ∧ q n :=
 ⟨max h.choose k.choose, fun n hn => ⟨h.choose_spec n (Nat.le_trans (Nat.le_max_left _ _) hn), k.choose_spec n (Nat.le_trans (Nat.le_max_right _ _) hn)⟩⟩
theorem Ev.next {p : Nat → Prop} (h : Ev p) : Ev fun n => ∃ m, n = m + 1 ∧ p m :=
 ⟨h.choose + 1, fun n hn => ⟨n - 1, by omega, h.choose_spec _ (by omega)⟩⟩
def out1 (e : Ex) (tm : Tm) (loc : Lo) (hp : Hp) (k : K) : R := match e with
 | .normal => k tm loc hp
 | e => some (e, ⟨tm, loc, hp⟩)
section
variable {P : Program} {kn : Kn} {tbl : Nat → Option Fc}
variable (P kn tbl) in
def Ends (c : RC) (s : St) (e : Ex) (s' : St) : Prop := Ev fun n => ∀ k, run (fn P kn tbl n) n c s.tm s.loc s.hp k = out1 e s'.tm s'.loc s'.hp k
variable (P kn tbl) in
def W (c : RC) (s : St) (Q : Ex → St → Prop) : Prop := ∃ e s', Ends P kn tbl c s e s' ∧ Q e s'
variable (P kn tbl) in
def Runs (f : FuncId) (args : List V) (h : Hp) (o : Out) : Prop := Ev fun n => fn P kn tbl n f args h = some o
theorem W.mono {c : RC} {s : St} {Q Q' : Ex → St → Prop} (h : W P kn tbl c s Q) (hq : ∀ e s', Q e s' → Q' e s') : W P kn tbl c s Q' :=
 let ⟨e, s', h1, h2⟩ := h
 ⟨e, s', h1, hq e s' h2⟩
theorem w_skip {s : St} {Q : Ex → St → Prop} (h : Q .normal s) : W P kn tbl .skip s Q := ⟨.normal, s, .of fun n k => rfl, h⟩
theorem w_ret {s : St} {Q : Ex → St → Prop} (h : Q .ret s) : W P kn tbl .ret s Q := ⟨.ret, s, .of fun n k => rfl, h⟩
theorem w_exit {i : Nat} {s : St} {Q : Ex → St → Prop} (h : Q (.exit i) s) : W P kn tbl (.exit i) s Q := ⟨.exit i, s, .of fun n k => rfl, h⟩
theorem w_seq {a b : RC} {s : St} {Q : Ex → St → Prop} (h : W P kn tbl a s (fun e s1 => match e with | .normal => W P kn tbl b s1 Q | e => Q e s1)) : W P kn tbl (.seq a b) s Q := by
 obtain ⟨e, s1, h1, h2⟩ := h
 have plain : ∀ e, e ≠ .normal → Ends P kn tbl a s e s1 → Q e s1 → W P kn tbl (.seq a b) s Q := by
  intro e hne h1 h2
  refine ⟨e, s1, h1.mono fun n h k => ?_, h2⟩
  show run _ n a s.tm s.loc s.hp (fun tm loc hp => run _ n b tm loc hp k) = _
  rw [h]
  cases e <;> first | rfl | exact absurd rfl hne
 cases e with
 | normal =>
  obtain ⟨e2, s2, h3, h4⟩ := h2
  refine ⟨e2, s2, (h1.and h3).mono fun n ⟨h, h'⟩ k => ?_, h4⟩
  show run _ n a s.tm s.loc s.hp (fun tm loc hp => run _ n b tm loc hp k) = _
  rw [h]
  exact h' k
 | exit i => exact plain (.exit i) (by simp) h1 h2
 | ret => exact plain .ret (by simp) h1 h2
 | panic v => exact plain (.panic v) (by simp) h1 h2
theorem w_cond {x : Operand} {a b : RC} {s : St} {Q : Ex → St → Prop} {q : Bool} (hx : lk [] s.tm x = .bool q) (ht : q = true → W P kn tbl a s Q) (hf : q = false → W P kn tbl b s Q) : W P kn tbl (.cond x a b) s Q := by
 cases q with
 | true =>
  obtain ⟨e, s', h1, h2⟩ := ht rfl
  refine ⟨e, s', h1.mono fun n h k => ?_, h2⟩
  show G.onBool (lk [] s.tm x) (fun q => Bool.rec (motive := fun _ => R) (run _ n b s.tm s.loc s.hp k) (run _ n a s.tm s.loc s.hp k) q) none = _
  rw [hx]; exact h k
 | false =>
  obtain ⟨e, s', h1, h2⟩ := hf rfl
  refine ⟨e, s', h1.mono fun n h k => ?_, h2⟩
  show G.onBool (lk [] s.tm x) (fun q => Bool.rec (motive := fun _ => R) (run _ n b s.tm s.loc s.hp k) (run _ n a s.tm s.loc s.hp k) q) none = _
  rw [hx]; exact h k
theorem w_block {id : Nat} {b : RC} {s : St} {Q : Ex → St → Prop} (h : W P kn tbl b s (fun e s1 => match e with | .exit i => if i = id then Q .normal s1 else Q (.exit i) s1 | e => Q e s1)) : W P kn tbl (.block id b) s Q := by
 obtain ⟨e, s1, h1, h2⟩ := h
 have key : ∀ n k, run (fn P kn tbl n) n (.block id b) s.tm s.loc s.hp k = G.onSome (run (fn P kn tbl n) n b s.tm s.loc s.hp done) (fun p => Ex.rec (motive := fun _ => Nat → K → St → R) (fun _ k st => k st.tm st.loc st.hp)
   (fun i id k st => bif Nat.beq i id then k st.tm st.loc st.hp else some (.exit i, st)) (fun _ _ st => some (.ret, st)) (fun v _ _ st => some (.panic v, st)) p.1 id k p.2) none := fun n k => rfl
 cases e with
 | normal => exact ⟨.normal, s1, h1.mono fun n h k => by rw [key, h]; rfl, h2⟩
 | ret => exact ⟨.ret, s1, h1.mono fun n h k => by rw [key, h]; rfl, h2⟩
 | panic v => exact ⟨.panic v, s1, h1.mono fun n h k => by rw [key, h]; rfl, h2⟩
 | exit i =>
  by_cases e : i = id
  ·subst e
   simp only [if_true] at h2
   refine ⟨.normal, s1, h1.mono fun n h k => ?_, h2⟩
   rw [key, h]
   show (bif Nat.beq i i then k s1.tm s1.loc s1.hp else some (.exit i, s1)) = _
   rw [Nat.beq_refl]; rfl
  ·simp only [e, if_false] at h2
   refine ⟨.exit i, s1, h1.mono fun n h k => ?_, h2⟩
   rw [key, h]
   show (bif Nat.beq i id then k s1.tm s1.loc s1.hp else some (.exit i, s1)) = _
   have : Nat.beq i id = false := by
    cases hb : Nat.beq i id with
    | false => rfl
    | true => exact absurd (Nat.eq_of_beq_eq_true hb) e
   rw [this]; rfl
theorem w_loop {b : RC} {Q : Ex → St → Prop} (I : Nat → St → Prop) (hb : ∀ m s, I m s → W P kn tbl b s (fun e s' => match e with | .normal => ∃ m', m' < m ∧ I m' s' | e => Q e s')) :
  ∀ (m : Nat) (s : St), I m s → W P kn tbl (.loop b) s Q := by
 have key : ∀ (m : Nat) (s : St), I m s → ∃ e s', e ≠ .normal ∧ Q e s' ∧ ∃ N c, ∀ n, N ≤ n → ∀ j, c ≤ j →
   (Nat.rec (motive := fun _ => K) (fun _ _ _ => none) (fun _ il tm loc hp => run (fn P kn tbl n) n b tm loc hp il) j : K) s.tm s.loc s.hp = some (e, s') := by
  intro m
  induction m using Nat.strongRecOn with
  | _ m ih =>
   intro s hs
   obtain ⟨e, s1, ⟨N, h1⟩, h2⟩ := hb m s hs
   have plain : e ≠ .normal → Q e s1 → ∃ e s', e ≠ .normal ∧ Q e s' ∧ ∃ N c, ∀ n, N ≤ n → ∀ j, c ≤ j →
     (Nat.rec (motive := fun _ => K) (fun _ _ _ => none) (fun _ il tm loc hp => run (fn P kn tbl n) n b tm loc hp il) j : K) s.tm s.loc s.hp = some (e, s') := by
    intro hne hq
    refine ⟨e, s1, hne, hq, N, 1, fun n hn j hj => ?_⟩
    obtain ⟨j, rfl⟩ : ∃ i, j = i + 1 := ⟨j - 1, by omega⟩
    show run (fn P kn tbl n) n b s.tm s.loc s.hp _ = _
    rw [h1 n hn]
    cases e <;> first | rfl | exact absurd rfl hne
   cases e with
   | normal =>
    obtain ⟨m', hm, hi⟩ := h2
    obtain ⟨e2, s2, hne, hq, N2, c, h3⟩ := ih m' hm s1 hi
    refine ⟨e2, s2, hne, hq, max N N2, c + 1, fun n hn j hj => ?_⟩
    obtain ⟨j, rfl⟩ : ∃ i, j = i + 1 := ⟨j - 1, by omega⟩
    show run (fn P kn tbl n) n b s.tm s.loc s.hp _ = _
    rw [h1 n (by omega)]
    exact h3 n (by omega) j (by omega)
   | exit i => exact plain (by simp) h2
   | ret => exact plain (by simp) h2
   | panic v => exact plain (by simp) h2
 intro m s hs
 obtain ⟨e, s', hne, hq, N, c, h⟩ := key m s hs
 refine ⟨e, s', ⟨max N c, fun n hn k => ?_⟩, hq⟩
 show (Nat.rec (motive := fun _ => K) (fun _ _ _ => none) (fun _ il tm loc hp => run (fn P kn tbl n) n b tm loc hp il) n : K) s.tm s.loc s.hp = _
 rw [h n (by omega) n (by omega)]
 cases e <;> first | rfl | exact absurd rfl hne
theorem w_reg {f : CallF → Tm → Lo → Hp → K → R} {s : St} {Q : Ex → St → Prop} {tm' : Tm} {loc' : Lo} {hp' : Hp} (N : Nat) (h : ∀ n, N ≤ n → ∀ k, f (fn P kn tbl n) s.tm s.loc s.hp k = k tm' loc' hp') (hq : Q .normal ⟨tm', loc', hp'⟩) : W P kn tbl (.reg f) s Q :=
 ⟨.normal, ⟨tm', loc', hp'⟩, ⟨N, fun n hn k => h n hn k⟩, hq⟩
theorem w_reg_panic {f : CallF → Tm → Lo → Hp → K → R} {s : St} {Q : Ex → St → Prop} {v : V} {s' : St} (N : Nat) (h : ∀ n, N ≤ n → ∀ k, f (fn P kn tbl n) s.tm s.loc s.hp k = some (.panic v, s')) (hq : Q (.panic v) s') : W P kn tbl (.reg f) s Q :=
 ⟨.panic v, s', ⟨N, fun n hn k => h n hn k⟩, hq⟩
theorem runs_of {f : FuncId} {fc : Fc} {args : List V} {h : Hp} {o : Out} (hk : kn f = none) (ht : tbl f = some fc)
  (hw : W P kn tbl fc.rc ⟨startTm args, .lf, { h with dirty := none }⟩ (fun e s => match e with | .normal => fin P h fc.res s = some o | .ret => fin P h fc.res s = some o | .panic v => o = .panic v (backHp h s.hp [v]) | .exit _ => False)) : Runs P kn tbl f args h o := by
 obtain ⟨e, s, h1, h2⟩ := hw
 refine h1.next.mono fun n ⟨m, hm, h1⟩ => ?_
 subst hm
 show G.onSome (kn f) (fun k => k (fn P kn tbl m) args h) (body P tbl (fn P kn tbl m) m f args h) = _
 rw [hk]
 show body P tbl (fn P kn tbl m) m f args h = _
 unfold body
 rw [ht]
 show G.onSome (run (fn P kn tbl m) m fc.rc (F.startTm args) .lf { h with dirty := none } done) _ none = _
 have := h1 done
 rw [F.e_startTm]
 have h3 : run (fn P kn tbl m) m fc.rc (startTm args) .lf { h with dirty := none } done = out1 e s.tm s.loc s.hp done := this
 rw [h3]
 cases e with
 | normal => exact (finS h fc.res s).trans h2
 | ret => exact (finS h fc.res s).trans h2
 | panic v =>
  rw [h2]
  show some (Out.panic v (F.backHp h s.hp [v])) = _
  rw [F.e_backHp]
 | exit i => exact h2.elim
theorem runs_known {f : FuncId} {k : CallF → List V → Hp → Option Out} {args : List V} {h : Hp} {o : Out} (hk : kn f = some k) (ho : ∀ call, k call args h = some o) : Runs P kn tbl f args h o := by
 refine ⟨1, fun n hn => ?_⟩
 obtain ⟨m, rfl⟩ : ∃ m, n = m + 1 := ⟨n - 1, by omega⟩
 show G.onSome (kn f) (fun k => k (fn P kn tbl m) args h) (body P tbl (fn P kn tbl m) m f args h) = _
 rw [hk]
 exact ho _
theorem Runs.at {f : FuncId} {args : List V} {h : Hp} {o : Out} (hr : Runs P kn tbl f args h o) : ∃ n, fn P kn tbl n f args h = some o := ⟨hr.choose, hr.choose_spec _ (Nat.le_refl _)⟩
theorem bO_some (v : V) (f : V → R) : bO (some v) f = f v := rfl
theorem gt_pt (tm : Tm) (j i : Nat) (v : V) : gt (pt tm j v) i = if j = i then v else gt tm i := by rw [gt_eq, pt_eq, gt_eq, aget_aset]
theorem gt_start (args : List V) (i : Nat) : gt (startTm args) i = args.getD i .dead := by
 have key : ∀ (l : List V) (k i : Nat) (t : Tr V), aget V.dead (startFrom k l t) i = if k ≤ i ∧ i < k + l.length then l.getD (i - k) .dead else aget V.dead t i := by
  intro l
  induction l with
  | nil => intro k i t; rw [if_neg (by simp only [List.length_nil]; omega)]; rfl
  | cons v l ih =>
   intro k i t
   simp only [startFrom]
   rw [ih (k + 1) i (aset t k v), aget_aset]
   by_cases h1 : k + 1 ≤ i ∧ i < k + 1 + l.length
   ·rw [if_pos h1, if_pos (by simp; omega)]
    rw [show i - k = (i - (k + 1)) + 1 by omega, List.getD_cons_succ]
   ·rw [if_neg h1]
    by_cases h2 : k = i
    ·subst h2; rw [if_pos rfl, if_pos (by simp)]; simp
    ·rw [if_neg h2, if_neg (by simp; omega)]
 rw [gt_eq]
 unfold startTm
 rw [key args 0 i .lf, aget_lf]
 by_cases h : 0 ≤ i ∧ i < 0 + args.length
 ·rw [if_pos h]; simp
 ·rw [if_neg h, List.getD_eq_getElem?_getD, List.getElem?_eq_none (by omega)]; rfl
theorem cl_val {call : CallF} {f : FuncId} {args : List V} {tm : Tm} {loc : Lo} {hp : Hp} {j : V → Lo → Hp → R} {l : List V} {st : St} {v : V} {h : Hp} (he : exps false ⟨.lf, loc, hp⟩ args = some (l, st)) (hc : call f l st.hp = some (.val v h)) :
  cl call f args tm loc hp j = j v st.loc h := by
 unfold cl
 rw [F.e_exps, he]
 show backO (call f l st.hp) st.loc tm _ = _
 rw [hc]; rfl
theorem cl_panic {call : CallF} {f : FuncId} {args : List V} {tm : Tm} {loc : Lo} {hp : Hp} {j : V → Lo → Hp → R} {l : List V} {st : St} {v : V} {h : Hp} (he : exps false ⟨.lf, loc, hp⟩ args = some (l, st)) (hc : call f l st.hp = some (.panic v h)) :
  cl call f args tm loc hp j = some (.panic v, ⟨tm, st.loc, h⟩) := by
 unfold cl
 rw [F.e_exps, he]
 show backO (call f l st.hp) st.loc tm _ = _
 rw [hc]; rfl
end
end Go.AM.S
end

section
namespace Go.AM.S
open Go Go.AM
set_option linter.defProp false
open _root_.Go.AM.G (R)
section
variable {P : Program} {kn : Kn} {tbl : Nat → Option Fc}
variable (P kn tbl) in
def WW (c : RC) (s : St) (N : St → Prop) (X : Nat → St → Prop) (Q : St → Prop) : Prop :=
 W P kn tbl c s (fun e s' => match e with | .normal => N s' | .exit i => X i s' | .ret => Q s' | .panic _ => False)
variable {N : St → Prop} {X : Nat → St → Prop} {Q : St → Prop} {s : St}
theorem ww_mono {c : RC} {N' : St → Prop} {X' : Nat → St → Prop} {Q' : St → Prop} (h : WW P kn tbl c s N X Q) (h1 : ∀ s, N s → N' s) (h2 : ∀ i s, X i s → X' i s) (h3 : ∀ s, Q s → Q' s) : WW P kn tbl c s N' X' Q' := by
 refine W.mono h (fun e s' hq => ?_)
 cases e with
 | normal => exact h1 _ hq
 | exit i => exact h2 _ _ hq
 | ret => exact h3 _ hq
 | panic v => exact hq
theorem ww_skip (h : N s) : WW P kn tbl .skip s N X Q := w_skip h
theorem ww_ret (h : Q s) : WW P kn tbl .ret s N X Q := w_ret h
theorem ww_exit {i : Nat} (h : X i s) : WW P kn tbl (.exit i) s N X Q := w_exit h
theorem ww_seq {a b : RC} (h : WW P kn tbl a s (fun s1 => WW P kn tbl b s1 N X Q) X Q) : WW P kn tbl (.seq a b) s N X Q := by
 refine w_seq (W.mono h (fun e s' hq => ?_))
 cases e with
 | normal => exact hq
 | exit i => exact hq
 | ret => exact hq
 | panic v => exact hq
theorem ww_block {id : Nat} {b : RC} (h : WW P kn tbl b s N (fun i s => if i = id then N s else X i s) Q) : WW P kn tbl (.block id b) s N X Q := by
 refine w_block (W.mono h (fun e s' hq => ?_))
 cases e with
 | normal => exact hq
 | exit i =>
  show if i = id then N s' else X i s'
  exact hq
 | ret => exact hq
 | panic v => exact hq
theorem ww_loop {b : RC} (I : Nat → St → Prop) (hb : ∀ m s, I m s → WW P kn tbl b s (fun s' => ∃ m', m' < m ∧ I m' s') X Q) (m : Nat) (h : I m s) : WW P kn tbl (.loop b) s N X Q := by
 refine w_loop I (fun m s hi => W.mono (hb m s hi) (fun e s' hq => ?_)) m s h
 cases e with
 | normal => exact hq
 | exit i => exact hq
 | ret => exact hq
 | panic v => exact hq
theorem ww_true {t : Nat} {a b : RC} (hx : gt s.tm t = .bool true) (h : WW P kn tbl a s N X Q) : WW P kn tbl (.cond (.tmp t) a b) s N X Q :=
 w_cond (q := true) hx (fun _ => h) (fun e => by cases e)
theorem ww_false {t : Nat} {a b : RC} (hx : gt s.tm t = .bool false) (h : WW P kn tbl b s N X Q) : WW P kn tbl (.cond (.tmp t) a b) s N X Q :=
 w_cond (q := false) hx (fun e => by cases e) (fun _ => h)
theorem ww_reg {f : CallF → Tm → Lo → Hp → K → R} {tm' : Tm} {loc' : Lo} {hp' : Hp} (h : ∀ n k, f (fn P kn tbl n) s.tm s.loc s.hp k = k tm' loc' hp') (hq : N ⟨tm', loc', hp'⟩) : WW P kn tbl (.reg f) s N X Q :=
 w_reg 0 (fun n _ k => h n k) hq
theorem ww_call {p : Nat → Prop} (hp : Ev p) {f : CallF → Tm → Lo → Hp → K → R} {tm' : Tm} {loc' : Lo} {hp' : Hp} (h : ∀ n, p n → ∀ k, f (fn P kn tbl n) s.tm s.loc s.hp k = k tm' loc' hp') (hq : N ⟨tm', loc', hp'⟩) : WW P kn tbl (.reg f) s N X Q :=
 w_reg hp.choose (fun n hn k => h n (hp.choose_spec n hn) k) hq
theorem runs_ex {f : FuncId} {fc : Fc} {args : List V} {h : Hp} {Post : Out → Prop} (hk : kn f = none) (ht : tbl f = some fc)
  (hw : WW P kn tbl fc.rc ⟨startTm args, .lf, { h with dirty := none }⟩ (fun s => ∃ o, fin P h fc.res s = some o ∧ Post o) (fun _ _ => False) (fun s => ∃ o, fin P h fc.res s = some o ∧ Post o)) : ∃ o, Runs P kn tbl f args h o ∧ Post o := by
 obtain ⟨e, s, h1, h2⟩ := hw
 cases e with
 | normal => obtain ⟨o, h3, h4⟩ := h2; exact ⟨o, runs_of hk ht ⟨.normal, s, h1, h3⟩, h4⟩
 | ret => obtain ⟨o, h3, h4⟩ := h2; exact ⟨o, runs_of hk ht ⟨.ret, s, h1, h3⟩, h4⟩
 | exit i => exact h2.elim
 | panic v => exact h2.elim
end
noncomputable def lg (loc : Lo) (d : Nat) : Nat × Row := F.getR (0, .gone) (path d) loc
noncomputable def lp (loc : Lo) (d : Nat) (x : Nat × Row) : Lo := F.putR x (path d) loc
theorem lg_lp (loc : Lo) (j i : Nat) (x : Nat × Row) : lg (lp loc j x) i = if j = i then x else lg loc i := by
 have := aget_aset (0, Row.gone) loc j i x
 unfold lg lp
 rw [F.getR_eq, F.putR_eq, F.getR_eq]
 exact this
theorem lg_lf (i : Nat) : lg .lf i = (0, .gone) := by
 unfold lg
 rw [F.getR_eq]
 exact aget_lf _ _
theorem lg_unfold (loc : Lo) (d : Nat) : F.getR (0, .gone) (path d) loc = lg loc d := rfl
theorem lp_unfold (loc : Lo) (d : Nat) (x : Nat × Row) : F.putR x (path d) loc = lp loc d x := rfl
def nl (k : IntKind) (d : List Nat) : List V := d.map fun x => .int k (.ofNat x)
theorem wrap_i64 {n : Nat} (h : n < 9223372036854775808) : F.wrapI .i64 (.ofNat n) = .ofNat n := by
 show (bif Nat.blt n 9223372036854775808 then Int.ofNat n else _) = _
 rw [show Nat.blt n 9223372036854775808 = true from by rw [Nat.blt_eq]; exact h]; rfl
theorem wrap_u64 {n : Nat} (h : n < 18446744073709551616) : F.wrapI .u64 (.ofNat n) = .ofNat n := by
 show (bif Nat.blt n 18446744073709551616 then Int.ofNat n else _) = _
 rw [show Nat.blt n 18446744073709551616 = true from by rw [Nat.blt_eq]; exact h]; rfl
theorem wrap_u32 {n : Nat} (h : n < 4294967296) : F.wrapI .u32 (.ofNat n) = .ofNat n := by
 show (bif Nat.blt n 4294967296 then Int.ofNat n else _) = _
 rw [show Nat.blt n 4294967296 = true from by rw [Nat.blt_eq]; exact h]; rfl
theorem wrap_i32 {n : Nat} (h : n < 2147483648) : F.wrapI .i32 (.ofNat n) = .ofNat n := by
 show (bif Nat.blt n 2147483648 then Int.ofNat n else _) = _
 rw [show Nat.blt n 2147483648 = true from by rw [Nat.blt_eq]; exact h]; rfl
theorem wrap_u8 {n : Nat} (h : n < 256) : F.wrapI .u8 (.ofNat n) = .ofNat n := by
 show (bif Nat.blt n 256 then Int.ofNat n else _) = _
 rw [show Nat.blt n 256 = true from by rw [Nat.blt_eq]; exact h]; rfl
theorem wrap_u32_mod (n : Nat) : F.wrapI .u32 (.ofNat n) = .ofNat (n % 4294967296) := by
 rw [F.wrapI_eq]
 unfold IntKind.wrap
 rfl
theorem wrap_u64_mod (n : Nat) : F.wrapI .u64 (.ofNat n) = .ofNat (n % 18446744073709551616) := by
 rw [F.wrapI_eq]
 unfold IntKind.wrap
 rfl
theorem wrap_u8_mod (n : Nat) : F.wrapI .u8 (.ofNat n) = .ofNat (n % 256) := by
 rw [F.wrapI_eq]
 unfold IntKind.wrap
 rfl
variable {P : Program}
theorem bin_n (op : BinOp) (t : TypeId) (cn : Bool) (k : IntKind) (a b : Int) : bin P op t cn (.int k a) (.int k b) = G.int2 op k a b := by
 show (bif Nat.beq (G.ikNum k) (G.ikNum k) then G.int2 op k a b else _) = _
 rw [Nat.beq_refl]; rfl
theorem i_add (k : IntKind) (a b : Nat) : G.int2 .add k (.ofNat a) (.ofNat b) = some (.int k (F.wrapI k (.ofNat (a + b)))) := rfl
theorem i_mul (k : IntKind) (a b : Nat) : G.int2 .mul k (.ofNat a) (.ofNat b) = some (.int k (F.wrapI k (.ofNat (a * b)))) := rfl
theorem i_sub {k : IntKind} {a b : Nat} (h : b ≤ a) : G.int2 .sub k (.ofNat a) (.ofNat b) = some (.int k (F.wrapI k (.ofNat (a - b)))) := by
 show some (V.int k (F.wrapI k (Int.sub (.ofNat a) (.ofNat b)))) = _
 have : Int.sub (.ofNat a) (.ofNat b) = .ofNat (a - b) := (Int.ofNat_sub h).symm
 rw [this]
theorem i_lss (k : IntKind) (a b : Nat) : G.int2 .lss k (.ofNat a) (.ofNat b) = some (.bool (decide (a < b))) := by
 show some (V.bool (F.ltI (.ofNat a) (.ofNat b))) = _
 rw [F.ltI_eq]; congr 2; simp
theorem i_gtr (k : IntKind) (a b : Nat) : G.int2 .gtr k (.ofNat a) (.ofNat b) = some (.bool (decide (b < a))) := by
 show some (V.bool (F.ltI (.ofNat b) (.ofNat a))) = _
 rw [F.ltI_eq]; congr 2; simp
theorem i_leq (k : IntKind) (a b : Nat) : G.int2 .leq k (.ofNat a) (.ofNat b) = some (.bool (decide (a ≤ b))) := by
 show some (V.bool (!F.ltI (.ofNat b) (.ofNat a))) = _
 rw [F.ltI_eq]; congr 2; rw [Bool.eq_iff_iff]; simp
theorem i_geq (k : IntKind) (a b : Nat) : G.int2 .geq k (.ofNat a) (.ofNat b) = some (.bool (decide (b ≤ a))) := by
 show some (V.bool (!F.ltI (.ofNat a) (.ofNat b))) = _
 rw [F.ltI_eq]; congr 2; rw [Bool.eq_iff_iff]; simp
theorem i_eql (k : IntKind) (a b : Nat) : G.int2 .eql k (.ofNat a) (.ofNat b) = some (.bool (decide (a = b))) := by
 show some (V.bool (F.eqI (.ofNat a) (.ofNat b))) = _
 rw [F.eqI_eq]; congr 2; rw [Bool.eq_iff_iff]; simp [Int.natCast_inj]
theorem i_neq (k : IntKind) (a b : Nat) : G.int2 .neq k (.ofNat a) (.ofNat b) = some (.bool (decide (a ≠ b))) := by
 show some (V.bool (!F.eqI (.ofNat a) (.ofNat b))) = _
 rw [F.eqI_eq]; congr 2; rw [Bool.eq_iff_iff]; simp [Int.natCast_inj]
theorem d_true {p : Prop} [Decidable p] (h : p) : decide p = true := decide_eq_true h
theorem d_false {p : Prop} [Decidable p] (h : ¬ p) : decide p = false := decide_eq_false h
theorem i_quo {k : IntKind} {a b : Nat} (h : b ≠ 0) : G.int2 .quo k (.ofNat a) (.ofNat b) = some (.int k (F.wrapI k (.ofNat (a / b)))) := by
 show (if (Int.ofNat b) = 0 then none else some (V.int k (k.wrap ((Int.ofNat a).tdiv (Int.ofNat b))))) = _
 rw [if_neg (by intro e; exact h (by simpa using e)), F.wrapI_eq]
 rfl
theorem i_rem {k : IntKind} {a b : Nat} (h : b ≠ 0) : G.int2 .rem k (.ofNat a) (.ofNat b) = some (.int k (.ofNat (a % b))) := by
 show (if (Int.ofNat b) = 0 then none else some (V.int k ((Int.ofNat a).tmod (Int.ofNat b)))) = _
 rw [if_neg (by intro e; exact h (by simpa using e))]
 rfl
theorem i_shr {k : IntKind} {a b : Nat} (h : b ≤ k.bits) : G.int2 .shr k (.ofNat a) (.ofNat b) = some (.int k (.ofNat (a / 2 ^ b))) := by
 show (if (Int.ofNat b) < 0 then none else some (V.int k ((Int.ofNat a).fdiv (2 ^ (min (Int.ofNat b).toNat k.bits))))) = _
 rw [if_neg (by simp)]
 have e : min (Int.ofNat b).toNat k.bits = b := Nat.min_eq_left h
 rw [e]
 have e2 : (2 ^ b : Int) = Int.ofNat (2 ^ b) := by simp
 rw [e2]
 have e3 : (Int.ofNat a).fdiv (Int.ofNat (2 ^ b)) = Int.ofNat (a / 2 ^ b) := by
  rw [Int.fdiv_eq_ediv_of_nonneg (Int.ofNat a) (show 0 ≤ Int.ofNat (2 ^ b) from Int.natCast_nonneg _)]; rfl
 rw [e3]
theorem i_shl {k : IntKind} {a b : Nat} (h : b ≤ k.bits) : G.int2 .shl k (.ofNat a) (.ofNat b) = some (.int k (F.wrapI k (.ofNat (a * 2 ^ b)))) := by
 show (if (Int.ofNat b) < 0 then none else some (V.int k (k.wrap ((Int.ofNat a) * (2 ^ (min (Int.ofNat b).toNat k.bits)))))) = _
 rw [if_neg (by simp)]
 have e : min (Int.ofNat b).toNat k.bits = b := Nat.min_eq_left h
 rw [e, F.wrapI_eq]
 congr 3
theorem i_or64 {a b : Nat} (ha : a < 18446744073709551616) (hb : b < 18446744073709551616) : G.int2 .or .u64 (.ofNat a) (.ofNat b) = some (.int .u64 (.ofNat (a ||| b))) := by
 show some (V.int .u64 (IntKind.u64.wrap (BitVec.ofInt 64 (Int.ofNat a) ||| BitVec.ofInt 64 (Int.ofNat b)).toNat)) = _
 have e : (BitVec.ofInt 64 (Int.ofNat a) ||| BitVec.ofInt 64 (Int.ofNat b)).toNat = a ||| b := by
  rw [BitVec.toNat_or]
  show (BitVec.ofInt 64 (a : Int)).toNat ||| (BitVec.ofInt 64 (b : Int)).toNat = _
  rw [BitVec.toNat_ofInt, BitVec.toNat_ofInt]
  congr 1 <;> omega
 rw [e, ← F.wrapI_eq]
 congr 2
 exact wrap_u64 (Nat.or_lt_two_pow (n := 64) ha hb)
theorem i_or32 {a b : Nat} (ha : a < 4294967296) (hb : b < 4294967296) : G.int2 .or .u32 (.ofNat a) (.ofNat b) = some (.int .u32 (.ofNat (a ||| b))) := by
 show some (V.int .u32 (IntKind.u32.wrap (BitVec.ofInt 32 (Int.ofNat a) ||| BitVec.ofInt 32 (Int.ofNat b)).toNat)) = _
 have e : (BitVec.ofInt 32 (Int.ofNat a) ||| BitVec.ofInt 32 (Int.ofNat b)).toNat = a ||| b := by
  rw [BitVec.toNat_or]
  show (BitVec.ofInt 32 (a : Int)).toNat ||| (BitVec.ofInt 32 (b : Int)).toNat = _
  rw [BitVec.toNat_ofInt, BitVec.toNat_ofInt]
  congr 1 <;> omega
 rw [e, ← F.wrapI_eq]
 congr 2
 exact wrap_u32 (Nat.or_lt_two_pow (n := 32) ha hb)
theorem i_shr64 {a b : Nat} (h : b ≤ 64) : G.int2 .shr .u64 (.ofNat a) (.ofNat b) = some (.int .u64 (.ofNat (a / 2 ^ b))) := i_shr h
theorem i_shr32 {a b : Nat} (h : b ≤ 32) : G.int2 .shr .u32 (.ofNat a) (.ofNat b) = some (.int .u32 (.ofNat (a / 2 ^ b))) := i_shr h
theorem i_shl64 {a b : Nat} (h : b ≤ 64) : G.int2 .shl .u64 (.ofNat a) (.ofNat b) = some (.int .u64 (F.wrapI .u64 (.ofNat (a * 2 ^ b)))) := i_shl h
theorem bO_eq {v : Option V} {w : V} (h : v = some w) (f : V → R) : bO v f = f w := by subst h; rfl
theorem jn_eq {α β : Type} (c : α) (f : α → β) : jn c f = f c := rfl
theorem brB_true (x y : R) : brB (some true) x y = y := rfl
theorem brB_false (x y : R) : brB (some false) x y = x := rfl
theorem wv_bool (b w : Bool) : wv (.bool b) w = some (b == w) := rfl
theorem pick_true (a b : V) : pick (.bool true) a b = some a := rfl
theorem pick_false (a b : V) : pick (.bool false) a b = some b := rfl
theorem un_not (b : Bool) : G.un .not (.bool b) = some (.bool !b) := rfl
theorem ext_tuple (l : List V) (i : Nat) : ext (.tuple l) i = F.nthR l i := rfl
theorem nth_zero {α : Type} (x : α) (l : List α) : F.nthR (x :: l) 0 = some x := rfl
theorem nth_succ {α : Type} (x : α) (l : List α) (n : Nat) : F.nthR (x :: l) (n + 1) = F.nthR l n := rfl
theorem len_slice (e : TypeId) (tok : Option Ref) (f : Bool) (sz : Nat) (l : List V) : len (some (.slice e)) (.slice tok f sz l) = some (.int .i64 (.ofNat l.length)) := by
 show some (V.int .i64 (.ofNat (F.lenR l))) = _
 rw [F.lenR_eq]
theorem len_arr (e : TypeId) (r : Ref) (o n : Nat) (li : Option Nat) (sz : Nat) (ag : Bool) : len (some (.slice e)) (.arr r o n li sz ag) = some (.int .i64 (.ofNat n)) := rfl
theorem len_nils (e : TypeId) : len (some (.slice e)) .nils = some (.int .i64 (.ofNat 0)) := rfl
theorem len_str (s : Str) : len (some .string) (.str s) = some (.int .i64 (.ofNat s.n)) := rfl
theorem nl_length (k : IntKind) (d : List Nat) : (nl k d).length = d.length := by simp [nl]
theorem nl_nth (k : IntKind) (d : List Nat) (i : Nat) (h : i < d.length) : F.nthR (nl k d) i = some (.int k (.ofNat (d.getD i 0))) := by
 rw [F.nthR_eq]
 simp [nl, List.getElem?_eq_getElem h, List.getD_eq_getElem?_getD]
theorem ia_slice {t e : TypeId} {ag : Bool} (he : F.elemT P t = some e) (hl : F.layE P e = some (1, ag)) (tok : Option Ref) (f : Bool) (k k' : IntKind) (d : List Nat) (i : Nat) (h : i < d.length) :
  ia P t (.slice tok f 1 (nl k d)) (.int k' (.ofNat i)) = some (.iptr [.int k (.ofNat (d.getD i 0))]) := by
 show G.onSome (F.elemT P t) _ none = _
 rw [he]
 show G.onSome (F.layE P e) _ none = _
 rw [hl]
 show (bif Nat.blt i (F.lenR (nl k d)) then G.onSome (F.nthR (nl k d) i) _ none else none) = _
 rw [F.lenR_eq, nl_length, show Nat.blt i d.length = true from by rw [Nat.blt_eq]; exact h, nl_nth k d i h]
 rfl
theorem ia_arr {t e : TypeId} {ag : Bool} (he : F.elemT P t = some e) (hl : F.layE P e = some (1, ag)) (r : Ref) (o n : Nat) (li : Option Nat) (ag' : Bool) (k' : IntKind) (i : Nat) (h : i < n) :
  ia P t (.arr r o n li 1 ag') (.int k' (.ofNat i)) = some (.ptr r (o + i)) := by
 show G.onSome (F.elemT P t) _ none = _
 rw [he]
 show G.onSome (F.layE P e) _ none = _
 rw [hl]
 show (bif Nat.blt i n then some (V.ptr r (Nat.add o (Nat.mul i 1))) else none) = _
 rw [show Nat.blt i n = true from by rw [Nat.blt_eq]; exact h]
 show some (V.ptr r (o + i * 1)) = _
 rw [Nat.mul_one]
theorem ld_iptr {t : TypeId} (hl : F.layE P t = some (1, false)) (v : V) (cs : List V) (l : Lo) (h : Hp) : ld P t (.iptr (v :: cs)) l h = some v := by
 show G.part (F.layE P t) (v :: cs) 0 = _
 rw [hl]; rfl
noncomputable def ldc (P : Program) (t : TypeId) (g o : Nat) (row : Nat × Row) : Option V := G.onCells row.2 (fun _ cs => bif Nat.beq g row.1 then G.part (F.layE P t) cs o else none) none
theorem ld_loc (t : TypeId) (s g o : Nat) (l : Lo) (h : Hp) : ld P t (.ptr (.loc s g) o) l h = ldc P t g o (lg l s) := rfl
theorem ldc_cells {t : TypeId} (hl : F.layE P t = some (1, false)) (g o : Nat) (frz : Bool) (cs : List V) : ldc P t g o (g, .cells frz cs) = F.nthR cs o := by
 show (bif Nat.beq g g then G.part (F.layE P t) cs o else none) = _
 rw [Nat.beq_refl, hl]; rfl
noncomputable def ldg (P : Program) (t : TypeId) (o : Nat) (row : Option Row) : Option V := G.onSome row (fun row => G.onCells row (fun _ cs => G.part (F.layE P t) cs o) none) none
theorem ld_glob (t : TypeId) (r o : Nat) (l : Lo) (h : Hp) : ld P t (.ptr (.glob r) o) l h = ldg P t o (F.nthR h.rows r) := rfl
theorem ldg_cells {t : TypeId} (hl : F.layE P t = some (1, false)) (o : Nat) (frz : Bool) (cs : List V) : ldg P t o (some (.cells frz cs)) = F.nthR cs o := by
 show G.part (F.layE P t) cs o = _
 rw [hl]; rfl
theorem stL_eq {t : TypeId} {s g off : Nat} {x : V} {loc : Lo} {cs cs' : List V} {j : Lo → R} (h : lg loc s = (g, .cells false cs)) (hx : x.cells.all V.cellOk = true) (hl : F.lenIs P t x.cells.length = true) (hs : setAt cs off x.cells = some cs') :
  stL P t s g off x loc j = j (lp loc s (g, .cells false cs')) := by
 unfold stL
 rw [show F.getR (0, Row.gone) (path s) loc = (g, .cells false cs) from h]
 show (bif Nat.beq g g && F.allR V.cellOk x.cells && F.lenIs P t (F.lenR x.cells) then G.onSome (F.setAt cs off x.cells) _ none else none) = _
 rw [Nat.beq_refl, F.allR_eq, hx, F.lenR_eq, hl, F.e_setAt, hs]
 rfl
theorem setAt_nl (k : IntKind) (d : List Nat) (i x : Nat) (h : i < d.length) : setAt (nl k d) i [.int k (.ofNat x)] = some (nl k (d.set i x)) := by
 unfold setAt
 simp only [List.length_cons, List.length_nil, nl_length]
 rw [show Nat.ble (i + (0 + 1)) d.length = true from by rw [Nat.ble_eq]; omega]
 simp only [cond_true, nl, Option.some.injEq, ← List.map_take, ← List.map_drop]
 rw [List.set_eq_take_append_cons_drop, if_pos h]
 simp
variable {C : Cfg} {call : CallF} {gl : Nat → Bool} {o : Oper} {t' tm : Tm} {loc : Lo} {hp : Hp} {j : V → Lo → Hp → R}
theorem gen_val {d : Nat} {v : V} {st : St} (hd : o.dst = some d) (h : stepV P C gl ⟨t', loc, hp⟩ o = some (.val v st)) : gen P C call gl o t' tm loc hp j = j v st.loc st.hp := by
 unfold gen
 rw [F.e_oneV]
 unfold oneV
 rw [h]
 simp only [putV, hd]
 show j (gt (aset st.tm d v) d) st.loc st.hp = _
 rw [gt_eq, aget_aset, if_pos rfl]
theorem gen_none {v : V} {st : St} (hd : o.dst = none) (h : stepV P C gl ⟨t', loc, hp⟩ o = some (.val v st)) : gen P C call gl o t' tm loc hp j = j (.tuple []) st.loc st.hp := by
 unfold gen
 rw [F.e_oneV]
 unfold oneV
 rw [h]
 simp only [putV, hd]
 rfl
theorem gen_stuck (h : stepV P C gl ⟨t', loc, hp⟩ o = none) : gen P C call gl o t' tm loc hp j = none := by
 unfold gen
 rw [F.e_oneV]
 unfold oneV
 rw [h]; rfl
theorem rho_gt (s : St) (i : Nat) : s.ρ i = gt s.tm i := by rw [gt_eq]; rfl
theorem opd_gt (s : St) (i : Nat) : AM.opd s.ρ (.tmp i) = gt s.tm i := rho_gt s i
theorem lc_lg (s : St) (i : Nat) : s.lc i = lg s.loc i := by unfold lg; rw [F.getR_eq]; rfl
theorem aset_lp (loc : Lo) (i : Nat) (x : Nat × Row) : aset loc i x = lp loc i x := by unfold lp; rw [F.putR_eq]; rfl
noncomputable def cvt (k : IntKind) (v : V) (f : V → R) : R := G.onInt v (fun _ n => f (.int k (F.wrapI k n))) none
theorem cvt_int (k k' : IntKind) (n : Int) (f : V → R) : cvt k (.int k' n) f = f (.int k (F.wrapI k n)) := rfl
theorem gen_convert {d x : Nat} {s t : TypeId} {ks kd : IntKind} (hd : o.dst = some d) (ho : o.op = .convert s t (.tmp x)) (h1 : P.underlying s = some (.int ks)) (h2 : P.underlying t = some (.int kd)) {k : IntKind} {n : Int} (hv : gt t' x = .int k n) :
  gen P C call gl o t' tm loc hp j = j (.int kd (F.wrapI kd n)) loc hp := by
 refine gen_val (v := .int kd (F.wrapI kd n)) (st := ⟨t', loc, hp⟩) hd ?_
 have hp1 : locV P C gl (⟨t', loc, hp⟩ : St).ρ (⟨t', loc, hp⟩ : St).lc o = some (.int kd (F.wrapI kd n), none) := by
  unfold locV
  simp only [ho, pureV, opd_gt, hv, convV, h1, h2, F.wrapI_eq, Option.map_some]
 unfold stepV
 rw [hp1]; rfl
theorem gen_box {d : Nat} {x : Operand} {t : TypeId} {v : V} (hd : o.dst = some d) (ho : o.op = .box t x) (ha : C.isArr t = false) (hg : gl d = false) (hv : AM.opd (⟨t', loc, hp⟩ : St).ρ x = v) (hl : v.live = true) :
  gen P C call gl o t' tm loc hp j = j (.ptr (.loc d ((lg loc d).1 + 1)) 0) (lp loc d ((lg loc d).1 + 1, .cells false v.cells)) hp := by
 refine gen_val (v := .ptr (.loc d ((lg loc d).1 + 1)) 0) (st := ⟨t', lp loc d ((lg loc d).1 + 1, .cells false v.cells), hp⟩) hd ?_
 have hp1 : locV P C gl (⟨t', loc, hp⟩ : St).ρ (⟨t', loc, hp⟩ : St).lc o = some (.ptr (.loc d ((lg loc d).1 + 1)) 0, some (d, (lg loc d).1 + 1, .cells false v.cells)) := by
  unfold locV
  simp only [ho, hd, ha, hg, hv, hl, lc_lg, cond_false, Bool.false_or, Bool.not_true]
 unfold stepV
 rw [hp1]
 simp only [applyL, aset_lp]
theorem al_eq {t : TypeId} {z : V} {n : Nat} (hz : F.zeroV P t = some z) (hn : F.szOf P t = some n) (hl : z.live = true) (hc : F.lenR z.cells = n) (d : Nat) (loc : Lo) (j : V → Lo → R) :
  al P t d loc j = j (.ptr (.loc d ((lg loc d).1 + 1)) 0) (lp loc d ((lg loc d).1 + 1, .cells false z.cells)) := by
 unfold al
 rw [hz, hn]
 show (bif z.live && Nat.beq (F.lenR z.cells) n then _ else none) = _
 rw [hl, hc, Nat.beq_refl]
 rfl
theorem gen_one {d : Nat} {x : Operand} {t e : TypeId} {k : IntKind} {n : Int} (hd : o.dst = some d) (ho : o.op = .buildSlice t 1 #[(0, x)]) (ha : C.isArr t = true) (hg : gl d = false) (he : elemT P t = some e) (hl : layE P e = some (1, false))
  {k0 : IntKind} {n0 : Int} (hz : zeroV P e = some (.int k0 n0)) (hv : AM.opd (⟨t', loc, hp⟩ : St).ρ x = .int k n) :
  gen P C call gl o t' tm loc hp j = j (.arr (.loc d ((lg loc d).1 + 1)) 0 1 (some 1) 1 false) (lp loc d ((lg loc d).1 + 1, .cells false [.int k n])) hp := by
 refine gen_val (v := .arr (.loc d ((lg loc d).1 + 1)) 0 1 (some 1) 1 false) (st := ⟨t', lp loc d ((lg loc d).1 + 1, .cells false [.int k n]), hp⟩) hd ?_
 have hp1 : locV P C gl (⟨t', loc, hp⟩ : St).ρ (⟨t', loc, hp⟩ : St).lc o = none := by
  unfold locV
  simp only [ho, pureV, he, hl, hz, ha, Bool.not_true, Bool.false_and, cond_false, Option.map_none]
 unfold stepV
 rw [hp1]
 unfold stepG
 simp only [ho, hd, he, hl, hz, opds, List.map_cons, List.map_nil, hv, exps, exp, exp1, V.live, V.noLoc, Bool.and_self, cond_true, ha, hg, addRow, cond_false, lc_lg, aset_lp]
 rfl
theorem gen_one1 {d : Nat} {x : Operand} {t e : TypeId} {k : IntKind} {n : Nat} (hd : o.dst = some d) (ho : o.op = .buildSlice t 1 #[(0, x)]) (ha : C.isArr t = true) (hg : gl d = false) (he : elemT P t = some e) (hl : layE P e = some (1, false))
  {k0 : IntKind} {n0 : Int} (hz : zeroV P e = some (.int k0 n0)) (hv : AM.opd (⟨t', loc, hp⟩ : St).ρ x = .int k (.ofNat n)) :
  gen P C call gl o t' tm loc hp j = j (.arr (.loc d ((lg loc d).1 + 1)) 0 1 (some 1) 1 false) (lp loc d ((lg loc d).1 + 1, .cells false (nl k [n]))) hp := gen_one hd ho ha hg he hl hz hv
theorem gen_make {d : Nat} {x : Nat} {t e : TypeId} {n b : Nat} {k1 k2 : IntKind} (hd : o.dst = some d) (ho : o.op = .makeSlice t (.tmp x) (.tmp x)) (hg : gl d = false) (he : elemT P t = some e) (hl : layE P e = some (1, false)) (hb : (P.info? e).map (·.bytes) = some b)
  (hz : zeroV P e = some (.int k2 (.ofNat 0))) (hv : gt t' x = .int k1 (.ofNat n)) (hn : n * b ≤ 70368744177664) (hn2 : n ≤ 70368744177664) :
  gen P C call gl o t' tm loc hp j = j (.arr (.loc d ((lg loc d).1 + 1)) 0 n (some n) 1 false) (lp loc d ((lg loc d).1 + 1, .cells false (nl k2 (List.replicate n 0)))) hp := by
 have hf : flat (List.replicate n (V.int k2 (.ofNat 0))) = nl k2 (List.replicate n 0) := by
  unfold flat nl
  rw [List.map_replicate]
  clear hv hn hn2
  induction n with
  | zero => rfl
  | succ n ih => rw [List.replicate_succ, List.flatMap_cons, ih]; rfl
 refine gen_val (v := .arr (.loc d ((lg loc d).1 + 1)) 0 n (some n) 1 false) (st := ⟨t', lp loc d ((lg loc d).1 + 1, .cells false (nl k2 (List.replicate n 0))), hp⟩) hd ?_
 have hp1 : locV P C gl (⟨t', loc, hp⟩ : St).ρ (⟨t', loc, hp⟩ : St).lc o = none := by
  unfold locV
  simp only [ho, pureV, Option.map_none]
 unfold stepV
 rw [hp1]
 unfold stepG
 simp only [ho, hd, opd_gt, hv, makeV, he, hl, hb, hz]
 rw [show Nat.ble n n = true from by rw [Nat.ble_eq]; exact Nat.le_refl n, show Nat.ble (n * b) maxBytes = true from by rw [Nat.ble_eq]; exact hn, show Nat.ble n maxBytes = true from by rw [Nat.ble_eq]; exact hn2]
 simp only [V.cells, List.length_cons, List.length_nil, V.live, Bool.and_self, hg, addRow, cond_false, cond_true, lc_lg, aset_lp, hf]
 rfl
def Ar (loc : Lo) (d : Nat) (v : V) (k : IntKind) (l : List Nat) : Prop :=
 (l = [] ∧ v = .nils) ∨ (l ≠ [] ∧ ∃ g, v = .arr (.loc d g) 0 l.length none 1 false ∧ lg loc d = (g, .cells false (nl k l)))
theorem flat_nl (k : IntKind) (l : List Nat) : flat (nl k l) = nl k l := by
 unfold flat nl
 induction l with
 | nil => rfl
 | cons x l ih => rw [List.map_cons, List.flatMap_cons, ih]; rfl
theorem chunk_nl (k : IntKind) (l : List Nat) : chunk 1 false l.length (nl k l) = nl k l := by
 unfold nl
 induction l with
 | nil => rfl
 | cons x l ih =>
  simp only [List.length_cons, List.map_cons, chunk, cond_false, List.headD_cons, List.drop_succ_cons, List.drop_zero, ih]
  rfl
theorem getRow_loc {s g : Nat} {row : Row} {st : St} (h : lg st.loc s = (g, row)) : getRow st (.loc s g) = some row := by
 show (bif Nat.beq (st.lc s).1 g then some (st.lc s).2 else none) = _
 rw [lc_lg, h]
 simp
theorem setRow_loc (st : St) (s g : Nat) (row : Row) : setRow st (.loc s g) row = ⟨st.tm, lp st.loc s (g, row), st.hp⟩ := by
 show (⟨st.tm, aset st.loc s (g, row), st.hp⟩ : St) = _
 rw [aset_lp]
theorem nl_append (k : IntKind) (a b : List Nat) : nl k (a ++ b) = nl k a ++ nl k b := by simp [nl]
theorem noLocL_nl (k : IntKind) (l : List Nat) : V.noLocL (nl k l) = true := by
 unfold nl
 induction l with
 | nil => rfl
 | cons x l ih => simp only [List.map_cons, V.noLocL, V.noLoc, ih, Bool.and_self]
theorem noRefsL_nl (k : IntKind) (l : List Nat) : V.noRefsL (nl k l) = true := by
 unfold nl
 induction l with
 | nil => rfl
 | cons x l ih => simp only [List.map_cons, V.noRefsL, V.noRefs, ih, Bool.and_self]
theorem fits_nl (k : IntKind) (l : List Nat) : (nl k l).all (fun v => Nat.beq v.cells.length 1 && v.cells.all V.cellOk) = true := by
 unfold nl
 induction l with
 | nil => rfl
 | cons x l ih => simp only [List.map_cons, List.all_cons, ih, Bool.and_true]; rfl
theorem gen_app {d x y : Nat} {c : Call} {t t2 e : TypeId} {b : Nat} {k : IntKind} {l ys : List Nat} {v w : V} (hd : o.dst = some d) (ho : o.op = .call c) (hc : c.callee = .builtin .append) (ha : c.args = #[.tmp x, .tmp y]) (hty : c.argTypes[0]? = some t) (hni : notInt P c.argTypes[1]? = true)
    (hA : C.isArr t = true) (hg : gl d = false) (he : elemT P t = some e) (hl : layE P e = some (1, false)) (hb : byteE P e = some b) (hx : gt t' x = v) (hy : gt t' y = w) (hv : Ar loc d v k l)
    (hw : itemsOf ⟨t', loc, hp⟩ w = some (nl k ys)) (hys : ys ≠ []) (hn : (l.length + ys.length) * b ≤ 70368744177664) :
    ∃ v' loc', gen P C call gl o t' tm loc hp j = j v' loc' hp ∧ Ar loc' d v' k (l ++ ys) ∧ ∀ i, i ≠ d → lg loc' i = lg loc i := by
  have hp1 : locV P C gl (⟨t', loc, hp⟩ : St).ρ (⟨t', loc, hp⟩ : St).lc o = none := by
    unfold locV
    simp only [ho, pureV, hc, ha, Option.map_none]
  have hne : ∀ {q : Prop}, nl k ys = [] → q := fun h => absurd (by simpa [nl] using h) hys
  have hmb : ∀ n, n ≤ 70368744177664 → Nat.ble n maxBytes = true := fun n h => by rw [Nat.ble_eq]; exact h
  rcases hv with ⟨rfl, rfl⟩ | ⟨hl0, g, rfl, hrow⟩
  · refine ⟨.arr (.loc d ((lg loc d).1 + 1)) 0 ys.length none 1 false, lp loc d ((lg loc d).1 + 1, .cells false (nl k ys)), gen_val (st := ⟨t', lp loc d ((lg loc d).1 + 1, .cells false (nl k ys)), hp⟩) hd ?_, .inr ⟨by simpa using hys, (lg loc d).1 + 1, by simp, by rw [lg_lp, if_pos rfl]; simp⟩, fun i hi => by rw [lg_lp, if_neg (Ne.symm hi)]⟩
    unfold stepV
    rw [hp1]
    unfold stepG
    simp only [ho, callS, hc, hty, hd, opds, ha, List.map_cons, List.map_nil, opd_gt, hx, hy, hni, cond_true, appendV, he, hl, hb, hw, fits_nl]
    split
    · rename_i h0; exact hne h0
    · rw [hmb _ (by simpa [nl_length] using hn)]
      simp only [cond_true, hA, growArr, hg, Bool.false_and, cond_false, addRow, lc_lg, aset_lp, flat_nl, nl_length]
  · have hrow' : getRow ⟨t', loc, hp⟩ (.loc d g) = some (.cells false (nl k l)) := getRow_loc hrow
    refine ⟨.arr (.loc d (g + 1)) 0 (l ++ ys).length none 1 false, lp (lp loc d (g, .gone)) d (g + 1, .cells false (nl k (l ++ ys))), gen_val (st := ⟨t', lp (lp loc d (g, .gone)) d (g + 1, .cells false (nl k (l ++ ys))), hp⟩) hd ?_, .inr ⟨by simp [hl0], _, rfl, by rw [lg_lp, if_pos rfl]⟩, fun i hi => by rw [lg_lp, if_neg (Ne.symm hi), lg_lp, if_neg (Ne.symm hi)]⟩
    unfold stepV
    rw [hp1]
    unfold stepG
    simp only [ho, callS, hc, hty, hd, opds, ha, List.map_cons, List.map_nil, opd_gt, hx, hy, hni, cond_true, appendV, he, hl, hb, hw, fits_nl, hrow', nl_length, Nat.beq_refl, beq_self_eq_true, Bool.and_self, Nat.zero_add, Nat.mul_one]
    rw [show Nat.ble l.length l.length = true from by rw [Nat.ble_eq]; exact Nat.le_refl _, hmb _ hn]
    simp only [Bool.and_self, cond_true]
    split
    · rename_i h0; exact hne h0
    · simp only [isLoc, Bool.not_true, Bool.false_and, cond_false]
      rw [show Nat.ble (l.length + ys.length) l.length = false from by
        cases hb : Nat.ble (l.length + ys.length) l.length with
        | false => rfl
        | true => rw [Nat.ble_eq] at hb; have : ys.length ≠ 0 := by simpa using hys
                  omega]
      simp only [cond_false, growArr, hg, Bool.false_and, setRow_loc, addRow, lc_lg, lg_lp, if_true, aset_lp, flat_nl, nl_append, List.length_append, cond_true]
theorem gen_convert' {d x : Nat} {s t : TypeId} {ks kd : IntKind} (hd : o.dst = some d) (ho : o.op = .convert s t (.tmp x)) (h1 : P.underlying s = some (.int ks)) (h2 : P.underlying t = some (.int kd)) :
  gen P C call gl o t' tm loc hp j = cvt kd (gt t' x) (fun v => j v loc hp) := by
 have stuck : (∀ k n, gt t' x ≠ .int k n) → gen P C call gl o t' tm loc hp j = none := by
  intro hn
  refine gen_stuck ?_
  have hp1 : locV P C gl (⟨t', loc, hp⟩ : St).ρ (⟨t', loc, hp⟩ : St).lc o = none := by
   unfold locV
   simp only [ho, pureV, opd_gt, convV, h1, h2]
   cases hv : gt t' x <;> first | rfl | exact absurd hv (hn _ _)
  unfold stepV
  rw [hp1]
  unfold stepG
  simp only [ho, hd, convS, h1, h2]
 cases hv : gt t' x with
 | int k n => exact gen_convert hd ho h1 h2 hv
 | _ => rw [stuck (fun k n => by rw [hv]; simp)]; rfl
noncomputable def bx (d : Nat) (v : V) (l : Lo) (f : V → Lo → R) : R := bif v.live then f (.ptr (.loc d ((lg l d).1 + 1)) 0) (lp l d ((lg l d).1 + 1, .cells false v.cells)) else none
theorem bx_live {v : V} (hv : v.live = true) (d : Nat) (l : Lo) (f : V → Lo → R) : bx d v l f = f (.ptr (.loc d ((lg l d).1 + 1)) 0) (lp l d ((lg l d).1 + 1, .cells false v.cells)) := by unfold bx; rw [hv]; rfl
theorem bx_agg (cs : List V) (d : Nat) (l : Lo) (f : V → Lo → R) : bx d (.agg cs) l f = f (.ptr (.loc d ((lg l d).1 + 1)) 0) (lp l d ((lg l d).1 + 1, .cells false cs)) := rfl
theorem gen_box' {d x : Nat} {t : TypeId} (hd : o.dst = some d) (ho : o.op = .box t (.tmp x)) (ha : C.isArr t = false) (hg : gl d = false) :
  gen P C call gl o t' tm loc hp j = bx d (gt t' x) loc (fun v l => j v l hp) := by
 cases hl : (gt t' x).live with
 | true =>
  rw [bx_live hl]
  exact gen_box hd ho ha hg (opd_gt _ _) hl
 | false =>
  unfold bx
  rw [hl]
  refine gen_stuck ?_
  have hp1 : locV P C gl (⟨t', loc, hp⟩ : St).ρ (⟨t', loc, hp⟩ : St).lc o = none := by
   unfold locV
   simp only [ho, hd, ha, hg, opd_gt, hl, cond_false, Bool.false_or, Bool.not_false, cond_true]
  unfold stepV
  rw [hp1]
  unfold stepG
  have hv : gt t' x = .dead := by
   cases h : gt t' x <;> rw [h] at hl <;> first | rfl | simp [V.live] at hl
  simp only [ho, hd, opd_gt, hv, exp, exp1, V.live, Bool.false_and, cond_false]
noncomputable def one (d : Nat) (v : V) (l : Lo) (f : V → Lo → R) : R := G.onInt v (fun k n => f (.arr (.loc d ((lg l d).1 + 1)) 0 1 (some 1) 1 false) (lp l d ((lg l d).1 + 1, .cells false [.int k n]))) none
theorem one_int (d : Nat) (k : IntKind) (n : Nat) (l : Lo) (f : V → Lo → R) : one d (.int k (.ofNat n)) l f = f (.arr (.loc d ((lg l d).1 + 1)) 0 1 (some 1) 1 false) (lp l d ((lg l d).1 + 1, .cells false (nl k [n]))) := rfl
theorem gen_one' {d x : Nat} {t e : TypeId} {k0 : IntKind} {n0 : Int} (hd : o.dst = some d) (ho : o.op = .buildSlice t 1 #[(0, .tmp x)]) (ha : C.isArr t = true) (hg : gl d = false) (he : elemT P t = some e) (hl : layE P e = some (1, false))
  (hz : zeroV P e = some (.int k0 n0)) (hv : ∃ k n, gt t' x = .int k n) :
  gen P C call gl o t' tm loc hp j = one d (gt t' x) loc (fun v l => j v l hp) := by
 obtain ⟨k, n, hv⟩ := hv
 rw [gen_one hd ho ha hg he hl hz (show AM.opd (⟨t', loc, hp⟩ : St).ρ (.tmp x) = .int k n from (opd_gt _ _).trans hv), hv]
 rfl
noncomputable def stc (P : Program) (t g off : Nat) (x : V) (row : Nat × Row) (f : Nat × Row → R) : R :=
 G.onCells row.2 (fun frz cs => Bool.rec (motive := fun _ => R)
  (bif Nat.beq g row.1 && F.allR V.cellOk x.cells && F.lenIs P t (F.lenR x.cells) then
   G.onSome (F.setAt cs off x.cells) (fun cs' => f (g, .cells false cs')) none else none) none frz) none
theorem stL_stc (t : TypeId) (s g off : Nat) (x : V) (loc : Lo) (j : Lo → R) : stL P t s g off x loc j = stc P t g off x (lg loc s) (fun row => j (lp loc s row)) := rfl
theorem stc_nl {t : TypeId} (hl : F.lenIs P t 1 = true) (off : Nat) (d : List Nat) (h : off < d.length) (g : Nat) (k' : IntKind) (n : Nat) (f : Nat × Row → R) :
  stc P t g off (.int k' (.ofNat n)) (g, .cells false (nl k' d)) f = f (g, .cells false (nl k' (d.set off n))) := by
 show (bif Nat.beq g g && true && F.lenIs P t 1 then G.onSome (F.setAt (nl k' d) off [.int k' (.ofNat n)]) _ none else none) = _
 rw [Nat.beq_refl, hl, F.e_setAt, setAt_nl k' d off n h]
 rfl
theorem stc_one {t : TypeId} (hl : F.lenIs P t 1 = true) (g : Nat) (x y : V) (f : Nat × Row → R) (hx : x.cells = [x]) (hc : x.cellOk = true) :
  stc P t g 0 x (g, .cells false [y]) f = f (g, .cells false [x]) := by
 show (bif Nat.beq g g && F.allR V.cellOk x.cells && F.lenIs P t (F.lenR x.cells) then G.onSome (F.setAt [y] 0 x.cells) _ none else none) = _
 rw [hx, Nat.beq_refl, show F.allR V.cellOk [x] = true from by rw [F.allR_eq]; simp [hc], show F.lenR [x] = 1 from rfl, hl, F.e_setAt]
 rfl
theorem stc_two {t : TypeId} (hl : F.lenIs P t 2 = true) (g : Nat) (a b x y : V) (f : Nat × Row → R) (ha : a.cellOk = true) (hb : b.cellOk = true) :
  stc P t g 0 (.agg [a, b]) (g, .cells false [x, y]) f = f (g, .cells false [a, b]) := by
 show (bif Nat.beq g g && F.allR V.cellOk [a, b] && F.lenIs P t 2 then G.onSome (F.setAt [x, y] 0 [a, b]) _ none else none) = _
 rw [Nat.beq_refl, show F.allR V.cellOk [a, b] = true from by rw [F.allR_eq]; simp [ha, hb], hl, F.e_setAt]
 rfl
theorem ldc_two {t : TypeId} (hl : F.layE P t = some (2, true)) (g : Nat) (frz : Bool) (a b : V) : ldc P t g 0 (g, .cells frz [a, b]) = some (.agg [a, b]) := by
 show (bif Nat.beq g g then G.part (F.layE P t) [a, b] 0 else none) = _
 rw [Nat.beq_refl, hl]; rfl
theorem ldc_fst {t : TypeId} (hl : F.layE P t = some (1, false)) (g : Nat) (frz : Bool) (a : V) (l : List V) : ldc P t g 0 (g, .cells frz (a :: l)) = some a := by
 rw [ldc_cells hl]; rfl
theorem ldc_snd {t : TypeId} (hl : F.layE P t = some (1, false)) (g : Nat) (frz : Bool) (a b : V) (l : List V) : ldc P t g 1 (g, .cells frz (a :: b :: l)) = some b := by
 rw [ldc_cells hl]; rfl
theorem ldc_nl {t : TypeId} (hl : F.layE P t = some (1, false)) (g : Nat) (frz : Bool) (k : IntKind) (d : List Nat) (i : Nat) (h : i < d.length) : ldc P t g i (g, .cells frz (nl k d)) = some (.int k (.ofNat (d.getD i 0))) := by
 rw [ldc_cells hl, nl_nth k d i h]
theorem fa_ptr {t i off : Nat} {f : Field} (hf : F.fieldOf P t i = some f) (ho : f.offset = off) {q : Nat × Bool} (hl : F.layE P f.type = some q) (r : Ref) (o : Nat) : fa P t (.ptr r o) i = some (.ptr r (Nat.add o off)) := by
 unfold fa
 rw [hf]
 show G.onSome (F.layE P f.type) _ none = _
 rw [hl, ← ho]; rfl
theorem slc_init {t e : TypeId} {ag : Bool} (he : F.elemT P t = some e) (hl : F.layE P e = some (1, ag)) (tok : Option Ref) (f : Bool) (k k' : IntKind) (d : List Nat) (i : Nat) (h : i < d.length) :
  slc P t (.slice tok f 1 (nl k d)) none (some (.int k' (.ofNat i))) none = some (.slice none false 1 (nl k (d.take i))) := by
 show F.sliceV P t (.slice tok f 1 (nl k d)) none (some (.ofNat i)) none = _
 unfold F.sliceV
 simp only [he, hl, Nat.beq_refl, cond_true]
 unfold F.sliceImm
 simp only [Option.getD_some, F.toNatLe, F.lenR_eq, nl_length]
 rw [show Nat.ble i d.length = true from by rw [Nat.ble_eq]; omega]
 simp only [cond_true, Option.getD_none]
 rw [show Nat.ble 0 i = true from Nat.ble_eq ▸ Nat.zero_le i]
 simp only [cond_true]
 rw [show Nat.beq i d.length = false from by
  cases hb : Nat.beq i d.length with
  | false => rfl
  | true => rw [Nat.beq_eq] at hb; omega]
 simp only [cond_false, F.takeR_eq, F.dropR_eq, List.drop_zero]
 simp [nl, List.map_take]
theorem gen_slots {t1 t2 : Tm} (h : ∀ x ∈ tmpsOf o, gt t1 x = gt t2 x) : gen P C call gl o t1 tm loc hp j = gen P C call gl o t2 tm loc hp j := by
 have hag : Agree (⟨t1, loc, hp⟩ : St).ρ (St.ρ ((⟨t1, loc, hp⟩ : St).as t2)) o := by
  intro x hx
  cases x with
  | tmp t =>
   have ht : t ∈ tmpsOf o := by unfold tmpsOf; rw [List.mem_filterMap]; exact ⟨.tmp t, hx, rfl⟩
   have := h t ht
   rw [gt_eq, gt_eq] at this
   exact this
  | _ => rfl
 have hs := stepV_as (P := P) (C := C) (gl := gl) hag
 have e2 : (⟨t1, loc, hp⟩ : St).as t2 = ⟨t2, loc, hp⟩ := rfl
 rw [e2] at hs
 unfold gen
 rw [F.e_oneV]
 unfold oneV
 rw [hs]
 cases stepV P C gl ⟨t1, loc, hp⟩ o with
 | none => rfl
 | some r =>
  have key : ∀ (st : St) (v : V), gtO (putV st o.dst v).tm o.dst = gtO (putV (st.as t2) o.dst v).tm o.dst ∧ (putV st o.dst v).loc = (putV (st.as t2) o.dst v).loc ∧ (putV st o.dst v).hp = (putV (st.as t2) o.dst v).hp := by
   intro st v
   cases o.dst with
   | none => exact ⟨rfl, rfl, rfl⟩
   | some d =>
    refine ⟨?_, rfl, rfl⟩
    show gt (aset st.tm d v) d = gt (aset t2 d v) d
    rw [gt_eq, gt_eq, aget_aset, aget_aset, if_pos rfl, if_pos rfl]
  cases r with
  | val v st =>
   show j (gtO (putV st o.dst v).tm o.dst) (putV st o.dst v).loc (putV st o.dst v).hp = j (gtO (putV (st.as t2) o.dst v).tm o.dst) (putV (st.as t2) o.dst v).loc (putV (st.as t2) o.dst v).hp
   rw [(key st v).1, (key st v).2.1, (key st v).2.2]
  | enter f args st =>
   simp only [Option.map_some, Res.as]
   show G.onSome (match call f args st.hp with
    | some (.val v h) => some (Ex.normal, putV { st with hp := h } o.dst v)
    | some (.panic v h) => some (.panic v, { st with hp := h })
    | none => none) _ none = G.onSome (match call f args st.hp with
    | some (.val v h) => some (Ex.normal, putV { (st.as t2) with hp := h } o.dst v)
    | some (.panic v h) => some (.panic v, { (st.as t2) with hp := h })
    | none => none) _ none
   cases call f args st.hp with
   | none => rfl
   | some out =>
    cases out with
    | val v h =>
     have := key { st with hp := h } v
     show j (gtO (putV { st with hp := h } o.dst v).tm o.dst) (putV { st with hp := h } o.dst v).loc (putV { st with hp := h } o.dst v).hp = j (gtO (putV { (st.as t2) with hp := h } o.dst v).tm o.dst) (putV { (st.as t2) with hp := h } o.dst v).loc (putV { (st.as t2) with hp := h } o.dst v).hp
     rw [this.1, this.2.1, this.2.2]; rfl
    | panic v h => rfl
  | panic v st => rfl
theorem getRow_arr {g : Nat} {f : Bool} {k : IntKind} {ys : List Nat} {d2 : Nat} {li : Option Nat} (h : lg loc d2 = (g, .cells f (nl k ys))) : itemsOf ⟨t', loc, hp⟩ (.arr (.loc d2 g) 0 ys.length li 1 false) = some (nl k ys) := by
 have h2 : getRow ⟨t', loc, hp⟩ (.loc d2 g) = some (.cells f (nl k ys)) := getRow_loc h
 simp only [itemsOf, h2, Nat.mul_one, Nat.zero_add, nl_length, List.drop_zero]
 rw [show Nat.ble ys.length ys.length = true from by rw [Nat.ble_eq]; exact Nat.le_refl _]
 simp only [Nat.beq_refl, Bool.or_true, Bool.and_self, cond_true]
 have := chunk_nl k ys
 rw [this]
structure ApI (P : Program) (o : Oper) (d x y t : Nat) : Prop where
 dst : o.dst = some d
 op : ∃ c, o.op = .call c ∧ c.callee = .builtin .append ∧ c.args = #[.tmp x, .tmp y] ∧ c.argTypes[0]? = some t ∧ notInt P c.argTypes[1]? = true
theorem gen_grow {d x y t e b : Nat} (hi : ApI P o d x y t) (hA : C.isArr t = true) (hg : gl d = false) (he : elemT P t = some e) (hl : layE P e = some (1, false)) (hb : byteE P e = some b) (hxy : x ≠ y)
    {k : IntKind} {l ys : List Nat} {v w : V} (hv : Ar loc d v k l) (hw : ∀ tm hp, itemsOf ⟨tm, loc, hp⟩ w = some (nl k ys)) (hys : ys ≠ []) (hn : (l.length + ys.length) * b ≤ 70368744177664) :
    ∃ v' loc', (∀ (call : CallF) (tm : Tm) (hp : Hp) (j : V → Lo → Hp → R), gen P C call gl o (pt (pt .lf x v) y w) tm loc hp j = j v' loc' hp) ∧ Ar loc' d v' k (l ++ ys) ∧ ∀ i, i ≠ d → lg loc' i = lg loc i := by
  obtain ⟨hd, c, ho, hc, ha, hty, hni⟩ := hi
  have hx : gt (pt (pt .lf x v) y w) x = v := by rw [gt_pt, if_neg (Ne.symm hxy), gt_pt, if_pos rfl]
  have hy : gt (pt (pt .lf x v) y w) y = w := by rw [gt_pt, if_pos rfl]
  have hp1 : ∀ (tm : Tm) hp, locV P C gl (⟨tm, loc, hp⟩ : St).ρ (⟨tm, loc, hp⟩ : St).lc o = none := by
    intro tm hp
    unfold locV
    simp only [ho, pureV, hc, ha, Option.map_none]
  have hne : ∀ {q : Prop}, nl k ys = [] → q := fun h => absurd (by simpa [nl] using h) hys
  have hmb : ∀ n, n ≤ 70368744177664 → Nat.ble n maxBytes = true := fun n h => by rw [Nat.ble_eq]; exact h
  rcases hv with ⟨rfl, rfl⟩ | ⟨hl0, g, rfl, hrow⟩
  · refine ⟨.arr (.loc d ((lg loc d).1 + 1)) 0 ys.length none 1 false, lp loc d ((lg loc d).1 + 1, .cells false (nl k ys)), fun call tm hp j => gen_val (st := ⟨pt (pt .lf x .nils) y w, lp loc d ((lg loc d).1 + 1, .cells false (nl k ys)), hp⟩) hd ?_, .inr ⟨by simpa using hys, (lg loc d).1 + 1, by simp, by rw [lg_lp, if_pos rfl]; simp⟩, fun i hi => by rw [lg_lp, if_neg (Ne.symm hi)]⟩
    unfold stepV
    rw [hp1]
    unfold stepG
    simp only [ho, callS, hc, hty, hd, opds, ha, List.map_cons, List.map_nil, opd_gt, hx, hy, hni, cond_true, appendV, he, hl, hb, hw, fits_nl]
    split
    · rename_i h0; exact hne h0
    · rw [hmb _ (by simpa [nl_length] using hn)]
      simp only [cond_true, hA, growArr, hg, Bool.false_and, cond_false, addRow, lc_lg, aset_lp, flat_nl, nl_length]
  · have hrow' : ∀ tm hp, getRow ⟨tm, loc, hp⟩ (.loc d g) = some (.cells false (nl k l)) := fun tm hp => getRow_loc hrow
    refine ⟨.arr (.loc d (g + 1)) 0 (l ++ ys).length none 1 false, lp (lp loc d (g, .gone)) d (g + 1, .cells false (nl k (l ++ ys))), fun call tm hp j => gen_val (st := ⟨pt (pt .lf x (.arr (.loc d g) 0 l.length none 1 false)) y w, lp (lp loc d (g, .gone)) d (g + 1, .cells false (nl k (l ++ ys))), hp⟩) hd ?_, .inr ⟨by simp [hl0], _, rfl, by rw [lg_lp, if_pos rfl]⟩, fun i hi => by rw [lg_lp, if_neg (Ne.symm hi), lg_lp, if_neg (Ne.symm hi)]⟩
    · unfold stepV
      rw [hp1]
      unfold stepG
      simp only [ho, callS, hc, hty, hd, opds, ha, List.map_cons, List.map_nil, opd_gt, hx, hy, hni, cond_true, appendV, he, hl, hb, hw, fits_nl, hrow', nl_length, Nat.beq_refl, beq_self_eq_true, Bool.and_self, Nat.zero_add, Nat.mul_one]
      rw [show Nat.ble l.length l.length = true from by rw [Nat.ble_eq]; exact Nat.le_refl _, hmb _ hn]
      simp only [Bool.and_self, cond_true]
      split
      · rename_i h0; exact hne h0
      · simp only [isLoc, Bool.not_true, Bool.false_and, cond_false]
        rw [show Nat.ble (l.length + ys.length) l.length = false from by
          cases hb : Nat.ble (l.length + ys.length) l.length with
          | false => rfl
          | true => rw [Nat.ble_eq] at hb; have : ys.length ≠ 0 := by simpa using hys
                    omega]
        simp only [cond_false, growArr, hg, Bool.false_and, setRow_loc, addRow, lc_lg, lg_lp, if_true, aset_lp, flat_nl, nl_append, List.length_append, cond_true]
theorem gen_push {d x y t e b d2 : Nat} (hi : ApI P o d x y t) (hA : C.isArr t = true) (hg : gl d = false) (he : elemT P t = some e) (hl : layE P e = some (1, false)) (hb : byteE P e = some b) (hxy : x ≠ y) (h2 : d2 ≠ d)
  {loc : Lo} {k : IntKind} {l : List Nat} {v : V} (n : Nat) (hv : Ar loc d v k l) (hn : (l.length + 1) * b ≤ 70368744177664) :
  ∃ v' loc', (∀ (call : CallF) (tm : Tm) (hp : Hp) (j : V → Lo → Hp → R), gen P C call gl o (pt (pt .lf x v) y (.arr (.loc d2 ((lg loc d2).1 + 1)) 0 1 (some 1) 1 false)) tm (lp loc d2 ((lg loc d2).1 + 1, .cells false (nl k [n]))) hp j = j v' loc' hp) ∧ Ar loc' d v' k (l ++ [n]) ∧ ∀ i, i ≠ d → i ≠ d2 → lg loc' i = lg loc i := by
 have hv' : Ar (lp loc d2 ((lg loc d2).1 + 1, .cells false (nl k [n]))) d v k l := by
  rcases hv with h | ⟨h0, g, h1, h2'⟩
  ·exact .inl h
  ·exact .inr ⟨h0, g, h1, by rw [lg_lp, if_neg h2]; exact h2'⟩
 obtain ⟨v', loc', h1, h3, h4⟩ := gen_grow (P := P) (C := C) (gl := gl) (o := o) hi hA hg he hl hb hxy (ys := [n]) (w := .arr (.loc d2 ((lg loc d2).1 + 1)) 0 1 (some 1) 1 false) hv' (fun tm hp => getRow_arr (ys := [n]) (by rw [lg_lp, if_pos rfl])) (by simp) hn
 exact ⟨v', loc', h1, h3, fun i a b => by rw [h4 i a, lg_lp, if_neg (Ne.symm b)]⟩
def Tk (loc : Lo) (d : Nat) (v : V) (k : IntKind) (l : List Nat) : Prop :=
 (l = [] ∧ v = .nils) ∨ (l ≠ [] ∧ ∃ g, v = .slice (some (.loc d g)) false 1 (nl k l) ∧ lg loc d = (g, .tok))
theorem gen_pushT {d x y t e b : Nat} (hi : ApI P o d x y t) (hA : C.isArr t = false) (hg : gl d = false) (he : elemT P t = some e) (hl : layE P e = some (1, false)) (hb : byteE P e = some b) (hxy : x ≠ y)
  {k : IntKind} {l ys : List Nat} {v : V} {tk : Option Ref} {fu : Bool} (hv : Tk loc d v k l) (hys : ys ≠ []) (hn : (l.length + ys.length) * b ≤ 70368744177664) :
  ∃ v' loc', (∀ (call : CallF) (tm : Tm) (hp : Hp) (j : V → Lo → Hp → R), gen P C call gl o (pt (pt .lf x v) y (.slice tk fu 1 (nl k ys))) tm loc hp j = j v' loc' hp) ∧ Tk loc' d v' k (l ++ ys) ∧ ∀ i, i ≠ d → lg loc' i = lg loc i := by
 obtain ⟨hd, c, ho, hc, ha, hty, hni⟩ := hi
 have hx : gt (pt (pt .lf x v) y (.slice tk fu 1 (nl k ys))) x = v := by rw [gt_pt, if_neg (Ne.symm hxy), gt_pt, if_pos rfl]
 have hy : gt (pt (pt .lf x v) y (.slice tk fu 1 (nl k ys))) y = .slice tk fu 1 (nl k ys) := by rw [gt_pt, if_pos rfl]
 have hp1 : ∀ (tm : Tm) hp, locV P C gl (⟨tm, loc, hp⟩ : St).ρ (⟨tm, loc, hp⟩ : St).lc o = none := by
  intro tm hp
  unfold locV
  simp only [ho, pureV, hc, ha, Option.map_none]
 have hne : ∀ {q : Prop}, nl k ys = [] → q := fun h => absurd (by simpa [nl] using h) hys
 have hmb : ∀ n, n ≤ 70368744177664 → Nat.ble n maxBytes = true := fun n h => by rw [Nat.ble_eq]; exact h
 rcases hv with ⟨rfl, rfl⟩ | ⟨hl0, g, rfl, hrow⟩
 ·refine ⟨.slice (some (.loc d ((lg loc d).1 + 1))) false 1 (nl k ys), lp loc d ((lg loc d).1 + 1, .tok), fun call tm hp j => gen_val (st := ⟨pt (pt .lf x .nils) y (.slice tk fu 1 (nl k ys)), lp loc d ((lg loc d).1 + 1, .tok), hp⟩) hd ?_, .inr ⟨by simpa using hys, (lg loc d).1 + 1, by simp, by rw [lg_lp, if_pos rfl]⟩, fun i hi => by rw [lg_lp, if_neg (Ne.symm hi)]⟩
  ·unfold stepV
   rw [hp1]
   unfold stepG
   simp only [ho, callS, hc, hty, hd, opds, ha, List.map_cons, List.map_nil, opd_gt, hx, hy, hni, cond_true, appendV, he, hl, hb, itemsOf, fits_nl]
   split
   ·rename_i h0; exact hne h0
   ·rw [hmb _ (by simpa [nl_length] using hn)]
    simp only [cond_true, hA, cond_false, noRefsL_nl, growImm, hg, addRow, lc_lg, aset_lp]
 ·have hrow' : ∀ tm hp, getRow ⟨tm, loc, hp⟩ (.loc d g) = some .tok := fun tm hp => getRow_loc hrow
  refine ⟨.slice (some (.loc d (g + 1))) false 1 (nl k (l ++ ys)), lp (lp loc d (g, .gone)) d (g + 1, .tok), fun call tm hp j => gen_val (st := ⟨pt (pt .lf x (.slice (some (.loc d g)) false 1 (nl k l))) y (.slice tk fu 1 (nl k ys)), lp (lp loc d (g, .gone)) d (g + 1, .tok), hp⟩) hd ?_, .inr ⟨by simp [hl0], _, rfl, by rw [lg_lp, if_pos rfl]⟩, fun i hi => by rw [lg_lp, if_neg (Ne.symm hi), lg_lp, if_neg (Ne.symm hi)]⟩
  ·unfold stepV
   rw [hp1]
   unfold stepG
   simp only [ho, callS, hc, hty, hd, opds, ha, List.map_cons, List.map_nil, opd_gt, hx, hy, hni, cond_true, appendV, he, hl, hb, itemsOf, fits_nl, hrow', nl_length, Nat.beq_refl]
   split
   ·rename_i h0; exact hne h0
   ·rw [hmb _ (by simpa [nl_length] using hn)]
    simp only [cond_true, hA, cond_false, noRefsL_nl, growImm, hg, setRow_loc, addRow, lc_lg, lg_lp, if_true, aset_lp, nl_append]
theorem mx_n (a b : Nat) (k k' : IntKind) : mxV (.int k (.ofNat a)) (.int k' (.ofNat b)) = some (.int k (.ofNat (max a b))) := by
 show some (V.int k (Bool.rec (motive := fun _ => Int) (.ofNat a) (.ofNat b) (F.ltI (.ofNat a) (.ofNat b)))) = _
 rw [F.ltI_eq]
 by_cases h : a < b
 ·rw [show decide ((Int.ofNat a) < Int.ofNat b) = true from by simpa using h, Nat.max_eq_right (Nat.le_of_lt h)]
 ·rw [show decide ((Int.ofNat a) < Int.ofNat b) = false from by simpa using h, Nat.max_eq_left (by omega)]
theorem mn_n (a b : Nat) (k k' : IntKind) : mnV (.int k (.ofNat a)) (.int k' (.ofNat b)) = some (.int k (.ofNat (min a b))) := by
 show some (V.int k (Bool.rec (motive := fun _ => Int) (.ofNat a) (.ofNat b) (F.ltI (.ofNat b) (.ofNat a)))) = _
 rw [F.ltI_eq]
 by_cases h : b < a
 ·rw [show decide ((Int.ofNat b) < Int.ofNat a) = true from by simpa using h, Nat.min_eq_right (Nat.le_of_lt h)]
 ·rw [show decide ((Int.ofNat b) < Int.ofNat a) = false from by simpa using h, Nat.min_eq_left (by omega)]
def Sl (k : IntKind) (v : V) (d : List Nat) : Prop := (∃ f, v = .slice none f 1 (nl k d)) ∨ (v = .nils ∧ d = [])
theorem len_sl {k : IntKind} {v : V} {d : List Nat} (h : Sl k v d) (e : TypeId) : len (some (.slice e)) v = some (.int .i64 (.ofNat d.length)) := by
 rcases h with ⟨f, rfl⟩ | ⟨rfl, rfl⟩
 ·rw [len_slice, nl_length]
 ·exact len_nils e
theorem ia_sl {t e : TypeId} {ag : Bool} (he : F.elemT P t = some e) (hl : F.layE P e = some (1, ag)) {k : IntKind} {v : V} {d : List Nat} (h : Sl k v d) (k' : IntKind) (i : Nat) (hi : i < d.length) :
  ia P t v (.int k' (.ofNat i)) = some (.iptr [.int k (.ofNat (d.getD i 0))]) := by
 rcases h with ⟨f, rfl⟩ | ⟨rfl, rfl⟩
 ·exact ia_slice he hl none f k k' d i hi
 ·simp at hi
theorem Ar.len {loc : Lo} {d : Nat} {v : V} {k : IntKind} {l : List Nat} (h : Ar loc d v k l) (e : TypeId) : len (some (.slice e)) v = some (.int .i64 (.ofNat l.length)) := by
 rcases h with ⟨rfl, rfl⟩ | ⟨_, g, rfl, _⟩
 ·exact len_nils e
 ·rfl
theorem Ar.frame {loc loc' : Lo} {d : Nat} {v : V} {k : IntKind} {l : List Nat} (h : Ar loc d v k l) (hf : lg loc' d = lg loc d) : Ar loc' d v k l := by
 rcases h with h | ⟨h0, g, h1, h2⟩
 ·exact .inl h
 ·exact .inr ⟨h0, g, h1, hf.trans h2⟩
theorem exp_Ar {loc : Lo} {d : Nat} {v : V} {k : IntKind} {l : List Nat} (h : Ar loc d v k l) : ∃ v' loc', (∀ (tm : Tm) (hp : Hp), AM.exp false ⟨tm, loc, hp⟩ v = some (v', ⟨tm, loc', hp⟩)) ∧ Sl k v' l ∧ ∀ i, i ≠ d → lg loc' i = lg loc i := by
 rcases h with ⟨rfl, rfl⟩ | ⟨h0, g, rfl, hr⟩
 ·exact ⟨.nils, loc, fun _ _ => rfl, .inr ⟨rfl, rfl⟩, fun _ _ => rfl⟩
 ·refine ⟨.slice none false 1 (nl k l), lp loc d (g, .cells true (nl k l)), fun tm hp => ?_, .inl ⟨false, rfl⟩, fun i hi => by rw [lg_lp, if_neg (Ne.symm hi)]⟩
  have h2 : getRow ⟨tm, loc, hp⟩ (.loc d g) = some (.cells false (nl k l)) := getRow_loc hr
  simp only [exp, exp1, isLoc, Bool.or_true, Bool.false_or, cond_true, freeze, h2]
  have h3 : itemsOf ⟨tm, loc, hp⟩ (.arr (.loc d g) 0 l.length none 1 false) = some (nl k l) := getRow_arr hr
  rw [h3]
  simp only [noRefsL_nl, cond_true, setRow_loc]
def Kp (l : List Nat) (t t' : Tm) : Prop := ∀ j ∈ l, gt t' j = gt t j
theorem Kp_refl (l : List Nat) (t : Tm) : Kp l t t := fun _ _ => rfl
theorem Kp_pt {l : List Nat} {t t' : Tm} {i : Nat} {v : V} (h : i ∉ l) (hk : Kp l t t') : Kp l t (pt t' i v) := fun j hj => by
 rw [gt_pt, if_neg (fun e => h (by rw [e]; exact hj))]
 exact hk j hj
section
variable {P : Program} {kn : Kn} {tbl : Nat → Option Fc}
theorem ww_join {c d : RC} {s : St} {N : St → Prop} {X : Nat → St → Prop} {Q : St → Prop} {M : St → Prop} (h1 : WW P kn tbl c s M (fun _ _ => False) (fun _ => False)) (h2 : ∀ s1, M s1 → WW P kn tbl d s1 N X Q) : WW P kn tbl (.seq c d) s N X Q :=
 ww_seq (ww_mono h1 h2 (fun _ _ h => h.elim) (fun _ h => h.elim))
theorem ww_joinX {c d : RC} {s : St} {N : St → Prop} {X : Nat → St → Prop} {Q : St → Prop} (M : St → Prop) (h1 : WW P kn tbl c s M X Q) (h2 : ∀ s1, M s1 → WW P kn tbl d s1 N X Q) : WW P kn tbl (.seq c d) s N X Q :=
 ww_seq (ww_mono h1 h2 (fun _ _ h => h) (fun _ h => h))
theorem ww_assoc {a b c : RC} {s : St} {N : St → Prop} {X : Nat → St → Prop} {Q : St → Prop} (h : WW P kn tbl (.seq a (.seq b c)) s N X Q) : WW P kn tbl (.seq (.seq a b) c) s N X Q := by
 obtain ⟨e, s1, h1, h2⟩ := h
 refine ⟨e, s1, h1.mono fun n h k => ?_, h2⟩
 exact h k
end
structure Pl (v : V) : Prop where
 cells : v.cells = [v]
 weak : v.weakB = v
 plain : v.plain = true
 ok : v.cellOk = true
 exp : ∀ st, exp1 false st v = some (v, st)
 expT : ∀ st, exp1 true st v = some (v, st)
 refs : v.noRefs = true
 live : v.live = true
 notAgg : ∀ cs, v ≠ .agg cs
theorem Pl.int (k : IntKind) (n : Int) : Pl (.int k n) := ⟨rfl, rfl, rfl, rfl, fun _ => rfl, fun _ => rfl, rfl, rfl, fun _ h => by cases h⟩
theorem Pl.bool (b : Bool) : Pl (.bool b) := ⟨rfl, rfl, rfl, rfl, fun _ => rfl, fun _ => rfl, rfl, rfl, fun _ h => by cases h⟩
theorem Pl.str (s : Str) : Pl (.str s) := ⟨rfl, rfl, rfl, rfl, fun _ => rfl, fun _ => rfl, rfl, rfl, fun _ h => by cases h⟩
theorem Pl.nils : Pl .nils := ⟨rfl, rfl, rfl, rfl, fun _ => rfl, fun _ => rfl, rfl, rfl, fun _ h => by cases h⟩
theorem Sl.pl {k : IntKind} {v : V} {d : List Nat} (h : Sl k v d) : Pl v := by
 rcases h with ⟨f, rfl⟩ | ⟨rfl, _⟩
 ·exact ⟨rfl, rfl, rfl, rfl, fun _ => rfl, fun _ => rfl, rfl, rfl, fun _ h => by cases h⟩
 ·exact Pl.nils
theorem Pl.exp' {v : V} (h : Pl v) (st : St) : AM.exp false st v = some (v, st) := by
 have := h.exp st
 cases v with
 | agg cs => exact absurd rfl (h.notAgg cs)
 | _ => exact this
theorem Pl.expF {v : V} (h : Pl v) (st : St) : AM.exp true st v = some (v, st) := by
 have := h.expT st
 cases v with
 | agg cs => exact absurd rfl (h.notAgg cs)
 | _ => exact this
theorem exp_agg {cs : List V} (h : ∀ v ∈ cs, Pl v) (st : St) : AM.exp false st (.agg cs) = some (.agg cs, st) := by
 have key : ∀ cs : List V, (∀ v ∈ cs, Pl v) → expL false st cs = some (cs, st) := by
  intro cs
  induction cs with
  | nil => intro _; rfl
  | cons v l ih =>
   intro h
   unfold expL
   simp only [(h v (by simp)).exp st, ih (fun u hu => h u (by simp [hu]))]
 show (expL false st cs).map _ = _
 rw [key cs h]; rfl
def Ex1 (v : V) : Prop := ∀ st, AM.exp false st v = some (v, st)
def ExL : List V → Prop
 | [] => True
 | v :: l => Ex1 v ∧ ExL l
theorem exps_ex : ∀ (l : List V) (st : St), ExL l → exps false st l = some (l, st)
 | [], _, _ => rfl
 | v :: l, st, ⟨h1, h2⟩ => by
  unfold exps
  simp only [h1 st, exps_ex l st h2]
theorem clp {call : CallF} {f : FuncId} {args : List V} {tm : Tm} {loc : Lo} {hp : Hp} {j : V → Lo → Hp → R} {v : V} {h' : Hp} (he : ExL args) (hc : call f args hp = some (.val v h')) : cl call f args tm loc hp j = j v loc h' := by
 have := exps_ex args ⟨.lf, loc, hp⟩ he
 exact cl_val this hc
theorem gen_build2 {d x y : Nat} {t : TypeId} {f0 f1 : Field} {z0 z1 v w : V} (hd : o.dst = some d) (ho : o.op = .build t #[(0, .tmp x), (1, .tmp y)]) (hu : P.underlying t = some (.struct #[f0, f1])) (hz : zeroV P t = some (.agg [z0, z1]))
  (h0 : f0.offset = 0) (h1 : f1.offset = 1) (s0 : szOf P f0.type = some 1) (s1 : szOf P f1.type = some 1) (hxy : x ≠ y) (hv : Pl v) (hw : Pl w) :
  gen P C call gl o (pt (pt .lf x v) y w) tm loc hp j = j (.agg [v, w]) loc hp := by
 have hx : gt (pt (pt .lf x v) y w) x = v := by rw [gt_pt, if_neg (Ne.symm hxy), gt_pt, if_pos rfl]
 have hy : gt (pt (pt .lf x v) y w) y = w := by rw [gt_pt, if_pos rfl]
 refine gen_val (v := .agg [v, w]) (st := ⟨pt (pt .lf x v) y w, loc, hp⟩) hd ?_
 have i0 : (P.info? f0.type).isSome = true := by
  unfold szOf at s0
  cases h : P.info? f0.type with
  | none => rw [h] at s0; simp at s0
  | some i => rfl
 have i1 : (P.info? f1.type).isSome = true := by
  unfold szOf at s1
  cases h : P.info? f1.type with
  | none => rw [h] at s1; simp at s1
  | some i => rfl
 have e0 : fieldOf P t 0 = some f0 := by unfold fieldOf; rw [hu]; rfl
 have e1 : fieldOf P t 1 = some f1 := by unfold fieldOf; rw [hu]; rfl
 have hp1 : locV P C gl (⟨pt (pt .lf x v) y w, loc, hp⟩ : St).ρ (⟨pt (pt .lf x v) y w, loc, hp⟩ : St).lc o = some (.agg [v, w], none) := by
  unfold locV
  simp only [ho, pureV, hu, hz, V.live, Bool.true_and]
  have ea : (#[f0, f1] : Array Field).all (fun f => (P.info? f.type).isSome) = true := by simp [i0, i1]
  rw [ea]
  have c0 : V.cells (.agg [z0, z1]) = [z0, z1] := rfl
  simp only [cond_true, fillP, e0, e1, opd_gt, hx, hy, hv.weak, hw.weak, hv.plain, hw.plain, hv.cells, hw.cells, s0, s1, h0, h1, Option.getD_some, List.length_cons, List.length_nil, c0]
  rfl
 unfold stepV
 rw [hp1]; rfl
def two (P : Program) (t : TypeId) : Bool := match P.underlying t with
 | some (.struct fs) => (match fs.toList with
  | [f0, f1] => Nat.beq f0.offset 0 && Nat.beq f1.offset 1 && (match szOf P f0.type, szOf P f1.type with | some a, some b => Nat.beq a 1 && Nat.beq b 1 | _, _ => false)
  | _ => false)
 | _ => false
theorem gen_two {d x y : Nat} {t : TypeId} {z0 z1 v w : V} (hd : o.dst = some d) (ho : o.op = .build t #[(0, .tmp x), (1, .tmp y)]) (h2 : two P t = true) (hz : zeroV P t = some (.agg [z0, z1])) (hxy : x ≠ y) (hv : Pl v) (hw : Pl w) :
  gen P C call gl o (pt (pt .lf x v) y w) tm loc hp j = j (.agg [v, w]) loc hp := by
 unfold two at h2
 split at h2
 ·rename_i fs hu
  split at h2
  ·rename_i f0 f1 hfs
   simp only [Bool.and_eq_true] at h2
   obtain ⟨⟨a0, a1⟩, a2⟩ := h2
   have e : fs = #[f0, f1] := by apply Array.toList_inj.1; rw [hfs]
   subst e
   split at a2
   ·rename_i a b h3 h4
    simp only [Bool.and_eq_true] at a2
    have b1 : a = 1 := Nat.eq_of_beq_eq_true a2.1
    have b2 : b = 1 := Nat.eq_of_beq_eq_true a2.2
    subst b1; subst b2
    exact gen_build2 hd ho hu hz (Nat.eq_of_beq_eq_true a0) (Nat.eq_of_beq_eq_true a1) h3 h4 hxy hv hw
   ·simp at a2
  ·simp at h2
 ·simp at h2
theorem fin_cell {h : Hp} {a t d g : Nat} {f : Bool} {s : St} {x y : V} (hl : layE P t = some (2, true)) (hv : gt s.tm a = .ptr (.loc d g) 0) (hr : lg s.loc d = (g, .cells f [x, y])) (hx : Pl x) (hy : Pl y) (hd : s.hp.dirty = none) :
  fin P h [.cell a t] s = some (.val (.agg [x, y]) h) := by
 unfold fin
 have e1 : resV P s [.cell a t] = some [.agg [x, y]] := by
  simp only [resV, rho_gt, hv, getRow_loc hr, partV, hl]
  rfl
 rw [e1]
 simp only [exps, exp_agg (cs := [x, y]) (by intro v hv; simp at hv; rcases hv with rfl | rfl <;> assumption)]
 have hc : cleanB h s.hp = true := by unfold cleanB; rw [hd]
 unfold backHp
 rw [hc]
 simp only [V.noRefsL, V.noRefs, hx.refs, hy.refs, Bool.and_self, cond_true]
theorem wv_t (b : Bool) : wv (.bool b) true = some b := by cases b <;> rfl
theorem wv_f (b : Bool) : wv (.bool b) false = some (!b) := by cases b <;> rfl
theorem slc_sl {t e : TypeId} {ag : Bool} (he : F.elemT P t = some e) (hl : F.layE P e = some (1, ag)) {k : IntKind} {v : V} {d : List Nat} (h : Sl k v d) (k' : IntKind) (i : Nat) (hi : i < d.length) :
  slc P t v none (some (.int k' (.ofNat i))) none = some (.slice none false 1 (nl k (d.take i))) := by
 rcases h with ⟨f, rfl⟩ | ⟨rfl, rfl⟩
 ·exact slc_init he hl none f k k' d i hi
 ·simp at hi
theorem cells_agg (cs : List V) : (V.agg cs).cells = cs := rfl
theorem wrap_u32_int (n : Int) : F.wrapI .u32 n = .ofNat (n % 4294967296).toNat := by
 rw [F.wrapI_eq]
 have h : 0 ≤ n % 4294967296 := Int.emod_nonneg _ (by decide)
 show n % 4294967296 = _
 exact (Int.toNat_of_nonneg h).symm
theorem i_sub32 {a b : Nat} (h : b ≤ 4294967296) : G.int2 .sub .u32 (.ofNat a) (.ofNat b) = some (.int .u32 (.ofNat ((a + 4294967296 - b) % 4294967296))) := by
 show some (V.int .u32 (F.wrapI .u32 (Int.sub (.ofNat a) (.ofNat b)))) = _
 rw [wrap_u32_int]
 have e : (Int.sub (.ofNat a) (.ofNat b) % 4294967296).toNat = (a + 4294967296 - b) % 4294967296 := by
  show (((a : Int) - (b : Int)) % 4294967296).toNat = _
  omega
 rw [e]
theorem i_sub64 {a b : Nat} (h : b ≤ 18446744073709551616) : G.int2 .sub .u64 (.ofNat a) (.ofNat b) = some (.int .u64 (.ofNat ((a + 18446744073709551616 - b) % 18446744073709551616))) := by
 show some (V.int .u64 (F.wrapI .u64 (Int.sub (.ofNat a) (.ofNat b)))) = _
 have e : F.wrapI .u64 (Int.sub (.ofNat a) (.ofNat b)) = .ofNat ((Int.sub (.ofNat a) (.ofNat b)) % 18446744073709551616).toNat := by
  rw [F.wrapI_eq]
  have h : 0 ≤ (Int.sub (.ofNat a) (.ofNat b)) % 18446744073709551616 := Int.emod_nonneg _ (by decide)
  show (Int.sub (.ofNat a) (.ofNat b)) % 18446744073709551616 = _
  exact (Int.toNat_of_nonneg h).symm
 rw [e]
 have e2 : (Int.sub (.ofNat a) (.ofNat b) % 18446744073709551616).toNat = (a + 18446744073709551616 - b) % 18446744073709551616 := by
  show (((a : Int) - (b : Int)) % 18446744073709551616).toNat = _
  omega
 rw [e2]
theorem i_and32 {a b : Nat} (ha : a < 4294967296) (hb : b < 4294967296) : G.int2 .and .u32 (.ofNat a) (.ofNat b) = some (.int .u32 (.ofNat (a &&& b))) := by
 show some (V.int .u32 (IntKind.u32.wrap (BitVec.ofInt 32 (Int.ofNat a) &&& BitVec.ofInt 32 (Int.ofNat b)).toNat)) = _
 have e : (BitVec.ofInt 32 (Int.ofNat a) &&& BitVec.ofInt 32 (Int.ofNat b)).toNat = a &&& b := by
  rw [BitVec.toNat_and]
  show (BitVec.ofInt 32 (a : Int)).toNat &&& (BitVec.ofInt 32 (b : Int)).toNat = _
  rw [BitVec.toNat_ofInt, BitVec.toNat_ofInt]
  congr 1 <;> omega
 rw [e, ← F.wrapI_eq]
 congr 2
 exact wrap_u32 (Nat.lt_of_le_of_lt Nat.and_le_left ha)
theorem i_xor32 {a b : Nat} (ha : a < 4294967296) (hb : b < 4294967296) : G.int2 .xor .u32 (.ofNat a) (.ofNat b) = some (.int .u32 (.ofNat (a ^^^ b))) := by
 show some (V.int .u32 (IntKind.u32.wrap (BitVec.ofInt 32 (Int.ofNat a) ^^^ BitVec.ofInt 32 (Int.ofNat b)).toNat)) = _
 have e : (BitVec.ofInt 32 (Int.ofNat a) ^^^ BitVec.ofInt 32 (Int.ofNat b)).toNat = a ^^^ b := by
  rw [BitVec.toNat_xor]
  show (BitVec.ofInt 32 (a : Int)).toNat ^^^ (BitVec.ofInt 32 (b : Int)).toNat = _
  rw [BitVec.toNat_ofInt, BitVec.toNat_ofInt]
  congr 1 <;> omega
 rw [e, ← F.wrapI_eq]
 congr 2
 exact wrap_u32 (Nat.xor_lt_two_pow (n := 32) ha hb)
theorem un_xor32 {a : Nat} (ha : a < 4294967296) : G.un .xor (.int .u32 (.ofNat a)) = some (.int .u32 (.ofNat (4294967295 ^^^ a))) := by
 show F.binInt .xor .u32 (if IntKind.u32.signed = true then -1 else IntKind.u32.max) (.ofNat a) = _
 have e0 : (if IntKind.u32.signed = true then -1 else IntKind.u32.max) = Int.ofNat 4294967295 := rfl
 rw [e0]
 have e1 : F.binInt .xor .u32 (Int.ofNat 4294967295) (Int.ofNat a) = binInt .xor .u32 (Int.ofNat 4294967295) (Int.ofNat a) := by rw [F.e_binInt]
 rw [e1]
 exact i_xor32 (a := 4294967295) (by decide) ha
def dn : Nat → Int
 | 0 => .negSucc 0
 | n + 1 => .ofNat n
theorem i_dec {n : Nat} (h : n < 9223372036854775808) : G.int2 .sub .i64 (.ofNat n) (.ofNat 1) = some (.int .i64 (dn n)) := by
 cases n with
 | zero => rfl
 | succ m =>
  rw [i_sub (by omega), wrap_i64 (by omega)]
  rfl
theorem i_geq_neg (k : IntKind) (m n : Nat) : G.int2 .geq k (.negSucc m) (.ofNat n) = some (.bool false) := rfl
theorem i_sub_neg {k : IntKind} {a b : Nat} (h : a < b) : G.int2 .sub k (.ofNat a) (.ofNat b) = some (.int k (F.wrapI k (.negSucc (b - a - 1)))) := by
 show some (V.int k (F.wrapI k (Int.sub (.ofNat a) (.ofNat b)))) = _
 have : Int.sub (.ofNat a) (.ofNat b) = .negSucc (b - a - 1) := by
  show (a : Int) - (b : Int) = _
  omega
 rw [this]
theorem wrap_i64_neg {n : Nat} (h : n < 9223372036854775808) : F.wrapI .i64 (.negSucc n) = .negSucc n := by
 show (bif true && Nat.blt n 9223372036854775808 then Int.negSucc n else _) = _
 rw [show Nat.blt n 9223372036854775808 = true from by rw [Nat.blt_eq]; exact h]; rfl
theorem mx_neg (k k' : IntKind) (m : Nat) : mxV (.int k (.negSucc m)) (.int k' (.negSucc 0)) = some (.int k (.negSucc 0)) := by
 show some (V.int k (Bool.rec (motive := fun _ => Int) (.negSucc m) (.negSucc 0) (F.ltI (.negSucc m) (.negSucc 0)))) = _
 rw [F.ltI_eq]
 by_cases h : m = 0
 ·subst h; rfl
 ·rw [show decide (Int.negSucc m < Int.negSucc 0) = true from by rw [decide_eq_true_iff]; omega]
theorem mx_pos (k k' : IntKind) (m n : Nat) : mxV (.int k (.ofNat m)) (.int k' (.negSucc n)) = some (.int k (.ofNat m)) := rfl
theorem mn_neg (k k' : IntKind) (m n : Nat) : mnV (.int k (.negSucc m)) (.int k' (.ofNat n)) = some (.int k (.negSucc m)) := rfl
theorem fin_two {h : Hp} {a b : Nat} {s : St} {v w : V} (hv : gt s.tm a = v) (hw : gt s.tm b = w) (pv : Ex1 v) (pw : Ex1 w) (rv : v.noRefs = true) (rw' : w.noRefs = true) (hd : s.hp.dirty = none) :
  fin P h [.tmp a, .tmp b] s = some (.val (.tuple [v, w]) h) := by
 unfold fin
 have e1 : resV P s [.tmp a, .tmp b] = some [v, w] := by simp only [resV, rho_gt, hv, hw, Option.map_some]
 rw [e1]
 have e2 := exps_ex [v, w] s ⟨pv, pw, trivial⟩
 simp only [e2]
 have hc : cleanB h s.hp = true := by unfold cleanB; rw [hd]
 show some (Out.val (.tuple [v, w]) (backHp h s.hp [v, w])) = _
 unfold backHp
 rw [hc]
 simp only [V.noRefsL, rv, rw', Bool.and_self, cond_true]
theorem Ex1.int (k : IntKind) (n : Int) : Ex1 (.int k n) := fun _ => rfl
theorem Pl.ex {v : V} (h : Pl v) : Ex1 v := h.exp'
theorem bin_sh (op : BinOp) (ho : op = .shr ∨ op = .shl) (t : TypeId) (cn : Bool) (k k' : IntKind) (a b : Int) : bin P op t cn (.int k a) (.int k' b) = G.int2 op k a b := by
 show (bif Nat.beq (G.ikNum k) (G.ikNum k') then G.int2 op k a b else F.binV op (.int k a) (.int k' b)) = _
 cases h : Nat.beq (G.ikNum k) (G.ikNum k') with
 | true => rfl
 | false =>
  simp only [cond_false]
  rw [F.e_binV]
  rcases ho with rfl | rfl
  ·rfl
  ·rfl
theorem bin_shr32 (t : TypeId) (cn : Bool) (k' : IntKind) (a b : Nat) (h : b ≤ 32) : bin P .shr t cn (.int .u32 (.ofNat a)) (.int k' (.ofNat b)) = some (.int .u32 (.ofNat (a / 2 ^ b))) := by
 rw [bin_sh _ (.inl rfl), i_shr32 h]
theorem bin_shr64 (t : TypeId) (cn : Bool) (k' : IntKind) (a b : Nat) (h : b ≤ 64) : bin P .shr t cn (.int .u64 (.ofNat a)) (.int k' (.ofNat b)) = some (.int .u64 (.ofNat (a / 2 ^ b))) := by
 rw [bin_sh _ (.inl rfl), i_shr64 h]
theorem bin_shl64 (t : TypeId) (cn : Bool) (k' : IntKind) (a b : Nat) (h : b ≤ 64) : bin P .shl t cn (.int .u64 (.ofNat a)) (.int k' (.ofNat b)) = some (.int .u64 (F.wrapI .u64 (.ofNat (a * 2 ^ b)))) := by
 rw [bin_sh _ (.inr rfl), i_shl64 h]
theorem clc0 {f : FuncId} {tm : Tm} {loc : Lo} {hp h' : Hp} {j : V → Lo → Hp → R} {r : V} (hc : call f [] hp = some (.val r h')) : cl call f [] tm loc hp j = j r loc h' := clp trivial hc
theorem clc1 {f : FuncId} {v : V} {tm : Tm} {loc : Lo} {hp h' : Hp} {j : V → Lo → Hp → R} {r : V} (hc : call f [v] hp = some (.val r h')) (h1 : Ex1 v) : cl call f [v] tm loc hp j = j r loc h' := clp ⟨h1, trivial⟩ hc
theorem clc2 {f : FuncId} {v w : V} {tm : Tm} {loc : Lo} {hp h' : Hp} {j : V → Lo → Hp → R} {r : V} (hc : call f [v, w] hp = some (.val r h')) (h1 : Ex1 v) (h2 : Ex1 w) : cl call f [v, w] tm loc hp j = j r loc h' := clp ⟨h1, h2, trivial⟩ hc
theorem clc3 {f : FuncId} {v w u : V} {tm : Tm} {loc : Lo} {hp h' : Hp} {j : V → Lo → Hp → R} {r : V} (hc : call f [v, w, u] hp = some (.val r h')) (h1 : Ex1 v) (h2 : Ex1 w) (h3 : Ex1 u) : cl call f [v, w, u] tm loc hp j = j r loc h' := clp ⟨h1, h2, h3, trivial⟩ hc
theorem Ex1.bool (b : Bool) : Ex1 (.bool b) := fun _ => rfl
theorem Ex1.str (s : Str) : Ex1 (.str s) := fun _ => rfl
theorem Sl.ex {k : IntKind} {v : V} {d : List Nat} (h : Sl k v d) : Ex1 v := h.pl.exp'
theorem ldF_loc (s g o : Nat) : ldF (.ptr (.loc s g) o) = ⟨[s], [], false, false, false, false⟩ := rfl
theorem ldF_iptr (cs : List V) : ldF (.iptr cs) = ft0 := rfl
theorem settle_pure (h : Hp) : F.settle h h ⟨[], [], true, true, false, false⟩ = ⟨[], [], true, false, false, false⟩ := by
 unfold F.settle
 rw [Nat.beq_refl, Nat.beq_refl]; rfl
theorem clD_pure {f : FuncId} {args : List V} {loc : Lo} {hp : Hp} {j : JD} {x : XD} {r : V} (hc : call f args hp = some (.val r hp)) (he : ExL args) (hq : args.all quiet = true) : clD call f args loc hp j x = j r ⟨[], [], true, false, false, false⟩ loc hp := by
 unfold clD
 rw [F.allR_eq, hq, F.e_exps, exps_ex args _ he]
 show G.onSome (call f args hp) _ none = _
 rw [hc]
 show j r (F.settle hp hp ⟨[], [], true, true, false, false⟩) loc hp = _
 rw [settle_pure]
theorem cld1 {f : FuncId} {v : V} {loc : Lo} {hp : Hp} {j : JD} {x : XD} {r : V} (hc : call f [v] hp = some (.val r hp)) (h1 : Ex1 v) (q1 : quiet v = true) : clD call f [v] loc hp j x = j r ⟨[], [], true, false, false, false⟩ loc hp := clD_pure hc ⟨h1, trivial⟩ (by simp [q1])
theorem cld2 {f : FuncId} {v w : V} {loc : Lo} {hp : Hp} {j : JD} {x : XD} {r : V} (hc : call f [v, w] hp = some (.val r hp)) (h1 : Ex1 v) (h2 : Ex1 w) (q1 : quiet v = true) (q2 : quiet w = true) : clD call f [v, w] loc hp j x = j r ⟨[], [], true, false, false, false⟩ loc hp := clD_pure hc ⟨h1, h2, trivial⟩ (by simp [q1, q2])
theorem cld0 {f : FuncId} {loc : Lo} {hp : Hp} {j : JD} {x : XD} {r : V} (hc : call f [] hp = some (.val r hp)) : clD call f [] loc hp j x = j r ⟨[], [], true, false, false, false⟩ loc hp := clD_pure hc trivial rfl
theorem finD_ok {ops : List Oper} {P1 P2 : List (Nat × Nat)} {fs : List Foot} {x : R} (h : chk ops P1 P2 (revA fs []) = true) : finD ops P1 P2 fs x = x := by
 show (bif chk ops P1 P2 (revA fs []) then x else none) = x
 rw [h]; rfl
theorem genD_store {t : TypeId} {a x : Nat} {s g off : Nat} {J : JD} {X : XD} (ho : o.op = .store t (.tmp a) (.tmp x)) (hd : o.dst = none) (ha : gt t' a = .ptr (.loc s g) off) :
  genD P C call gl o t' loc hp J X = stc P t g off (gt t' x) (lg loc s) (fun row => J (.tuple []) ⟨[s], [s], false, false, false, false⟩ (lp loc s row) hp) := by
 have hcase : ∀ cs' : List V, locV P C gl (⟨t', loc, hp⟩ : St).ρ (⟨t', loc, hp⟩ : St).lc o = some (.tuple [], some (s, g, .cells false cs')) → genD P C call gl o t' loc hp J X = J (.tuple []) ⟨[s], [s], false, false, false, false⟩ (lp loc s (g, .cells false cs')) hp := by
  intro cs' hloc
  unfold genD
  rw [F.e_footV, F.e_oneV, F.e_rho, F.e_lcf]
  unfold footV
  rw [hloc]
  show G.onSome (oneV P C call gl ⟨t', loc, hp⟩ o) _ none = _
  unfold oneV stepV
  rw [hloc]
  simp only [applyL, putV, hd, aset_lp]
  show J (.tuple []) (F.settle hp hp ⟨[s], [s], false, false, false, false⟩) (lp loc s (g, .cells false cs')) hp = _
  have : F.settle hp hp ⟨[s], [s], false, false, false, false⟩ = ⟨[s], [s], false, false, false, false⟩ := by
   unfold F.settle
   rw [Nat.beq_refl, Nat.beq_refl]; rfl
  rw [this]
 have hnone : locV P C gl (⟨t', loc, hp⟩ : St).ρ (⟨t', loc, hp⟩ : St).lc o = none → genD P C call gl o t' loc hp J X = none := by
  intro hloc
  unfold genD
  rw [F.e_footV, F.e_rho, F.e_lcf]
  unfold footV
  rw [hloc]
  simp only [ho, opd_gt, ha]
  rfl
 unfold stc
 have hl : locV P C gl (⟨t', loc, hp⟩ : St).ρ (⟨t', loc, hp⟩ : St).lc o = (match lg loc s with
   | (g', .cells false cs) => bif Nat.beq g g' && (gt t' x).cells.all V.cellOk && lenIs P t (gt t' x).cells.length then
     (match setAt cs off (gt t' x).cells with
     | some cs' => some (.tuple [], some (s, g, .cells false cs'))
     | none => none)
    else none
   | _ => none) := by
  unfold locV
  simp only [ho, opd_gt, ha, lc_lg]
  rcases lg loc s with ⟨g', row⟩
  cases row <;> first | rfl | (rename_i f cs; cases f <;> rfl)
 cases hrow : lg loc s with
 | mk g' row =>
  rw [hrow] at hl
  cases row with
  | cells frz cs =>
   cases frz with
   | true => rw [hnone hl]; rfl
   | false =>
    show _ = (bif Nat.beq g g' && F.allR V.cellOk (gt t' x).cells && F.lenIs P t (F.lenR (gt t' x).cells) then G.onSome (F.setAt cs off (gt t' x).cells) _ none else none)
    rw [F.allR_eq, F.lenR_eq, F.e_lenIs, F.e_setAt]
    simp only [] at hl
    cases hb : (Nat.beq g g' && (gt t' x).cells.all V.cellOk && lenIs P t (gt t' x).cells.length) with
    | false => rw [hb] at hl; rw [hnone hl]; rfl
    | true =>
     rw [hb] at hl
     simp only [cond_true] at hl ⊢
     cases hs : setAt cs off (gt t' x).cells with
     | none => rw [hs] at hl; rw [hnone hl]; rfl
     | some cs' => rw [hs] at hl; rw [hcase cs' hl]; rfl
  | gone => rw [hnone hl]; rfl
  | tok => rw [hnone hl]; rfl
  | iter a b => rw [hnone hl]; rfl
  | mp a b => rw [hnone hl]; rfl
theorem exp_arr {tm : Tm} {loc : Lo} {hp : Hp} {d g : Nat} {li : Option Nat} {k : IntKind} {l : List Nat} {f0 : Bool} (h : lg loc d = (g, .cells f0 (nl k l))) :
  AM.exp false ⟨tm, loc, hp⟩ (.arr (.loc d g) 0 l.length li 1 false) = some (.slice none false 1 (nl k l), ⟨tm, lp loc d (g, .cells true (nl k l)), hp⟩) := by
 have h2 : getRow ⟨tm, loc, hp⟩ (.loc d g) = some (.cells f0 (nl k l)) := getRow_loc h
 simp only [exp, exp1, isLoc, Bool.or_true, Bool.false_or, cond_true, freeze, h2]
 have h3 : itemsOf ⟨tm, loc, hp⟩ (.arr (.loc d g) 0 l.length li 1 false) = some (nl k l) := getRow_arr h
 rw [h3]
 simp only [noRefsL_nl, cond_true, setRow_loc]
theorem cl_arr1 {f : FuncId} {d g : Nat} {li : Option Nat} {k : IntKind} {l : List Nat} {f0 : Bool} {tm : Tm} {loc : Lo} {hp h' : Hp} {j : V → Lo → Hp → R} {r : V} {n : Nat} (hn : n = l.length) (h : lg loc d = (g, .cells f0 (nl k l)))
  (hc : call f [.slice none false 1 (nl k l)] hp = some (.val r h')) : cl call f [.arr (.loc d g) 0 n li 1 false] tm loc hp j = j r (lp loc d (g, .cells true (nl k l))) h' := by
 subst hn
 refine cl_val (st := ⟨.lf, lp loc d (g, .cells true (nl k l)), hp⟩) (l := [.slice none false 1 (nl k l)]) ?_ hc
 unfold exps
 rw [exp_arr h]
 rfl
theorem cl_arr2 {f : FuncId} {d g : Nat} {li : Option Nat} {k : IntKind} {l : List Nat} {f0 : Bool} {w : V} {tm : Tm} {loc : Lo} {hp h' : Hp} {j : V → Lo → Hp → R} {r : V} {n : Nat} (hn : n = l.length) (h : lg loc d = (g, .cells f0 (nl k l)))
  (hc : call f [.slice none false 1 (nl k l), w] hp = some (.val r h')) (hw : Ex1 w) : cl call f [.arr (.loc d g) 0 n li 1 false, w] tm loc hp j = j r (lp loc d (g, .cells true (nl k l))) h' := by
 subst hn
 refine cl_val (st := ⟨.lf, lp loc d (g, .cells true (nl k l)), hp⟩) (l := [.slice none false 1 (nl k l), w]) ?_ hc
 have e2 := exps_ex [w] ⟨.lf, lp loc d (g, .cells true (nl k l)), hp⟩ ⟨hw, trivial⟩
 show exps false ⟨.lf, loc, hp⟩ (.arr (.loc d g) 0 l.length li 1 false :: [w]) = _
 rw [show ∀ (st : St) (v : V) (r : List V), exps false st (v :: r) = (match exp false st v with
  | none => none
  | some (v', st') => match exps false st' r with
   | none => none
   | some (l', st'') => some (v' :: l', st'')) from fun _ _ _ => rfl]
 rw [exp_arr h]
 simp only [e2]
def hset (h : Hp) (r : Nat) (row : Row) : Hp := ⟨h.rows.set r row, lower h.dirty r, h.mods + 1⟩
def hadd (h : Hp) (row : Row) : Hp := ⟨h.rows ++ [row], h.dirty, h.mods⟩
theorem hset_at (h : Hp) {r : Nat} {row row0 : Row} (hr : h.rows[r]? = some row0) : (hset h r row).rows[r]? = some row := by
 have : r < h.rows.length := by
  rcases Nat.lt_or_ge r h.rows.length with h1 | h1
  ·exact h1
  ·rw [List.getElem?_eq_none h1] at hr; simp at hr
 show (h.rows.set r row)[r]? = _
 rw [List.getElem?_set_self this]
theorem hset_ne (h : Hp) {r i : Nat} {row : Row} (hi : i ≠ r) : (hset h r row).rows[i]? = h.rows[i]? := by
 show (h.rows.set r row)[i]? = _
 rw [List.getElem?_set_ne (Ne.symm hi)]
theorem hset_len (h : Hp) (r : Nat) (row : Row) : (hset h r row).rows.length = h.rows.length := by
 show (h.rows.set r row).length = _
 rw [List.length_set]
theorem hadd_at (h : Hp) (row : Row) : (hadd h row).rows[h.rows.length]? = some row := by
 show (h.rows ++ [row])[h.rows.length]? = _
 simp
theorem hadd_lt (h : Hp) {i : Nat} (row : Row) (hi : i < h.rows.length) : (hadd h row).rows[i]? = h.rows[i]? := by
 show (h.rows ++ [row])[i]? = _
 rw [List.getElem?_append_left hi]
theorem hadd_len (h : Hp) (row : Row) : (hadd h row).rows.length = h.rows.length + 1 := by
 show (h.rows ++ [row]).length = _
 simp
theorem getRow_glob {tm : Tm} {loc : Lo} {h : Hp} {r : Nat} : getRow ⟨tm, loc, h⟩ (.glob r) = h.rows[r]? := rfl
theorem setRow_glob {tm : Tm} {loc : Lo} {h : Hp} {r : Nat} {row : Row} : setRow ⟨tm, loc, h⟩ (.glob r) row = ⟨tm, loc, hset h r row⟩ := rfl
theorem gen_store_glob {t : TypeId} {a x r off : Nat} {k : IntKind} {n : Nat} {d : List Nat} (ho : o.op = .store t (.tmp a) (.tmp x)) (hd : o.dst = none) (hax : a ≠ x) (hl : lenIs P t 1 = true)
  (hr : hp.rows[r]? = some (.cells false (nl k d))) (h : off < d.length) :
  gen P C call gl o (pt (pt .lf a (.ptr (.glob r) off)) x (.int k (.ofNat n))) tm loc hp j = j (.tuple []) loc (hset hp r (.cells false (nl k (d.set off n)))) := by
 have ha : gt (pt (pt .lf a (.ptr (.glob r) off)) x (.int k (.ofNat n))) a = .ptr (.glob r) off := by rw [gt_pt, if_neg (Ne.symm hax), gt_pt, if_pos rfl]
 have hx : gt (pt (pt .lf a (.ptr (.glob r) off)) x (.int k (.ofNat n))) x = .int k (.ofNat n) := by rw [gt_pt, if_pos rfl]
 refine gen_none (v := .tuple []) (st := ⟨pt (pt .lf a (.ptr (.glob r) off)) x (.int k (.ofNat n)), loc, hset hp r (.cells false (nl k (d.set off n)))⟩) hd ?_
 have hp1 : locV P C gl (⟨pt (pt .lf a (.ptr (.glob r) off)) x (.int k (.ofNat n)), loc, hp⟩ : St).ρ (⟨pt (pt .lf a (.ptr (.glob r) off)) x (.int k (.ofNat n)), loc, hp⟩ : St).lc o = none := by
  unfold locV
  simp only [ho, opd_gt, ha]
 unfold stepV
 rw [hp1]
 unfold stepG
 have he : exp false ⟨pt (pt .lf a (.ptr (.glob r) off)) x (.int k (.ofNat n)), loc, hp⟩ (.int k (.ofNat n)) = some (.int k (.ofNat n), ⟨pt (pt .lf a (.ptr (.glob r) off)) x (.int k (.ofNat n)), loc, hp⟩) := rfl
 simp only [ho, opd_gt, ha, hx, hr, he, V.cells, List.all_cons, V.cellOk, List.all_nil, Bool.and_self, List.length_cons, List.length_nil, Nat.zero_add, hl, cond_true, setAt_nl k d off n h, setRow_glob]
def Gr (h : Hp) (v : V) (k : IntKind) (l : List Nat) : Prop :=
 (l = [] ∧ v = .nils) ∨ (l ≠ [] ∧ ∃ r, v = .arr (.glob r) 0 l.length none 1 false ∧ h.rows[r]? = some (.cells false (nl k l)))
theorem gen_growGs {d x y t e b : Nat} (hi : ApI P o d x y t) (hA : C.isArr t = true) (hg : gl d = true) (he : elemT P t = some e) (hl : layE P e = some (1, false)) (hb : byteE P e = some b) (hxy : x ≠ y)
    {loc : Lo} {k : IntKind} {l ys : List Nat} {v w : V} (hv : Gr hp v k l) (hit : ∀ tm, itemsOf ⟨tm, loc, hp⟩ w = some (nl k ys)) (hys : ys ≠ []) (hn : (l.length + ys.length) * b ≤ 70368744177664) :
    ∃ h', (∀ (call : CallF) (tm : Tm) (j : V → Lo → Hp → R), gen P C call gl o (pt (pt .lf x v) y w) tm loc hp j = j (.arr (.glob hp.rows.length) 0 (l.length + ys.length) none 1 false) loc h') ∧
      h'.rows[hp.rows.length]? = some (.cells false (nl k (l ++ ys))) ∧ h'.rows.length = hp.rows.length + 1 ∧
      (∀ i, i < hp.rows.length → v ≠ .arr (.glob i) 0 l.length none 1 false → h'.rows[i]? = hp.rows[i]?) ∧ (h' = hadd hp (.cells false (nl k (l ++ ys))) ∨ ∃ r, v = .arr (.glob r) 0 l.length none 1 false ∧ h' = hadd (hset hp r .gone) (.cells false (nl k (l ++ ys)))) := by
  obtain ⟨hd, c, ho, hc, ha, hty, hni⟩ := hi
  have hx : gt (pt (pt .lf x v) y w) x = v := by rw [gt_pt, if_neg (Ne.symm hxy), gt_pt, if_pos rfl]
  have hy : gt (pt (pt .lf x v) y w) y = w := by rw [gt_pt, if_pos rfl]
  have hp1 : locV P C gl (⟨pt (pt .lf x v) y w, loc, hp⟩ : St).ρ (⟨pt (pt .lf x v) y w, loc, hp⟩ : St).lc o = none := by
    unfold locV
    simp only [ho, pureV, hc, ha, Option.map_none]
  have hne : ∀ {q : Prop}, nl k ys = [] → q := fun h => absurd (by simpa [nl] using h) hys
  have hmb : ∀ n, n ≤ 70368744177664 → Nat.ble n maxBytes = true := fun n h => by rw [Nat.ble_eq]; exact h
  rcases hv with ⟨rfl, rfl⟩ | ⟨hl0, r, rfl, hrow⟩
  · refine ⟨hadd hp (.cells false (nl k ys)), fun call tm j => gen_val (v := .arr (.glob hp.rows.length) 0 (([] : List Nat).length + ys.length) none 1 false) (st := ⟨pt (pt .lf x .nils) y w, loc, hadd hp (.cells false (nl k ys))⟩) hd ?_, hadd_at _ _, hadd_len _ _, fun i hi _ => hadd_lt _ _ hi, .inl rfl⟩
    unfold stepV
    rw [hp1]
    unfold stepG
    simp only [ho, callS, hc, hty, hd, opds, ha, List.map_cons, List.map_nil, opd_gt, hx, hy, hni, cond_true, appendV, he, hl, hb, hit, fits_nl]
    split
    · rename_i h0; exact hne h0
    · rw [hmb _ (by simpa [nl_length] using hn)]
      simp only [cond_true, hA, growArr, hg, Bool.true_and, addRow, flat_nl, noLocL_nl, Bool.not_true, cond_false, nl_length, List.length_nil, Nat.zero_add]
      rfl
  · refine ⟨hadd (hset hp r .gone) (.cells false (nl k (l ++ ys))), fun call tm j => gen_val (v := .arr (.glob hp.rows.length) 0 (l.length + ys.length) none 1 false) (st := ⟨pt (pt .lf x (.arr (.glob r) 0 l.length none 1 false)) y w, loc, hadd (hset hp r .gone) (.cells false (nl k (l ++ ys)))⟩) hd ?_, ?_, ?_, ?_, .inr ⟨r, rfl, rfl⟩⟩
    · unfold stepV
      rw [hp1]
      unfold stepG
      simp only [ho, callS, hc, hty, hd, opds, ha, List.map_cons, List.map_nil, opd_gt, hx, hy, hni, cond_true, appendV, he, hl, hb, hit, fits_nl, getRow_glob, hrow, nl_length, Nat.beq_refl, beq_self_eq_true, Bool.and_self, Nat.zero_add, Nat.mul_one]
      rw [show Nat.ble l.length l.length = true from by rw [Nat.ble_eq]; exact Nat.le_refl _, hmb _ hn]
      simp only [Bool.and_self, cond_true]
      split
      · rename_i h0; exact hne h0
      · simp only [isLoc, Bool.not_false, Bool.true_and, flat_nl, noLocL_nl, Bool.not_true, cond_false]
        rw [show Nat.ble (l.length + ys.length) l.length = false from by
          cases hb : Nat.ble (l.length + ys.length) l.length with
          | false => rfl
          | true => rw [Nat.ble_eq] at hb; have : ys.length ≠ 0 := by simpa using hys
                    omega]
        simp only [cond_false, growArr, hg, Bool.true_and, setRow_glob, addRow, cond_true, hset_len, ← nl_append, noLocL_nl, Bool.not_true]
        rfl
    · have := hadd_at (hset hp r .gone) (.cells false (nl k (l ++ ys)))
      rw [hset_len] at this; exact this
    · rw [hadd_len, hset_len]
    · intro i hi hne
      rw [hadd_lt _ _ (by rw [hset_len]; exact hi)]
      exact hset_ne _ (fun e => hne (by rw [e]))
theorem ldg_nl {t : TypeId} (hl : F.layE P t = some (1, false)) (frz : Bool) (k : IntKind) (d : List Nat) (i : Nat) (h : i < d.length) : ldg P t i (some (.cells frz (nl k d))) = some (.int k (.ofNat (d.getD i 0))) := by
 rw [ldg_cells hl, nl_nth k d i h]
theorem gen_empty {d : Nat} {t e : TypeId} {z : V} (hd : o.dst = some d) (ho : o.op = .buildSlice t 0 #[]) (ha : C.isArr t = true) (hg : gl d = false) (he : elemT P t = some e) (hl : layE P e = some (1, false)) (hz : zeroV P e = some z) (hz1 : z.live = true) (hz2 : z.cells.length = 1) :
  gen P C call gl o t' tm loc hp j = j (.arr (.loc d ((lg loc d).1 + 1)) 0 0 (some 0) 1 false) (lp loc d ((lg loc d).1 + 1, .cells false [])) hp := by
 refine gen_val (v := .arr (.loc d ((lg loc d).1 + 1)) 0 0 (some 0) 1 false) (st := ⟨t', lp loc d ((lg loc d).1 + 1, .cells false []), hp⟩) hd ?_
 have hp1 : locV P C gl (⟨t', loc, hp⟩ : St).ρ (⟨t', loc, hp⟩ : St).lc o = none := by
  unfold locV
  simp only [ho, pureV, he, hl, hz, ha, Bool.not_true, Bool.false_and, cond_false, Option.map_none]
 unfold stepV
 rw [hp1]
 unfold stepG
 simp only [ho, hd, he, hl, hz, opds, List.map_nil, exps, ha, hz1, hz2, hg, addRow, cond_false, lc_lg, aset_lp]
 rfl
theorem gen_clone {d x y t e b s g : Nat} (hi : ApI P o d x y t) (hA : C.isArr t = true) (hg : gl d = true) (he : elemT P t = some e) (hl : layE P e = some (1, false)) (hb : byteE P e = some b) (hxy : x ≠ y)
    {loc : Lo} {k : IntKind} {ys : List Nat} {w : V} (hs : lg loc s = (g, .cells false [])) (hit : ∀ tm, itemsOf ⟨tm, loc, hp⟩ w = some (nl k ys)) (hys : ys ≠ []) (hn : ys.length * b ≤ 70368744177664) (call : CallF) (tm : Tm) (j : V → Lo → Hp → R) :
    gen P C call gl o (pt (pt .lf x (.arr (.loc s g) 0 0 (some 0) 1 false)) y w) tm loc hp j = j (.arr (.glob hp.rows.length) 0 ys.length none 1 false) loc (hadd hp (.cells false (nl k ys))) := by
  obtain ⟨hd, c, ho, hc, ha, hty, hni⟩ := hi
  generalize hv : V.arr (.loc s g) 0 0 (some 0) 1 false = v
  have hx : gt (pt (pt .lf x v) y w) x = v := by rw [gt_pt, if_neg (Ne.symm hxy), gt_pt, if_pos rfl]
  have hy : gt (pt (pt .lf x v) y w) y = w := by rw [gt_pt, if_pos rfl]
  have hp1 : locV P C gl (⟨pt (pt .lf x v) y w, loc, hp⟩ : St).ρ (⟨pt (pt .lf x v) y w, loc, hp⟩ : St).lc o = none := by
    unfold locV
    simp only [ho, pureV, hc, ha, Option.map_none]
  have hne : ∀ {q : Prop}, nl k ys = [] → q := fun h => absurd (by simpa [nl] using h) hys
  have hmb : ∀ n, n ≤ 70368744177664 → Nat.ble n maxBytes = true := fun n h => by rw [Nat.ble_eq]; exact h
  have hrow' : ∀ tm hp, getRow ⟨tm, loc, hp⟩ (.loc s g) = some (.cells false []) := fun tm hp => getRow_loc hs
  refine gen_val (v := .arr (.glob hp.rows.length) 0 ys.length none 1 false) (st := ⟨pt (pt .lf x v) y w, loc, hadd hp (.cells false (nl k ys))⟩) hd ?_
  unfold stepV
  rw [hp1]
  unfold stepG
  simp only [ho, callS, hc, hty, hd, opds, ha, List.map_cons, List.map_nil, opd_gt, hx, hy, hni, cond_true, appendV, he, hl, hb, hit, fits_nl]
  subst hv
  simp only [Nat.beq_refl, beq_self_eq_true, Bool.and_self, cond_true, hrow', Nat.zero_mul, Nat.zero_add, List.length_nil, nl_length]
  rw [hmb _ hn]
  simp only [show Nat.ble 0 0 = true from rfl, Bool.and_self, cond_true]
  split
  · rename_i h0; exact hne h0
  · simp only [isLoc, Bool.not_true, Bool.false_and, cond_false]
    rw [show Nat.ble ys.length 0 = false from by
      cases hb : Nat.ble ys.length 0 with
      | false => rfl
      | true => rw [Nat.ble_eq] at hb; have : ys.length ≠ 0 := by simpa using hys
                omega]
    simp only [cond_false, growArr, hg, Bool.true_and, List.drop_nil, List.take_nil, List.nil_append, flat_nl, noLocL_nl, Bool.not_true, addRow, cond_true]
    rfl
theorem items_sl {k : IntKind} {v : V} {d : List Nat} (h : Sl k v d) (st : St) : itemsOf st v = some (nl k d) := by
 rcases h with ⟨f, rfl⟩ | ⟨rfl, rfl⟩ <;> rfl
theorem items_glob {tm : Tm} {loc : Lo} {h : Hp} {r off len : Nat} {li : Option Nat} {k : IntKind} {L : List Nat} {f : Bool} (hr : h.rows[r]? = some (.cells f (nl k L))) (hl : off + len ≤ L.length) :
  itemsOf ⟨tm, loc, h⟩ (.arr (.glob r) off len li 1 false) = some (nl k ((L.drop off).take len)) := by
 simp only [itemsOf, getRow_glob, hr, Nat.mul_one, nl_length]
 rw [show Nat.ble (off + len) L.length = true from by rw [Nat.ble_eq]; exact hl]
 simp only [Nat.beq_refl, Bool.or_true, Bool.and_self, cond_true, Option.some.injEq]
 have e1 : (nl k L).drop off = nl k (L.drop off) := by simp [nl]
 rw [e1]
 have key : ∀ (n : Nat) (l : List Nat), n ≤ l.length → chunk 1 false n (nl k l) = nl k (l.take n) := by
  intro n
  induction n with
  | zero => intro l _; rfl
  | succ n ih =>
   intro l hl
   cases l with
   | nil => simp at hl
   | cons x l =>
    simp only [nl, List.map_cons, List.take_succ_cons, chunk, cond_false, List.headD_cons, List.drop_succ_cons, List.drop_zero]
    rw [show V.unagg (.int k (.ofNat x)) = .int k (.ofNat x) from rfl]
    congr 1
    exact ih l (by simpa using hl)
 exact key len (L.drop off) (by simp; omega)
theorem exp_glob (fz : Bool) (h : fz = false) (st : St) (r off len : Nat) (li : Option Nat) (sz : Nat) (ag : Bool) : AM.exp fz st (.arr (.glob r) off len li sz ag) = some (.arr (.glob r) off len li sz ag, st) := by subst h; rfl
theorem Ex1.glob (r off len : Nat) (li : Option Nat) (sz : Nat) (ag : Bool) : Ex1 (.arr (.glob r) off len li sz ag) := fun _ => rfl
theorem slc_arr {t e : TypeId} {ag0 : Bool} (he : F.elemT P t = some e) (hl : F.layE P e = some (1, ag0)) (r : Ref) (off len : Nat) (ag : Bool) (k' : IntKind) (i : Nat) (hi : i ≤ len) :
  slc P t (.arr r off len none 1 ag) none (some (.int k' (.ofNat i))) none = some (.arr r off i none 1 ag) := by
 show F.sliceV P t (.arr r off len none 1 ag) none (some (.ofNat i)) none = _
 unfold F.sliceV
 simp only [he, hl, Nat.beq_refl, cond_true]
 unfold F.sliceArr
 simp only [Option.getD_some, F.toNatLe]
 rw [show Nat.ble i len = true from by rw [Nat.ble_eq]; exact hi]
 simp only [cond_true, Option.getD_none, show Nat.ble 0 i = true from Nat.ble_eq ▸ Nat.zero_le i, show (Nat.beq 0 0) = true from rfl, Bool.not_true, Bool.and_false, cond_false, Nat.zero_mul, Nat.add_zero, Nat.sub_zero]
theorem gen_two_arr {d x y : Nat} {t : TypeId} {z0 z1 w : V} {r n : Nat} {li : Option Nat} {k : IntKind} {L : List Nat} {f0 : Bool} (hd : o.dst = some d) (ho : o.op = .build t #[(0, .tmp x), (1, .tmp y)]) (h2 : two P t = true) (hz : zeroV P t = some (.agg [z0, z1])) (hxy : x ≠ y)
  (hr : hp.rows[r]? = some (.cells f0 (nl k L))) (hn : n ≤ L.length) (hw : Pl w) :
  gen P C call gl o (pt (pt .lf x (.arr (.glob r) 0 n li 1 false)) y w) tm loc hp j = j (.agg [.slice none false 1 (nl k (L.take n)), w]) loc (hset hp r (.cells true (nl k L))) := by
 unfold two at h2
 split at h2
 ·rename_i fs hu
  split at h2
  ·rename_i f0' f1 hfs
   simp only [Bool.and_eq_true] at h2
   obtain ⟨⟨a0, a1⟩, a2⟩ := h2
   have e : fs = #[f0', f1] := by apply Array.toList_inj.1; rw [hfs]
   subst e
   split at a2
   ·rename_i a b s0 s1
    simp only [Bool.and_eq_true] at a2
    have b1 : a = 1 := Nat.eq_of_beq_eq_true a2.1
    have b2 : b = 1 := Nat.eq_of_beq_eq_true a2.2
    subst b1; subst b2
    have o0 : f0'.offset = 0 := Nat.eq_of_beq_eq_true a0
    have o1 : f1.offset = 1 := Nat.eq_of_beq_eq_true a1
    generalize hv : V.arr (.glob r) 0 n li 1 false = v
    have hx : gt (pt (pt .lf x v) y w) x = v := by rw [gt_pt, if_neg (Ne.symm hxy), gt_pt, if_pos rfl]
    have hy : gt (pt (pt .lf x v) y w) y = w := by rw [gt_pt, if_pos rfl]
    have i0 : (P.info? f0'.type).isSome = true := by
     unfold szOf at s0
     cases h : P.info? f0'.type with
     | none => rw [h] at s0; simp at s0
     | some i => rfl
    have i1 : (P.info? f1.type).isSome = true := by
     unfold szOf at s1
     cases h : P.info? f1.type with
     | none => rw [h] at s1; simp at s1
     | some i => rfl
    have e0 : fieldOf P t 0 = some f0' := by unfold fieldOf; rw [hu]; rfl
    have e1 : fieldOf P t 1 = some f1 := by unfold fieldOf; rw [hu]; rfl
    have ea : (#[f0', f1] : Array Field).all (fun f => (P.info? f.type).isSome) = true := by simp [i0, i1]
    have hplain : v.weakB.plain = false := by subst hv; rfl
    refine gen_val (v := .agg [.slice none false 1 (nl k (L.take n)), w]) (st := ⟨pt (pt .lf x v) y w, loc, hset hp r (.cells true (nl k L))⟩) hd ?_
    have hp1 : locV P C gl (⟨pt (pt .lf x v) y w, loc, hp⟩ : St).ρ (⟨pt (pt .lf x v) y w, loc, hp⟩ : St).lc o = none := by
     unfold locV
     simp only [ho, pureV, hu, hz, V.live, Bool.true_and]
     rw [ea]
     simp only [cond_true, fillP, e0, opd_gt, hx, hplain, Bool.false_and, cond_false, Option.map_none]
    unfold stepV
    rw [hp1]
    unfold stepG
    have hex : exps true ⟨pt (pt .lf x v) y w, loc, hp⟩ [v, w] = some ([.slice none false 1 (nl k (L.take n)), w], ⟨pt (pt .lf x v) y w, loc, hset hp r (.cells true (nl k L))⟩) := by
     subst hv
     have h1 : exp true ⟨pt (pt .lf x (.arr (.glob r) 0 n li 1 false)) y w, loc, hp⟩ (.arr (.glob r) 0 n li 1 false) = some (.slice none false 1 (nl k (L.take n)), ⟨pt (pt .lf x (.arr (.glob r) 0 n li 1 false)) y w, loc, hset hp r (.cells true (nl k L))⟩) := by
      simp only [exp, exp1, Bool.true_or, cond_true, freeze, getRow_glob, hr]
      have h3 := items_glob (tm := pt (pt .lf x (.arr (.glob r) 0 n li 1 false)) y w) (loc := loc) (li := li) hr (off := 0) (len := n) (by omega)
      rw [List.drop_zero] at h3
      rw [h3]
      simp only [noRefsL_nl, cond_true, setRow_glob]
     rw [show ∀ (st : St) (v : V) (r : List V), exps true st (v :: r) = (match exp true st v with
      | none => none
      | some (v', st') => match exps true st' r with
       | none => none
       | some (l', st'') => some (v' :: l', st'')) from fun _ _ _ => rfl]
     rw [h1]
     simp only [exps, hw.expF]
    have ez : V.cells (.agg [z0, z1]) = [z0, z1] := rfl
    have pls : Pl (.slice none false 1 (nl k (L.take n))) := (Sl.pl (.inl ⟨false, rfl⟩ : Sl k (.slice none false 1 (nl k (L.take n))) (L.take n)))
    simp only [ho, opds, List.map_cons, List.map_nil, opd_gt, hx, hy, hu, hz, hex, V.live, Bool.true_and]
    rw [ea]
    simp only [Bool.not_true, cond_false]
    show (match fillP P t (fun i => [V.slice none false 1 (nl k (L.take n)), w].getD i .dead) [(0, .tmp 0), (1, .tmp 1)] (V.cells (.agg [z0, z1])) with
     | some cs => some (Res.val (.agg cs) _)
     | none => none) = _
    have ef : fillP P t (fun i => [V.slice none false 1 (nl k (L.take n)), w].getD i .dead) [(0, .tmp 0), (1, .tmp 1)] (V.cells (.agg [z0, z1])) = some [.slice none false 1 (nl k (L.take n)), w] := by
     have q0 : AM.opd (fun i => [V.slice none false 1 (nl k (L.take n)), w].getD i .dead) (.tmp 0) = .slice none false 1 (nl k (L.take n)) := rfl
     have q1 : AM.opd (fun i => [V.slice none false 1 (nl k (L.take n)), w].getD i .dead) (.tmp 1) = w := rfl
     simp only [fillP, e0, e1, q0, q1, pls.weak, pls.plain, pls.cells, hw.weak, hw.plain, hw.cells, s0, s1, o0, o1, ez, Option.getD_some, List.length_cons, List.length_nil]
     rfl
    rw [ef]
   ·simp at a2
  ·simp at h2
 ·simp at h2
theorem fin_cellH {h : Hp} {a t d g : Nat} {f : Bool} {s : St} {x y : V} (hl : layE P t = some (2, true)) (hv : gt s.tm a = .ptr (.loc d g) 0) (hr : lg s.loc d = (g, .cells f [x, y])) (hx : Pl x) (hy : Pl y) :
  fin P h [.cell a t] s = some (.val (.agg [x, y]) (backHp h s.hp [.agg [x, y]])) := by
 unfold fin
 have e1 : resV P s [.cell a t] = some [.agg [x, y]] := by
  simp only [resV, rho_gt, hv, getRow_loc hr, partV, hl]
  rfl
 rw [e1]
 simp only [exps, exp_agg (cs := [x, y]) (by intro v hv; simp at hv; rcases hv with rfl | rfl <;> assumption)]
def DG (n : Nat) (h : Hp) : Prop := ∀ x, h.dirty = some x → n ≤ x
theorem DG.set {n : Nat} {h : Hp} (hd : DG n h) {r : Nat} (hr : n ≤ r) (row : Row) : DG n (hset h r row) := by
 intro x hx
 have hx : lower h.dirty r = some x := hx
 cases hq : h.dirty with
 | none => rw [hq] at hx; simp [lower] at hx; omega
 | some y =>
  have := hd y hq
  rw [hq] at hx
  simp [lower] at hx
  omega
theorem DG.add {n : Nat} {h : Hp} (hd : DG n h) (row : Row) : DG n (hadd h row) := hd
theorem DG.back {n : Nat} {h h' : Hp} (h1 : DG n h) (h2 : DG n h') (l : List V) : DG n (backHp h h' l) := by
 unfold backHp
 cases cleanB h h' with
 | true =>
  cases V.noRefsL l with
  | true => exact h1
  | false => exact h1
 | false =>
  intro x hx
  simp only [cond_false] at hx
  cases ha : h.dirty with
  | none => rw [ha] at hx; exact h2 x hx
  | some a =>
   cases hb : h'.dirty with
   | none => rw [ha, hb] at hx; simp at hx; have := h1 a ha; omega
   | some b =>
    rw [ha, hb] at hx
    have e1 := h1 a ha; have e2 := h2 b hb
    simp at hx
    omega
theorem back_rows {h h' : Hp} {l : List V} (hl : V.noRefsL l = false) : (backHp h h' l).rows = h'.rows := by
 unfold backHp
 rw [hl]
 cases cleanB h h' <;> rfl
def Gs (h : Hp) (v : V) (k : IntKind) (l : List Nat) : Prop :=
 (l = [] ∧ v = .nils) ∨ (∃ r L, v = .arr (.glob r) 0 l.length none 1 false ∧ h.rows[r]? = some (.cells false (nl k L)) ∧ L.take l.length = l ∧ l.length ≤ L.length ∧ 0 < L.length)
theorem Gs.len {h : Hp} {v : V} {k : IntKind} {l : List Nat} (hv : Gs h v k l) (e : TypeId) : len (some (.slice e)) v = some (.int .i64 (.ofNat l.length)) := by
 rcases hv with ⟨rfl, rfl⟩ | ⟨r, L, rfl, _⟩
 ·exact len_nils e
 ·rfl
theorem Gs.ex {h : Hp} {v : V} {k : IntKind} {l : List Nat} (hv : Gs h v k l) : Ex1 v := by
 rcases hv with ⟨rfl, rfl⟩ | ⟨r, L, rfl, _⟩
 ·exact Pl.nils.ex
 ·exact Ex1.glob _ _ _ _ _ _
theorem Gs.items {h : Hp} {v : V} {k : IntKind} {l : List Nat} (hv : Gs h v k l) (tm : Tm) (loc : Lo) : itemsOf ⟨tm, loc, h⟩ v = some (nl k l) := by
 rcases hv with ⟨rfl, rfl⟩ | ⟨r, L, rfl, hr, ht, hl, _⟩
 ·rfl
 ·have := items_glob (tm := tm) (loc := loc) (li := none) hr (off := 0) (len := l.length) (by omega)
  rw [List.drop_zero, ht] at this
  exact this
structure Pushed (hp h' : Hp) (v v' : V) (k : IntKind) (l l' : List Nat) : Prop where
 gs : Gs h' v' k l'
 len : hp.rows.length ≤ h'.rows.length
 same : ∀ i, i < hp.rows.length → v ≠ .arr (.glob i) 0 l.length none 1 false → h'.rows[i]? = hp.rows[i]?
 dg : ∀ n0, DG n0 hp → (∀ r, v = .arr (.glob r) 0 l.length none 1 false → n0 ≤ r) → n0 ≤ hp.rows.length → DG n0 h' ∧ ∀ r, v' = .arr (.glob r) 0 l'.length none 1 false → n0 ≤ r
theorem gen_pushG {d x y t e b : Nat} (hi : ApI P o d x y t) (hA : C.isArr t = true) (hg : gl d = true) (he : elemT P t = some e) (hl : layE P e = some (1, false)) (hb : byteE P e = some b) (hxy : x ≠ y)
  {loc : Lo} {k : IntKind} {l : List Nat} {v w : V} {n : Nat} (hv : Gs hp v k l) (hit : ∀ tm, itemsOf ⟨tm, loc, hp⟩ w = some (nl k [n])) (hn : (l.length + 1) * b ≤ 70368744177664) :
  ∃ v' h', (∀ (call : CallF) (tm : Tm) (j : V → Lo → Hp → R), gen P C call gl o (pt (pt .lf x v) y w) tm loc hp j = j v' loc h') ∧ Pushed hp h' v v' k l (l ++ [n]) := by
 have grow : ∀ (hv : Gr hp v k l), ∃ v' h', (∀ (call : CallF) (tm : Tm) (j : V → Lo → Hp → R), gen P C call gl o (pt (pt .lf x v) y w) tm loc hp j = j v' loc h') ∧ Pushed hp h' v v' k l (l ++ [n]) := by
  intro hv
  obtain ⟨h', h1, h2, h3, h4, h5⟩ := gen_growGs (P := P) (C := C) (gl := gl) (o := o) hi hA hg he hl hb hxy hv hit (by simp) (by simpa using hn)
  refine ⟨_, h', h1, ⟨.inr ⟨hp.rows.length, l ++ [n], by simp, h2, by rw [List.take_length], Nat.le_refl _, by simp⟩, by omega, h4, fun n0 a b c => ?_⟩⟩
  have e : DG n0 h' := by
   rcases h5 with rfl | ⟨r, hr, rfl⟩
   ·exact a
   ·exact DG.add (a.set (b r hr) .gone) _
  exact ⟨e, fun r hr => by injection hr with h1; injection h1 with h1; omega⟩
 rcases hv with h | ⟨r, L, rfl, hrow, ht, hlL, hL0⟩
 ·exact grow (.inl h)
 ·by_cases hfull : l.length = L.length
  ·have e : L = l := by rw [← ht, hfull, List.take_length]
   subst e
   exact grow (.inr ⟨by intro h; rw [h] at hL0; simp at hL0, r, rfl, hrow⟩)
  ·obtain ⟨hd, c, ho, hc, ha, hty, hni⟩ := hi
   generalize hvv : V.arr (.glob r) 0 l.length none 1 false = v at *
   have hx : gt (pt (pt .lf x v) y w) x = v := by rw [gt_pt, if_neg (Ne.symm hxy), gt_pt, if_pos rfl]
   have hy : gt (pt (pt .lf x v) y w) y = w := by rw [gt_pt, if_pos rfl]
   have hp1 : locV P C gl (⟨pt (pt .lf x v) y w, loc, hp⟩ : St).ρ (⟨pt (pt .lf x v) y w, loc, hp⟩ : St).lc o = none := by
    unfold locV
    simp only [ho, pureV, hc, ha, Option.map_none]
   have hmb : ∀ n, n ≤ 70368744177664 → Nat.ble n maxBytes = true := fun n h => by rw [Nat.ble_eq]; exact h
   refine ⟨.arr (.glob r) 0 (l.length + 1) none 1 false, hset hp r (.cells false (nl k (L.set l.length n))), fun call tm j => gen_val (st := ⟨pt (pt .lf x v) y w, loc, hset hp r (.cells false (nl k (L.set l.length n)))⟩) hd ?_, ⟨.inr ⟨r, L.set l.length n, by simp, hset_at _ hrow, ?_, by simp; omega, by simpa using hL0⟩, by rw [hset_len]; exact Nat.le_refl _, fun i hi hne => hset_ne _ (fun e => hne (by rw [← hvv, e])), fun n0 a b c => ⟨a.set (b r hvv.symm) _, fun r' hr' => by injection hr' with h1; injection h1 with h1; have := b r hvv.symm; omega⟩⟩⟩
   ·unfold stepV
    rw [hp1]
    unfold stepG
    simp only [ho, callS, hc, hty, hd, opds, ha, List.map_cons, List.map_nil, opd_gt, hx, hy, hni, cond_true, appendV, he, hl, hb, hit, fits_nl]
    subst hvv
    simp only [getRow_glob, hrow, nl_length, Nat.beq_refl, beq_self_eq_true, Bool.and_self, Nat.zero_add, Nat.mul_one, List.length_cons, List.length_nil]
    rw [show Nat.ble l.length L.length = true from by rw [Nat.ble_eq]; exact hlL, hmb _ hn]
    simp only [Bool.and_self, cond_true]
    rw [show nl k [n] = [V.int k (.ofNat n)] from rfl]
    simp only [isLoc, Bool.not_false, Bool.true_and]
    have hfl : flat [V.int k (Int.ofNat n)] = [V.int k (Int.ofNat n)] := rfl
    rw [hfl, show (!V.noLocL [V.int k (Int.ofNat n)]) = false from rfl]
    simp only [cond_false]
    rw [show Nat.ble (l.length + 1) L.length = true from by rw [Nat.ble_eq]; omega]
    simp only [cond_true, setAt_nl k L l.length n (by omega), setRow_glob]
   ·rw [List.length_append, List.length_cons, List.length_nil, List.take_add_one, List.getElem?_set_self (by omega), List.take_set, List.set_eq_of_length_le (by simp; omega), ht]
    rfl
theorem ldF_glob (r o : Nat) : ldF (.ptr (.glob r) o) = ⟨[], [], true, false, true, false⟩ := rfl
theorem genD_store_glob {t : TypeId} {a x r off n : Nat} {k : IntKind} {d : List Nat} {t' : Tm} {J : JD} {X : XD} (ho : o.op = .store t (.tmp a) (.tmp x)) (hd : o.dst = none) (hl : lenIs P t 1 = true) (ha : gt t' a = .ptr (.glob r) off) (hx : gt t' x = .int k (.ofNat n))
    (hr : hp.rows[r]? = some (.cells false (nl k d))) (h : off < d.length) :
    genD P C call gl o t' loc hp J X = J (.tuple []) ⟨[], [], true, true, false, false⟩ loc (hset hp r (.cells false (nl k (d.set off n)))) := by
  have hp1 : locV P C gl (⟨t', loc, hp⟩ : St).ρ (⟨t', loc, hp⟩ : St).lc o = none := by
    unfold locV
    simp only [ho, opd_gt, ha]
  have hf : footV P C gl (⟨t', loc, hp⟩ : St).ρ (⟨t', loc, hp⟩ : St).lc o = some ⟨[], [], true, true, false, false⟩ := by
    unfold footV
    rw [hp1]
    simp only [ho, opd_gt, ha, hx]
    rfl
  have hs : stepV P C gl ⟨t', loc, hp⟩ o = some (.val (.tuple []) ⟨t', loc, hset hp r (.cells false (nl k (d.set off n)))⟩) := by
    unfold stepV
    rw [hp1]
    unfold stepG
    have he : exp false ⟨t', loc, hp⟩ (.int k (.ofNat n)) = some (.int k (.ofNat n), ⟨t', loc, hp⟩) := rfl
    simp only [ho, opd_gt, ha, hx, hr, he, V.cells, List.all_cons, V.cellOk, List.all_nil, Bool.and_self, List.length_cons, List.length_nil, Nat.zero_add, hl, cond_true, setAt_nl k d off n h, setRow_glob]
  unfold genD
  rw [F.e_footV, F.e_oneV, F.e_rho, F.e_lcf, hf]
  show G.onSome (oneV P C call gl ⟨t', loc, hp⟩ o) _ none = _
  unfold oneV
  rw [hs]
  simp only [putV, hd]
  show J (.tuple []) (F.settle hp (hset hp r (.cells false (nl k (d.set off n)))) ⟨[], [], true, true, false, false⟩) loc (hset hp r (.cells false (nl k (d.set off n)))) = _
  have : F.settle hp (hset hp r (.cells false (nl k (d.set off n)))) ⟨[], [], true, true, false, false⟩ = ⟨[], [], true, true, false, false⟩ := by
    unfold F.settle
    have e : Nat.beq (hset hp r (.cells false (nl k (d.set off n)))).mods hp.mods = false := by
      cases hb : Nat.beq (hset hp r (.cells false (nl k (d.set off n)))).mods hp.mods with
      | false => rfl
      | true => have h2 : hp.mods + 1 = hp.mods := Nat.eq_of_beq_eq_true hb
                omega
    rw [e]; rfl
  rw [this]
theorem dc_true (i : Decidable True) : @decide True i = true := decide_eq_true trivial
theorem dc_false (i : Decidable False) : @decide False i = false := decide_eq_false (fun h => h)
attribute [go_sem] ldF_glob ldF_loc ldF_iptr bin_shr32 bin_shr64 bin_shl64 i_sub32 i_and32 i_xor32 un_xor32 i_geq_neg wrap_i64_neg mx_neg mx_pos mn_neg dc_true dc_false cells_agg beq_self_eq_true Nat.zero_add Nat.reduceAdd mx_n mn_n gt_pt lg_lp lg_lf lg_unfold lp_unfold bin_n i_add i_mul i_lss i_gtr i_leq i_geq i_eql i_neq bO_some jn_eq brB_true brB_false wv_t wv_f pick_true pick_false un_not ext_tuple nth_zero nth_succ len_slice len_arr len_nils len_str nl_length ld_loc ld_glob cvt_int bx_agg one_int stL_stc wrap_i64 wrap_u64 wrap_u32 wrap_u8 wrap_i32 i_sub i_quo i_rem i_shr64 i_shr32 i_shl64 i_or64 i_or32
section
variable {P : Program} {kn : Kn} {tbl : Nat → Option Fc} {f : CallF → Tm → Lo → Hp → K → R} {s : St} {tm' : Tm} {loc' : Lo} {hp' : Hp} {N : St → Prop} {X : Nat → St → Prop} {Q : St → Prop} {a b : RC} {p p1 p2 p3 : Prop}
theorem sS  (h : p := by simp -implicitDefEqProofs (disch := omega) only [go_sem, reduceIte, Nat.reduceEqDiff]) : p := h
theorem sE  (hq : N ⟨tm', loc', hp'⟩) (h : ∀ n k, f (fn P kn tbl n) s.tm s.loc s.hp k = k tm' loc' hp' := by intro  n k; simp -implicitDefEqProofs (disch := omega) only [go_sem, reduceIte, Nat.reduceEqDiff]; rfl) : WW P kn tbl (.reg f) s N X Q := ww_reg (h ) hq
theorem sR  (hq : WW P kn tbl b ⟨tm', loc', hp'⟩ N X Q) (h : ∀ n k, f (fn P kn tbl n) s.tm s.loc s.hp k = k tm' loc' hp' := by intro  n k; simp -implicitDefEqProofs (disch := omega) only [go_sem, reduceIte, Nat.reduceEqDiff]; rfl) : WW P kn tbl (.seq (.reg f) b) s N X Q := ww_seq (ww_reg (h ) hq)
theorem sQ  (hq : WW P kn tbl a ⟨tm', loc', hp'⟩ (fun s1 => WW P kn tbl b s1 N X Q) X Q) (h : ∀ n k, f (fn P kn tbl n) s.tm s.loc s.hp k = k tm' loc' hp' := by intro  n k; simp -implicitDefEqProofs (disch := omega) only [go_sem, reduceIte, Nat.reduceEqDiff]; rfl) : WW P kn tbl (.seq (.seq (.reg f) a) b) s N X Q := ww_seq (ww_seq (ww_reg (h ) hq))
theorem sS1 (x1 : p1) (h : p1 → p := by intro x1; simp -implicitDefEqProofs (disch := omega) only [go_sem, reduceIte, Nat.reduceEqDiff, x1]) : p := h x1
theorem sE1 (x1 : p1) (hq : N ⟨tm', loc', hp'⟩) (h : p1 → ∀ n k, f (fn P kn tbl n) s.tm s.loc s.hp k = k tm' loc' hp' := by intro x1 n k; simp -implicitDefEqProofs (disch := omega) only [go_sem, reduceIte, Nat.reduceEqDiff, x1]; rfl) : WW P kn tbl (.reg f) s N X Q := ww_reg (h x1) hq
theorem sR1 (x1 : p1) (hq : WW P kn tbl b ⟨tm', loc', hp'⟩ N X Q) (h : p1 → ∀ n k, f (fn P kn tbl n) s.tm s.loc s.hp k = k tm' loc' hp' := by intro x1 n k; simp -implicitDefEqProofs (disch := omega) only [go_sem, reduceIte, Nat.reduceEqDiff, x1]; rfl) : WW P kn tbl (.seq (.reg f) b) s N X Q := ww_seq (ww_reg (h x1) hq)
theorem sQ1 (x1 : p1) (hq : WW P kn tbl a ⟨tm', loc', hp'⟩ (fun s1 => WW P kn tbl b s1 N X Q) X Q) (h : p1 → ∀ n k, f (fn P kn tbl n) s.tm s.loc s.hp k = k tm' loc' hp' := by intro x1 n k; simp -implicitDefEqProofs (disch := omega) only [go_sem, reduceIte, Nat.reduceEqDiff, x1]; rfl) : WW P kn tbl (.seq (.seq (.reg f) a) b) s N X Q := ww_seq (ww_seq (ww_reg (h x1) hq))
theorem sS2 (x1 : p1) (x2 : p2) (h : p1 → p2 → p := by intro x1 x2; simp -implicitDefEqProofs (disch := omega) only [go_sem, reduceIte, Nat.reduceEqDiff, x1, x2]) : p := h x1 x2
theorem sE2 (x1 : p1) (x2 : p2) (hq : N ⟨tm', loc', hp'⟩) (h : p1 → p2 → ∀ n k, f (fn P kn tbl n) s.tm s.loc s.hp k = k tm' loc' hp' := by intro x1 x2 n k; simp -implicitDefEqProofs (disch := omega) only [go_sem, reduceIte, Nat.reduceEqDiff, x1, x2]; rfl) : WW P kn tbl (.reg f) s N X Q := ww_reg (h x1 x2) hq
theorem sR2 (x1 : p1) (x2 : p2) (hq : WW P kn tbl b ⟨tm', loc', hp'⟩ N X Q) (h : p1 → p2 → ∀ n k, f (fn P kn tbl n) s.tm s.loc s.hp k = k tm' loc' hp' := by intro x1 x2 n k; simp -implicitDefEqProofs (disch := omega) only [go_sem, reduceIte, Nat.reduceEqDiff, x1, x2]; rfl) : WW P kn tbl (.seq (.reg f) b) s N X Q := ww_seq (ww_reg (h x1 x2) hq)
theorem sQ2 (x1 : p1) (x2 : p2) (hq : WW P kn tbl a ⟨tm', loc', hp'⟩ (fun s1 => WW P kn tbl b s1 N X Q) X Q) (h : p1 → p2 → ∀ n k, f (fn P kn tbl n) s.tm s.loc s.hp k = k tm' loc' hp' := by intro x1 x2 n k; simp -implicitDefEqProofs (disch := omega) only [go_sem, reduceIte, Nat.reduceEqDiff, x1, x2]; rfl) : WW P kn tbl (.seq (.seq (.reg f) a) b) s N X Q := ww_seq (ww_seq (ww_reg (h x1 x2) hq))
theorem sS3 (x1 : p1) (x2 : p2) (x3 : p3) (h : p1 → p2 → p3 → p := by intro x1 x2 x3; simp -implicitDefEqProofs (disch := omega) only [go_sem, reduceIte, Nat.reduceEqDiff, x1, x2, x3]) : p := h x1 x2 x3
theorem sE3 (x1 : p1) (x2 : p2) (x3 : p3) (hq : N ⟨tm', loc', hp'⟩) (h : p1 → p2 → p3 → ∀ n k, f (fn P kn tbl n) s.tm s.loc s.hp k = k tm' loc' hp' := by intro x1 x2 x3 n k; simp -implicitDefEqProofs (disch := omega) only [go_sem, reduceIte, Nat.reduceEqDiff, x1, x2, x3]; rfl) : WW P kn tbl (.reg f) s N X Q := ww_reg (h x1 x2 x3) hq
theorem sR3 (x1 : p1) (x2 : p2) (x3 : p3) (hq : WW P kn tbl b ⟨tm', loc', hp'⟩ N X Q) (h : p1 → p2 → p3 → ∀ n k, f (fn P kn tbl n) s.tm s.loc s.hp k = k tm' loc' hp' := by intro x1 x2 x3 n k; simp -implicitDefEqProofs (disch := omega) only [go_sem, reduceIte, Nat.reduceEqDiff, x1, x2, x3]; rfl) : WW P kn tbl (.seq (.reg f) b) s N X Q := ww_seq (ww_reg (h x1 x2 x3) hq)
theorem sQ3 (x1 : p1) (x2 : p2) (x3 : p3) (hq : WW P kn tbl a ⟨tm', loc', hp'⟩ (fun s1 => WW P kn tbl b s1 N X Q) X Q) (h : p1 → p2 → p3 → ∀ n k, f (fn P kn tbl n) s.tm s.loc s.hp k = k tm' loc' hp' := by intro x1 x2 x3 n k; simp -implicitDefEqProofs (disch := omega) only [go_sem, reduceIte, Nat.reduceEqDiff, x1, x2, x3]; rfl) : WW P kn tbl (.seq (.seq (.reg f) a) b) s N X Q := ww_seq (ww_seq (ww_reg (h x1 x2 x3) hq))
theorem sSG  (h : p := by simp -implicitDefEqProofs (disch := omega) only [go_sem, reduceIte, Nat.reduceEqDiff, gt_start, List.getD_cons_zero, List.getD_cons_succ]) : p := h
theorem sEG  (hq : N ⟨tm', loc', hp'⟩) (h : ∀ n k, f (fn P kn tbl n) s.tm s.loc s.hp k = k tm' loc' hp' := by intro  n k; simp -implicitDefEqProofs (disch := omega) only [go_sem, reduceIte, Nat.reduceEqDiff, gt_start, List.getD_cons_zero, List.getD_cons_succ]; rfl) : WW P kn tbl (.reg f) s N X Q := ww_reg (h ) hq
theorem sRG  (hq : WW P kn tbl b ⟨tm', loc', hp'⟩ N X Q) (h : ∀ n k, f (fn P kn tbl n) s.tm s.loc s.hp k = k tm' loc' hp' := by intro  n k; simp -implicitDefEqProofs (disch := omega) only [go_sem, reduceIte, Nat.reduceEqDiff, gt_start, List.getD_cons_zero, List.getD_cons_succ]; rfl) : WW P kn tbl (.seq (.reg f) b) s N X Q := ww_seq (ww_reg (h ) hq)
theorem sQG  (hq : WW P kn tbl a ⟨tm', loc', hp'⟩ (fun s1 => WW P kn tbl b s1 N X Q) X Q) (h : ∀ n k, f (fn P kn tbl n) s.tm s.loc s.hp k = k tm' loc' hp' := by intro  n k; simp -implicitDefEqProofs (disch := omega) only [go_sem, reduceIte, Nat.reduceEqDiff, gt_start, List.getD_cons_zero, List.getD_cons_succ]; rfl) : WW P kn tbl (.seq (.seq (.reg f) a) b) s N X Q := ww_seq (ww_seq (ww_reg (h ) hq))
theorem sSG1 (x1 : p1) (h : p1 → p := by intro x1; simp -implicitDefEqProofs (disch := omega) only [go_sem, reduceIte, Nat.reduceEqDiff, gt_start, List.getD_cons_zero, List.getD_cons_succ, x1]) : p := h x1
theorem sEG1 (x1 : p1) (hq : N ⟨tm', loc', hp'⟩) (h : p1 → ∀ n k, f (fn P kn tbl n) s.tm s.loc s.hp k = k tm' loc' hp' := by intro x1 n k; simp -implicitDefEqProofs (disch := omega) only [go_sem, reduceIte, Nat.reduceEqDiff, gt_start, List.getD_cons_zero, List.getD_cons_succ, x1]; rfl) : WW P kn tbl (.reg f) s N X Q := ww_reg (h x1) hq
theorem sRG1 (x1 : p1) (hq : WW P kn tbl b ⟨tm', loc', hp'⟩ N X Q) (h : p1 → ∀ n k, f (fn P kn tbl n) s.tm s.loc s.hp k = k tm' loc' hp' := by intro x1 n k; simp -implicitDefEqProofs (disch := omega) only [go_sem, reduceIte, Nat.reduceEqDiff, gt_start, List.getD_cons_zero, List.getD_cons_succ, x1]; rfl) : WW P kn tbl (.seq (.reg f) b) s N X Q := ww_seq (ww_reg (h x1) hq)
theorem sQG1 (x1 : p1) (hq : WW P kn tbl a ⟨tm', loc', hp'⟩ (fun s1 => WW P kn tbl b s1 N X Q) X Q) (h : p1 → ∀ n k, f (fn P kn tbl n) s.tm s.loc s.hp k = k tm' loc' hp' := by intro x1 n k; simp -implicitDefEqProofs (disch := omega) only [go_sem, reduceIte, Nat.reduceEqDiff, gt_start, List.getD_cons_zero, List.getD_cons_succ, x1]; rfl) : WW P kn tbl (.seq (.seq (.reg f) a) b) s N X Q := ww_seq (ww_seq (ww_reg (h x1) hq))
theorem sSG2 (x1 : p1) (x2 : p2) (h : p1 → p2 → p := by intro x1 x2; simp -implicitDefEqProofs (disch := omega) only [go_sem, reduceIte, Nat.reduceEqDiff, gt_start, List.getD_cons_zero, List.getD_cons_succ, x1, x2]) : p := h x1 x2
theorem sEG2 (x1 : p1) (x2 : p2) (hq : N ⟨tm', loc', hp'⟩) (h : p1 → p2 → ∀ n k, f (fn P kn tbl n) s.tm s.loc s.hp k = k tm' loc' hp' := by intro x1 x2 n k; simp -implicitDefEqProofs (disch := omega) only [go_sem, reduceIte, Nat.reduceEqDiff, gt_start, List.getD_cons_zero, List.getD_cons_succ, x1, x2]; rfl) : WW P kn tbl (.reg f) s N X Q := ww_reg (h x1 x2) hq
theorem sRG2 (x1 : p1) (x2 : p2) (hq : WW P kn tbl b ⟨tm', loc', hp'⟩ N X Q) (h : p1 → p2 → ∀ n k, f (fn P kn tbl n) s.tm s.loc s.hp k = k tm' loc' hp' := by intro x1 x2 n k; simp -implicitDefEqProofs (disch := omega) only [go_sem, reduceIte, Nat.reduceEqDiff, gt_start, List.getD_cons_zero, List.getD_cons_succ, x1, x2]; rfl) : WW P kn tbl (.seq (.reg f) b) s N X Q := ww_seq (ww_reg (h x1 x2) hq)
theorem sQG2 (x1 : p1) (x2 : p2) (hq : WW P kn tbl a ⟨tm', loc', hp'⟩ (fun s1 => WW P kn tbl b s1 N X Q) X Q) (h : p1 → p2 → ∀ n k, f (fn P kn tbl n) s.tm s.loc s.hp k = k tm' loc' hp' := by intro x1 x2 n k; simp -implicitDefEqProofs (disch := omega) only [go_sem, reduceIte, Nat.reduceEqDiff, gt_start, List.getD_cons_zero, List.getD_cons_succ, x1, x2]; rfl) : WW P kn tbl (.seq (.seq (.reg f) a) b) s N X Q := ww_seq (ww_seq (ww_reg (h x1 x2) hq))
theorem sSG3 (x1 : p1) (x2 : p2) (x3 : p3) (h : p1 → p2 → p3 → p := by intro x1 x2 x3; simp -implicitDefEqProofs (disch := omega) only [go_sem, reduceIte, Nat.reduceEqDiff, gt_start, List.getD_cons_zero, List.getD_cons_succ, x1, x2, x3]) : p := h x1 x2 x3
theorem sEG3 (x1 : p1) (x2 : p2) (x3 : p3) (hq : N ⟨tm', loc', hp'⟩) (h : p1 → p2 → p3 → ∀ n k, f (fn P kn tbl n) s.tm s.loc s.hp k = k tm' loc' hp' := by intro x1 x2 x3 n k; simp -implicitDefEqProofs (disch := omega) only [go_sem, reduceIte, Nat.reduceEqDiff, gt_start, List.getD_cons_zero, List.getD_cons_succ, x1, x2, x3]; rfl) : WW P kn tbl (.reg f) s N X Q := ww_reg (h x1 x2 x3) hq
theorem sRG3 (x1 : p1) (x2 : p2) (x3 : p3) (hq : WW P kn tbl b ⟨tm', loc', hp'⟩ N X Q) (h : p1 → p2 → p3 → ∀ n k, f (fn P kn tbl n) s.tm s.loc s.hp k = k tm' loc' hp' := by intro x1 x2 x3 n k; simp -implicitDefEqProofs (disch := omega) only [go_sem, reduceIte, Nat.reduceEqDiff, gt_start, List.getD_cons_zero, List.getD_cons_succ, x1, x2, x3]; rfl) : WW P kn tbl (.seq (.reg f) b) s N X Q := ww_seq (ww_reg (h x1 x2 x3) hq)
theorem sQG3 (x1 : p1) (x2 : p2) (x3 : p3) (hq : WW P kn tbl a ⟨tm', loc', hp'⟩ (fun s1 => WW P kn tbl b s1 N X Q) X Q) (h : p1 → p2 → p3 → ∀ n k, f (fn P kn tbl n) s.tm s.loc s.hp k = k tm' loc' hp' := by intro x1 x2 x3 n k; simp -implicitDefEqProofs (disch := omega) only [go_sem, reduceIte, Nat.reduceEqDiff, gt_start, List.getD_cons_zero, List.getD_cons_succ, x1, x2, x3]; rfl) : WW P kn tbl (.seq (.seq (.reg f) a) b) s N X Q := ww_seq (ww_seq (ww_reg (h x1 x2 x3) hq))
end
end Go.AM.S
end
