/- An abstract machine for the model's code, proved sound: what it computes, every run of the code comes to (part 3). -/
import Derived.Test.YteefhhgjlbeiiaaDoorAm2
import Derived.Recover
set_option linter.unusedVariables false
set_option linter.unusedSimpArgs false
set_option linter.unusedSectionVars false
section
/- errors.As, at one target's type: a function known by its contract. -/
namespace Go.AM
open Go
set_option linter.unusedSimpArgs false
set_option linter.unusedVariables false

def isPtr : V → Bool
  | .ptr (.glob _) _ => true
  | .iptr cs => V.noLocL cs
  | _ => false

def errAs (T TT : Nat) : CallF → List V → Hp → Option Out := fun _ args h => match args with
  | [.nili, _] => some (.val (.bool false) h)
  | [.iface t v, .iface tt (.ptr (.glob r) off)] => bif Nat.beq t T && Nat.beq tt TT && isPtr v then
      (match h.rows[r]? with
      | some (.cells false cs) => (match setAt cs off [v] with
        | some cs' => some (.val (.bool true) ⟨h.rows.set r (.cells false cs'), lower h.dirty r, h.mods + 1⟩)
        | none => none)
      | _ => none)
    else none
  | _ => none

/-- what the function's walk shows -/
structure AsOk [Laid] (P : Program) (f T TT : Nat) : Prop where
  code : ∃ fn cd, P.funcs[f]? = some fn ∧ fn.body = some cd
  nil : ∀ (t : Value) (w : World), Calls P f #[.nilIface, t] w fun e w' => e = .returned (.bool false) ∧ w' = w
  hit : ∀ (e t : Addr) (old : Value) (w : World), (∀ b o x, Laid.cells b o = some x → w.cell? ⟨b, o, none⟩ = some x) → w.cell? t = some old → w.frozen? t = false →
    Calls P f #[.iface T (.pointer (some e)), .iface TT (.pointer (some t))] w fun ev w' => ev = .returned (.bool true) ∧
      ∃ a1 t1 a2 t2 a3 t3 a4 t4, w' = ((((w.alloc (.cells a1 t1)).alloc (.cells a2 t2)).alloc (.cells a3 t3)).alloc (.cells a4 t4)).setCell t (.pointer (some e))

theorem errAs_still (T TT : Nat) (call : CallF) (f : FuncId) : CallStill (fun _ => errAs T TT call) := by
  intro g args h out hr
  simp only [errAs] at hr
  split at hr
  · simp at hr; rw [← hr]; exact .refl _
  · rename_i t v tt r off
    generalize (Nat.beq t T && Nat.beq tt TT && isPtr v) = q at hr
    cases q with
    | false => simp at hr
    | true =>
      simp only [cond_true] at hr
      split at hr
      · split at hr
        · rename_i cs' _
          simp at hr
          rw [← hr]
          exact dirt_set (st := ⟨.lf, .lf, h⟩) (.glob r) (.cells false cs')
        · simp at hr
      · simp at hr
  · simp at hr

theorem errAs_ok [Laid] {P : Program} {f T TT : Nat} (hA : AsOk P f T TT) (call : CallF) : CallOk P (fun g args h => bif Nat.beq g f then errAs T TT call args h else none) := by
  intro g args h out hr c w st xs hst hW hH hargs hnl hlaid
  subst hst
  dsimp only at hr
  cases hg : Nat.beq g f with
  | false => rw [hg] at hr; simp at hr
  | true =>
    obtain rfl := Nat.eq_of_beq_eq_true hg
    rw [hg] at hr
    simp only [cond_true, errAs] at hr
    refine ⟨hA.code, ?_⟩
    split at hr
    · rename_i v
      simp at hr
      subst hr
      skip
      have h2 : xs.length = 2 := hargs.1
      obtain ⟨x, y, rfl⟩ : ∃ x y, xs = [x, y] := by
        match xs, h2 with
        | [x, y], _ => exact ⟨x, y, rfl⟩
      have hx := hargs.head
      cases hx
      refine (hA.nil y w).mono (fun e w' ⟨he, hw⟩ => ?_)
      subst he; subst hw
      exact ⟨c, .refl c, .bool false, hW, .refl c st _, .refl _, hH⟩
    · rename_i t v tt r off
      generalize hq : (Nat.beq t T && Nat.beq tt TT && isPtr v) = q at hr
      cases q with
      | false => simp at hr
      | true =>
        simp only [cond_true] at hr
        simp only [Bool.and_eq_true] at hq
        obtain ⟨⟨e1, e2⟩, hp⟩ := hq
        obtain rfl := Nat.eq_of_beq_eq_true e1
        obtain rfl := Nat.eq_of_beq_eq_true e2
        split at hr
        · rename_i cs hrow
          split at hr
          · rename_i cs' hset
            simp at hr
            subst hr
            skip
            have h2 : xs.length = 2 := hargs.1
            obtain ⟨x, y, rfl⟩ : ∃ x y, xs = [x, y] := by
              match xs, h2 with
              | [x, y], _ => exact ⟨x, y, rfl⟩
            have hx := hargs.head
            have hy := hargs.tail.head
            have hvl : v.noLoc = true := by
              have := noLocL_mem.1 hnl (.iface t v) (by simp)
              simpa [V.noLoc] using this
            cases hx with
            | iface _ _ x hx =>
            cases hy with
            | iface _ _ y hy =>
            cases hy with
            | ptr _ _ b hb =>
            have hgrow : getRow st (.glob r) = some (.cells false cs) := hrow
            obtain ⟨e, rfl⟩ : ∃ e, x = .pointer (some e) := by
              cases v <;> simp [isPtr] at hp
              · rename_i r' _; cases r' <;> simp at hp; cases hx; exact ⟨_, rfl⟩
              · cases hx; exact ⟨_, rfl⟩
            have hone : RelL c [v] [Value.pointer (some e)] := RelL.cons hx (RelL.nil c)
            obtain ⟨_, _, hthere⟩ := hW.write hgrow hset hone hb
            have ht := hthere 0 (by simp)
            simp only [Nat.add_zero] at ht
            obtain ⟨old, hold⟩ := Option.isSome_iff_exists.1 ht.1
            refine (hA.hit e ⟨b, off, none⟩ old w (fun b o x hx => hW.shut b o x (hlaid b o x hx)) hold ht.2).mono (fun ev w' ⟨he, a1, t1, a2, t2, a3, t3, a4, t4, hw⟩ => ?_)
            subst he
            obtain ⟨c1, l1, W1, K1, _⟩ := hW.shutBlock a1 t1
            obtain ⟨c2, l2, W2, K2, _⟩ := W1.shutBlock a2 t2
            obtain ⟨c3, l3, W3, K3, _⟩ := W2.shutBlock a3 t3
            obtain ⟨c4, l4, W4, K4, _⟩ := W3.shutBlock a4 t4
            have hle := ((l1.trans l2).trans l3).trans l4
            obtain ⟨W5, K5, _⟩ := W4.write hgrow hset (hone.mono hle) (hle.blk hb)
            have hw' : w' = ((((w.alloc (.cells a1 t1)).alloc (.cells a2 t2)).alloc (.cells a3 t3)).alloc (.cells a4 t4)).setCells b off [.pointer (some e)] := hw
            rw [hw']
            exact ⟨c4, hle, .bool true, W5, (((K1.trans K2).trans K3).trans K4).trans K5, dirt_set (.glob r) (.cells false cs'), hp_set hH (r := .glob r) (fun frz cs2 e2 _ => by
              injection e2 with _ e3
              subst e3
              obtain ⟨hle2, hcs⟩ := setAt_spec hset
              rw [hcs, noLocL_mem]
              intro u hu
              simp only [List.mem_append, List.mem_singleton] at hu
              have hc := noLocL_mem.1 (hH r false cs hrow)
              rcases hu with (hu | hu) | hu
              · exact hc u (List.mem_of_mem_take hu)
              · rw [hu]; exact hvl
              · exact hc u (List.mem_of_mem_drop hu))⟩
          · simp at hr
        · simp at hr
    · simp at hr
end Go.AM
end

section
/- Functions known by their contracts: a list of them; a number from 0 to n - 1 out of any; a function without arguments that was run ahead. -/
namespace Go.AM
open Go
set_option linter.unusedSimpArgs false
set_option linter.unusedVariables false

abbrev Kn1 := CallF → List V → Hp → Option Out
structure KnownAt [Laid] (P : Program) (f : Nat) (k : Kn1) : Prop where
  still : ∀ call, CallStill call → CallStill (fun _ => k call)
  ok : ∀ call, CallStill call → CallOk P call → CallOk P (fun g args h => bif Nat.beq g f then k call args h else none)

theorem knownL [Laid] {P : Program} {l : List (Nat × Kn1)} (h : ∀ p ∈ l, KnownAt P p.1 p.2) : KnownOk P (S.lkL l) :=
  ⟨fun f k hk => (h _ (S.lkL_mem hk)).still, fun f k hk => (h _ (S.lkL_mem hk)).ok⟩

theorem known_as [Laid] {P : Program} {f T TT : Nat} (hA : AsOk P f T TT) : KnownAt P f (errAs T TT) :=
  ⟨fun call _ => errAs_still T TT call f, fun call _ _ => errAs_ok hA call⟩

def qL : List (Nat × Int × Int) → Nat → Int → Option Int
  | [], _, _ => none
  | (j, m, r) :: l, i, n => bif Nat.beq j i && F.eqI m n then some r else qL l i n
theorem qL_mem : ∀ {l : List (Nat × Int × Int)} {i : Nat} {n r : Int}, qL l i n = some r → (i, n, r) ∈ l
  | [], i, n, r, h => by simp [qL] at h
  | (j, m, r') :: l, i, n, r, h => by
    simp only [qL] at h
    generalize hb : (Nat.beq j i && F.eqI m n) = b at h
    cases b with
    | true =>
      simp only [Bool.and_eq_true] at hb
      have := Nat.eq_of_beq_eq_true hb.1
      subst this
      have h2 : m = n := by simpa [F.eqI_eq] using hb.2
      subst h2
      simp at h
      subst h; simp
    | false => exact List.mem_cons_of_mem _ (qL_mem (by simpa using h))

/-- a number from 0 to n - 1 out of an unknown one -/
def place (l : List (Nat × Int × Int)) : Kn1 := fun _ args h => match args with
  | [.sym i, .int .i64 n] => (match qL l i n with
    | some r => some (.val (.int .i64 r) h)
    | none => none)
  | _ => none

def PlaceOk (P : Program) (f : Nat) : Prop := (∃ fn cd, P.funcs[f]? = some fn ∧ fn.body = some cd) ∧
  ∀ (a n : Int) (w : World), 0 < n → n < 4611686018427387904 → Calls P f #[.int .i64 a, .int .i64 n] w fun e w' => e = .returned (.int .i64 (a % n)) ∧ w' = w

theorem known_place [Laid] {P : Program} {f : Nat} {l : List (Nat × Int × Int)} (hP : PlaceOk P f)
    (hl : ∀ t ∈ l, 0 < t.2.1 ∧ t.2.1 < 4611686018427387904 ∧ (Laid.env t.1).1 = .i64 ∧ (Laid.env t.1).2 % t.2.1 = t.2.2) : KnownAt P f (place l) := by
  have key : ∀ call args h out, place l call args h = some out → ∃ i n r, args = [.sym i, .int .i64 n] ∧ (i, n, r) ∈ l ∧ out = .val (.int .i64 r) h := by
    intro call args h out hr
    unfold place at hr
    split at hr
    · rename_i i n
      split at hr
      · rename_i r hq
        simp at hr
        exact ⟨i, n, r, rfl, qL_mem hq, hr.symm⟩
      · simp at hr
    · simp at hr
  refine ⟨fun call _ g args h out hr => ?_, fun call _ _ g args h out hr c w st xs hst hW hH hargs hnl hlaid => ?_⟩
  · obtain ⟨i, n, r, _, _, rfl⟩ := key call args h _ hr
    exact .refl _
  · subst hst
    dsimp only at hr
    cases hg : Nat.beq g f with
    | false => rw [hg] at hr; simp at hr
    | true =>
      obtain rfl := Nat.eq_of_beq_eq_true hg
      rw [hg] at hr
      simp only [cond_true] at hr
      obtain ⟨i, n, r, rfl, hm, rfl⟩ := key call args _ _ hr
      refine ⟨hP.1, ?_⟩
      have h2 : xs.length = 2 := hargs.1
      obtain ⟨x, y, rfl⟩ : ∃ x y, xs = [x, y] := by
        match xs, h2 with
        | [x, y], _ => exact ⟨x, y, rfl⟩
      obtain ⟨k1, k2, k3, k4⟩ := hl _ hm
      have hx := hargs.head
      have hy := hargs.tail.head
      cases hx
      cases hy
      have k3 : (Laid.env i).1 = .i64 := k3
      have k4 : (Laid.env i).2 % n = r := k4
      rw [k3]
      refine (hP.2 (Laid.env i).2 n w k1 k2).mono (fun e w' ⟨he, hw⟩ => ?_)
      subst he; subst hw
      rw [k4]
      exact ⟨c, .refl c, .int _ _, hW, .refl c st _, .refl _, hH⟩

/-- a function without arguments, run ahead where nothing lies at large -/
def cached (out : Out) : Kn1 := fun _ args h => match args, h with
  | [], ⟨[], none, 0⟩ => some out
  | _, _ => none
theorem known_cached [Laid] {P : Program} {f : Nat} {call0 : CallF} {v : V} (hS : CallOk P call0) (hr : call0 f [] noHp = some (.val v noHp)) : KnownAt P f (cached (.val v noHp)) := by
  have key : ∀ call args h out, cached (.val v noHp) call args h = some out → args = [] ∧ h = noHp ∧ out = .val v noHp := by
    intro call args h out hr
    unfold cached at hr
    split at hr
    · simp at hr; exact ⟨rfl, rfl, hr.symm⟩
    · simp at hr
  refine ⟨fun call _ g args h out hr => ?_, fun call _ _ g args h out hr' => ?_⟩
  · obtain ⟨_, rfl, rfl⟩ := key call args h _ hr
    exact .refl _
  · dsimp only at hr'
    cases hg : Nat.beq g f with
    | false => rw [hg] at hr'; simp at hr'
    | true =>
      obtain rfl := Nat.eq_of_beq_eq_true hg
      rw [hg] at hr'
      simp only [cond_true] at hr'
      obtain ⟨rfl, rfl, rfl⟩ := key call args h _ hr'
      exact hS g [] noHp _ hr
end Go.AM
end

section
/- A function that defers one call, at the end of a region: what the call does is told by a contract. -/
namespace Go.AM
open Go
set_option linter.unusedSimpArgs false
set_option linter.unusedVariables false

def lastDefer : List Oper → Option (List Oper × Oper × Call)
  | [] => none
  | [o] => match o.op, o.guard with
    | .defer c, none => some ([], o, c)
    | _, _ => none
  | o :: l => match lastDefer l with
    | some (p, q, c) => some (o :: p, q, c)
    | none => none

theorem lastDefer_spec : ∀ {l p : List Oper} {q : Oper} {c : Call}, lastDefer l = some (p, q, c) → l = p ++ [q] ∧ q.op = .defer c ∧ q.guard = none
  | [], p, q, c, h => by simp [lastDefer] at h
  | [o], p, q, c, h => by
    simp only [lastDefer] at h
    split at h
    · rename_i c' h1 h2
      simp at h
      obtain ⟨rfl, rfl, rfl⟩ := h
      exact ⟨rfl, h1, h2⟩
    · simp at h
  | o :: o2 :: l, p, q, c, h => by
    simp only [lastDefer] at h
    split at h
    · rename_i p' q' c' h1
      simp at h
      obtain ⟨rfl, rfl, rfl⟩ := h
      obtain ⟨e1, e2, e3⟩ := lastDefer_spec h1
      exact ⟨by rw [e1]; rfl, e2, e3⟩
    · simp at h

abbrev Dc := Option (Nat × List V)

section
variable (P : Program) (C : Cfg)

/-- what is deferred -/
noncomputable def deferV (st : St) (c : Call) : Option (Nat × List V × St) := match c.callee with
  | .value f => (match F.opd (F.rho st) f with
    | .fn (.func g) first caps => (match F.exps false st (first ++ F.opds (F.rho st) c.args.toList ++ caps) with
      | some (l, st') => bif ((P.funcs[g]?).bind (·.body)).isSome then some (g, l, st') else none
      | none => none)
    | _ => none)
  | _ => none

noncomputable def codeD (call : CallF) (f : FuncId) (fuel : Nat) : Code → St → Option (Ex × St × Dc)
  | .region id ops false, st => (match lastDefer ops.toList with
    | none => (match F.regionV P C call f id ops false st with
      | some (ex, st') => some (ex, st', none)
      | none => none)
    | some (p, q, c) => (match F.opsV P C call (C.glob f) ops p st with
      | some (.normal, st1) => (match deferV P st1 c with
        | some (g, l, st2) => some (.normal, F.putV st2 q.dst (.tuple []), some (g, l))
        | none => none)
      | some (ex, st1) => some (ex, st1, none)
      | none => none))
  | .seq a b, st => (match codeD call f fuel a st with
    | some (.normal, st', none) => codeD call f fuel b st'
    | some (.normal, st', some d) => (match F.codeV P C call f fuel b st' with
      | some (ex, st'') => some (ex, st'', some d)
      | none => none)
    | r => r)
  | cd, st => (match F.codeV P C call f fuel cd st with
    | some (ex, st') => some (ex, st', none)
    | none => none)
end

section
variable {D : List Deferred} {P : Program} {C : Cfg} {c0 c e : Ctx} {st0 st st' : St} {w0 w w' : World} {a : Act} {n : Nat} {gl : Nat → Bool}

/-- the call that is deferred -/
structure Df [Laid] (P : Program) (c : Ctx) (g : Nat) (l : List V) (df : Deferred) (xs : List Value) : Prop where
  fn : ∃ fv cap, df.target = .fn fv cap
  run : ∀ w, (invoke df.target df.args).run P w = .ok (.enter g xs.toArray) w
  rel : RelL c l xs
  noLoc : V.noLocL l = true

def SimD [Laid] (P : Program) (n : Nat) (c0 : Ctx) (st0 : St) (w0 : World) (st : St) (a : Act) (w : World) (c : Ctx) : Dc → Prop
  | none => Sim [] n c0 st0 w0 st a w c
  | some (g, l) => ∃ df xs, Sim [df] n c0 st0 w0 st a w c ∧ Df P c g l df xs

/-- the operations ahead of others -/
theorem opsV_ahead [Laid] (hN : Named P) {call : CallF} (hC : CallOk P call) {ops : Array Oper} (hd : ∀ o ∈ ops.toList, dstOk n o = true) (l2 : List Nat) :
    ∀ (l : List Nat) (st : St) (a : Act) (w : World) (c : Ctx) (ex : Ex) (st' : St), Sim D n c0 st0 w0 st a w c → opsV P C call gl ops (l.filterMap (ops[·]?)) st = some (ex, st') →
      ∀ (Q : Exit → Act → World → Prop), (ex = .normal → ∀ a' w' c', Sim D n c0 st0 w0 st' a' w' c' → wpOps P ops Q l2 a' w') →
        (∀ e a' w' c', ex ≠ .normal → exIs c' ex e → Sim D n c0 st0 w0 st' a' w' c' → Q e a' w') → wpOps P ops Q (l ++ l2) a w
  | [], st, a, w, c, ex, st', h, hr, Q, hK, hQ => by
    simp [opsV] at hr
    obtain ⟨rfl, rfl⟩ := hr
    exact hK rfl _ _ _ h
  | i :: l, st, a, w, c, ex, st', h, hr, Q, hK, hQ => by
    cases hi : ops[i]? with
    | none =>
      simp only [List.filterMap_cons, hi] at hr
      simp only [List.cons_append, wpOps, hi]
      exact opsV_ahead hN hC hd l2 l st a w c ex st' h hr Q hK hQ
    | some o =>
      simp only [List.filterMap_cons, hi, opsV] at hr
      have hmem : o ∈ ops.toList := by
        rw [List.mem_iff_getElem?]
        exact ⟨i, by simpa using hi⟩
      have hdo := hd o hmem
      have hdst : ∀ i, o.dst = some i → i < n := fun i hi => by
        unfold dstOk at hdo; rw [hi] at hdo; simpa [Nat.blt_eq] using hdo
      split at hr
      · simp at hr
      · rename_i hw
        have hw' := wanted_sound h.slots hw
        have hsim := h.put (d := o.dst) (Ctx.le.refl c) h.wrel (Keep.refl c st w) (.refl _) h.hp rfl hdst (v := .tuple []) (x := undef) (Rel.mk_tuple (RelL.nil c))
        simp only [List.cons_append, wpOps, hi, hw', if_false, Bool.false_eq_true]
        exact opsV_ahead hN hC hd l2 l _ _ w c ex st' hsim hr Q hK hQ
      · rename_i hw
        have hw' := wanted_sound h.slots hw
        simp only [List.cons_append, wpOps, hi, hw', if_true]
        split at hr
        · rename_i st1 hone
          have k := oneV_sound hN hC h hdo hone
          exact .inl (k _ Q (fun _ a' w' c' hs => opsV_ahead hN hC hd l2 l st1 a' w' c' ex st' hs hr Q hK hQ) (fun e a' w' c' hne => absurd rfl hne))
        · rename_i r hne
          have k := oneV_sound hN hC h hdo hr
          have hex : ex ≠ .normal := fun e => by subst e; exact hne st' hr
          exact .inl (k _ Q (fun e => absurd e hex) (fun e a' w' c' _ he hs => hQ e a' w' c' hex he hs))

theorem deferV_sound [Laid] (hN : Named P) (h : WRel c st w) (hs : Slots c st.ρ a) {o : Oper} {cl : Call} (ho : o.op = .defer cl) {g : Nat} {l : List V} (hr : deferV P st cl = some (g, l, st')) :
    ∃ c' df xs, (execOp a.eval o).run P w = .ok (.defer df) w ∧ Df P c' g l df xs ∧ c.le c' ∧ WRel c' st' w ∧ Keep c c' st st' w w ∧ Dirt st.hp st'.hp ∧ st'.tm = st.tm := by
  unfold deferV at hr
  rw [F.e_opd, F.e_rho, F.e_exps, F.e_opds] at hr
  have hargs : RelL c (opds st.ρ cl.args.toList) (cl.args.map a.eval).toList := by simpa using opds_rel hs cl.args.toList
  split at hr
  · rename_i f hcal
    split at hr
    · rename_i g' first caps hf
      have hfr := opd_rel hs f
      rw [hf] at hfr
      split at hr
      · rename_i l' st1 hexp
        have hg : ∃ fn cd, P.funcs[g']? = some fn ∧ fn.body = some cd := by
          cases h1 : P.funcs[g']? with
          | none => simp [h1] at hr
          | some fn =>
            cases h2 : fn.body with
            | none => simp [h1, h2] at hr
            | some cd => exact ⟨fn, cd, rfl, h2⟩
        generalize ((P.funcs[g']?).bind (·.body)).isSome = qb at hr
        cases qb with
        | false => simp at hr
        | true =>
        simp only [cond_true, Option.some.injEq, Prod.mk.injEq] at hr
        obtain ⟨rfl, rfl, rfl⟩ := hr
        generalize hev : a.eval f = fv at hfr
        cases hfr with
        | fn _ _ _ xa xb ha hb hra hrb =>
          have r1 : RelL c first xa.toList := ⟨by simpa using ha, fun i v x p q => hra i v x p (by simpa using q)⟩
          have r2 : RelL c caps xb.toList := ⟨by simpa using hb, fun i v x p q => hrb i v x p (by simpa using q)⟩
          obtain ⟨c', k⟩ := exps_sound (fz := false) _ c st _ l' st1 h (RelL.append (RelL.append r1 hargs) r2) hexp
          obtain ⟨fn, cd, h1, h2⟩ := hg
          have hnm := hN g' fn h1
          have hnm2 : ¬ (fn.name = "runtime.NumGoroutine") := by simpa using hnm
          refine ⟨c', { target := .fn (.func g') xb, args := xa ++ cl.args.map a.eval }, _, ?_, ⟨⟨_, _, rfl⟩, fun w2 => ?_, k.rel, k.noLoc⟩, k.le, k.wrel, k.keep, k.dirt, k.tm⟩
          · simp only [execOp, ho, resolve, hcal, hev]
            simp [Deferred.ofValue]
          · simp [invoke, callFunc, h1, hnm2, h2]
      · simp at hr
    · simp at hr
  · simp at hr

theorem codeD_sound [Laid] (hN : Named P) (hM : P.follows .mixedOrders = true) {call : CallF} (hS : CallStill call) (hC : CallOk P call) (f fuel : Nat) : ∀ (cd : Code), Code.good C f n cd = true →
    ∀ (st : St) (a : Act) (w : World) (c : Ctx) (ex : Ex) (st' : St) (d : Dc), Sim [] n c0 st0 w0 st a w c → codeD P C call f fuel cd st = some (ex, st', d) →
      cd.wp P (fun e a' w' => ∃ c', exIs c' ex e ∧ SimD P n c0 st0 w0 st' a' w' c' d) a w := by
  intro cd
  have plain : ∀ cd : Code, Code.good C f n cd = true → ∀ (st : St) (a : Act) (w : World) (c : Ctx) (ex : Ex) (st' : St) (d : Dc), Sim [] n c0 st0 w0 st a w c →
      (match F.codeV P C call f fuel cd st with
        | some (ex, st') => some (ex, st', (none : Dc))
        | none => none) = some (ex, st', d) → cd.wp P (fun e a' w' => ∃ c', exIs c' ex e ∧ SimD P n c0 st0 w0 st' a' w' c' d) a w := by
    intro cd hg st a w c ex st' d h hr
    rw [F.e_codeV] at hr
    split at hr
    · rename_i ex1 st1 hrun
      simp only [Option.some.injEq, Prod.mk.injEq] at hr
      obtain ⟨rfl, rfl, rfl⟩ := hr
      exact wp_mono (codeV_sound hN hM hS hC f fuel cd hg _ _ _ _ _ _ h hrun) (fun e a' w' ⟨c1, k1, k2⟩ => ⟨c1, k1, k2⟩)
    · simp at hr
  induction cd with
  | region id ops draw =>
    intro hg st a w c ex st' d h hr
    cases draw with
    | true => exact plain _ hg st a w c ex st' d h hr
    | false =>
      simp only [codeD] at hr
      split at hr
      · exact plain _ hg st a w c ex st' d h hr
      · rename_i p q cl hlast
        obtain ⟨e1, e2, e3⟩ := lastDefer_spec hlast
        have hdst : ∀ o ∈ ops.toList, dstOk n o = true := by
          simp only [Code.good, Bool.and_eq_true] at hg
          exact fun o ho => List.all_eq_true.1 hg.1 o ho
        have hsz : ops.size = p.length + 1 := by
          have := congrArg List.length e1
          simpa using this
        have hrange : List.range ops.size = List.range p.length ++ [p.length] := by rw [hsz, List.range_succ]
        have hat : ∀ j, j < p.length → ops[j]? = p[j]? := fun j hj => by
          have : ops.toList[j]? = (p ++ [q])[j]? := by rw [e1]
          rw [List.getElem?_append_left hj] at this
          simpa using this
        have hq : ops[p.length]? = some q := by
          have : ops.toList[p.length]? = (p ++ [q])[p.length]? := by rw [e1]
          simpa using this
        have hpre : (List.range p.length).filterMap (ops[·]?) = p := by
          have gen : ∀ l : List Nat, (∀ j ∈ l, j < p.length) → l.filterMap (ops[·]?) = l.filterMap (p[·]?) := by
            intro l
            induction l with
            | nil => intro _; rfl
            | cons j l ih =>
              intro hl
              rw [List.filterMap_cons, List.filterMap_cons, hat j (hl j (by simp)), ih (fun k hk => hl k (by simp [hk]))]
          rw [gen _ (fun j hj => by simpa using hj)]
          have := filterMap_range' p []
          simpa [List.range_eq_range'] using this
        rw [F.e_opsV] at hr
        have ahead := fun (ex1 : Ex) (st1 : St) (hrun : opsV P C call (C.glob f) ops p st = some (ex1, st1)) =>
          opsV_ahead (D := []) (gl := C.glob f) hN hC hdst [p.length] (List.range p.length) st a w c ex1 st1 h (by rw [hpre]; exact hrun)
        split at hr
        · rename_i st1 hrun
          split at hr
          · rename_i g l st2 hdf
            simp only [Option.some.injEq, Prod.mk.injEq] at hr
            obtain ⟨rfl, rfl, rfl⟩ := hr
            refine wp_region ?_
            rw [hrange]
            refine ahead _ _ hrun _ (fun _ a' w' c' hs => ?_) (fun e a' w' c' hne => absurd rfl hne)
            have hqd : ∀ i, q.dst = some i → i < n := fun i hi => by
              have := hdst q (by rw [e1]; simp)
              unfold dstOk at this; rw [hi] at this; simpa [Nat.blt_eq] using this
            obtain ⟨c2, df, xs, k1, k2, k3, k4, k5, k6, k7⟩ := deferV_sound hN hs.wrel hs.slots e2 hdf
            have hH : HpOk st2.hp := by
              unfold deferV at hdf
              rw [F.e_opd, F.e_rho, F.e_exps, F.e_opds] at hdf
              split at hdf
              · split at hdf
                · split at hdf
                  · rename_i hexp
                    generalize Option.isSome _ = qb at hdf
                    cases qb with
                    | false => simp at hdf
                    | true =>
                      simp only [cond_true, Option.some.injEq, Prod.mk.injEq] at hdf
                      rw [← hdf.2.2]
                      exact (exps_hp _ _ _ _ hs.hp hexp).1
                  · simp at hdf
                · simp at hdf
              · simp at hdf
            have hsim := hs.put (d := q.dst) k3 k4 k5 k6 hH k7 hqd (v := .tuple []) (x := undef) (Rel.mk_tuple (RelL.nil c2))
            rw [F.e_putV]
            have hw1 : Region.wanted q (yielded ops a'.tmps) = true := by unfold Region.wanted; rw [e3]
            simp only [wpOps, hq, hw1, if_true]
            left
            unfold Oper.wp
            rw [k1]
            refine ⟨c2, trivial, df, xs, ?_, k2⟩
            refine ⟨hsim.le, hsim.wrel, ?_, ?_, ?_, hsim.keep, hsim.dirt, hsim.hp, hsim.laid⟩
            · have := hsim.slots
              cases hqq : q.dst <;> (rw [hqq] at this; exact this)
            · have := hsim.size
              cases hqq : q.dst <;> (rw [hqq] at this; exact this)
            · have h9 : a'.defers = [] := hs.defers
              cases hqq : q.dst <;> simp [Act.put, h9]
          · simp at hr
        · rename_i ex1 st1 hne hrun
          simp only [Option.some.injEq, Prod.mk.injEq] at hr
          obtain ⟨e4, e5, e6⟩ := hr
          subst e4; subst e5; subst e6
          refine wp_region ?_
          rw [hrange]
          have hex : ex1 ≠ .normal := fun e => by subst e; exact hne rfl
          exact ahead _ _ hrun _ (fun e => absurd e hex) (fun e a' w' c' _ he hs => ⟨c', he, hs⟩)
        · simp at hr
  | seq x y ihx ihy =>
    intro hg st a w c ex st' d h hr
    simp only [Code.good, Bool.and_eq_true] at hg
    simp only [codeD] at hr
    split at hr
    · rename_i st1 hx
      refine wp_seq (wp_mono (ihx hg.1 st a w c .normal st1 none h hx) (fun e a' w' k => ?_))
      obtain ⟨c1, k1, k2⟩ := k
      cases e with
      | normal => exact ihy hg.2 st1 a' w' c1 ex st' d k2 hr
      | _ => exact k1.elim
    · rename_i st1 d1 hx
      rw [F.e_codeV] at hr
      split at hr
      · rename_i ex2 st2 hy
        simp only [Option.some.injEq, Prod.mk.injEq] at hr
        obtain ⟨e4, e5, e6⟩ := hr
        subst e4; subst e5; subst e6
        refine wp_seq (wp_mono (ihx hg.1 st a w c .normal st1 (some d1) h hx) (fun e a' w' k => ?_))
        obtain ⟨c1, k1, k2⟩ := k
        cases e with
        | normal =>
          obtain ⟨g, l⟩ := d1
          obtain ⟨df, xs, k3, k4⟩ := k2
          refine wp_mono (codeV_sound (D := [df]) (c0 := c1) (st0 := st1) (w0 := w') hN hM hS hC f fuel y hg.2 st1 a' w' c1 ex2 st2 ⟨.refl _, k3.wrel, k3.slots, k3.size, k3.defers, .refl _ _ _, .refl _, k3.hp, k3.laid⟩ hy) (fun e a2 w2 k => ?_)
          obtain ⟨c2, m1, m2⟩ := k
          exact ⟨c2, m1, df, xs, ⟨k3.le.trans m2.le, m2.wrel, m2.slots, m2.size, m2.defers, k3.keep.trans m2.keep, k3.dirt.trans m2.dirt, m2.hp, m2.laid⟩, k4.fn, k4.run, k4.rel.mono m2.le, k4.noLoc⟩
        | _ => exact k1.elim
      · simp at hr
    · rename_i r hne1 hne2
      refine wp_seq (wp_mono (ihx hg.1 st a w c ex st' d h hr) (fun e a' w' k => ?_))
      obtain ⟨c1, k1, k2⟩ := k
      cases e with
      | normal =>
        cases ex with
        | normal =>
          cases d with
          | none => exact absurd hr (hne1 st')
          | some d => exact absurd hr (hne2 st' d)
        | _ => exact k1.elim
      | _ => exact ⟨c1, k1, k2⟩
  | _ => intro hg st a w c ex st' d h hr; exact plain _ hg st a w c ex st' d h hr
end
end Go.AM
end

section
namespace Go.AM
open Go
set_option linter.unusedSimpArgs false
set_option linter.unusedVariables false

/-- what a deferred call does: to the heap, where the frame returns (none), or panics (its value): then it recovers -/
abbrev Kd := Nat → List V → Hp → Option V → Option Hp

noncomputable def finF (P : Program) (h : Hp) (res : List ResultVar) (st : St) : Option Out := match F.resV P st res with
  | none => none
  | some l => match F.exps false st l with
    | none => none
    | some (l, st') => match l with
      | [v] => some (Out.val v (F.backHp h st'.hp [v]))
      | vs => some (Out.val (.tuple vs) (F.backHp h st'.hp vs))

noncomputable def guardV (P : Program) (C : Cfg) (f : Nat) (kd : Kd) (fuel : Nat) : Kn1 := fun call args h => match P.funcs[f]? with
  | none => none
  | some fn => match fn.body with
    | none => none
    | some cd => match codeD P C call f fuel cd { tm := F.startTm args, loc := .lf, hp := { h with dirty := none } } with
      | some (ex, st, none) => (match ex with
        | .normal => finF P h fn.results.toList st
        | .ret => finF P h fn.results.toList st
        | .panic v => some (.panic v (F.backHp h st.hp [v]))
        | _ => none)
      | some (ex, st, some (g, l)) => (match ex with
        | .normal => (match kd g l st.hp none with
          | some h' => finF P h fn.results.toList { st with hp := h' }
          | none => none)
        | .ret => (match kd g l st.hp none with
          | some h' => finF P h fn.results.toList { st with hp := h' }
          | none => none)
        | .panic v => (match kd g l st.hp (some v) with
          | some h' => finF P h fn.results.toList { st with hp := h' }
          | none => none)
        | _ => none)
      | none => none

/-- behind a deferred call -/
structure Behind [Laid] (c : Ctx) (st : St) (w : World) (h' : Hp) (c' : Ctx) (w' : World) : Prop where
  le : c.le c'
  wrel : WRel c' { st with hp := h' } w'
  keep : Keep c c' st { st with hp := h' } w w'
  hp : HpOk h'

structure KdOk [Laid] (P : Program) (kd : Kd) : Prop where
  still : ∀ g l h pv h', kd g l h pv = some h' → Dirt h h'
  back : ∀ g l h h', kd g l h none = some h' → ∀ (c : Ctx) (w : World) (st : St) (xs : List Value), st.hp = h → WRel c st w → HpOk h → RelL c l xs → V.noLocL l = true → (∀ b o x, Laid.cells b o = some x → c.shut b o = some x) →
    CallsD P g xs.toArray .returning w fun e u' w' => (∃ v, e = .returned v) ∧ u' = .returning ∧ ∃ c', Behind c st w h' c' w'
  caught : ∀ g l h v h', kd g l h (some v) = some h' → ∀ (c : Ctx) (w : World) (st : St) (xs : List Value) (x : Value), st.hp = h → WRel c st w → HpOk h → RelL c l xs → V.noLocL l = true → (∀ b o x, Laid.cells b o = some x → c.shut b o = some x) →
    Rel c v x → v.noLoc = true → CallsD P g xs.toArray (.panicking [{ v := x, recovered := false }]) w fun e u' w' => (∃ v, e = .returned v) ∧ u' = .panicking [{ v := x, recovered := true }] ∧ ∃ c', Behind c st w h' c' w'

theorem finF_eq (P : Program) (h : Hp) (res : List ResultVar) (st : St) : finF P h res st = finV P h res st := by
  unfold finF finV
  rw [F.e_resV, F.e_exps, F.e_backHp]
  rfl

theorem finV_dirt {P : Program} {h : Hp} {res : List ResultVar} {st : St} {out : Out} (hd : Dirt { h with dirty := none } st.hp) (hr : finV P h res st = some out) : Dirt h out.hp := by
  unfold finV at hr
  split at hr
  · simp at hr
  · split at hr
    · simp at hr
    · rename_i he
      have hd := hd.trans (exps_dirt _ _ _ _ he)
      split at hr <;> (simp only [Option.some.injEq] at hr; rw [← hr]; exact backHp_dirt hd)

theorem deferV_dirt {P : Program} {st st' : St} {cl : Call} {g : Nat} {l : List V} (hr : deferV P st cl = some (g, l, st')) : Dirt st.hp st'.hp := by
  unfold deferV at hr
  rw [F.e_exps] at hr
  split at hr
  · split at hr
    · split at hr
      · rename_i hexp
        generalize Option.isSome _ = qb at hr
        cases qb with
        | false => simp at hr
        | true =>
          simp only [cond_true, Option.some.injEq, Prod.mk.injEq] at hr
          rw [← hr.2.2]
          exact exps_dirt _ _ _ _ hexp
      · simp at hr
    · simp at hr
  · simp at hr

theorem codeD_dirt {P : Program} {C : Cfg} {call : CallF} (hC : CallStill call) {f fuel : Nat} : ∀ (cd : Code) (st st' : St) (ex : Ex) (d : Dc), codeD P C call f fuel cd st = some (ex, st', d) → Dirt st.hp st'.hp := by
  intro cd
  have plain : ∀ (cd : Code) (st st' : St) (ex : Ex) (d : Dc), (match F.codeV P C call f fuel cd st with
        | some (ex, st') => some (ex, st', (none : Dc))
        | none => none) = some (ex, st', d) → Dirt st.hp st'.hp := by
    intro cd st st' ex d hr
    rw [F.e_codeV] at hr
    split at hr
    · rename_i hrun
      simp only [Option.some.injEq, Prod.mk.injEq] at hr
      rw [← hr.2.1]
      exact codeV_dirt hC _ _ _ _ hrun
    · simp at hr
  induction cd with
  | region id ops draw =>
    intro st st' ex d hr
    cases draw with
    | true => exact plain (.region id ops true) st st' ex d hr
    | false =>
      simp only [codeD] at hr
      split at hr
      · exact plain (.region id ops false) st st' ex d hr
      · rw [F.e_opsV] at hr
        split at hr
        · rename_i hrun
          split at hr
          · rename_i hdf
            simp only [Option.some.injEq, Prod.mk.injEq] at hr
            rw [← hr.2.1, F.e_putV, putV_hp]
            exact (opsV_dirt hC _ _ _ _ hrun).trans (deferV_dirt hdf)
          · simp at hr
        · rename_i hrun
          simp only [Option.some.injEq, Prod.mk.injEq] at hr
          rw [← hr.2.1]
          exact opsV_dirt hC _ _ _ _ hrun
        · simp at hr
  | seq x y ihx ihy =>
    intro st st' ex d hr
    simp only [codeD] at hr
    split at hr
    · rename_i hx; exact (ihx _ _ _ _ hx).trans (ihy _ _ _ _ hr)
    · rename_i hx
      rw [F.e_codeV] at hr
      split at hr
      · rename_i hy
        simp only [Option.some.injEq, Prod.mk.injEq] at hr
        rw [← hr.2.1]
        exact (ihx _ _ _ _ hx).trans (codeV_dirt hC _ _ _ _ hy)
      · simp at hr
    · exact ihx _ _ _ _ hr
  | skip => intro st st' ex d hr; exact plain .skip st st' ex d hr
  | cond x a b _ _ => intro st st' ex d hr; exact plain (.cond x a b) st st' ex d hr
  | block i b _ => intro st st' ex d hr; exact plain (.block i b) st st' ex d hr
  | loop b _ => intro st st' ex d hr; exact plain (.loop b) st st' ex d hr
  | exit i => intro st st' ex d hr; exact plain (.exit i) st st' ex d hr
  | ret => intro st st' ex d hr; exact plain .ret st st' ex d hr
  | label l => intro st st' ex d hr; exact plain (.label l) st st' ex d hr
  | goto l => intro st st' ex d hr; exact plain (.goto l) st st' ex d hr
  | scope b _ => intro st st' ex d hr; exact plain (.scope b) st st' ex d hr
  | rangeFunc g p a b _ => intro st st' ex d hr; exact plain (.rangeFunc g p a b) st st' ex d hr
  | refuse r => intro st st' ex d hr; exact plain (.refuse r) st st' ex d hr

theorem known_guard [Laid] {P : Program} {C : Cfg} {f : Nat} {kd : Kd} {fuel : Nat} (hP : progOk P C = true) (hu : C.use f = true) (hK : KdOk P kd) : KnownAt P f (guardV P C f kd fuel) := by
  refine ⟨fun call hS g args h out hr => ?_, fun call hS hC g args h out hr c w st xs hst hW hH hargs hnl hlaid => ?_⟩
  · unfold guardV at hr
    simp only [finF_eq, F.e_backHp, F.e_startTm] at hr
    split at hr
    · simp at hr
    · split at hr
      · simp at hr
      · split at hr
        · rename_i hrun
          have hd := codeD_dirt hS _ _ _ _ _ hrun
          split at hr
          · exact finV_dirt hd hr
          · exact finV_dirt hd hr
          · simp only [Option.some.injEq] at hr
            rw [← hr]
            exact backHp_dirt hd
          · simp at hr
        · rename_i hrun
          have hd := codeD_dirt hS _ _ _ _ _ hrun
          split at hr
          · split at hr
            · rename_i hk; exact finV_dirt (hd.trans (hK.still _ _ _ _ _ hk)) hr
            · simp at hr
          · split at hr
            · rename_i hk; exact finV_dirt (hd.trans (hK.still _ _ _ _ _ hk)) hr
            · simp at hr
          · split at hr
            · rename_i hk; exact finV_dirt (hd.trans (hK.still _ _ _ _ _ hk)) hr
            · simp at hr
          · simp at hr
        · simp at hr
  · subst hst
    dsimp only at hr
    cases hg : Nat.beq g f with
    | false => rw [hg] at hr; simp at hr
    | true =>
      obtain rfl := Nat.eq_of_beq_eq_true hg
      rw [hg] at hr
      simp only [cond_true] at hr
      unfold guardV at hr
      simp only [finF_eq, F.e_backHp, F.e_startTm] at hr
      split at hr
      · simp at hr
      · rename_i fn hf
        split at hr
        · simp at hr
        · rename_i cd hb
          refine ⟨⟨fn, cd, hf, hb⟩, ?_⟩
          have hsim := start_sim hW hH hargs hnl hlaid fn.ntmps
          have hcode := codeD_sound (P := P) (C := C) (n := fn.ntmps) (c0 := c.called) (st0 := st.called (startTm args)) (w0 := w) (progOk_named hP) (progOk_mixed hP) hS hC g fuel cd ((progOk_at hP hf).2 hu cd hb)
          have behind : ∀ {df : Deferred} {st1 : St} {a' : Act} {w' : World} {c1 : Ctx} {h' : Hp} {c2 : Ctx} {w2 : World}, Sim [df] fn.ntmps c.called (st.called (startTm args)) w st1 a' w' c1 → Dirt st1.hp h' → Behind c1 st1 w' h' c2 w2 →
              finV P st.hp fn.results.toList { st1 with hp := h' } = some out → Leaves P fn a'.tmps (OutOk c st w out) [] .returning w2 := by
            intro df st1 a' w' c1 h' c2 w2 hs hd hbh hfin
            exact fin_sound (D := [df]) (a' := a') hW hH ⟨hs.le.trans hbh.le, hbh.wrel, hs.slots.mono hbh.le, hs.size, hs.defers, hs.keep.trans hbh.keep, hs.dirt.trans hd, hbh.hp, fun b o x hx => hbh.le.shut _ _ _ (hs.laid b o x hx)⟩ hfin
          refine calls_of_wp_defers hf hb ?_
          split at hr
          · rename_i ex st1 hrun
            refine wp_mono (hcode _ _ _ _ ex st1 none hsim hrun) (fun e a' w' k => ?_)
            obtain ⟨c1, k1, k2⟩ := k
            have k2 : Sim [] fn.ntmps c.called (st.called (startTm args)) w st1 a' w' c1 := k2
            split at hr
            · cases e with
              | normal => show Leaves P fn a'.tmps _ a'.defers .returning w'; rw [k2.defers]; exact fin_sound hW hH k2 hr
              | _ => exact k1.elim
            · cases e with
              | ret => show Leaves P fn a'.tmps _ a'.defers .returning w'; rw [k2.defers]; exact fin_sound hW hH k2 hr
              | _ => exact k1.elim
            · simp only [Option.some.injEq] at hr
              subst hr
              cases e with
              | panic ch =>
                obtain ⟨hv, x, rfl, hx⟩ := k1
                show Leaves P fn a'.tmps _ a'.defers (.panicking _) w'
                rw [k2.defers]
                exact panic_sound hW hH k2 hv hx
              | _ => exact k1.elim
            · simp at hr
          · rename_i ex st1 g' l hrun
            refine wp_mono (hcode _ _ _ _ ex st1 (some (g', l)) hsim hrun) (fun e a' w' k => ?_)
            obtain ⟨c1, k1, df, ys, k2, k3⟩ := k
            obtain ⟨fv, cap, ht⟩ := k3.fn
            have ret : ∀ {h' : Hp}, kd g' l st1.hp none = some h' → finV P st.hp fn.results.toList { st1 with hp := h' } = some out → Leaves P fn a'.tmps (OutOk c st w out) [df] .returning w' := by
              intro h' hk hfin
              refine ⟨by simp, fv, cap, g', ys.toArray, ht, k3.run w', (hK.back _ _ _ _ hk c1 w' st1 ys rfl k2.wrel k2.hp k3.rel k3.noLoc k2.laid).mono (fun e u' w2 he => ?_)⟩
              obtain ⟨⟨v, rfl⟩, rfl, c2, hbh⟩ := he
              exact behind k2 (hK.still _ _ _ _ _ hk) hbh hfin
            split at hr
            · split at hr
              · rename_i h' hk
                cases e with
                | normal => show Leaves P fn a'.tmps _ a'.defers .returning w'; rw [k2.defers]; exact ret hk hr
                | _ => exact k1.elim
              · simp at hr
            · split at hr
              · rename_i h' hk
                cases e with
                | ret => show Leaves P fn a'.tmps _ a'.defers .returning w'; rw [k2.defers]; exact ret hk hr
                | _ => exact k1.elim
              · simp at hr
            · rename_i v
              split at hr
              · rename_i h' hk
                cases e with
                | panic ch =>
                  obtain ⟨hv, x, rfl, hx⟩ := k1
                  show Leaves P fn a'.tmps _ a'.defers (.panicking _) w'
                  rw [k2.defers]
                  refine ⟨by simp, fv, cap, g', ys.toArray, ht, k3.run w', (hK.caught _ _ _ _ _ hk c1 w' st1 ys x rfl k2.wrel k2.hp k3.rel k3.noLoc k2.laid hx hv).mono (fun e u' w2 he => ?_)⟩
                  obtain ⟨⟨v, rfl⟩, rfl, c2, hbh⟩ := he
                  exact behind k2 (hK.still _ _ _ _ _ hk) hbh hr
                | _ => exact k1.elim
              · simp at hr
            · simp at hr
          · simp at hr
end Go.AM
end

section
/- A deferred closure that recovers a failure and lays its error. -/
namespace Go.AM
open Go
set_option linter.unusedSimpArgs false
set_option linter.unusedVariables false

def catchKd (g0 T W : Nat) : Kd := fun g l h pv => bif Nat.beq g g0 then
  (match l with
  | [.ptr (.glob r) off] => (match pv with
    | none => some h
    | some (.iface t (.agg [e])) => bif Nat.beq t T && isPtr e then
        (match h.rows[r]? with
        | some (.cells false cs) => (match setAt cs off [.iface W e] with
          | some cs' => some ⟨h.rows.set r (.cells false cs'), lower h.dirty r, h.mods + 1⟩
          | none => none)
        | _ => none)
      else none
    | _ => none)
  | _ => none) else none

structure CatchOk (P : Program) (g T W : Nat) : Prop where
  ret : ∀ (p : Addr) (w : World), CallsD P g #[.pointer (some p)] .returning w fun e u' w' => (∃ v, e = .returned v) ∧ u' = .returning ∧ w' = w
  hit : ∀ (p e : Addr) (old : Value) (w : World), w.cell? p = some old → w.frozen? p = false →
    CallsD P g #[.pointer (some p)] (.panicking [{ v := .iface T (.agg #[.pointer (some e)]), recovered := false }]) w fun en u' w' => (∃ v, en = .returned v) ∧
      u' = .panicking [{ v := .iface T (.agg #[.pointer (some e)]), recovered := true }] ∧ ∃ a1 t1, w' = (w.alloc (.cells a1 t1)).setCell p (.iface W (.pointer (some e)))

theorem catch_ok [Laid] {P : Program} {g T W : Nat} (hC : CatchOk P g T W) : KdOk P (catchKd g T W) := by
  have hit : ∀ g' l h v h', catchKd g T W g' l h (some v) = some h' → g' = g ∧ ∃ r off e cs cs', l = [.ptr (.glob r) off] ∧ v = .iface T (.agg [e]) ∧ isPtr e = true ∧ h.rows[r]? = some (.cells false cs) ∧ setAt cs off [.iface W e] = some cs' ∧
      h' = ⟨h.rows.set r (.cells false cs'), lower h.dirty r, h.mods + 1⟩ := by
    intro g' l h v h' hr
    unfold catchKd at hr
    cases hg : Nat.beq g' g with
    | false => rw [hg] at hr; simp at hr
    | true =>
      have hg' := Nat.eq_of_beq_eq_true hg
      rw [hg] at hr
      simp only [cond_true] at hr
      refine ⟨hg', ?_⟩
      split at hr
      · rename_i r off
        split at hr
        · rename_i heq; simp at heq
        · rename_i t e heq
          simp only [Option.some.injEq] at heq
          subst heq
          cases hq : (Nat.beq t T && isPtr e) with
          | false => simp [hq] at hr
          | true =>
            simp only [hq, cond_true] at hr
            simp only [Bool.and_eq_true] at hq
            have := Nat.eq_of_beq_eq_true hq.1
            subst this
            split at hr
            · rename_i cs hrow
              split at hr
              · rename_i cs' hset
                simp only [Option.some.injEq] at hr
                exact ⟨r, off, e, cs, cs', rfl, rfl, hq.2, hrow, hset, hr.symm⟩
              · simp at hr
            · simp at hr
        · simp at hr
      · simp at hr
  have none' : ∀ g' l h h', catchKd g T W g' l h none = some h' → g' = g ∧ h' = h ∧ ∃ r off, l = [.ptr (.glob r) off] := by
    intro g' l h h' hr
    unfold catchKd at hr
    cases hg : Nat.beq g' g with
    | false => rw [hg] at hr; simp at hr
    | true =>
      have hg' := Nat.eq_of_beq_eq_true hg
      rw [hg] at hr
      simp only [cond_true] at hr
      refine ⟨hg', ?_⟩
      split at hr
      · rename_i r off
        simp at hr
        exact ⟨hr.symm, r, off, rfl⟩
      · simp at hr
  refine ⟨fun g' l h pv h' hr => ?_, fun g' l h h' hr c w st xs hst hW hH hargs hnl hlaid => ?_, fun g' l h v h' hr c w st xs x hst hW hH hargs hnl hlaid hx hv => ?_⟩
  · cases pv with
    | none => obtain ⟨_, rfl, _⟩ := none' g' l h h' hr; exact .refl _
    | some v =>
      obtain ⟨_, r, off, e, cs, cs', _, _, _, _, _, rfl⟩ := hit g' l h v h' hr
      exact dirt_set (st := ⟨.lf, .lf, h⟩) (.glob r) (.cells false cs')
  · subst hst
    obtain ⟨rfl, rfl, r, off, rfl⟩ := none' g' l _ h' hr
    obtain ⟨y, rfl⟩ : ∃ y, xs = [y] := by
      have h2 : xs.length = 1 := hargs.1
      match xs, h2 with
      | [y], _ => exact ⟨y, rfl⟩
    have hy := hargs.head
    cases hy with
    | ptr _ _ b hb =>
      refine (hC.ret ⟨b, off, none⟩ w).mono (fun e u' w' ⟨h1, h2, h3⟩ => ⟨h1, h2, c, ?_⟩)
      subst h3
      exact ⟨.refl c, hW, .refl c st _, hH⟩
  · subst hst
    obtain ⟨rfl, r, off, e, cs, cs', rfl, rfl, hp, hrow, hset, rfl⟩ := hit g' l _ v h' hr
    obtain ⟨y, rfl⟩ : ∃ y, xs = [y] := by
      have h2 : xs.length = 1 := hargs.1
      match xs, h2 with
      | [y], _ => exact ⟨y, rfl⟩
    have hy := hargs.head
    cases hy with
    | ptr _ _ b hb =>
    cases hx with
    | iface _ _ x hx =>
    cases hx with
    | agg _ zs hl hz =>
    have hl1 : zs.size = 1 := by simpa using hl
    obtain ⟨z, rfl⟩ : ∃ z, zs = #[z] := ⟨zs[0], by
      apply Array.ext
      · simp [hl1]
      · intro i h1 h2
        have : i = 0 := by omega
        subst this; rfl⟩
    have hze : Rel c e z := hz 0 e z rfl rfl
    obtain ⟨ad, rfl⟩ : ∃ ad, z = .pointer (some ad) := by
      cases e <;> simp [isPtr] at hp
      · rename_i r' _; cases r' <;> simp at hp; cases hze; exact ⟨_, rfl⟩
      · cases hze; exact ⟨_, rfl⟩
    have hone : RelL c [V.iface W e] [Value.iface W (.pointer (some ad))] := RelL.cons (.iface _ _ _ hze) (RelL.nil c)
    have hgrow : getRow st (.glob r) = some (.cells false cs) := hrow
    have hb' : c.blk (.glob r) = some b := hb
    obtain ⟨_, _, hthere⟩ := hW.write hgrow hset hone hb'
    have ht := hthere 0 (by simp)
    simp only [Nat.add_zero] at ht
    obtain ⟨old, hold⟩ := Option.isSome_iff_exists.1 ht.1
    refine (hC.hit ⟨b, off, none⟩ ad old w hold ht.2).mono (fun en u' w' ⟨h1, h2, a1, t1, h3⟩ => ⟨h1, h2, ?_⟩)
    obtain ⟨c1, l1, W1, K1, _⟩ := hW.shutBlock a1 t1
    obtain ⟨W2, K2, _⟩ := W1.write hgrow hset (hone.mono l1) (l1.blk hb')
    have hw' : w' = (w.alloc (.cells a1 t1)).setCells b off [.iface W (.pointer (some ad))] := h3
    rw [hw']
    refine ⟨c1, l1, W2, K1.trans K2, hp_set hH (r := .glob r) (fun frz cs2 e2 _ => ?_)⟩
    injection e2 with _ e3
    subst e3
    obtain ⟨hle2, hcs⟩ := setAt_spec hset
    rw [hcs, noLocL_mem]
    intro u hu
    simp only [List.mem_append, List.mem_singleton] at hu
    have hc := noLocL_mem.1 (hH r false cs hrow)
    rcases hu with (hu | hu) | hu
    · exact hc u (List.mem_of_mem_take hu)
    · rw [hu]
      simp only [V.noLoc, V.noLocL, Bool.and_true] at hv ⊢
      exact hv
    · exact hc u (List.mem_of_mem_drop hu)
end Go.AM
end

section
/- strings.Split at constant texts, known by its contract. -/
namespace Go.AM
open Go
set_option linter.unusedSimpArgs false
set_option linter.unusedVariables false

def SplitOk [Laid] (P : Program) (f : Nat) (s sep : Str) (l : List Str) : Prop := (∃ fn cd, P.funcs[f]? = some fn ∧ fn.body = some cd) ∧
  ∀ (w : World), (∀ b o x, Laid.cells b o = some x → w.cell? ⟨b, o, none⟩ = some x) → Calls P f #[.string s.bytes, .string sep.bytes] w fun e w' =>
    ∃ t, e = .returned (.slice (some ⟨w.heap.size, 0, none⟩) l.length l.length) ∧ w' = w.alloc (.cells (l.map fun u => Value.string u.bytes).toArray t)

def splitK (s sep : Str) (l : List Str) : Kn1 := fun _ args h => match args with
  | [.str a, .str b] => bif a.same s && b.same sep then some (.val (.slice none true 1 (l.map V.str)) h) else none
  | _ => none

theorem flat_strs (l : List Str) : flat (l.map V.str) = l.map V.str := by
  induction l with
  | nil => rfl
  | cons s l ih =>
    show V.cells (.str s) ++ flat (l.map V.str) = _
    rw [ih]; rfl
theorem noRefs_strs (l : List Str) : V.noRefsL (l.map V.str) = true := by
  induction l with
  | nil => rfl
  | cons s l ih => simpa [V.noRefsL, V.noRefs] using ih

theorem known_split [Laid] {P : Program} {f : Nat} {s sep : Str} {l : List Str} (hS : SplitOk P f s sep l) : KnownAt P f (splitK s sep l) := by
  have key : ∀ call args h out, splitK s sep l call args h = some out → ∃ a b, args = [.str a, .str b] ∧ a.bytes = s.bytes ∧ b.bytes = sep.bytes ∧ out = .val (.slice none true 1 (l.map V.str)) h := by
    intro call args h out hr
    unfold splitK at hr
    split at hr
    · rename_i a b
      cases hq : (a.same s && b.same sep) with
      | false => simp [hq] at hr
      | true =>
        simp only [hq, cond_true, Option.some.injEq] at hr
        simp only [Bool.and_eq_true] at hq
        exact ⟨a, b, rfl, (Str.same_spec _ _).1 hq.1, (Str.same_spec _ _).1 hq.2, hr.symm⟩
    · simp at hr
  refine ⟨fun call _ g args h out hr => ?_, fun call _ _ g args h out hr c w st xs hst hW hH hargs hnl hlaid => ?_⟩
  · obtain ⟨_, _, _, _, _, rfl⟩ := key call args h _ hr
    exact .refl _
  · subst hst
    dsimp only at hr
    cases hg : Nat.beq g f with
    | false => rw [hg] at hr; simp at hr
    | true =>
      obtain rfl := Nat.eq_of_beq_eq_true hg
      rw [hg] at hr
      simp only [cond_true] at hr
      obtain ⟨a, b, rfl, ha, hb, rfl⟩ := key call args _ _ hr
      refine ⟨hS.1, ?_⟩
      have h2 : xs.length = 2 := hargs.1
      obtain ⟨x, y, rfl⟩ : ∃ x y, xs = [x, y] := by
        match xs, h2 with
        | [x, y], _ => exact ⟨x, y, rfl⟩
      have hx := hargs.head.str_inv
      have hy := hargs.tail.head.str_inv
      subst hx; subst hy
      rw [ha, hb]
      refine (hS.2 w (fun b o x hx => hW.shut b o x (hlaid b o x hx))).mono (fun e w' ⟨t, he, hw⟩ => ?_)
      subst he; subst hw
      obtain ⟨c1, l1, W1, K1, sh⟩ := hW.shutBlock ((l.map fun u => Value.string u.bytes).toArray) t
      have hrel : Rel c1 (.slice none true 1 (l.map V.str)) (.slice (some ⟨w.heap.size, 0, none⟩) l.length l.length) := by
        have := Rel.slice (c := c1) none true 1 (l.map V.str) w.heap.size 0 l.length (l.map fun u => Value.string u.bytes) (fun v hv => by
            obtain ⟨u, _, rfl⟩ := List.mem_map.1 hv; rfl) (by rw [flat_strs]; simp) (fun i x hx => by rw [Nat.zero_add]; exact sh i x (by simpa using hx))
          (fun i v x hv hx => by
            rw [flat_strs] at hv
            simp only [List.getElem?_map, Option.map_eq_some_iff] at hv hx
            obtain ⟨u, h1, rfl⟩ := hv
            obtain ⟨u', h3, rfl⟩ := hx
            rw [h1] at h3
            obtain rfl := Option.some.inj h3
            exact .str u) (by rw [flat_strs]; exact noRefs_strs l) (by simp) (fun _ => by simp) (fun r hr => by simp at hr)
        simpa using this
      exact ⟨c1, l1, hrel, W1, K1, .refl _, hH⟩
end Go.AM
end
