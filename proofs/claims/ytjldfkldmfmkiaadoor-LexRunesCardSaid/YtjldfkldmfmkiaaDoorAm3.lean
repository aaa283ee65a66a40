/- An abstract machine for the model's code, proved sound: what it computes, every run of the code comes to (part 3). -/
import Derived.Test.YtjldfkldmfmkiaaDoorAm2
set_option linter.unusedVariables false
set_option linter.unusedSimpArgs false
set_option linter.unusedSectionVars false
section
namespace Go.AM
open Go
abbrev Kd := Nat → List V → Hp → Option V → Option Hp
noncomputable def finF (P : Program) (h : Hp) (res : List ResultVar) (st : St) : Option Out := match F.resV P st res with
 | none => none
 | some l => match F.exps false st l with
  | none => none
  | some (l, st') => match l with
   | [v] => some (Out.val v (F.backHp h st'.hp [v]))
   | vs => some (Out.val (.tuple vs) (F.backHp h st'.hp vs))
noncomputable def guardV (P : Program) (C : Cfg) (f : Nat) (kd : Kd) (fuel : Nat) : Kn1 := fun call args h => match P.funcs[f]? with
 | none => none
 | some fn => match fn.body with
  | none => none
  | some cd => match codeD P C call f fuel cd { tm := F.startTm args, loc := .lf, hp := { h with dirty := none } } with
   | some (ex, st, none) => (match ex with
    | .normal => finF P h fn.results.toList st
    | .ret => finF P h fn.results.toList st
    | .panic v => some (.panic v (F.backHp h st.hp [v]))
    | _ => none)
   | some (ex, st, some (g, l)) => (match ex with
    | .normal => (match kd g l st.hp none with
     | some h' => finF P h fn.results.toList { st with hp := h' }
     | none => none)
    | .ret => (match kd g l st.hp none with
     | some h' => finF P h fn.results.toList { st with hp := h' }
     | none => none)
    | .panic v => (match kd g l st.hp (some v) with
     | some h' => finF P h fn.results.toList { st with hp := h' }
     | none => none)
    | _ => none)
   | none => none
structure Behind [Laid] (c : Ctx) (st : St) (w : World) (h' : Hp) (c' : Ctx) (w' : World) : Prop where
 le : c.le c'
 wrel : WRel c' { st with hp := h' } w'
 keep : Keep c c' st { st with hp := h' } w w'
 hp : HpOk h'
structure KdOk [Laid] (P : Program) (kd : Kd) : Prop where
 still : ∀ g l h pv h', kd g l h pv = some h' → Dirt h h'
 back : ∀ g l h h', kd g l h none = some h' → ∀ (c : Ctx) (w : World) (st : St) (xs : List Value), st.hp = h → WRel c st w → HpOk h → RelL c l xs → V.noLocL l = true → (∀ b o x, Laid.cells b o = some x → c.shut b o = some x) →
  CallsD P g xs.toArray .returning w fun e u' w' => (∃ v, e = .returned v) ∧ u' = .returning ∧ ∃ c', Behind c st w h' c' w'
 caught : ∀ g l h v h', kd g l h (some v) = some h' → ∀ (c : Ctx) (w : World) (st : St) (xs : List Value) (x : Value), st.hp = h → WRel c st w → HpOk h → RelL c l xs → V.noLocL l = true → (∀ b o x, Laid.cells b o = some x → c.shut b o = some x) →
  Rel c v x → v.noLoc = true → CallsD P g xs.toArray (.panicking [{ v := x, recovered := false }]) w fun e u' w' => (∃ v, e = .returned v) ∧ u' = .panicking [{ v := x, recovered := true }] ∧ ∃ c', Behind c st w h' c' w'
theorem finF_eq (P : Program) (h : Hp) (res : List ResultVar) (st : St) : finF P h res st = finV P h res st := by
 unfold finF finV
 rw [F.e_resV, F.e_exps, F.e_backHp]
 rfl
theorem finV_dirt {P : Program} {h : Hp} {res : List ResultVar} {st : St} {out : Out} (hd : Dirt { h with dirty := none } st.hp) (hr : finV P h res st = some out) : Dirt h out.hp := by
 unfold finV at hr
 split at hr
 ·simp at hr
 ·split at hr
  ·simp at hr
  ·rename_i he
   have hd := hd.trans (exps_dirt _ _ _ _ he)
   split at hr <;> (simp only [Option.some.injEq] at hr; rw [← hr]; exact backHp_dirt hd)
theorem deferV_dirt {P : Program} {st st' : St} {cl : Call} {g : Nat} {l : List V} (hr : deferV P st cl = some (g, l, st')) : Dirt st.hp st'.hp := by
 unfold deferV at hr
 rw [F.e_exps] at hr
 split at hr
 ·split at hr
  ·split at hr
   ·rename_i hexp
    generalize Option.isSome _ = qb at hr
    cases qb with
    | false => simp at hr
    | true =>
     simp only [cond_true, Option.some.injEq, Prod.mk.injEq] at hr
     rw [← hr.2.2]
     exact exps_dirt _ _ _ _ hexp
   ·simp at hr
  ·simp at hr
 ·simp at hr
theorem codeD_dirt {P : Program} {C : Cfg} {call : CallF} (hC : CallStill call) {f fuel : Nat} : ∀ (cd : Code) (st st' : St) (ex : Ex) (d : Dc), codeD P C call f fuel cd st = some (ex, st', d) → Dirt st.hp st'.hp := by
 intro cd
 have plain : ∀ (cd : Code) (st st' : St) (ex : Ex) (d : Dc), (match F.codeV P C call f fuel cd st with
    | some (ex, st') => some (ex, st', (none : Dc))
    | none => none) = some (ex, st', d) → Dirt st.hp st'.hp := by
  intro cd st st' ex d hr
  rw [F.e_codeV] at hr
  split at hr
  ·rename_i hrun
   simp only [Option.some.injEq, Prod.mk.injEq] at hr
   rw [← hr.2.1]
   exact codeV_dirt hC _ _ _ _ hrun
  ·simp at hr
 induction cd with
 | region id ops draw =>
  intro st st' ex d hr
  cases draw with
  | true => exact plain (.region id ops true) st st' ex d hr
  | false =>
   simp only [codeD] at hr
   split at hr
   ·exact plain (.region id ops false) st st' ex d hr
   ·rw [F.e_opsV] at hr
    split at hr
    ·rename_i hrun
     split at hr
     ·rename_i hdf
      simp only [Option.some.injEq, Prod.mk.injEq] at hr
      rw [← hr.2.1, F.e_putV, putV_hp]
      exact (opsV_dirt hC _ _ _ _ hrun).trans (deferV_dirt hdf)
     ·simp at hr
    ·rename_i hrun
     simp only [Option.some.injEq, Prod.mk.injEq] at hr
     rw [← hr.2.1]
     exact opsV_dirt hC _ _ _ _ hrun
    ·simp at hr
 | seq x y ihx ihy =>
  intro st st' ex d hr
  simp only [codeD] at hr
  split at hr
  ·rename_i hx; exact (ihx _ _ _ _ hx).trans (ihy _ _ _ _ hr)
  ·rename_i hx
   rw [F.e_codeV] at hr
   split at hr
   ·rename_i hy
    simp only [Option.some.injEq, Prod.mk.injEq] at hr
    rw [← hr.2.1]
    exact (ihx _ _ _ _ hx).trans (codeV_dirt hC _ _ _ _ hy)
   ·simp at hr
  ·exact ihx _ _ _ _ hr
 | skip => intro st st' ex d hr; exact plain .skip st st' ex d hr
 | cond x a b _ _ => intro st st' ex d hr; exact plain (.cond x a b) st st' ex d hr
 | block i b _ => intro st st' ex d hr; exact plain (.block i b) st st' ex d hr
 | loop b _ => intro st st' ex d hr; exact plain (.loop b) st st' ex d hr
 | exit i => intro st st' ex d hr; exact plain (.exit i) st st' ex d hr
 | ret => intro st st' ex d hr; exact plain .ret st st' ex d hr
 | label l => intro st st' ex d hr; exact plain (.label l) st st' ex d hr
 | goto l => intro st st' ex d hr; exact plain (.goto l) st st' ex d hr
 | scope b _ => intro st st' ex d hr; exact plain (.scope b) st st' ex d hr
 | rangeFunc g p a b _ => intro st st' ex d hr; exact plain (.rangeFunc g p a b) st st' ex d hr
 | refuse r => intro st st' ex d hr; exact plain (.refuse r) st st' ex d hr
theorem known_guard [Laid] {P : Program} {C : Cfg} {f : Nat} {kd : Kd} {fuel : Nat} (hP : progOk P C = true) (hu : C.use f = true) (hK : KdOk P kd) : KnownAt P f (guardV P C f kd fuel) := by
 refine ⟨fun call hS g args h out hr => ?_, fun call hS hC g args h out hr c w st xs hst hW hH hargs hnl hlaid => ?_⟩
 ·unfold guardV at hr
  simp only [finF_eq, F.e_backHp, F.e_startTm] at hr
  split at hr
  ·simp at hr
  ·split at hr
   ·simp at hr
   ·split at hr
    ·rename_i hrun
     have hd := codeD_dirt hS _ _ _ _ _ hrun
     split at hr
     ·exact finV_dirt hd hr
     ·exact finV_dirt hd hr
     ·simp only [Option.some.injEq] at hr
      rw [← hr]
      exact backHp_dirt hd
     ·simp at hr
    ·rename_i hrun
     have hd := codeD_dirt hS _ _ _ _ _ hrun
     split at hr
     ·split at hr
      ·rename_i hk; exact finV_dirt (hd.trans (hK.still _ _ _ _ _ hk)) hr
      ·simp at hr
     ·split at hr
      ·rename_i hk; exact finV_dirt (hd.trans (hK.still _ _ _ _ _ hk)) hr
      ·simp at hr
     ·split at hr
      ·rename_i hk; exact finV_dirt (hd.trans (hK.still _ _ _ _ _ hk)) hr
      ·simp at hr
     ·simp at hr
    ·simp at hr
 ·subst hst
  dsimp only at hr
  cases hg : Nat.beq g f with
  | false => rw [hg] at hr; simp at hr
  | true =>
   obtain rfl := Nat.eq_of_beq_eq_true hg
   rw [hg] at hr
   simp only [cond_true] at hr
   unfold guardV at hr
   simp only [finF_eq, F.e_backHp, F.e_startTm] at hr
   split at hr
   ·simp at hr
   ·rename_i fn hf
    split at hr
    ·simp at hr
    ·rename_i cd hb
     refine ⟨⟨fn, cd, hf, hb⟩, ?_⟩
     have hsim := start_sim hW hH hargs hnl hlaid fn.ntmps
     have hcode := codeD_sound (P := P) (C := C) (n := fn.ntmps) (c0 := c.called) (st0 := st.called (startTm args)) (w0 := w) (progOk_named hP) (progOk_mixed hP) hS hC g fuel cd ((progOk_at hP hf).2 hu cd hb)
     have behind : ∀ {df : Deferred} {st1 : St} {a' : Act} {w' : World} {c1 : Ctx} {h' : Hp} {c2 : Ctx} {w2 : World}, Sim [df] fn.ntmps c.called (st.called (startTm args)) w st1 a' w' c1 → Dirt st1.hp h' → Behind c1 st1 w' h' c2 w2 →
       finV P st.hp fn.results.toList { st1 with hp := h' } = some out → Leaves P fn a'.tmps (OutOk c st w out) [] .returning w2 := by
      intro df st1 a' w' c1 h' c2 w2 hs hd hbh hfin
      exact fin_sound (D := [df]) (a' := a') hW hH ⟨hs.le.trans hbh.le, hbh.wrel, hs.slots.mono hbh.le, hs.size, hs.defers, hs.keep.trans hbh.keep, hs.dirt.trans hd, hbh.hp, fun b o x hx => hbh.le.shut _ _ _ (hs.laid b o x hx)⟩ hfin
     refine calls_of_wp_defers hf hb ?_
     split at hr
     ·rename_i ex st1 hrun
      refine wp_mono (hcode _ _ _ _ ex st1 none hsim hrun) (fun e a' w' k => ?_)
      obtain ⟨c1, k1, k2⟩ := k
      have k2 : Sim [] fn.ntmps c.called (st.called (startTm args)) w st1 a' w' c1 := k2
      split at hr
      ·cases e with
       | normal => show Leaves P fn a'.tmps _ a'.defers .returning w'; rw [k2.defers]; exact fin_sound hW hH k2 hr
       | _ => exact k1.elim
      ·cases e with
       | ret => show Leaves P fn a'.tmps _ a'.defers .returning w'; rw [k2.defers]; exact fin_sound hW hH k2 hr
       | _ => exact k1.elim
      ·simp only [Option.some.injEq] at hr
       subst hr
       cases e with
       | panic ch =>
        obtain ⟨hv, x, rfl, hx⟩ := k1
        show Leaves P fn a'.tmps _ a'.defers (.panicking _) w'
        rw [k2.defers]
        exact panic_sound hW hH k2 hv hx
       | _ => exact k1.elim
      ·simp at hr
     ·rename_i ex st1 g' l hrun
      refine wp_mono (hcode _ _ _ _ ex st1 (some (g', l)) hsim hrun) (fun e a' w' k => ?_)
      obtain ⟨c1, k1, df, ys, k2, k3⟩ := k
      obtain ⟨fv, cap, ht⟩ := k3.fn
      have ret : ∀ {h' : Hp}, kd g' l st1.hp none = some h' → finV P st.hp fn.results.toList { st1 with hp := h' } = some out → Leaves P fn a'.tmps (OutOk c st w out) [df] .returning w' := by
       intro h' hk hfin
       refine ⟨by simp, fv, cap, g', ys.toArray, ht, k3.run w', (hK.back _ _ _ _ hk c1 w' st1 ys rfl k2.wrel k2.hp k3.rel k3.noLoc k2.laid).mono (fun e u' w2 he => ?_)⟩
       obtain ⟨⟨v, rfl⟩, rfl, c2, hbh⟩ := he
       exact behind k2 (hK.still _ _ _ _ _ hk) hbh hfin
      split at hr
      ·split at hr
       ·rename_i h' hk
        cases e with
        | normal => show Leaves P fn a'.tmps _ a'.defers .returning w'; rw [k2.defers]; exact ret hk hr
        | _ => exact k1.elim
       ·simp at hr
      ·split at hr
       ·rename_i h' hk
        cases e with
        | ret => show Leaves P fn a'.tmps _ a'.defers .returning w'; rw [k2.defers]; exact ret hk hr
        | _ => exact k1.elim
       ·simp at hr
      ·rename_i v
       split at hr
       ·rename_i h' hk
        cases e with
        | panic ch =>
         obtain ⟨hv, x, rfl, hx⟩ := k1
         show Leaves P fn a'.tmps _ a'.defers (.panicking _) w'
         rw [k2.defers]
         refine ⟨by simp, fv, cap, g', ys.toArray, ht, k3.run w', (hK.caught _ _ _ _ _ hk c1 w' st1 ys x rfl k2.wrel k2.hp k3.rel k3.noLoc k2.laid hx hv).mono (fun e u' w2 he => ?_)⟩
         obtain ⟨⟨v, rfl⟩, rfl, c2, hbh⟩ := he
         exact behind k2 (hK.still _ _ _ _ _ hk) hbh hr
        | _ => exact k1.elim
       ·simp at hr
      ·simp at hr
     ·simp at hr
end Go.AM
end

section
namespace Go.AM
open Go
def catchKd (g0 T W : Nat) : Kd := fun g l h pv => bif Nat.beq g g0 then
 (match l with
 | [.ptr (.glob r) off] => (match pv with
  | none => some h
  | some (.iface t (.agg [e])) => bif Nat.beq t T && isPtr e then
    (match h.rows[r]? with
    | some (.cells false cs) => (match setAt cs off [.iface W e] with
     | some cs' => some ⟨h.rows.set r (.cells false cs'), lower h.dirty r, h.mods + 1⟩
     | none => none)
    | _ => none)
   else none
  | _ => none)
 | _ => none) else none
structure CatchOk (P : Program) (g T W : Nat) : Prop where
 ret : ∀ (p : Addr) (w : World), CallsD P g #[.pointer (some p)] .returning w fun e u' w' => (∃ v, e = .returned v) ∧ u' = .returning ∧ w' = w
 hit : ∀ (p e : Addr) (old : Value) (w : World), w.cell? p = some old → w.frozen? p = false →
  CallsD P g #[.pointer (some p)] (.panicking [{ v := .iface T (.agg #[.pointer (some e)]), recovered := false }]) w fun en u' w' => (∃ v, en = .returned v) ∧
   u' = .panicking [{ v := .iface T (.agg #[.pointer (some e)]), recovered := true }] ∧ ∃ a1 t1, w' = (w.alloc (.cells a1 t1)).setCell p (.iface W (.pointer (some e)))
theorem catch_ok [Laid] {P : Program} {g T W : Nat} (hC : CatchOk P g T W) : KdOk P (catchKd g T W) := by
 have hit : ∀ g' l h v h', catchKd g T W g' l h (some v) = some h' → g' = g ∧ ∃ r off e cs cs', l = [.ptr (.glob r) off] ∧ v = .iface T (.agg [e]) ∧ isPtr e = true ∧ h.rows[r]? = some (.cells false cs) ∧ setAt cs off [.iface W e] = some cs' ∧
   h' = ⟨h.rows.set r (.cells false cs'), lower h.dirty r, h.mods + 1⟩ := by
  intro g' l h v h' hr
  unfold catchKd at hr
  cases hg : Nat.beq g' g with
  | false => rw [hg] at hr; simp at hr
  | true =>
   have hg' := Nat.eq_of_beq_eq_true hg
   rw [hg] at hr
   simp only [cond_true] at hr
   refine ⟨hg', ?_⟩
   split at hr
   ·rename_i r off
    split at hr
    ·rename_i heq; simp at heq
    ·rename_i t e heq
     simp only [Option.some.injEq] at heq
     subst heq
     cases hq : (Nat.beq t T && isPtr e) with
     | false => simp [hq] at hr
     | true =>
      simp only [hq, cond_true] at hr
      simp only [Bool.and_eq_true] at hq
      have := Nat.eq_of_beq_eq_true hq.1
      subst this
      split at hr
      ·rename_i cs hrow
       split at hr
       ·rename_i cs' hset
        simp only [Option.some.injEq] at hr
        exact ⟨r, off, e, cs, cs', rfl, rfl, hq.2, hrow, hset, hr.symm⟩
       ·simp at hr
      ·simp at hr
    ·simp at hr
   ·simp at hr
 have none' : ∀ g' l h h', catchKd g T W g' l h none = some h' → g' = g ∧ h' = h ∧ ∃ r off, l = [.ptr (.glob r) off] := by
  intro g' l h h' hr
  unfold catchKd at hr
  cases hg : Nat.beq g' g with
  | false => rw [hg] at hr; simp at hr
  | true =>
   have hg' := Nat.eq_of_beq_eq_true hg
   rw [hg] at hr
   simp only [cond_true] at hr
   refine ⟨hg', ?_⟩
   split at hr
   ·rename_i r off
    simp at hr
    exact ⟨hr.symm, r, off, rfl⟩
   ·simp at hr
 refine ⟨fun g' l h pv h' hr => ?_, fun g' l h h' hr c w st xs hst hW hH hargs hnl hlaid => ?_, fun g' l h v h' hr c w st xs x hst hW hH hargs hnl hlaid hx hv => ?_⟩
 ·cases pv with
  | none => obtain ⟨_, rfl, _⟩ := none' g' l h h' hr; exact .refl _
  | some v =>
   obtain ⟨_, r, off, e, cs, cs', _, _, _, _, _, rfl⟩ := hit g' l h v h' hr
   exact dirt_set (st := ⟨.lf, .lf, h⟩) (.glob r) (.cells false cs')
 ·subst hst
  obtain ⟨rfl, rfl, r, off, rfl⟩ := none' g' l _ h' hr
  obtain ⟨y, rfl⟩ : ∃ y, xs = [y] := by
   have h2 : xs.length = 1 := hargs.1
   match xs, h2 with
   | [y], _ => exact ⟨y, rfl⟩
  have hy := hargs.head
  cases hy with
  | ptr _ _ b hb =>
   refine (hC.ret ⟨b, off, none⟩ w).mono (fun e u' w' ⟨h1, h2, h3⟩ => ⟨h1, h2, c, ?_⟩)
   subst h3
   exact ⟨.refl c, hW, .refl c st _, hH⟩
 ·subst hst
  obtain ⟨rfl, r, off, e, cs, cs', rfl, rfl, hp, hrow, hset, rfl⟩ := hit g' l _ v h' hr
  obtain ⟨y, rfl⟩ : ∃ y, xs = [y] := by
   have h2 : xs.length = 1 := hargs.1
   match xs, h2 with
   | [y], _ => exact ⟨y, rfl⟩
  have hy := hargs.head
  cases hy with
  | ptr _ _ b hb =>
  cases hx with
  | iface _ _ x hx =>
  cases hx with
  | agg _ zs hl hz =>
  have hl1 : zs.size = 1 := by simpa using hl
  obtain ⟨z, rfl⟩ : ∃ z, zs = #[z] := ⟨zs[0], by
   apply Array.ext
   ·simp [hl1]
   ·intro i h1 h2
    have : i = 0 := by omega
    subst this; rfl⟩
  have hze : Rel c e z := hz 0 e z rfl rfl
  obtain ⟨ad, rfl⟩ : ∃ ad, z = .pointer (some ad) := by
   cases e <;> simp [isPtr] at hp
   ·rename_i r' _; cases r' <;> simp at hp; cases hze; exact ⟨_, rfl⟩
   ·cases hze; exact ⟨_, rfl⟩
  have hone : RelL c [V.iface W e] [Value.iface W (.pointer (some ad))] := RelL.cons (.iface _ _ _ hze) (RelL.nil c)
  have hgrow : getRow st (.glob r) = some (.cells false cs) := hrow
  have hb' : c.blk (.glob r) = some b := hb
  obtain ⟨_, _, hthere⟩ := hW.write hgrow hset hone hb'
  have ht := hthere 0 (by simp)
  simp only [Nat.add_zero] at ht
  obtain ⟨old, hold⟩ := Option.isSome_iff_exists.1 ht.1
  refine (hC.hit ⟨b, off, none⟩ ad old w hold ht.2).mono (fun en u' w' ⟨h1, h2, a1, t1, h3⟩ => ⟨h1, h2, ?_⟩)
  obtain ⟨c1, l1, W1, K1, _⟩ := hW.shutBlock a1 t1
  obtain ⟨W2, K2, _⟩ := W1.write hgrow hset (hone.mono l1) (l1.blk hb')
  have hw' : w' = (w.alloc (.cells a1 t1)).setCells b off [.iface W (.pointer (some ad))] := h3
  rw [hw']
  refine ⟨c1, l1, W2, K1.trans K2, hp_set hH (r := .glob r) (fun frz cs2 e2 _ => ?_)⟩
  injection e2 with _ e3
  subst e3
  obtain ⟨hle2, hcs⟩ := setAt_spec hset
  rw [hcs, noLocL_mem]
  intro u hu
  simp only [List.mem_append, List.mem_singleton] at hu
  have hc := noLocL_mem.1 (hH r false cs hrow)
  rcases hu with (hu | hu) | hu
  ·exact hc u (List.mem_of_mem_take hu)
  ·rw [hu]
   simp only [V.noLoc, V.noLocL, Bool.and_true] at hv ⊢
   exact hv
  ·exact hc u (List.mem_of_mem_drop hu)
end Go.AM
end

section
namespace Go.AM
open Go
def SplitOk [Laid] (P : Program) (f : Nat) (s sep : Str) (l : List Str) : Prop := (∃ fn cd, P.funcs[f]? = some fn ∧ fn.body = some cd) ∧
 ∀ (w : World), (∀ b o x, Laid.cells b o = some x → w.cell? ⟨b, o, none⟩ = some x) → Calls P f #[.string s.bytes, .string sep.bytes] w fun e w' =>
  ∃ t, e = .returned (.slice (some ⟨w.heap.size, 0, none⟩) l.length l.length) ∧ w' = w.alloc (.cells (l.map fun u => Value.string u.bytes).toArray t)
def splitK (s sep : Str) (l : List Str) : Kn1 := fun _ args h => match args with
 | [.str a, .str b] => bif a.same s && b.same sep then some (.val (.slice none true 1 (l.map V.str)) h) else none
 | _ => none
theorem flat_strs (l : List Str) : flat (l.map V.str) = l.map V.str := by
 induction l with
 | nil => rfl
 | cons s l ih =>
  show V.cells (.str s) ++ flat (l.map V.str) = _
  rw [ih]; rfl
theorem noRefs_strs (l : List Str) : V.noRefsL (l.map V.str) = true := by
 induction l with
 | nil => rfl
 | cons s l ih => simpa [V.noRefsL, V.noRefs] using ih
theorem known_split [Laid] {P : Program} {f : Nat} {s sep : Str} {l : List Str} (hS : SplitOk P f s sep l) : KnownAt P f (splitK s sep l) := by
 have key : ∀ call args h out, splitK s sep l call args h = some out → ∃ a b, args = [.str a, .str b] ∧ a.bytes = s.bytes ∧ b.bytes = sep.bytes ∧ out = .val (.slice none true 1 (l.map V.str)) h := by
  intro call args h out hr
  unfold splitK at hr
  split at hr
  ·rename_i a b
   cases hq : (a.same s && b.same sep) with
   | false => simp [hq] at hr
   | true =>
    simp only [hq, cond_true, Option.some.injEq] at hr
    simp only [Bool.and_eq_true] at hq
    exact ⟨a, b, rfl, (Str.same_spec _ _).1 hq.1, (Str.same_spec _ _).1 hq.2, hr.symm⟩
  ·simp at hr
 refine ⟨fun call _ g args h out hr => ?_, fun call _ _ g args h out hr c w st xs hst hW hH hargs hnl hlaid => ?_⟩
 ·obtain ⟨_, _, _, _, _, rfl⟩ := key call args h _ hr
  exact .refl _
 ·subst hst
  dsimp only at hr
  cases hg : Nat.beq g f with
  | false => rw [hg] at hr; simp at hr
  | true =>
   obtain rfl := Nat.eq_of_beq_eq_true hg
   rw [hg] at hr
   simp only [cond_true] at hr
   obtain ⟨a, b, rfl, ha, hb, rfl⟩ := key call args _ _ hr
   refine ⟨hS.1, ?_⟩
   have h2 : xs.length = 2 := hargs.1
   obtain ⟨x, y, rfl⟩ : ∃ x y, xs = [x, y] := by
    match xs, h2 with
    | [x, y], _ => exact ⟨x, y, rfl⟩
   have hx := hargs.head.str_inv
   have hy := hargs.tail.head.str_inv
   subst hx; subst hy
   rw [ha, hb]
   refine (hS.2 w (fun b o x hx => hW.shut b o x (hlaid b o x hx))).mono (fun e w' ⟨t, he, hw⟩ => ?_)
   subst he; subst hw
   obtain ⟨c1, l1, W1, K1, sh⟩ := hW.shutBlock ((l.map fun u => Value.string u.bytes).toArray) t
   have hrel : Rel c1 (.slice none true 1 (l.map V.str)) (.slice (some ⟨w.heap.size, 0, none⟩) l.length l.length) := by
    have := Rel.slice (c := c1) none true 1 (l.map V.str) w.heap.size 0 l.length (l.map fun u => Value.string u.bytes) (fun v hv => by
      obtain ⟨u, _, rfl⟩ := List.mem_map.1 hv; rfl) (by rw [flat_strs]; simp) (fun i x hx => by rw [Nat.zero_add]; exact sh i x (by simpa using hx))
     (fun i v x hv hx => by
      rw [flat_strs] at hv
      simp only [List.getElem?_map, Option.map_eq_some_iff] at hv hx
      obtain ⟨u, h1, rfl⟩ := hv
      obtain ⟨u', h3, rfl⟩ := hx
      rw [h1] at h3
      obtain rfl := Option.some.inj h3
      exact .str u) (by rw [flat_strs]; exact noRefs_strs l) (by simp) (fun _ => by simp) (fun r hr => by simp at hr)
    simpa using this
   exact ⟨c1, l1, hrel, W1, K1, .refl _, hH⟩
end Go.AM
end
