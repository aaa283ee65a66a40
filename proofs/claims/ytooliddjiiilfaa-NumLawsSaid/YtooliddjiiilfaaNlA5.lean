/- Part 5 of the proof: what it says stands at its theorems. -/
import Derived.Test.YtooliddjiiilfaaNlA4
import Derived.Test.YtooliddjiiilfaaNlA3
import Derived.KernelRfl
set_option linter.unusedVariables false
set_option linter.unusedSimpArgs false
set_option linter.unusedSectionVars false
section
namespace Go.AM.S
open Go Go.AM Go.Proofs NumL
open _root_.Go.AM.G (R)
set_option maxRecDepth 100000
theorem tbl86 : tbl 86 = some ⟨rc86, [.tmp 6]⟩ := by kernel_rfl
theorem fld26 (v : V) (l : List V) : fld Pg 26 (.agg (v :: l)) 0 = some v := by kernel_rfl
theorem m86_6_1 (c : CallF) (t' t : Tm) (l : Lo) (h : Hp) (j : V → Lo → Hp → R) : gn Try.f86 86 6 1 c t' t l h j = go1 Try.f86 86 6 1 27 (gt t' 27) c t l h j := gn_go1 (by kernel_rfl)
theorem c86_6_1 {r off len : Nat} {li : Option Nat} {L : List Nat} {h : Hp} (hlen : 0 < len) (hr : h.rows[r]? = some (.cells false (nl .u32 L))) (hb : off + len ≤ L.length) (c : CallF) (t : Tm) (l : Lo) (j : V → Lo → Hp → R) :
  go1 Try.f86 86 6 1 27 (.arr (.glob r) off len li 1 false) c t l h j = j (.tuple []) l (hset h r (.cells false (nl .u32 (put L off (List.replicate len 0))))) :=
 gen_clear (C := Cg) (gl := Cg.glob 86) (call := c) (o := opA Try.f86 6 1) (x := 27) (t := 24) (e := 86) (k := .u32) (c := { callee := .builtin .clear, args := #[.tmp 27], argTypes := #[24] }) (by kernel_rfl) (by kernel_rfl) rfl rfl rfl (by kernel_rfl) (by kernel_rfl) (by kernel_rfl) (by rw [gt_pt, if_pos rfl]) hlen hr hb
theorem c86_7_2 {r off len : Nat} {li : Option Nat} {L ys : List Nat} {w : V} {h : Hp} {l : Lo} (hw : ∀ tm, itemsOf ⟨tm, l, h⟩ w = some (nl .u32 ys)) (hys : ys.length ≤ len) (hr : h.rows[r]? = some (.cells false (nl .u32 L))) (hb : off + len ≤ L.length) (c : CallF) (t : Tm) (j : V → Lo → Hp → R) :
  go2 Try.f86 86 7 2 28 29 (.arr (.glob r) off len li 1 false) w c t l h j = j (.int .i64 (.ofNat ys.length)) l (hset h r (.cells false (nl .u32 (put L off ys)))) :=
 gen_copy (C := Cg) (gl := Cg.glob 86) (call := c) (o := opA Try.f86 7 2) (d := 30) (x := 28) (y := 29) (t := 24) (e := 86) (k := .u32) (c := { callee := .builtin .copy, args := #[.tmp 28, .tmp 29], argTypes := #[24, 24] }) (by kernel_rfl) (by kernel_rfl) rfl rfl rfl (by kernel_rfl) (by kernel_rfl) (by decide) (hw _) hys hr hb
theorem put_put {L a b : List Nat} {i : Nat} (h : b.length ≤ a.length) (hi : i + a.length ≤ L.length) : put (put L i a) i b = put L i (b ++ a.drop b.length) := by
 have e1 : (put L i a).take i = L.take i := by
  unfold put
  rw [List.append_assoc, List.take_append_of_le_length (by simp; omega), List.take_take, Nat.min_self]
 have e2 : (put L i a).drop (i + b.length) = a.drop b.length ++ L.drop (i + a.length) := by
  unfold put
  rw [List.append_assoc, List.drop_append, List.length_take, Nat.min_eq_left (by omega), List.drop_eq_nil_of_le (by simp; omega), List.nil_append, Nat.add_sub_cancel_left, List.drop_append, Nat.sub_eq_zero_of_le h]
  rfl
 have e3 : (b ++ a.drop b.length).length = a.length := by simp; omega
 show (put L i a).take i ++ b ++ (put L i a).drop (i + b.length) = L.take i ++ (b ++ a.drop b.length) ++ L.drop (i + (b ++ a.drop b.length).length)
 rw [e1, e2, e3]
 simp only [List.append_assoc]
theorem vl_pad (B : Nat) (a : List Nat) (n : Nat) : vl B (a ++ List.replicate n 0) = vl B a := by rw [vl_append, vl_rep0]; simp
theorem len_le {B : Nat} (hB : 0 < B) {a b : List Nat} (da : Dg B a) (cb : Cn b) (h : vl B b ≤ vl B a) : b.length ≤ a.length := by
 rcases Nat.lt_or_ge a.length b.length with h1 | h1
 ·have := vl_lt_len hB da cb h1; omega
 ·exact h1
theorem back_set {h h' : Hp} {r : Nat} {row : Row} {l : List V} (hr : r < h.rows.length) : (backHp h (hset h' r row) l).rows = (hset h' r row).rows := by
 have hc : cleanB h (hset h' r row) = false := by
  have hd : (hset h' r row).dirty = lower h'.dirty r := rfl
  unfold cleanB
  rw [hd]
  cases h'.dirty with
  | none =>
   show Nat.ble h.rows.length r = false
   cases hb : Nat.ble h.rows.length r with
   | false => rfl
   | true => rw [Nat.ble_eq] at hb; omega
  | some x =>
   show Nat.ble h.rows.length (min x r) = false
   cases hb : Nat.ble h.rows.length (min x r) with
   | false => rfl
   | true => rw [Nat.ble_eq] at hb; omega
 unfold backHp
 rw [hc]; rfl
theorem takes_runs {n r0 r1 i m q lb : Nat} {li lj : Option Nat} {L Lb : List Nat} {fb : Bool} {h : Hp} (hr0 : h.rows[r0]? = some (.cells false (nl .u32 L))) (hr1 : h.rows[r1]? = some (.cells fb (nl .u32 Lb))) (dL : Dg B L) (dLb : Dg B Lb) (hne : r0 ≠ r1)
  (him : i + m ≤ L.length) (hm : 0 < m) (hlb : lb ≤ Lb.length) (hb : 0 < lb) (lL : L.length ≤ 1000000) (lLb : Lb.length ≤ 900000) (hq : q < 4294967296) (hn : DG n h) (hn0 : n ≤ r0) :
  ∃ ok h', Runs Pg kn0 tbl 86 [.arr (.glob r0) i m li 1 false, .arr (.glob r1) 0 lb lj 1 false, .int .u64 (.ofNat q)] h (.val (.bool ok) h') ∧ DG n h' ∧ h.rows.length ≤ h'.rows.length ∧ (∀ p, p < h.rows.length → p ≠ r0 → h'.rows[p]? = h.rows[p]?) ∧
   (ok = false → vl B ((L.drop i).take m) < vl B (Lb.take lb) * q ∧ h' = h) ∧ (ok = true → ∃ c, c.length = m ∧ Dg B c ∧ vl B c + vl B (Lb.take lb) * q = vl B ((L.drop i).take m) ∧ h'.rows[r0]? = some (.cells false (nl .u32 (put L i c)))) := by
 let Post : Out → Prop := fun o => ∃ ok h', o = .val (.bool ok) h' ∧ DG n h' ∧ h.rows.length ≤ h'.rows.length ∧ (∀ p, p < h.rows.length → p ≠ r0 → h'.rows[p]? = h.rows[p]?) ∧
   (ok = false → vl B ((L.drop i).take m) < vl B (Lb.take lb) * q ∧ h' = h) ∧ (ok = true → ∃ c, c.length = m ∧ Dg B c ∧ vl B c + vl B (Lb.take lb) * q = vl B ((L.drop i).take m) ∧ h'.rows[r0]? = some (.cells false (nl .u32 (put L i c))))
 suffices hw : WW Pg kn0 tbl rc86 ⟨startTm [.arr (.glob r0) i m li 1 false, .arr (.glob r1) 0 lb lj 1 false, .int .u64 (.ofNat q)], .lf, ⟨h.rows, none, h.mods⟩⟩ (fun s => ∃ o, fin Pg h [.tmp 6] s = some o ∧ Post o) (fun _ _ => False) (fun s => ∃ o, fin Pg h [.tmp 6] s = some o ∧ Post o) by
  obtain ⟨o, h1, ok, h', rfl, h2⟩ := runs_ex (kn := kn0) (h := h) rfl tbl86 hw
  exact ⟨ok, h', h1, h2⟩
 have hl0 : r0 < h.rows.length := by
  rcases Nat.lt_or_ge r0 h.rows.length with h1 | h1
  ·exact h1
  ·rw [List.getElem?_eq_none h1] at hr0; simp at hr0
 unfold rc86
 refine sR ?_
 have hbl : (Lb.take lb).length = lb := by rw [List.length_take, Nat.min_eq_left hlb]
 have hbne : Lb.take lb ≠ [] := fun e => by rw [e] at hbl; simp at hbl; omega
 have hcl1 := clone_runs (va := .arr (.glob r1) 0 lb lj 1 false) ⟨h.rows, none, h.mods⟩ (by intro e; cases e) (.inr ⟨_, _, _, _, rfl⟩) hbne (by omega) (fun tm loc => by
  have := items_glob (tm := tm) (loc := loc) (h := ⟨h.rows, none, h.mods⟩) (li := lj) hr1 (off := 0) (len := lb) (by omega)
  rwa [List.drop_zero] at this)
 obtain ⟨v2, h2, d2, hg2, gr2, dd2, vl2, ll2, HG2, vn2, le2⟩ := grown_runs (n := h.rows.length) (h := hadd ⟨h.rows, none, h.mods⟩ (.cells false (nl .u32 (Lb.take lb)))) (v := .arr (.glob h.rows.length) 0 (Lb.take lb).length none 1 false) q 0 (.inr ⟨hbne, _, rfl, hadd_at _ _⟩) (dLb.take lb) (by omega) hq (by decide) (fun x hx => by cases hx) (fun r e => by cases e; exact Nat.le_refl _) (by rw [hadd_len]; exact Nat.le_succ _)
 rcases gr2 with ⟨e2, _⟩ | ⟨ne2, r2, rfl, hr2⟩
 ·exfalso; rw [e2] at le2; simp only [List.length_nil] at le2; omega
 obtain ⟨u3, h3, d3, hg3, ⟨⟨s3, rfl, hs3⟩, dd3, cd3, _⟩, ht3, HG3, rl3⟩ := made_glob (n := h.rows.length) hr2 dd2 (by omega) false HG2.dg (vn2 _ rfl)
 have hrl2 := HG2.len
 rw [hadd_len] at hrl2
 have hrl2' : h.rows.length + 1 ≤ h2.rows.length := hrl2
 have same3 : ∀ p, p < h.rows.length → h3.rows[p]? = h.rows[p]? := by
  intro p hp
  have hp2 := vn2 _ rfl
  rw [HG3.same p (by omega) (by intro e; cases e; omega), HG2.same p (by rw [hadd_len]; exact Nat.lt_succ_of_lt hp) (by intro e; cases e; omega)]
  exact hadd_lt ⟨h.rows, none, h.mods⟩ _ hp
 refine ww_seq (ww_call (hcl1.and (hg2.and hg3)) (fun n hn k => by simp -implicitDefEqProofs (disch := omega) only [go_sem, reduceIte, Nat.reduceEqDiff, gt_start, List.getD_cons_zero, List.getD_cons_succ, clc1 hn.1 (Ex1.glob _ _ _ _ _ _), clc3 hn.2.1 (Ex1.glob _ _ _ _ _ _) (Ex1.int _ _) (Ex1.int _ _), clc2 hn.2.2 (Ex1.glob _ _ _ _ _ _) (Ex1.bool _), fld26]; rfl) ?_)
 have hpl : ((L.drop i).take m).length = m := by rw [List.length_take, List.length_drop, Nat.min_eq_left (by omega)]
 have hpne : (L.drop i).take m ≠ [] := fun e => by rw [e] at hpl; simp at hpl; omega
 have hr03 : h3.rows[r0]? = some (.cells false (nl .u32 L)) := by rw [same3 _ hl0]; exact hr0
 have hcl4 := clone_runs (va := .arr (.glob r0) i m li 1 false) h3 (by intro e; cases e) (.inr ⟨_, _, _, _, rfl⟩) hpne (by omega) (fun tm loc => items_glob (tm := tm) (loc := loc) (h := ⟨h3.rows, none, h3.mods⟩) (li := li) hr03 (off := i) (len := m) him)
 have hrl3 : h.rows.length ≤ h3.rows.length := by omega
 obtain ⟨u5, h5, d5, hg5, ⟨⟨s5, rfl, hs5⟩, dd5, cd5, _⟩, ht5, HG5, rl5⟩ := made_glob (n := h.rows.length) (h := hadd h3 (.cells false (nl .u32 ((L.drop i).take m)))) (hadd_at _ _) ((dL.drop i).take m) (by omega) false (HG3.dg.add _) hrl3
 have hrl5 : h.rows.length ≤ h5.rows.length := by rw [rl5, hadd_len]; omega
 have same5 : ∀ p, p < h.rows.length → h5.rows[p]? = h.rows[p]? := by
  intro p hp
  rw [HG5.same p (by rw [hadd_len]; omega) (by intro e; cases e; omega), hadd_lt _ _ (by omega)]
  exact same3 p hp
 refine ww_seq (ww_call (hcl4.and hg5) (fun n hn k => by simp -implicitDefEqProofs (disch := omega) only [go_sem, reduceIte, Nat.reduceEqDiff, gt_start, List.getD_cons_zero, List.getD_cons_succ, clc1 hn.1 (Ex1.glob _ _ _ _ _ _), clc2 hn.2 (Ex1.glob _ _ _ _ _ _) (Ex1.bool _), fld26]; rfl) ?_)
 have v3 : vl B d3 = vl B (Lb.take lb) * q := by rw [ht3.vl, vl2, Nat.add_zero]
 have v5 : vl B d5 = vl B ((L.drop i).take m) := ht5.vl B
 have l3 := ht3.len
 have l5 := ht5.len
 obtain ⟨_, hcm, rfl⟩ := compare_spec hs3 hs5 dd3 dd5 cd3 cd5 (by omega) (by omega) h5
 rcases Nat.lt_or_ge (vl B d5) (vl B d3) with hlt | hge
 ·have hc : cmpI (vl B d3) (vl B d5) = .ofNat 1 := by unfold cmpI; rw [if_neg (by omega), if_pos hlt]
  rw [hc] at hcm
  refine ww_seq (ww_seq (ww_call (hcm) (fun n hn k => by simp -implicitDefEqProofs (disch := omega) only [go_sem, reduceIte, Nat.reduceEqDiff, clc2 hn hs3.ex hs5.ex, d_true]; rfl) ?_))
  refine ww_true sS ?_
  refine sR ?_
  refine ww_ret ⟨_, fin_tmpD (v := .bool false) sS (Ex1.bool _) HG5.dg rfl, false, h, rfl, hn, Nat.le_refl _, fun _ _ _ => rfl, fun _ => ⟨by rw [← v3, ← v5]; exact hlt, rfl⟩, fun e => by cases e⟩
 ·have hc : ∃ z, cmpI (vl B d3) (vl B d5) = z ∧ bin Pg .gtr 3 true (.int .i64 z) (.int .i64 (.ofNat 0)) = some (.bool false) := by
   unfold cmpI
   rcases Nat.lt_or_ge (vl B d3) (vl B d5) with h1 | h1
   ·exact ⟨_, rfl, by rw [if_pos h1]; rfl⟩
   ·exact ⟨_, rfl, by rw [if_neg (by omega), if_neg (by omega)]; rfl⟩
  obtain ⟨z, hz, hzb⟩ := hc
  rw [hz] at hcm
  refine ww_seq (ww_seq (ww_call (hcm) (fun n hn k => by simp -implicitDefEqProofs (disch := omega) only [go_sem, reduceIte, Nat.reduceEqDiff, clc2 hn hs3.ex hs5.ex, hzb]; rfl) ?_))
  refine ww_false sS (ww_skip ?_)
  have hll : d3.length ≤ d5.length := len_le (by decide) dd5 cd3 hge
  obtain ⟨w6, hmi, c, hsc, dc, vc, lc⟩ := minus_spec hs5 hs3 dd5 dd3 (by omega) hll hge h5
  refine ww_seq (ww_call (hmi) (fun n hn k => by simp -implicitDefEqProofs (disch := omega) only [go_sem, reduceIte, Nat.reduceEqDiff, clc2 hn hs5.ex hs3.ex]; rfl) ?_)
  have hr05 : h5.rows[r0]? = some (.cells false (nl .u32 L)) := by rw [same5 _ hl0]; exact hr0
  refine ww_seq (ww_reg (fun n k => by simp -implicitDefEqProofs (disch := omega) only [go_sem, reduceIte, Nat.reduceEqDiff, gt_start, List.getD_cons_zero, List.getD_cons_succ, m86_6_1, c86_6_1 hm hr05 him]; rfl) ?_)
  have hr06 := hset_at h5 (row := .cells false (nl .u32 (put L i (List.replicate m 0)))) hr05
  have hpz : (put L i (List.replicate m 0)).length = L.length := put_length (by simpa using him)
  refine ww_seq (ww_reg (fun n k => by simp -implicitDefEqProofs (disch := omega) only [go_sem, reduceIte, Nat.reduceEqDiff, gt_start, List.getD_cons_zero, List.getD_cons_succ, c86_7_2 (fun tm => items_sl hsc _) (show c.length ≤ m by omega) hr06 (by rw [hpz]; exact him)]; rfl) ?_)
  refine sR ?_
  have hrow := hset_at (hset h5 r0 (.cells false (nl .u32 (put L i (List.replicate m 0))))) (row := .cells false (nl .u32 (put (put L i (List.replicate m 0)) i c))) hr06
  have hpp : put (put L i (List.replicate m 0)) i c = put L i (c ++ List.replicate (m - c.length) 0) := by rw [put_put (by simp; omega) (by simpa using him), List.drop_replicate]
  have hd6 : DG n (hset (hset h5 r0 (.cells false (nl .u32 (put L i (List.replicate m 0))))) r0 (.cells false (nl .u32 (put (put L i (List.replicate m 0)) i c)))) := (DG.set (n := n) (fun x hx => Nat.le_trans (by omega) (HG5.dg x hx)) hn0 _).set hn0 _
  refine ww_ret ⟨.val (.bool true) (backHp h (hset (hset h5 r0 (.cells false (nl .u32 (put L i (List.replicate m 0))))) r0 (.cells false (nl .u32 (put (put L i (List.replicate m 0)) i c)))) [.bool true]), ?_, true, _, rfl, hn.back hd6 _, ?_⟩
  ·unfold fin
   simp only [resV, rho_gt, Option.map_some]
   rw [show ∀ t w, gt (pt t 6 w) 6 = w from fun t w => sS]
   rfl
  rw [back_set hl0]
  refine ⟨by rw [hset_len, hset_len]; exact hrl5, fun p hp hne => by rw [hset_ne _ hne, hset_ne _ hne]; exact same5 p hp, (fun e => by cases e), fun _ => ⟨c ++ List.replicate (m - c.length) 0, by simp; omega, ?_, by rw [vl_pad, ← v3, ← v5]; exact vc, by rw [hrow, hpp]⟩⟩
  intro x hx
  rcases List.mem_append.1 hx with h1 | h1
  ·exact dc x h1
  ·rw [List.eq_of_mem_replicate h1]; decide
end Go.AM.S
end
section
namespace Go.AM.S
open Go Go.AM Go.Proofs NumL
open _root_.Go.AM.G (R)
set_option maxRecDepth 100000
section
variable {C : Cfg} {P : Program} {call : CallF} {gl : Nat → Bool} {o : Oper} {t' tm : Tm} {loc : Lo} {hp : Hp}
theorem genD_cv {d x : Nat} {s t : TypeId} {ks kd k : IntKind} {n : Int} {J : JD} {X : XD} (hd : o.dst = some d) (ho : o.op = .convert s t (.tmp x)) (h1 : P.underlying s = some (.int ks)) (h2 : P.underlying t = some (.int kd)) (hv : gt t' x = .int k n) :
  genD P C call gl o t' loc hp J X = J (.int kd (F.wrapI kd n)) ⟨[], [], false, false, false, false⟩ loc hp := by
 have hp1 : locV P C gl (⟨t', loc, hp⟩ : St).ρ (⟨t', loc, hp⟩ : St).lc o = some (.int kd (F.wrapI kd n), none) := by
  unfold locV
  simp only [ho, pureV, opd_gt, hv, convV, h1, h2, F.wrapI_eq, Option.map_some]
 have hf : footV P C gl (⟨t', loc, hp⟩ : St).ρ (⟨t', loc, hp⟩ : St).lc o = some ⟨[], [], false, false, false, false⟩ := by
  unfold footV
  rw [hp1]
  simp only [ho]
 have hs : stepV P C gl ⟨t', loc, hp⟩ o = some (.val (.int kd (F.wrapI kd n)) ⟨t', loc, hp⟩) := by
  unfold stepV
  rw [hp1]; rfl
 unfold genD
 rw [F.e_footV, F.e_oneV, F.e_rho, F.e_lcf, hf]
 show G.onSome (oneV P C call gl ⟨t', loc, hp⟩ o) _ none = _
 unfold oneV
 rw [hs]
 have e1 : F.settle hp hp ⟨[], [], false, false, false, false⟩ = ⟨[], [], false, false, false, false⟩ := by
  unfold F.settle
  rw [Nat.beq_refl, Nat.beq_refl]; rfl
 simp only [putV, hd]
 show J (gt (aset t' d (V.int kd (F.wrapI kd n))) d) (F.settle hp hp ⟨[], [], false, false, false, false⟩) loc hp = _
 rw [gt_eq, aget_aset, if_pos rfl, e1]
end
theorem dv78_7 (k : IntKind) (n : Int) (c : CallF) (t : Tm) (l : Lo) (h : Hp) (J : JD) (X : XD) : gD Try.f78 78 18 7 c (pt t 97 (.int k n)) l h J X = J (.int .u64 (F.wrapI .u64 n)) ⟨[], [], false, false, false, false⟩ l h :=
 genD_cv (C := Cg) (gl := Cg.glob 78) (call := c) (o := opA Try.f78 18 7) (d := 98) (x := 97) (s := 86) (t := 80) (by kernel_rfl) (by kernel_rfl) U86 U80 (by rw [gt_pt, if_pos rfl])
theorem dv78_15 (k : IntKind) (n : Int) (c : CallF) (t : Tm) (l : Lo) (h : Hp) (J : JD) (X : XD) : gD Try.f78 78 18 15 c (pt t 105 (.int k n)) l h J X = J (.int .u64 (F.wrapI .u64 n)) ⟨[], [], false, false, false, false⟩ l h :=
 genD_cv (C := Cg) (gl := Cg.glob 78) (call := c) (o := opA Try.f78 18 15) (d := 106) (x := 105) (s := 86) (t := 80) (by kernel_rfl) (by kernel_rfl) U86 U80 (by rw [gt_pt, if_pos rfl])
structure Norm (b : List Nat) (up : Nat) (Lb : List Nat) : Prop where
 len : Lb.length = b.length + 1
 dg : Dg B Lb
 v : vl B (Lb.take b.length) = vl B b * 2 ^ up
 top : 0 < Lb.getD (b.length - 1) 0
 lead : Lb.getD (b.length - 1) 0 * B ^ (b.length - 1) ≤ vl B b * 2 ^ up
 high : 2147483648 * B ^ (b.length - 1) ≤ vl B b * 2 ^ up
theorem norm_of {b Lb : List Nat} {up : Nat} (hb : b ≠ []) (db : Dg B b) (hu : up < 32) (h1 : 2147483648 ≤ b.getD (b.length - 1) 0 * 2 ^ up) (h2 : b.getD (b.length - 1) 0 * 2 ^ up < 4294967296)
  (hl : Lb.length = b.length + 1) (dL : Dg B Lb) (hv : vl B Lb = vl B b * 2 ^ up) : Norm b up Lb := by
 have hp : 0 < b.length := List.length_pos_iff.2 hb
 have hB : 0 < B := by decide
 have hu0 := Nat.two_pow_pos up
 have eb := vl_at B b (b.length - 1) (by omega)
 rw [List.drop_eq_nil_of_le (show b.length ≤ b.length - 1 + 1 by omega)] at eb
 simp only [vl, Nat.mul_zero, Nat.add_zero] at eb
 have t1 : vl B (b.take (b.length - 1)) < B ^ (b.length - 1) := vl_lt_of hB (db.take _) (by simp)
 have hpow : B ^ b.length = B ^ (b.length - 1) * B := by rw [← Nat.pow_succ]; congr 1; omega
 generalize hx : b.getD (b.length - 1) 0 = x at *
 generalize hP : B ^ (b.length - 1) = p at *
 have hx1 : (x + 1) * 2 ^ up ≤ 4294967296 := by
  have e5 : (4294967296 : Nat) = 2 ^ (32 - up) * 2 ^ up := by rw [← Nat.pow_add, Nat.sub_add_cancel (by omega)]
  rw [e5] at h2 ⊢
  exact Nat.mul_le_mul_right _ (Nat.lt_of_mul_lt_mul_right h2)
 have hlt : vl B b * 2 ^ up < B ^ b.length := by
  rw [hpow]
  have h3 : vl B b < p * (x + 1) := by rw [eb, Nat.mul_add, Nat.mul_one]; omega
  have h4 : vl B b * 2 ^ up < p * (x + 1) * 2 ^ up := Nat.mul_lt_mul_of_pos_right h3 hu0
  rw [Nat.mul_assoc] at h4
  exact Nat.lt_of_lt_of_le h4 (Nat.mul_le_mul_left _ hx1)
 have hvt : vl B (Lb.take b.length) = vl B b * 2 ^ up := by
  rw [← vl_mod B hB Lb dL, hv, Nat.mod_eq_of_lt hlt]
 have hhigh : 2147483648 * p ≤ vl B b * 2 ^ up := by
  have h3 : p * x ≤ vl B b := by rw [eb]; omega
  have h4 : p * x * 2 ^ up ≤ vl B b * 2 ^ up := Nat.mul_le_mul_right _ h3
  have h5 : p * 2147483648 ≤ p * (x * 2 ^ up) := Nat.mul_le_mul_left _ h1
  rw [Nat.mul_assoc] at h4
  rw [Nat.mul_comm]
  omega
 have el := vl_at B (Lb.take b.length) (b.length - 1) (by simp; omega)
 have et : (Lb.take b.length).getD (b.length - 1) 0 = Lb.getD (b.length - 1) 0 := getD_take _ _ _ (by omega)
 rw [List.drop_eq_nil_of_le (show (Lb.take b.length).length ≤ b.length - 1 + 1 by simp; omega), et, hvt, hP] at el
 simp only [vl, Nat.mul_zero, Nat.add_zero] at el
 have t2 : vl B ((Lb.take b.length).take (b.length - 1)) < p := by rw [← hP]; exact vl_lt_of hB ((dL.take _).take _) (by simp; omega)
 have hp0 : 0 < p := by rw [← hP]; exact Nat.pow_pos hB
 refine ⟨hl, dL, hvt, ?_, ?_, by rw [hP]; exact hhigh⟩
 ·rcases Nat.eq_zero_or_pos (Lb.getD (b.length - 1) 0) with e | e
  ·rw [e, Nat.mul_zero, Nat.add_zero] at el; omega
  ·exact e
 ·rw [hP, el, Nat.mul_comm]; omega
theorem guess_ok {rv bv bt two p : Nat} (hbt : 0 < bt) (hp : rv < (two + 1) * p) (hl : bt * p ≤ bv) (hB : rv < bv * B) : rv < bv * (min (two / bt) 4294967295 + 1) := by
 rcases Nat.lt_or_ge (two / bt) 4294967295 with h | h
 ·rw [Nat.min_eq_left (by omega)]
  have h1 : two + 1 ≤ bt * (two / bt + 1) := by
   have := Nat.lt_mul_div_succ two hbt
   omega
  calc rv < (two + 1) * p := hp
   _ ≤ bt * (two / bt + 1) * p := Nat.mul_le_mul_right _ h1
   _ = bt * p * (two / bt + 1) := by rw [Nat.mul_assoc, Nat.mul_comm (two / bt + 1), ← Nat.mul_assoc]
   _ ≤ bv * (two / bt + 1) := Nat.mul_le_mul_right _ hl
 ·rw [Nat.min_eq_right h]; exact hB
structure Div (a' bv lb la i : Nat) (L O : List Nat) : Prop where
 len : L.length = la + 1
 olen : O.length = la
 dg : Dg B L
 odg : Dg B O
 eq : vl B L + bv * vl B O = a'
 low : vl B (L.drop i) < bv
 zero : ∀ j, j < i → O.getD j 0 = 0
theorem div_start {a L : List Nat} {up lb bv : Nat} (da : Dg B a) (hl : L.length = a.length + 1) (dL : Dg B L) (hv : vl B L = vl B a * 2 ^ up) (hu : up < 32) (hlb : 0 < lb) (hla : lb ≤ a.length) (hh : 2147483648 * B ^ (lb - 1) ≤ bv) :
  Div (vl B a * 2 ^ up) bv lb a.length (a.length - lb + 1) L (List.replicate a.length 0) := by
 refine ⟨hl, by simp, dL, dg_rep0 _, by rw [vl_rep0, hv]; simp, ?_, fun j _ => getD_rep0 _ j⟩
 have hB : 0 < B := by decide
 rw [← vl_div B hB L dL, hv, Nat.div_lt_iff_lt_mul (Nat.pow_pos hB)]
 have h1 : vl B a < B ^ a.length := vl_lt_of hB da (Nat.le_refl _)
 have h2 : (2 : Nat) ^ up ≤ 2147483648 := Nat.pow_le_pow_right (n := 2) (by decide) (show up ≤ 31 by omega)
 have h3 : B ^ a.length = B ^ (lb - 1) * B ^ (a.length - lb + 1) := by rw [← Nat.pow_add]; congr 1; omega
 calc vl B a * 2 ^ up < B ^ a.length * 2 ^ up := Nat.mul_lt_mul_of_pos_right h1 (Nat.two_pow_pos up)
  _ ≤ B ^ a.length * 2147483648 := Nat.mul_le_mul_left _ h2
  _ = 2147483648 * B ^ (lb - 1) * B ^ (a.length - lb + 1) := by rw [h3, Nat.mul_comm, Nat.mul_assoc]
  _ ≤ bv * B ^ (a.length - lb + 1) := Nat.mul_le_mul_right _ hh
theorem Div.rest {a' bv lb la i : Nat} {L O : List Nat} (D : Div a' bv lb la (i + 1) L O) (hb : bv < B ^ lb) (hi : i + lb ≤ la) : vl B (L.drop (i + lb + 1)) = 0 := by
 have h1 := D.low
 have h2 := vl_split B (L.drop (i + 1)) lb
 have hl := D.len
 rw [Nat.min_eq_left (show lb ≤ (L.drop (i + 1)).length by simp; omega), List.drop_drop, show i + 1 + lb = i + lb + 1 by omega] at h2
 rcases Nat.eq_zero_or_pos (vl B (L.drop (i + lb + 1))) with e | e
 ·exact e
 ·exfalso
  have : B ^ lb * 1 ≤ B ^ lb * vl B (L.drop (i + lb + 1)) := Nat.mul_le_mul_left _ e
  omega
theorem Div.part {a' bv lb la i : Nat} {L O : List Nat} (D : Div a' bv lb la (i + 1) L O) (hb : bv < B ^ lb) (hi : i + lb ≤ la) : vl B ((L.drop i).take (lb + 1)) = vl B (L.drop i) := by
 have h2 := vl_split B (L.drop i) (lb + 1)
 rw [List.drop_drop, show i + (lb + 1) = i + lb + 1 by omega, D.rest hb hi] at h2
 omega
theorem Div.lt {a' bv lb la i : Nat} {L O : List Nat} (D : Div a' bv lb la (i + 1) L O) (hi : i + lb ≤ la) : vl B (L.drop i) < bv * B := by
 have hl := D.len
 rw [vl_drop_cons B L i (by omega)]
 have h1 := D.low
 have h2 : L.getD i 0 < B := D.dg.get (by decide) i
 have h3 : B * (vl B (L.drop (i + 1)) + 1) ≤ B * bv := Nat.mul_le_mul_left _ h1
 rw [Nat.mul_add, Nat.mul_one] at h3
 rw [Nat.mul_comm bv]
 omega
theorem Div.two {a' bv lb la i : Nat} {L O : List Nat} (D : Div a' bv lb la (i + 1) L O) (hb : bv < B ^ lb) (hi : i + lb ≤ la) (hlb : 0 < lb) : vl B (L.drop i) < (L.getD (i + lb) 0 * 4294967296 + L.getD (i + (lb - 1)) 0 + 1) * B ^ (lb - 1) := by
 have hl := D.len
 have h2 := vl_split B (L.drop i) (lb - 1)
 rw [Nat.min_eq_left (show lb - 1 ≤ (L.drop i).length by simp; omega), List.drop_drop, vl_drop_cons B L (i + (lb - 1)) (by omega), show i + (lb - 1) + 1 = i + lb by omega, vl_drop_cons B L (i + lb) (by omega), D.rest hb hi, Nat.mul_zero, Nat.add_zero] at h2
 have h3 : vl B ((L.drop i).take (lb - 1)) < B ^ (lb - 1) := vl_lt_of (by decide) ((D.dg.drop i).take _) (by simp; omega)
 rw [h2, Nat.mul_comm _ (B ^ (lb - 1)), Nat.mul_add (B ^ (lb - 1)) _ 1, Nat.mul_one, show L.getD (i + lb) 0 * 4294967296 + L.getD (i + (lb - 1)) 0 = L.getD (i + (lb - 1)) 0 + B * L.getD (i + lb) 0 by rw [Nat.mul_comm, Nat.add_comm]]
 omega
theorem Div.next {a' bv lb la i q : Nat} {L O c : List Nat} (D : Div a' bv lb la (i + 1) L O) (hb : bv < B ^ lb) (hi : i + lb ≤ la) (hlb : 0 < lb) (hc : c.length = lb + 1) (dc : Dg B c) (hv : vl B c + bv * q = vl B (L.drop i)) (hlt : vl B c < bv) (hq : q < B) :
  Div a' bv lb la i (put L i c) (O.set i q) := by
 have hl := D.len
 have ho := D.olen
 have e1 : vl B ((put L i c).drop i) = vl B c := by
  unfold put
  rw [List.append_assoc, List.drop_append, List.length_take, Nat.min_eq_left (by omega), List.drop_eq_nil_of_le (by simp; omega), List.nil_append, Nat.sub_self, List.drop_zero, vl_append, hc, show i + (lb + 1) = i + lb + 1 by omega, D.rest hb hi, Nat.mul_zero, Nat.add_zero]
 have e2 : (put L i c).take i = L.take i := by
  unfold put
  rw [List.append_assoc, List.take_append_of_le_length (by simp; omega), List.take_take, Nat.min_self]
 have hpl : (put L i c).length = L.length := put_length (by omega)
 refine ⟨hpl.trans hl, by simp [ho], ?_, D.odg.set _ hq, ?_, by rw [e1]; exact hlt, fun j hj => by rw [getD_set_ne _ _ _ _ (by omega)]; exact D.zero j (by omega)⟩
 ·intro x hx
  unfold put at hx
  rcases List.mem_append.1 hx with h1 | h1
  ·rcases List.mem_append.1 h1 with h2 | h2
   ·exact D.dg.take i x h2
   ·exact dc x h2
  ·exact D.dg.drop _ x h1
 ·have s1 := vl_split B (put L i c) i
  have s2 := vl_split B L i
  rw [e1, e2, hpl] at s1
  rw [Nat.min_eq_left (by omega)] at s1 s2
  have s3 := vl_set B O i q (by omega)
  rw [D.zero i (by omega), Nat.mul_zero, Nat.add_zero] at s3
  have s4 := D.eq
  rw [s1, s3, Nat.mul_add]
  rw [s2, ← hv] at s4
  rw [Nat.mul_add] at s4
  have s5 : bv * (B ^ i * q) = B ^ i * (bv * q) := by rw [← Nat.mul_assoc, ← Nat.mul_assoc, Nat.mul_comm bv]
  omega
theorem div_end {va vb up lb la : Nat} {L O : List Nat} (D : Div (va * 2 ^ up) (vb * 2 ^ up) lb la 0 L O) : vl B O * vb + vl B L / 2 ^ up = va ∧ vl B L / 2 ^ up < vb := by
 have h1 := D.eq
 have h2 := D.low
 have hp := Nat.two_pow_pos up
 rw [List.drop_zero] at h2
 have h3 : vl B L / 2 ^ up < vb := by rw [Nat.div_lt_iff_lt_mul hp]; exact h2
 refine ⟨?_, h3⟩
 have h4 : vl B L / 2 ^ up + vb * vl B O = va := by
  have e : vl B L + vb * vl B O * 2 ^ up = va * 2 ^ up := by rw [← h1, Nat.mul_assoc vb, Nat.mul_comm (vl B O), ← Nat.mul_assoc]
  have e2 : (vl B L + vb * vl B O * 2 ^ up) / 2 ^ up = va := by rw [e, Nat.mul_div_cancel _ hp]
  rwa [Nat.add_mul_div_right _ _ hp] at e2
 rw [Nat.mul_comm]; omega
end Go.AM.S
end
section
namespace Go.AM.S
open Go Go.AM Go.Proofs NumL
open _root_.Go.AM.G (R)
set_option maxRecDepth 100000
theorem tbl78 : tbl 78 = some ⟨rc78, [.tmp 4, .tmp 5]⟩ := by kernel_rfl
theorem fin_arr_two {h : Hp} {a b d g n : Nat} {li : Option Nat} {k : IntKind} {l : List Nat} {s : St} {w : V} (hv : gt s.tm a = .arr (.loc d g) 0 n li 1 false) (hn : n = l.length) (hr : lg s.loc d = (g, .cells false (nl k l))) (hw : gt s.tm b = w) (pw : Ex1 w) (rw' : w.noRefs = true) (hd : DG h.rows.length s.hp) :
  fin Pg h [.tmp a, .tmp b] s = some (.val (.tuple [.slice none false 1 (nl k l), w]) h) := by
 subst hn
 unfold fin
 have e1 : resV Pg s [.tmp a, .tmp b] = some [.arr (.loc d g) 0 l.length li 1 false, w] := by simp only [resV, rho_gt, hv, hw, Option.map_some]
 rw [e1]
 have e2 : exps false s [.arr (.loc d g) 0 l.length li 1 false, w] = some ([.slice none false 1 (nl k l), w], ⟨s.tm, lp s.loc d (g, .cells true (nl k l)), s.hp⟩) := by
  rw [show ∀ (st : St) (v : V) (r : List V), exps false st (v :: r) = (match exp false st v with
   | none => none
   | some (v', st') => match exps false st' r with
    | none => none
    | some (l', st'') => some (v' :: l', st'')) from fun _ _ _ => rfl]
  have hx := exp_arr (tm := s.tm) (hp := s.hp) (li := li) hr
  have hx' : exp false s (.arr (.loc d g) 0 l.length li 1 false) = some (.slice none false 1 (nl k l), ⟨s.tm, lp s.loc d (g, .cells true (nl k l)), s.hp⟩) := hx
  rw [hx']
  simp only [exps_ex [w] _ ⟨pw, trivial⟩]
 simp only [e2]
 show some (Out.val (.tuple [.slice none false 1 (nl k l), w]) (backHp h s.hp [.slice none false 1 (nl k l), w])) = _
 unfold backHp
 rw [clean_dg hd]
 simp only [V.noRefsL, V.noRefs, rw', Bool.and_self, cond_true, Option.isNone_none]
theorem short_bound {n x b : Nat} (hn : n < b) (hb : b ≤ 4294967296) (hx : x < 4294967296) : (n * 4294967296 + x) / b < 4294967296 := by
 rw [Nat.div_lt_iff_lt_mul (by omega)]
 have := Nat.mul_le_mul_right 4294967296 (show n + 1 ≤ b by omega)
 rw [Nat.mul_comm 4294967296]
 omega
structure I78 (va : V) (a b Lb : List Nat) (up N : Nat) (s : St) (m : Nat) (L O : List Nat) : Prop where
 h0 : gt s.tm 0 = va
 h1 : gt s.tm 1 = .arr (.glob N) 0 b.length (some (b.length + 1)) 1 false
 h9 : gt s.tm 9 = .int .u64 (.ofNat up)
 h10 : gt s.tm 10 = .arr (.glob (N + 1)) 0 (a.length + 1) (some (a.length + 1)) 1 false
 h11 : gt s.tm 11 = .arr (.loc 78 1) 0 a.length (some a.length) 1 false
 h12 : gt s.tm 12 = .int .i64 (.ofNat (b.length - 1))
 row : lg s.loc 78 = (1, .cells false (nl .u32 O))
 rb : s.hp.rows[N]? = some (.cells false (nl .u32 Lb))
 rl : s.hp.rows[N + 1]? = some (.cells false (nl .u32 L))
 dg : DG N s.hp
 D : Div (vl B a * 2 ^ up) (vl B b * 2 ^ up) b.length a.length m L O
def Quot (a b : List Nat) (r : V) : Prop := ∃ s t d e, r = .tuple [s, t] ∧ Sl .u32 s d ∧ Sl .u32 t e ∧ Dg B d ∧ Dg B e ∧ Cn e ∧ vl B d * vl B b + vl B e = vl B a ∧ vl B e < vl B b ∧ d.length = a.length
theorem divided_spec {va vb : V} {a b : List Nat} (ha : Sl .u32 va a) (hb : Sl .u32 vb b) (da : Dg B a) (db : Dg B b) (cb : Cn b) (hne : b ≠ []) (hle : b.length ≤ a.length) (la : a.length ≤ 400000) : Gives 78 [va, vb] (Quot a b) := by
 have hb0 : 0 < b.length := List.length_pos_iff.2 hne
 have htop : b.getD (b.length - 1) 0 ≠ 0 := cb _ (by omega)
 refine gives_of tbl78 fun h Q hQ => ?_
 unfold rc78
 refine sR ?_
 by_cases h1 : b.length = 1
 ·have hbb : b = [b.getD 0 0] := by
   obtain ⟨x, rfl⟩ := List.length_eq_one_iff.1 h1
   rfl
  have hvb : vl B b = b.getD 0 0 := by rw [hbb, vl_one]; rfl
  have hx0 : b.getD 0 0 ≠ 0 := by rw [h1] at htop; exact htop
  have hxB : b.getD 0 0 < 4294967296 := db.get (by decide) 0
  refine ww_seq (ww_seq (ww_reg (fun n k => by simp -implicitDefEqProofs (disch := omega) only [go_sem, reduceIte, Nat.reduceEqDiff, gt_start, List.getD_cons_zero, List.getD_cons_succ, len_sl hb, h1, d_true]; rfl) ?_))
  refine ww_true sS ?_
  refine ww_seq (ww_reg (fun n k => by simp -implicitDefEqProofs (disch := omega) only [go_sem, reduceIte, Nat.reduceEqDiff, gt_start, List.getD_cons_zero, List.getD_cons_succ, len_sl ha]; rfl) ?_)
  refine ww_seq (ww_seq (ww_reg (fun n k => by simp -implicitDefEqProofs (disch := omega) only [go_sem, reduceIte, Nat.reduceEqDiff, gt_start, List.getD_cons_zero, List.getD_cons_succ, len_sl ha, i_dec]; rfl) ?_))
  refine ww_for (fun m s => ∃ z O, m ≤ a.length ∧ gt s.tm 8 = .int .i64 (dn m) ∧ gt s.tm 7 = .int .u64 (.ofNat z) ∧ z < b.getD 0 0 ∧ gt s.tm 0 = va ∧ gt s.tm 1 = vb ∧ gt s.tm 6 = .arr (.loc 21 1) 0 a.length (some a.length) 1 false ∧ lg s.loc 21 = (1, .cells false (nl .u32 O)) ∧ O.length = a.length ∧ Dg B O ∧ vl B (a.drop m) = b.getD 0 0 * vl B (O.drop m) + z ∧ s.hp = ⟨h.rows, none, h.mods⟩) a.length ⟨0, List.replicate a.length 0, Nat.le_refl _, sS, sS, by omega, sSG, sSG, sS, sS, by simp, dg_rep0 _, by rw [List.drop_length, List.drop_eq_nil_of_le (by simp)]; rfl, rfl⟩ ?_
  intro m s ⟨z, O, hm, h8, h7, hz, g0, g1, h6, hrow, hO, dO, hv, hhp⟩
  cases m with
  | zero =>
   refine ww_seq (ww_seq (ww_reg (fun n k => by simp -implicitDefEqProofs (disch := omega) only [go_sem, reduceIte, Nat.reduceEqDiff, h8, dn]; rfl) ?_))
   refine ww_false sS (ww_exit ?_)
   rw [if_pos rfl]
   obtain ⟨r, hr, e, ⟨⟨s2, rfl, hs2⟩, de, ce, he0⟩, ht⟩ := made_spec (va := .slice none false 1 (nl .u32 [z])) (a := [z]) (.inl ⟨false, rfl⟩) (fun x hx => by rw [List.mem_singleton.1 hx]; exact Nat.lt_trans hz hxB) (by simp) false ⟨h.rows, none, h.mods⟩
   have hl56 : lg (lp s.loc 56 ((lg s.loc 56).1 + 1, .cells false (nl .u32 [z]))) 56 = ((lg s.loc 56).1 + 1, .cells false (nl .u32 [z])) := by rw [lg_lp, if_pos rfl]
   refine ww_seq (ww_call (hr) (fun n hn k => by simp -implicitDefEqProofs (disch := omega) only [go_sem, reduceIte, Nat.reduceEqDiff, h7, h6, hhp, cl_arr2 (show 1 = [z].length from rfl) hl56 hn (Ex1.bool _), fld26]; rfl) ?_)
   refine ww_ret (hQ _ _ (fin_arr_two (d := 21) (li := some a.length) (g := 1) (k := .u32) (l := O) sS hO.symm (sS1 hrow) sS hs2.ex hs2.noRefs (fun x hx => by cases hx)) ⟨_, _, O, e, rfl, .inl ⟨false, rfl⟩, hs2, dO, de, ce, ?_, ?_, hO⟩)
   ·rw [ht.vl, vl_one, hvb, Nat.mul_comm]
    simpa using hv.symm
   ·rw [ht.vl, vl_one, hvb]; exact hz
  | succ i =>
   have h8' : gt s.tm 8 = .int .i64 (.ofNat i) := h8
   have hx : a.getD i 0 < 4294967296 := da.get (by decide) i
   have hq := short_bound hz (Nat.le_of_lt hxB) hx
   refine ww_seq (ww_seq (ww_reg (fun n k => by simp -implicitDefEqProofs (disch := omega) only [go_sem, reduceIte, Nat.reduceEqDiff, h8', d_true]; rfl) ?_))
   refine ww_true sS (ww_skip ?_)
   refine ww_seq (ww_block ?_)
   refine ww_seq (ww_reg (fun n k => by simp -implicitDefEqProofs (disch := omega) only [go_sem, reduceIte, Nat.reduceEqDiff, h7, g0, h8', ia24 ha, Nat.reducePow, or_shl]; rfl) ?_)
   refine ww_seq (ww_reg (fun n k => by simp -implicitDefEqProofs (disch := omega) only [go_sem, reduceIte, Nat.reduceEqDiff, g1, ia24 hb, h6, h8', hrow]; rfl) ?_)
   refine ww_reg (fun n k => by simp -implicitDefEqProofs (disch := omega) only [go_sem, reduceIte, Nat.reduceEqDiff, g1, ia24 hb]; rfl) ?_
   refine ww_reg (fun n k => by simp -implicitDefEqProofs (disch := omega) only [go_sem, reduceIte, Nat.reduceEqDiff, h8', i_dec]; rfl) ?_
   refine ⟨i, by omega, (z * 4294967296 + a.getD i 0) % b.getD 0 0, O.set i ((z * 4294967296 + a.getD i 0) / b.getD 0 0), by omega, sS, sS, Nat.mod_lt _ (by omega), (sS1 g0), (sS1 g1), (sS1 h6), sS, by simpa using hO, dO.set _ hq, ?_, hhp⟩
   rw [vl_drop_cons B a i (by omega), vl_drop_cons B _ i (by rw [List.length_set]; omega), hv, getD_set_eq _ _ _ (by omega), drop_set_ge]
   have := Nat.div_add_mod (z * 4294967296 + a.getD i 0) (b.getD 0 0)
   rw [Nat.mul_add, Nat.mul_add]
   have e1 : B * (b.getD 0 0 * vl B (O.drop (i + 1))) = b.getD 0 0 * (B * vl B (O.drop (i + 1))) := by rw [← Nat.mul_assoc, ← Nat.mul_assoc, Nat.mul_comm B]
   have e2 : B * z = z * 4294967296 := Nat.mul_comm _ _
   omega
 ·have hxB : b.getD (b.length - 1) 0 < 4294967296 := db.get (by decide) _
  obtain ⟨_, hlz, up, rfl, hup, hlo, hhi⟩ := lz32_spec hxB (Nat.pos_of_ne_zero htop) ⟨h.rows, none, h.mods⟩
  refine ww_seq (ww_seq (ww_reg (fun n k => by simp -implicitDefEqProofs (disch := omega) only [go_sem, reduceIte, Nat.reduceEqDiff, gt_start, List.getD_cons_zero, List.getD_cons_succ, len_sl hb, d_false]; rfl) ?_))
  refine ww_false sS (ww_skip ?_)
  refine ww_seq (ww_call (hlz) (fun n hn k => by simp -implicitDefEqProofs (disch := omega) only [go_sem, reduceIte, Nat.reduceEqDiff, gt_start, List.getD_cons_zero, List.getD_cons_succ, len_sl hb, ia24 hb, clc1 hn (Ex1.int _ _), wrap_u64]; rfl) ?_)
  obtain ⟨k1, Lb, hs1, lLb, dLb, vLb, rl1, rr1, rs1, rd1⟩ := shifted_runs hb db (by omega) (show up ≤ 32 by omega) ⟨h.rows, none, h.mods⟩
  have hN := norm_of hne db hup hlo hhi lLb dLb vLb
  refine ww_seq (ww_call (hs1) (fun n hn k => by simp -implicitDefEqProofs (disch := omega) only [go_sem, reduceIte, Nat.reduceEqDiff, gt_start, List.getD_cons_zero, List.getD_cons_succ, len_sl hb, clc2 hn hb.ex (Ex1.int _ _), slc_pre E24 L86]; rfl) ?_)
  obtain ⟨k2, L0, hs2, lL0, dL0, vL0, rl2, rr2, rs2, rd2⟩ := shifted_runs ha da (by omega) (show up ≤ 32 by omega) k1
  refine ww_seq (ww_call (hs2) (fun n hn k => by simp -implicitDefEqProofs (disch := omega) only [go_sem, reduceIte, Nat.reduceEqDiff, gt_start, List.getD_cons_zero, List.getD_cons_succ, clc2 hn ha.ex (Ex1.int _ _)]; rfl) ?_)
  refine ww_seq (ww_reg (fun n k => by simp -implicitDefEqProofs (disch := omega) only [go_sem, reduceIte, Nat.reduceEqDiff, gt_start, List.getD_cons_zero, List.getD_cons_succ, len_sl ha]; rfl) ?_)
  refine ww_seq (ww_reg (fun n k => by simp -implicitDefEqProofs (disch := omega) only [go_sem, reduceIte, Nat.reduceEqDiff, gt_start, List.getD_cons_zero, List.getD_cons_succ, len_arr]; rfl) ?_)
  refine ww_seq (ww_seq (ww_reg (fun n k => by simp -implicitDefEqProofs (disch := omega) only [go_sem, reduceIte, Nat.reduceEqDiff, gt_start, List.getD_cons_zero, List.getD_cons_succ, len_sl ha, len_arr]; rfl) ?_))
  rw [rl1] at rl2 rr2 rs2
  have rl1' : k1.rows.length = h.rows.length + 1 := rl1
  have hlB : vl B b * 2 ^ up < B ^ b.length := by rw [← hN.v]; exact vl_lt_of (by decide) (dLb.take _) (by simp; omega)
  have hDG : DG h.rows.length k2 := by intro x hx; rw [rd2, rd1] at hx; cases hx
  have hst := div_start da lL0 dL0 vL0 hup hb0 hle hN.high
  refine ww_for (fun m s => ∃ L O, m ≤ a.length - b.length + 1 ∧ gt s.tm 13 = .int .i64 (dn m) ∧ I78 va a b Lb up h.rows.length s m L O) (a.length - b.length + 1) ⟨L0, List.replicate a.length 0, Nat.le_refl _, (by simp -implicitDefEqProofs (disch := omega) only [go_sem, reduceIte, Nat.reduceEqDiff, dn]), ⟨sSG, sS, sS, (sS1 rl1'), sS, sS, sS, by rw [rs2 _ (Nat.lt_succ_self _)]; exact rr1, rr2, hDG, hst⟩⟩ ?_
  intro m s ⟨L, O, hm, h13, H⟩
  have H' := H
  obtain ⟨g0, g1, g9, g10, g11, g12, row, rb, rl, dg, D⟩ := H'
  have hLl := D.len
  have hOl := D.olen
  cases m with
  | zero =>
   refine ww_seq (ww_seq (ww_reg (fun n k => by simp -implicitDefEqProofs (disch := omega) only [go_sem, reduceIte, Nat.reduceEqDiff, h13, dn]; rfl) ?_))
   refine ww_false sS (ww_exit ?_)
   rw [if_pos rfl]
   obtain ⟨de1, de2⟩ := div_end (va := vl B a) (vb := vl B b) (up := up) (lb := b.length) (la := a.length) D
   obtain ⟨w, e, hbk, hse, dde, vee, lee⟩ := back_runs (c := a.length + 1) rl D.dg (by omega) hup
   rw [hLl] at hbk
   obtain ⟨r, hr, f, ⟨⟨s2, rfl, hs2⟩, df, cf, hf0⟩, ht⟩ := made_spec hse dde (by omega) false s.hp
   refine ww_seq (ww_call (hbk.and hr) (fun n hn k => by simp -implicitDefEqProofs (disch := omega) only [go_sem, reduceIte, Nat.reduceEqDiff, g9, g10, g11, clc2 hn.1 (Ex1.glob _ _ _ _ _ _) (Ex1.int _ _), clc2 hn.2 hse.ex (Ex1.bool _), fld26]; rfl) ?_)
   refine ww_ret (hQ _ _ (fin_arr_two (d := 78) (li := some a.length) (g := 1) (k := .u32) (l := O) sS hOl.symm (by simp -implicitDefEqProofs (disch := omega) only [go_sem, reduceIte, Nat.reduceEqDiff, row]) sS hs2.ex hs2.noRefs dg) ⟨_, _, O, f, rfl, .inl ⟨false, rfl⟩, hs2, D.odg, df, cf, ?_, ?_, hOl⟩)
   ·rw [ht.vl, vee]; exact de1
   ·rw [ht.vl, vee]; exact de2
  | succ i =>
   have h13' : gt s.tm 13 = .int .i64 (.ofNat i) := h13
   have hi : i + b.length ≤ a.length := by omega
   have e1 : i + (b.length - 1) + 1 = i + b.length := by omega
   have e2 : i + (b.length - 1) + 2 - i = b.length + 1 := by omega
   have x1 : L.getD (i + b.length) 0 < 4294967296 := D.dg.get (by decide) _
   have x2 : L.getD (i + (b.length - 1)) 0 < 4294967296 := D.dg.get (by decide) _
   have x3 : Lb.getD (b.length - 1) 0 < 4294967296 := dLb.get (by decide) _
   have x4 := hN.top
   refine ww_seq (ww_seq (ww_reg (fun n k => by simp -implicitDefEqProofs (disch := omega) only [go_sem, reduceIte, Nat.reduceEqDiff, h13', d_true]; rfl) ?_))
   refine ww_true sS (ww_skip ?_)
   refine ww_seq (ww_block ?_)
   refine ww_seq (ww_reg (fun n k => by simp -implicitDefEqProofs (disch := omega) only [go_sem, reduceIte, Nat.reduceEqDiff, h13', g10, g12, e1, nth_rows rl, ldg_nl L86, dv78_7, dv78_15, Nat.reducePow, or_shl]; exact finD_ok (by kernel_rfl)) ?_)
   have lLb' := hN.len
   have hw : F.wrapI .u64 (.ofNat ((L.getD (i + b.length) 0 * 4294967296 + L.getD (i + (b.length - 1)) 0) / Lb.getD (b.length - 1) 0)) = .ofNat ((L.getD (i + b.length) 0 * 4294967296 + L.getD (i + (b.length - 1)) 0) / Lb.getD (b.length - 1) 0) := wrap_u64 (Nat.lt_of_le_of_lt (Nat.div_le_self _ _) (by omega))
   refine ww_seq (ww_reg (fun n k => by simp -implicitDefEqProofs (disch := omega) only [go_sem, reduceIte, Nat.reduceEqDiff, g1, g12, nth_rows rb, ldg_nl L86, hw, mn_n]; rfl) ?_)
   have hlt := D.lt hi
   have hgs := guess_ok hN.top (D.two hlB hi hb0) hN.lead hlt
   refine ww_join (M := fun s1 => ∃ q c, gt s1.tm 15 = .int .u64 (.ofNat q) ∧ q < 4294967296 ∧ gt s1.tm 13 = .int .i64 (.ofNat i) ∧ gt s1.tm 0 = va ∧ gt s1.tm 1 = .arr (.glob h.rows.length) 0 b.length (some (b.length + 1)) 1 false ∧ gt s1.tm 9 = .int .u64 (.ofNat up) ∧ gt s1.tm 10 = .arr (.glob (h.rows.length + 1)) 0 (a.length + 1) (some (a.length + 1)) 1 false ∧ gt s1.tm 11 = .arr (.loc 78 1) 0 a.length (some a.length) 1 false ∧ gt s1.tm 12 = .int .i64 (.ofNat (b.length - 1)) ∧ lg s1.loc 78 = (1, .cells false (nl .u32 O)) ∧ s1.hp.rows[h.rows.length]? = some (.cells false (nl .u32 Lb)) ∧ s1.hp.rows[h.rows.length + 1]? = some (.cells false (nl .u32 (put L i c))) ∧ DG h.rows.length s1.hp ∧ Div (vl B a * 2 ^ up) (vl B b * 2 ^ up) b.length a.length i (put L i c) (O.set i q)) ?_ ?_
   ·refine ww_for (fun m s1 => gt s1.tm 15 = .int .u64 (.ofNat m) ∧ m < 4294967296 ∧ vl B (L.drop i) < vl B b * 2 ^ up * (m + 1) ∧ gt s1.tm 13 = .int .i64 (.ofNat i) ∧ I78 va a b Lb up h.rows.length s1 (i + 1) L O) _ ⟨sS, Nat.lt_of_le_of_lt (Nat.min_le_right _ _) (by decide), hgs, (sS1 h13'), ⟨(sS1 g0), (sS1 g1), (sS1 g9), (sS1 g10), (sS1 g11), (sS1 g12), (by simp -implicitDefEqProofs (disch := omega) only [go_sem, reduceIte, Nat.reduceEqDiff, row]), rb, rl, dg, D⟩⟩ ?_
    intro q s1 ⟨j15, hq, hrv, j13, ⟨i0, i1, i9, i10, i11, i12, irow, irb, irl, idg, _⟩⟩
    have hpt := D.part hlB hi
    obtain ⟨ok, hq', htk, tdg, tlen, tsame, tno, tyes⟩ := takes_runs (n := h.rows.length) (r0 := h.rows.length + 1) (r1 := h.rows.length) (i := i) (m := b.length + 1) (q := q) (lb := b.length) (li := some (a.length + 1 - i)) (lj := some (b.length + 1)) irl irb D.dg dLb (by omega) (by omega) (by omega) (by omega) hb0 (by omega) (by omega) hq idg (Nat.le_succ _)
    rw [hpt, hN.v] at tno tyes
    have hNr : h.rows.length < s1.hp.rows.length := by
     rcases Nat.lt_or_ge h.rows.length s1.hp.rows.length with h1 | h1
     ·exact h1
     ·rw [List.getElem?_eq_none h1] at irb; simp at irb
    cases ok with
    | true =>
     obtain ⟨c, lc, dc, vc, rc⟩ := tyes rfl
     refine ww_seq (ww_seq (ww_call (htk) (fun n hn k => by simp -implicitDefEqProofs (disch := omega) only [go_sem, reduceIte, Nat.reduceEqDiff, i1, i10, i12, j13, j15, e2, slc_cut E24 L86, clc3 hn (Ex1.glob _ _ _ _ _ _) (Ex1.glob _ _ _ _ _ _) (Ex1.int _ _)]; rfl) ?_))
     refine ww_false sS (ww_exit ?_)
     rw [if_pos rfl]
     refine ⟨q, c, (sS1 j15), hq, (sS1 j13), (sS1 i0), (sS1 i1), (sS1 i9), (sS1 i10), (sS1 i11), (sS1 i12), (by simp -implicitDefEqProofs (disch := omega) only [go_sem, reduceIte, Nat.reduceEqDiff, irow]), by rw [tsame _ hNr (by omega)]; exact irb, rc, tdg, D.next hlB hi hb0 lc dc vc ?_ hq⟩
     rw [Nat.mul_add, Nat.mul_one] at hrv
     omega
    | false =>
     obtain ⟨tlt, rfl⟩ := tno rfl
     have hq0 : 0 < q := by
      rcases Nat.eq_zero_or_pos q with e | e
      ·subst e; simp at tlt
      ·exact e
     refine ww_seq (ww_seq (ww_call (htk) (fun n hn k => by simp -implicitDefEqProofs (disch := omega) only [go_sem, reduceIte, Nat.reduceEqDiff, i1, i10, i12, j13, j15, e2, slc_cut E24 L86, clc3 hn (Ex1.glob _ _ _ _ _ _) (Ex1.glob _ _ _ _ _ _) (Ex1.int _ _)]; rfl) ?_))
     refine ww_true sS (ww_skip (ww_block ?_))
     refine ww_reg (fun n k => by simp -implicitDefEqProofs (disch := omega) only [go_sem, reduceIte, Nat.reduceEqDiff, j15, wrap_u64]; rfl) ?_
     exact ⟨q - 1, by omega, sS, by omega, by rw [Nat.sub_add_cancel hq0]; exact tlt, (sS1 j13), ⟨(sS1 i0), (sS1 i1), (sS1 i9), (sS1 i10), (sS1 i11), (sS1 i12), (by simp -implicitDefEqProofs (disch := omega) only [go_sem, reduceIte, Nat.reduceEqDiff, irow]), irb, irl, idg, D⟩⟩
   ·intro s1 ⟨q, c, j15, hq, j13, i0, i1, i9, i10, i11, i12, irow, irb, irl, idg, iD⟩
    refine ww_reg (fun n k => by simp -implicitDefEqProofs (disch := omega) only [go_sem, reduceIte, Nat.reduceEqDiff, j13, j15, i11, irow, wrap_u32]; rfl) ?_
    refine ww_reg (fun n k => by simp -implicitDefEqProofs (disch := omega) only [go_sem, reduceIte, Nat.reduceEqDiff, j13, i_dec]; rfl) ?_
    exact ⟨i, by omega, put L i c, O.set i q, by omega, sS, ⟨(sS1 i0), (sS1 i1), (sS1 i9), (sS1 i10), (sS1 i11), (sS1 i12), sS, irb, irl, idg, iD⟩⟩
end Go.AM.S
end
section
namespace Go.AM.S
open Go Go.AM Go.Proofs NumL
open _root_.Go.AM.G (R)
set_option maxRecDepth 100000
theorem tbl70 : tbl 70 = some ⟨rc70, [.cell 2 31]⟩ := by kernel_rfl
theorem mustR_spec {l : List Nat} (hd : Dg 256 l) (hl : l.length ≤ 1000) : Gives 70 [.str (sl l)] fun r => IsR 252 r (zOf l) := by
 refine gives_of tbl70 fun h Q hQ => ?_
 obtain ⟨_, hp, v, rfl, hI⟩ := parseR_spec hd hl ⟨h.rows, none, h.mods⟩
 obtain ⟨s, b, rfl, ps, es, qs⟩ := hI.form
 unfold rc70
 refine sR ?_
 refine ww_seq (ww_call (hp) (fun n hn k => by simp -implicitDefEqProofs (disch := omega) only [go_sem, reduceIte, Nat.reduceEqDiff, gt_start, List.getD_cons_zero, List.getD_cons_succ, clc1 hn (Ex1.str _), ext_tuple, stc_two N31 1 (.bool b) s (.bool false) .nils _ rfl ps.ok]; rfl) ?_)
 refine ww_seq (ww_reg (fun n k => by simp -implicitDefEqProofs (disch := omega) only [go_sem, reduceIte, Nat.reduceEqDiff, ldc_two L31, stc_two N31 1 (.bool b) s (.bool false) .nils _ rfl ps.ok]; rfl) ?_)
 exact ww_ret (hQ _ _ (fin_cell (x := .bool b) (y := s) (f := false) (d := 2) (g := 1) (by kernel_rfl) sS sS (Pl.bool _) ps rfl) hI)
end Go.AM.S
end
section
namespace Go.AM.S
open Go Go.AM Go.Proofs NumL
open _root_.Go.AM.G (R)
set_option maxRecDepth 100000
end Go.AM.S
end
section
namespace Go.AM.S
open Go Go.AM Go.Proofs NumL
open _root_.Go.AM.G (R)
set_option maxRecDepth 100000
section
variable {C : Cfg} {P : Program} {call : CallF} {gl : Nat → Bool} {o : Oper} {t' tm : Tm} {loc : Lo} {hp : Hp}
theorem genD_text {d x s0 g n : Nat} {li : Option Nat} {s t e : TypeId} {l : List Nat} {J : JD} {X : XD} (hd : o.dst = some d) (ho : o.op = .convert s t (.tmp x)) (h1 : P.underlying s = some (.slice e)) (h2 : P.underlying t = some .string) (h3 : P.underlying e = some (.int .u8))
  (hx : gt t' x = .arr (.loc s0 g) 0 n li 1 false) (hi : itemsOf ⟨t', loc, hp⟩ (.arr (.loc s0 g) 0 n li 1 false) = some (nl .u8 l)) (hl : Dg 256 l) :
  genD P C call gl o t' loc hp J X = J (.str (sl l)) ⟨[s0], [], false, false, false, false⟩ loc hp := by
 have hp1 : locV P C gl (⟨t', loc, hp⟩ : St).ρ (⟨t', loc, hp⟩ : St).lc o = none := by
  unfold locV
  simp only [ho, pureV, opd_gt, hx, convV, h1, h2]
  rfl
 have hf : footV P C gl (⟨t', loc, hp⟩ : St).ρ (⟨t', loc, hp⟩ : St).lc o = some ⟨[s0], [], false, false, false, false⟩ := by
  unfold footV
  rw [hp1]
  simp only [ho, opd_gt, hx]
  unfold convFoot
  rw [h2]
 have hs : stepV P C gl ⟨t', loc, hp⟩ o = some (.val (.str (sl l)) ⟨t', loc, hp⟩) := by
  unfold stepV
  rw [hp1]
  unfold stepG
  simp only [ho, hd, convS, h1, h2, h3, opd_gt, hx, hi, bytesOf_nl, Option.map_some, ofL_bytes hl]
 unfold genD
 rw [F.e_footV, F.e_oneV, F.e_rho, F.e_lcf, hf]
 show G.onSome (oneV P C call gl ⟨t', loc, hp⟩ o) _ none = _
 unfold oneV
 rw [hs]
 have e1 : F.settle hp hp ⟨[s0], [], false, false, false, false⟩ = ⟨[s0], [], false, false, false, false⟩ := by
  unfold F.settle
  rw [Nat.beq_refl, Nat.beq_refl]; rfl
 simp only [putV, hd]
 show J (gt (aset t' d (V.str (sl l))) d) (F.settle hp hp ⟨[s0], [], false, false, false, false⟩) loc hp = _
 rw [gt_eq, aget_aset, if_pos rfl, e1]
end
theorem dt24 {s0 g n : Nat} {li : Option Nat} {l : List Nat} {lo : Lo} {h : Hp} (hi : ∀ tm, itemsOf ⟨tm, lo, h⟩ (.arr (.loc s0 g) 0 n li 1 false) = some (nl .u8 l)) (hl : Dg 256 l) (c : CallF) (t : Tm) (J : JD) (X : XD) :
  gD Try.f24 24 12 2 c (pt t 58 (.arr (.loc s0 g) 0 n li 1 false)) lo h J X = J (.str (sl l)) ⟨[s0], [], false, false, false, false⟩ lo h :=
 genD_text (C := Cg) (gl := Cg.glob 24) (call := c) (o := opA Try.f24 12 2) (d := 59) (x := 58) (s := 51) (t := 9) (e := 5) (by kernel_rfl) (by kernel_rfl) U51 U9 U5 (by rw [gt_pt, if_pos rfl]) (hi _) hl
theorem tx24 {l : Lo} {h : Hp} {w : V} {d : List Nat} (hw : ∀ q, w ≠ .str q) (hi : ∀ tm, itemsOf ⟨tm, l, h⟩ w = some (nl .u8 d)) (hd : Dg 256 d) (c : CallF) (t : Tm) (j : V → Lo → Hp → R) : go1 Try.f24 24 11 1 52 w c t l h j = j (.str (sl d)) l h :=
 gen_text (C := Cg) (gl := Cg.glob 24) (call := c) (tm := t) (loc := l) (hp := h) (j := j) (x := 52) (o := opA Try.f24 11 1) (d := 53) (s := 51) (t := 9) (e := 5) (by kernel_rfl) (by kernel_rfl) U51 U9 U5 hw hi hd
end Go.AM.S
end
section
namespace Go.AM.S
open Go Go.AM Go.Proofs NumL
open _root_.Go.AM.G (R)
section
variable {P : Program} {C : Cfg} {call : CallF} {gl : Nat → Bool} {o : Oper} {loc : Lo} {hp : Hp}
theorem gen_growY {d d1 x y t e b : Nat} (h1 : d1 ≠ d) (hi : ApI P o d x y t) (hA : C.isArr t = true) (hg : gl d = false) (he : elemT P t = some e) (hl : layE P e = some (1, false)) (hb : byteE P e = some b) (hxy : x ≠ y)
    {k : IntKind} {l ys : List Nat} {v w : V} (hv : (l = [] ∧ v = .nils) ∨ (l ≠ [] ∧ ∃ g, v = .arr (.loc d1 g) 0 l.length (some l.length) 1 false ∧ lg loc d1 = (g, .cells false (nl k l)))) (hw : ∀ tm hp, itemsOf ⟨tm, loc, hp⟩ w = some (nl k ys)) (hys : ys ≠ []) (hn : (l.length + ys.length) * b ≤ 70368744177664) :
    ∃ v' loc', (∀ (call : CallF) (tm : Tm) (hp : Hp) (j : V → Lo → Hp → R), gen P C call gl o (pt (pt .lf x v) y w) tm loc hp j = j v' loc' hp) ∧ Ar loc' d v' k (l ++ ys) ∧ ∀ i, i ≠ d → i ≠ d1 → lg loc' i = lg loc i := by
  obtain ⟨hd, c, ho, hc, ha, hty, hni⟩ := hi
  have hx : gt (pt (pt .lf x v) y w) x = v := by rw [gt_pt, if_neg (Ne.symm hxy), gt_pt, if_pos rfl]
  have hy : gt (pt (pt .lf x v) y w) y = w := by rw [gt_pt, if_pos rfl]
  have hp1 : ∀ (tm : Tm) hp, locV P C gl (⟨tm, loc, hp⟩ : St).ρ (⟨tm, loc, hp⟩ : St).lc o = none := by
    intro tm hp
    unfold locV
    simp only [ho, pureV, hc, ha, Option.map_none]
  have hne : ∀ {q : Prop}, nl k ys = [] → q := fun h => absurd (by simpa [nl] using h) hys
  have hmb : ∀ n, n ≤ 70368744177664 → Nat.ble n maxBytes = true := fun n h => by rw [Nat.ble_eq]; exact h
  rcases hv with ⟨rfl, rfl⟩ | ⟨hl0, g, rfl, hrow⟩
  · refine ⟨.arr (.loc d ((lg loc d).1 + 1)) 0 ys.length none 1 false, lp loc d ((lg loc d).1 + 1, .cells false (nl k ys)), fun call tm hp j => gen_val (st := ⟨pt (pt .lf x .nils) y w, lp loc d ((lg loc d).1 + 1, .cells false (nl k ys)), hp⟩) hd ?_, .inr ⟨by simpa using hys, (lg loc d).1 + 1, by simp, by rw [lg_lp, if_pos rfl]; simp⟩, fun i hi _ => by rw [lg_lp, if_neg (Ne.symm hi)]⟩
    unfold stepV
    rw [hp1]
    unfold stepG
    simp only [ho, callS, hc, hty, hd, opds, ha, List.map_cons, List.map_nil, opd_gt, hx, hy, hni, cond_true, appendV, he, hl, hb, hw, fits_nl]
    split
    · rename_i h0; exact hne h0
    · rw [hmb _ (by simpa [nl_length] using hn)]
      simp only [cond_true, hA, growArr, hg, Bool.false_and, cond_false, addRow, lc_lg, aset_lp, flat_nl, nl_length]
  · have hrow' : ∀ tm hp, getRow ⟨tm, loc, hp⟩ (.loc d1 g) = some (.cells false (nl k l)) := fun tm hp => getRow_loc hrow
    refine ⟨.arr (.loc d ((lg loc d).1 + 1)) 0 (l ++ ys).length none 1 false, lp loc d ((lg loc d).1 + 1, .cells false (nl k (l ++ ys))), fun call tm hp j => gen_val (st := ⟨pt (pt .lf x (.arr (.loc d1 g) 0 l.length (some l.length) 1 false)) y w, lp loc d ((lg loc d).1 + 1, .cells false (nl k (l ++ ys))), hp⟩) hd ?_, .inr ⟨by simp [hl0], _, rfl, by rw [lg_lp, if_pos rfl]⟩, fun i hi hj => by rw [lg_lp, if_neg (Ne.symm hi)]⟩
    · unfold stepV
      rw [hp1]
      unfold stepG
      simp only [ho, callS, hc, hty, hd, opds, ha, List.map_cons, List.map_nil, opd_gt, hx, hy, hni, cond_true, appendV, he, hl, hb, hw, fits_nl, hrow', nl_length, Nat.beq_refl, beq_self_eq_true, Bool.and_self, Nat.zero_add, Nat.mul_one]
      rw [show Nat.ble l.length l.length = true from by rw [Nat.ble_eq]; exact Nat.le_refl _, hmb _ hn]
      simp only [Bool.and_self, cond_true]
      split
      · rename_i h0; exact hne h0
      · simp only [isLoc, Bool.not_true, Bool.false_and, cond_false]
        rw [show Nat.ble (l.length + ys.length) l.length = false from by
          cases hb : Nat.ble (l.length + ys.length) l.length with
          | false => rfl
          | true => rw [Nat.ble_eq] at hb; have : ys.length ≠ 0 := by simpa using hys
                    omega]
        simp only [cond_false, growArr, hg, Bool.false_and, setRow_loc, addRow, lc_lg, lg_lp, if_neg h1, aset_lp, flat_nl, nl_append, List.length_append, cond_true]
        rw [List.drop_zero, show List.take l.length (nl k l) = nl k l from by rw [← nl_length k l, List.take_length]]
end
end Go.AM.S
end
section
namespace Go.AM.S
open Go Go.AM Go.Proofs NumL
open _root_.Go.AM.G (R)
set_option maxRecDepth 100000
theorem fin_cells2 {h : Hp} {a t d g a2 t2 d2 g2 : Nat} {f f2 : Bool} {s : St} {x y x2 y2 : V} (hl : layE Pg t = some (2, true)) (hl2 : layE Pg t2 = some (2, true)) (hv : gt s.tm a = .ptr (.loc d g) 0) (hv2 : gt s.tm a2 = .ptr (.loc d2 g2) 0) (hr : lg s.loc d = (g, .cells f [x, y])) (hr2 : lg s.loc d2 = (g2, .cells f2 [x2, y2])) (hx : Pl x) (hy : Pl y) (hx2 : Pl x2) (hy2 : Pl y2) (hc : DG h.rows.length s.hp) :
  fin Pg h [.cell a t, .cell a2 t2] s = some (.val (.tuple [.agg [x, y], .agg [x2, y2]]) h) := by
 unfold fin
 have e1 : resV Pg s [.cell a t, .cell a2 t2] = some [.agg [x, y], .agg [x2, y2]] := by
  simp only [resV, rho_gt, hv, hv2, getRow_loc hr, getRow_loc hr2, partV, hl, hl2, Option.map_some]
  rfl
 rw [e1]
 have e2 := exps_ex [.agg [x, y], .agg [x2, y2]] s ⟨exp_agg (cs := [x, y]) (by intro v hv; simp at hv; rcases hv with rfl | rfl <;> assumption), exp_agg (cs := [x2, y2]) (by intro v hv; simp at hv; rcases hv with rfl | rfl <;> assumption), trivial⟩
 simp only [e2]
 unfold backHp
 rw [clean_dg hc]
 simp only [V.noRefsL, V.noRefs, hx.refs, hy.refs, hx2.refs, hy2.refs, Bool.and_self, cond_true]
theorem a24_10 {g : Nat} {loc : Lo} {w : V} {ys : List Nat} (hrow : lg loc 48 = (g, .cells false (nl .u8 [45]))) (hw : ∀ (tm : Tm) (hp : Hp), itemsOf ⟨tm, loc, hp⟩ w = some (nl .u8 ys)) (hys : ys ≠ []) (hn : ys.length ≤ 1000000) :
  ∃ v' loc', (∀ (c : CallF) (tm : Tm) (hp : Hp) (j : V → Lo → Hp → R), go2 Try.f24 24 10 2 48 49 (.arr (.loc 48 g) 0 1 (some 1) 1 false) w c tm loc hp j = j v' loc' hp) ∧ Ar loc' 50 v' .u8 (45 :: ys) ∧ ∀ i, i ≠ 50 → i ≠ 48 → lg loc' i = lg loc i :=
 gen_growY (k := .u8) (l := [45]) (d1 := 48) (C := Cg) (gl := Cg.glob 24) (by decide) i24_10_2 (by kernel_rfl) (by kernel_rfl) (e := 5) (by kernel_rfl) (by kernel_rfl) (b := 1) (by kernel_rfl) (by decide) (.inr ⟨by simp, g, rfl, hrow⟩) hw hys (by simp; omega)
end Go.AM.S
end
section
namespace Go.AM.S
open Go Go.AM Go.Proofs NumL
open _root_.Go.AM.G (R)
set_option maxRecDepth 100000
theorem tbl24 : tbl 24 = some ⟨rc24, [.cell 2 26, .cell 3 31]⟩ := by kernel_rfl
theorem of24_spec {l : List Nat} (hd : Dg 256 l) (hl : l.length ≤ 300) : Gives 24 [.str (sl l)] fun r => ∃ v w z, r = .tuple [v, w] ∧ IsI 1002 v z ∧ IsR 252 w z := by
 refine gives_of tbl24 fun h Q hQ => ?_
 unfold rc24
 refine sR ?_
 refine sR ?_
 refine ww_join (M := fun s => ∃ v4 out, gt s.tm 4 = v4 ∧ Ar s.loc 40 v4 .u8 out ∧ Dg 256 out ∧ out.length ≤ l.length ∧ gt s.tm 0 = .str (sl l) ∧ gt s.tm 2 = .ptr (.loc 2 1) 0 ∧ gt s.tm 3 = .ptr (.loc 3 1) 0 ∧ lg s.loc 2 = (1, .cells false [.nils, .bool false]) ∧ lg s.loc 3 = (1, .cells false [.bool false, .nils]) ∧ s.hp = ⟨h.rows, none, h.mods⟩) ?_ (fun s ⟨v4, out, a4, aar, adg, alen, a0, a2, a3, al2, al3, ah⟩ => ?_)
 ·refine sR ?_
  refine ww_for (fun m s => ∃ i v4 out, m + i = l.length ∧ gt s.tm 5 = .int .i64 (.ofNat i) ∧ gt s.tm 4 = v4 ∧ Ar s.loc 40 v4 .u8 out ∧ Dg 256 out ∧ out.length ≤ i ∧ gt s.tm 0 = .str (sl l) ∧ gt s.tm 2 = .ptr (.loc 2 1) 0 ∧ gt s.tm 3 = .ptr (.loc 3 1) 0 ∧ lg s.loc 2 = (1, .cells false [.nils, .bool false]) ∧ lg s.loc 3 = (1, .cells false [.bool false, .nils]) ∧ s.hp = ⟨h.rows, none, h.mods⟩) l.length ⟨0, .nils, [], rfl, sS, sS, .inl ⟨rfl, rfl⟩, Dg.nil _, Nat.le_refl _, sSG, sS, sS, sS, sS, rfl⟩ ?_
  intro m s ⟨i, v4, out, hm, a5, a4, aar, adg, alen, a0, a2, a3, al2, al3, ah⟩
  refine sQ2 a0 a5 ?_
  refine ww_if (by simp only [gt_pt, reduceIte]; rfl) (fun hi => ww_skip ?_) (fun hi => ww_exit ?_)
  ·have hx : l.getD i 0 < 256 := hd.get (by decide) i
   refine ww_seq (ww_block ?_)
   refine ww_mono (N := fun s2 => ∃ v4 out, gt s2.tm 4 = v4 ∧ Ar s2.loc 40 v4 .u8 out ∧ Dg 256 out ∧ out.length ≤ i + 1 ∧ Kp [0, 2, 3, 5] s.tm s2.tm ∧ lg s2.loc 2 = (1, .cells false [.nils, .bool false]) ∧ lg s2.loc 3 = (1, .cells false [.bool false, .nils]) ∧ s2.hp = s.hp) (X := fun _ _ => False) (Q := fun _ => False) ?_ ?_ (fun _ _ h => h.elim) (fun _ h => h.elim)
   ·refine ww_join (M := fun s2 => ∃ B : Bool, gt s2.tm 34 = .bool B ∧ Kp [0, 2, 3, 4, 5] s.tm s2.tm ∧ s2.loc = s.loc ∧ s2.hp = s.hp) ?_ (fun s2 ⟨B0, g34, gk, gl, gh⟩ => ?_)
    ·by_cases c1 : 48 ≤ l.getD i 0
     ·by_cases c2 : l.getD i 0 ≤ 57
      ·by_cases c3 : 0 < out.length
       ·refine ww_reg (fun n k => by simp -implicitDefEqProofs (disch := omega) only [go_sem, reduceIte, Nat.reduceEqDiff, a0, a5, a4, idx_sl hd, aar.len, decide_eq_true c1, decide_eq_true c2, decide_eq_true c3]; rfl) ?_
        exact ⟨true, sS, (by (try dsimp only); repeat (first | with_reducible exact Kp_refl _ _ | with_reducible refine Kp_pt (by decide) ?_)), rfl, rfl⟩
       ·refine ww_reg (fun n k => by simp -implicitDefEqProofs (disch := omega) only [go_sem, reduceIte, Nat.reduceEqDiff, a0, a5, a4, idx_sl hd, aar.len, decide_eq_true c1, decide_eq_true c2, decide_eq_false c3]; rfl) ?_
        exact ⟨decide (48 < l.getD i 0), sS, (by (try dsimp only); repeat (first | with_reducible exact Kp_refl _ _ | with_reducible refine Kp_pt (by decide) ?_)), rfl, rfl⟩
      ·refine ww_reg (fun n k => by simp -implicitDefEqProofs (disch := omega) only [go_sem, reduceIte, Nat.reduceEqDiff, a0, a5, idx_sl hd, decide_eq_true c1, decide_eq_false c2]; rfl) ?_
       exact ⟨false, sS, (by (try dsimp only); repeat (first | with_reducible exact Kp_refl _ _ | with_reducible refine Kp_pt (by decide) ?_)), rfl, rfl⟩
     ·refine ww_reg (fun n k => by simp -implicitDefEqProofs (disch := omega) only [go_sem, reduceIte, Nat.reduceEqDiff, a0, a5, idx_sl hd, decide_eq_false c1]; rfl) ?_
      exact ⟨false, sS, (by (try dsimp only); repeat (first | with_reducible exact Kp_refl _ _ | with_reducible refine Kp_pt (by decide) ?_)), rfl, rfl⟩
    ·have g0 := (gk 0 (by decide)).trans a0; have g4 := (gk 4 (by decide)).trans a4; have g5 := (gk 5 (by decide)).trans a5
     cases B0 with
     | true =>
      refine ww_true g34 ?_
      obtain ⟨v6, l6, happ, har6, hfr6⟩ := a24_6_5 (l.getD i 0) aar (by omega)
      refine ww_reg (fun n k => by simp -implicitDefEqProofs (disch := omega) only [go_sem, reduceIte, Nat.reduceEqDiff, g0, g4, g5, gl, idx_sl hd, happ]; rfl) ?_
      exact ⟨v6, _, sS, har6, adg.snoc hx, by simp; omega, (fun j hj => by rw [gt_pt, if_neg (by intro e; subst e; simp at hj)]; exact gk j (by simp at hj ⊢; omega)), by rw [hfr6 2 (by decide) (by decide)]; exact al2, by rw [hfr6 3 (by decide) (by decide)]; exact al3, gh⟩
     | false =>
      refine ww_false g34 (ww_skip ?_)
      exact ⟨v4, out, g4, by rw [gl]; exact aar, adg, by omega, fun j hj => gk j (by simp at hj ⊢; omega), by rw [gl]; exact al2, by rw [gl]; exact al3, gh⟩
   ·intro s2 ⟨v6, out6, b4, bar, bdg, blen, bk, bl2, bl3, bh⟩
    have b5 := (bk 5 (by decide)).trans a5
    refine sE1 b5 ?_
    exact ⟨m - 1, by omega, i + 1, v6, out6, by omega, sS, (sS1 b4), bar, bdg, blen, (by simp -implicitDefEqProofs (disch := omega) only [go_sem, reduceIte, Nat.reduceEqDiff, bk 0 (by decide), a0]), (by simp -implicitDefEqProofs (disch := omega) only [go_sem, reduceIte, Nat.reduceEqDiff, bk 2 (by decide), a2]), (by simp -implicitDefEqProofs (disch := omega) only [go_sem, reduceIte, Nat.reduceEqDiff, bk 3 (by decide), a3]), bl2, bl3, bh.trans ah⟩
  ·rw [if_pos rfl]
   exact ⟨v4, out, (sS1 a4), aar, adg, by omega, (sS1 a0), (sS1 a2), (sS1 a3), al2, al3, ah⟩
 ·refine ww_join (M := fun s2 => ∃ σ g li t, (σ = 44 ∨ σ = 40 ∨ σ = 50) ∧ gt s2.tm 4 = .arr (.loc σ g) 0 t.length li 1 false ∧ lg s2.loc σ = (g, .cells false (nl .u8 t)) ∧ Dg 256 t ∧ t.length ≤ 301 ∧ gt s2.tm 2 = .ptr (.loc 2 1) 0 ∧ gt s2.tm 3 = .ptr (.loc 3 1) 0 ∧ lg s2.loc 2 = (1, .cells false [.nils, .bool false]) ∧ lg s2.loc 3 = (1, .cells false [.bool false, .nils]) ∧ s2.hp = ⟨h.rows, none, h.mods⟩) ?_ (fun s2 ⟨σ, g, li, t, hσ, b4, hrow, tdg, tlen, b2, b3, bl2, bl3, bh⟩ => ?_)
  ·rcases Nat.eq_zero_or_pos out.length with e | e
   ·refine ww_seq (ww_reg (fun n k => by simp -implicitDefEqProofs (disch := omega) only [go_sem, reduceIte, Nat.reduceEqDiff, a4, aar.len, decide_eq_true e]; rfl) ?_)
    refine ww_true sS ?_
    refine sE ?_
    exact ⟨44, (lg s.loc 44).1 + 1, some 1, [48], .inl rfl, (by simp -implicitDefEqProofs (disch := omega) only [go_sem, reduceIte, Nat.reduceEqDiff, List.length_cons, List.length_nil]), sS, (by intro x hx; simp at hx; subst hx; decide), by simp, (sS1 a2), (sS1 a3), (sS1 al2), (sS1 al3), ah⟩
   ·refine ww_seq (ww_reg (fun n k => by simp -implicitDefEqProofs (disch := omega) only [go_sem, reduceIte, Nat.reduceEqDiff, a4, aar.len, decide_eq_false (show ¬ out.length = 0 by omega)]; rfl) ?_)
    refine ww_false sS ?_
    have hl0 : 0 < l.length := by omega
    rcases aar with ⟨e0, _⟩ | ⟨hne, g, rfl, hrow⟩
    ·subst e0; simp at e
    refine ww_seq (ww_reg (fun n k => by simp -implicitDefEqProofs (disch := omega) only [go_sem, reduceIte, Nat.reduceEqDiff, a0, idx_sl hd]; rfl) ?_)
    refine ww_if (by simp only [gt_pt, reduceIte]; rfl) (fun h45 => ?_) (fun h45 => ww_skip ?_)
    ·obtain ⟨v6, l6, happ, har, hfr⟩ := a24_10 (w := .arr (.loc 40 g) 0 out.length none 1 false) (ys := out) (loc := lp s.loc 48 ((lg s.loc 48).1 + 1, .cells false (nl .u8 [45]))) (g := (lg s.loc 48).1 + 1) (by rw [lg_lp, if_pos rfl]) (fun tm hp => getRow_arr (by rw [lg_lp, if_neg (by decide)]; exact hrow)) hne (by omega)
     refine sE2 a4 happ ?_
     rcases har with ⟨q, _⟩ | ⟨_, g5, rfl, hr5⟩
     ·simp at q
     exact ⟨50, g5, none, 45 :: out, .inr (.inr rfl), sS, hr5, (by intro x hx; rcases List.mem_cons.1 hx with rfl | hx; decide; exact adg x hx), by simp; omega, (sS1 a2), (sS1 a3), by rw [hfr 2 (by decide) (by decide)]; exact (sS1 al2), by rw [hfr 3 (by decide) (by decide)]; exact (sS1 al3), ah⟩
    ·exact ⟨40, g, none, out, .inr (.inl rfl), (sS1 a4), hrow, adg, by omega, (sS1 a2), (sS1 a3), al2, al3, ah⟩
  ·obtain ⟨_, hp1, v, rfl, hvI⟩ := parse_spec tdg (by omega) ⟨h.rows, none, h.mods⟩
   obtain ⟨w, hp2, hwR⟩ := mustR_spec tdg (by omega) ⟨h.rows, none, h.mods⟩
   obtain ⟨sv, bv, rfl, pv, ev, qv⟩ := hvI.form
   obtain ⟨sw, bw, rfl, pw, ew, qw⟩ := hwR.form
   refine ww_seq (ww_call (hp1) (fun n hn k => by simp -implicitDefEqProofs (disch := omega) only [go_sem, reduceIte, Nat.reduceEqDiff, b4, bh, tx24 (l := s2.loc) (h := ⟨h.rows, none, h.mods⟩) (w := .arr (.loc σ g) 0 t.length li 1 false) (fun q e => by cases e) (fun tm => getRow_arr hrow) tdg, clc1 hn (Ex1.str _), ext_tuple, stc_two N26 ((lg s2.loc 6).1 + 1) sv (.bool bv) .nils (.bool false) _ pv.ok rfl]; rfl) ?_)
   have hσ6 : σ ≠ 6 := by omega
   have hF : ∀ x : R, finD (rgA Try.f24 12).toList [] [(0, 3)] [⟨[3], [3], false, false, false, false⟩, ⟨[2], [2], false, false, false, false⟩, ⟨[], [], true, false, false, false⟩, ⟨[σ], [], false, false, false, false⟩, ft0, ⟨[6], [], false, false, false, false⟩] x = x := by
    intro x
    rcases hσ with rfl | rfl | rfl
    ·exact finD_ok (by kernel_rfl)
    ·exact finD_ok (by kernel_rfl)
    ·exact finD_ok (by kernel_rfl)
   refine ww_seq (ww_call hp2 (fun n hn k => by
    simp -implicitDefEqProofs (disch := omega) only [go_sem, reduceIte, Nat.reduceEqDiff, b2, b3, b4, bl2, bl3, ldc_two L26, dt24 (lo := lp (lp s2.loc 6 ((lg s2.loc 6).1 + 1, .cells false [.nils, .bool false])) 6 ((lg s2.loc 6).1 + 1, .cells false [sv, .bool bv])) (h := ⟨h.rows, none, h.mods⟩) (s0 := σ) (g := g) (n := t.length) (li := li) (fun tm => getRow_arr (by rw [lg_lp, if_neg (Ne.symm hσ6), lg_lp, if_neg (Ne.symm hσ6)]; exact hrow)) tdg, cld1 hn (Ex1.str _) rfl, stc_two N26 1 sv (.bool bv) .nils (.bool false) _ pv.ok rfl, stc_two N31 1 (.bool bw) sw (.bool false) .nils _ rfl pw.ok]
    exact hF _) ?_)
   exact ww_ret (hQ _ _ (fin_cells2 (x := sv) (y := .bool bv) (x2 := .bool bw) (y2 := sw) (d := 2) (g := 1) (d2 := 3) (g2 := 1) (f := false) (f2 := false) (by kernel_rfl) (by kernel_rfl) (sS1 b2) (sS1 b3) sS sS pv (Pl.bool _) (Pl.bool _) pw (fun x hx => by cases hx)) ⟨_, _, zOf t, rfl, hvI, hwR⟩)
end Go.AM.S
end
section
namespace Go.AM.S
open Go Go.AM Go.Proofs NumL
open _root_.Go.AM.G (R)
set_option maxRecDepth 100000
section
variable {C : Cfg} {P : Program} {call : CallF} {gl : Nat → Bool} {o : Oper} {t' tm : Tm} {loc : Lo} {hp : Hp}
theorem genD_pure {d : Nat} {v : V} {J : JD} {X : XD} {t : TypeId} {l : Array (Nat × Operand)} (hd : o.dst = some d) (ho : o.op = .build t l) (hp1 : locV P C gl (⟨t', loc, hp⟩ : St).ρ (⟨t', loc, hp⟩ : St).lc o = some (v, none)) :
  genD P C call gl o t' loc hp J X = J v ⟨[], [], false, false, false, false⟩ loc hp := by
 have hf : footV P C gl (⟨t', loc, hp⟩ : St).ρ (⟨t', loc, hp⟩ : St).lc o = some ⟨[], [], false, false, false, false⟩ := by
  unfold footV
  rw [hp1]
  simp only [ho]
 have hs : stepV P C gl ⟨t', loc, hp⟩ o = some (.val v ⟨t', loc, hp⟩) := by
  unfold stepV
  rw [hp1]; rfl
 unfold genD
 rw [F.e_footV, F.e_oneV, F.e_rho, F.e_lcf, hf]
 show G.onSome (oneV P C call gl ⟨t', loc, hp⟩ o) _ none = _
 unfold oneV
 rw [hs]
 have e1 : F.settle hp hp ⟨[], [], false, false, false, false⟩ = ⟨[], [], false, false, false, false⟩ := by
  unfold F.settle
  rw [Nat.beq_refl, Nat.beq_refl]; rfl
 simp only [putV, hd]
 show J (gt (aset t' d v) d) (F.settle hp hp ⟨[], [], false, false, false, false⟩) loc hp = _
 rw [gt_eq, aget_aset, if_pos rfl, e1]
end
theorem db37_2_0 (c : CallF) (t : Tm) (l : Lo) (h : Hp) (J : JD) (X : XD) : gD Try.f37 37 2 0 c t l h J X = J (.agg [.nils, .bool false]) ⟨[], [], false, false, false, false⟩ l h :=
 genD_pure (C := Cg) (gl := Cg.glob 37) (call := c) (o := opA Try.f37 2 0) (d := 15) (t := 26) (l := #[]) (by kernel_rfl) (by kernel_rfl) (by kernel_rfl)
theorem IsI.shrink {k l : Nat} {v : V} {z : Int} (h : IsI k v z) (hz : z.natAbs < B ^ l) : IsI l v z := by
 obtain ⟨d, b, ⟨hv, dd, cd, h0⟩, rfl, hl⟩ := h
 refine ⟨d, b, ⟨hv, dd, cd, h0⟩, rfl, ?_⟩
 rcases Nat.lt_or_ge l d.length with h1 | h1
 ·exfalso
  have h2 := vl_ge (B := B) cd (by intro e; subst e; simp at h1)
  have h3 : (zv d b).natAbs = vl B d := by unfold zv; cases b <;> simp
  rw [h3] at hz
  have h4 : B ^ l ≤ B ^ (d.length - 1) := Nat.pow_le_pow_right (by decide) (by omega)
  omega
 ·exact h1
theorem IsI.abs_lt {k : Nat} {v : V} {z : Int} (h : IsI k v z) : z.natAbs < B ^ k := by
 obtain ⟨d, b, ⟨hv, dd, cd, h0⟩, rfl, hl⟩ := h
 have h3 : (zv d b).natAbs = vl B d := by unfold zv; cases b <;> simp
 rw [h3]
 exact vl_lt_of (by decide) dd hl
theorem div_pos' {d e q r : Nat} (h : q * e + r = d) (hr : r < e) : (d : Int) / (e : Int) = q ∧ (d : Int) % (e : Int) = r := by
 rw [Int.ediv_emod_unique (by omega)]
 refine ⟨?_, by omega, by omega⟩
 rw [← h, Int.natCast_add, Int.natCast_mul, Int.mul_comm, Int.add_comm]
theorem div_neg0 {d e q : Nat} (h : q * e = d) (he : 0 < e) : -(d : Int) / (e : Int) = -q ∧ -(d : Int) % (e : Int) = 0 := by
 rw [Int.ediv_emod_unique (by omega)]
 refine ⟨?_, by omega, by omega⟩
 rw [← h, Int.natCast_mul, Int.mul_comm, Int.neg_mul, Int.zero_add]
theorem div_neg1 {d e q r : Nat} (h : q * e + r = d) (hr : r < e) (h0 : 0 < r) : -(d : Int) / (e : Int) = -q - 1 ∧ -(d : Int) % (e : Int) = (e : Int) - r := by
 rw [Int.ediv_emod_unique (by omega)]
 refine ⟨?_, by omega, by omega⟩
 rw [← h, Int.natCast_add, Int.natCast_mul, Int.mul_sub, Int.mul_neg, Int.mul_one, Int.mul_comm (e : Int)]
 omega
theorem quo_law {d e q r : Nat} (b c : Bool) (h : q * e + r = d) (hr : r < e) :
  ((bif b then -(d : Int) else d) / (bif c then -(e : Int) else e) = (bif b then (bif c then (q : Int) + (bif decide (0 < r) then 1 else 0) else -(q : Int) - (bif decide (0 < r) then 1 else 0)) else (bif c then -(q : Int) else q))) ∧
  ((bif b then -(d : Int) else d) % (bif c then -(e : Int) else e) = bif b && decide (0 < r) then (e : Int) - r else r) := by
 cases b with
 | false =>
  obtain ⟨h1, h2⟩ := div_pos' h hr
  cases c with
  | false => exact ⟨h1, h2⟩
  | true =>
   simp only [cond_false, cond_true, Bool.false_and, Int.ediv_neg, Int.emod_neg, h1, h2, and_self]
 | true =>
  rcases Nat.eq_zero_or_pos r with h0 | h0
  ·subst h0
   obtain ⟨h1, h2⟩ := div_neg0 (q := q) (by omega) hr
   cases c with
   | false => simp only [cond_false, cond_true, h1, h2]; simp
   | true => simp only [cond_false, cond_true, Int.ediv_neg, Int.emod_neg, h1, h2]; simp
  ·obtain ⟨h1, h2⟩ := div_neg1 h hr h0
   have hd : decide (0 < r) = true := decide_eq_true h0
   cases c with
   | false => simp only [cond_false, cond_true, h1, h2, hd, Bool.true_and, and_self]
   | true =>
    simp only [cond_false, cond_true, Int.ediv_neg, Int.emod_neg, h1, h2, hd, Bool.true_and, and_true]
    omega
end Go.AM.S
end
section
namespace Go.AM.S
open Go Go.AM Go.Proofs NumL
open _root_.Go.AM.G (R)
set_option maxRecDepth 100000
theorem tbl37 : tbl 37 = some ⟨rc37, [.cell 4 26, .cell 5 26]⟩ := by kernel_rfl
structure I37 (s u : V) (b c : Bool) (h : Hp) (st : St) : Prop where
 h2 : gt st.tm 2 = .ptr (.loc 2 1) 0
 h3 : gt st.tm 3 = .ptr (.loc 3 1) 0
 h4 : gt st.tm 4 = .ptr (.loc 4 1) 0
 h5 : gt st.tm 5 = .ptr (.loc 5 1) 0
 h6 : gt st.tm 6 = .ptr (.loc 6 1) 0
 h7 : gt st.tm 7 = .ptr (.loc 7 1) 0
 l2 : lg st.loc 2 = (1, .cells false [s, .bool b])
 l3 : lg st.loc 3 = (1, .cells false [u, .bool c])
 l4 : lg st.loc 4 = (1, .cells false [.nils, .bool false])
 l5 : lg st.loc 5 = (1, .cells false [.nils, .bool false])
 hp : st.hp = h
theorem IsI.nn {k : Nat} {s : V} {b : Bool} {z : Int} (h : IsI k (.agg [s, .bool b]) z) : Pl s ∧ Ex1 (.agg [s, .bool b]) ∧ AM.quiet (.agg [s, .bool b]) = true := by
 obtain ⟨s', b', e, p, x, q⟩ := h.form
 have e' : s = s' ∧ b = b' := by simpa using e
 obtain ⟨rfl, rfl⟩ := e'
 exact ⟨p, x, q⟩
theorem quo_spec {k l : Nat} {va vb : V} {x y : Int} (ha : IsI k va x) (hb : IsI l vb y) (hk : k ≤ 300000) (hl : l ≤ 300000) : Gives 37 [va, vb] fun r => ∃ v w, r = .tuple [v, w] ∧ IsI k v (x / y) ∧ IsI (if y = 0 then k else l) w (x % y) := by
 have ha0 := ha
 have hb0 := hb
 obtain ⟨d, b, ⟨⟨s, rfl, hs⟩, dd, cd, h0⟩, hx, hdl⟩ := ha
 obtain ⟨e, c, ⟨⟨u, rfl, hu⟩, de, ce, he0⟩, hy, hel⟩ := hb
 refine gives_of tbl37 fun h Q hQ => ?_
 unfold rc37
 refine sRG ?_
 have fin : ∀ (st : St) (v0 v1 w0 w1 : V) , IsI k (.agg [v0, v1]) (x / y) → IsI (if y = 0 then k else l) (.agg [w0, w1]) (x % y) → gt st.tm 4 = .ptr (.loc 4 1) 0 → gt st.tm 5 = .ptr (.loc 5 1) 0 → lg st.loc 4 = (1, .cells false [v0, v1]) → lg st.loc 5 = (1, .cells false [w0, w1]) → st.hp = ⟨h.rows, none, h.mods⟩ → Q st := by
  intro st v0 v1 w0 w1 hv hw h4 h5 l4 l5 hh
  obtain ⟨sv, bv, e1, pv, _, _⟩ := hv.form
  obtain ⟨sw, bw, e2, pw, _, _⟩ := hw.form
  obtain ⟨rfl, rfl⟩ : v0 = sv ∧ v1 = .bool bv := by simpa using e1
  obtain ⟨rfl, rfl⟩ : w0 = sw ∧ w1 = .bool bw := by simpa using e2
  exact hQ _ _ (fin_cells2 (x := v0) (y := .bool bv) (x2 := w0) (y2 := .bool bw) (d := 4) (g := 1) (d2 := 5) (g2 := 1) (f := false) (f2 := false) (by kernel_rfl) (by kernel_rfl) h4 h5 l4 l5 pv (Pl.bool _) pw (Pl.bool _) (by rw [hh]; exact fun x hx => by cases hx)) ⟨_, _, rfl, hv, hw⟩
 rcases Nat.eq_zero_or_pos e.length with ee | ee
 ·
  have e0 : e = [] := List.length_eq_zero_iff.1 ee
  have hy0 : y = 0 := by rw [hy, e0, he0 e0]; rfl
  refine ww_seq (ww_seq (ww_reg (fun n k => by simp -implicitDefEqProofs (disch := omega) only [go_sem, reduceIte, Nat.reduceEqDiff, gt_start, List.getD_cons_zero, List.getD_cons_succ, ldc_fst L24, len_sl hu, ee, d_true]; rfl) ?_))
  refine ww_true sS ?_
  refine ww_seq (ww_reg (fun n k => by simp -implicitDefEqProofs (disch := omega) only [go_sem, reduceIte, Nat.reduceEqDiff, gt_start, List.getD_cons_zero, List.getD_cons_succ, db37_2_0, ldc_two L26, stc_two N26 1 .nils (.bool false) .nils (.bool false) _ rfl rfl, stc_two N26 1 s (.bool b) .nils (.bool false) _ hs.pl.ok rfl]; exact finD_ok (by kernel_rfl)) ?_)
  refine ww_ret (fin _ .nils (.bool false) s (.bool b) ?_ ?_ sS sS sS sS rfl)
  ·rw [hy0, Int.ediv_zero]; exact zeroI.mono (Nat.zero_le _)
  ·rw [hy0, Int.emod_zero, if_pos rfl]; exact ha0
 have hne : e ≠ [] := fun q => by subst q; simp at ee
 have hE : 0 < vl B e := Nat.pos_of_ne_zero fun q => hne ((vl_zero ce).1 q)
 have hyn : y ≠ 0 := by rw [hy]; unfold zv; cases c <;> simp <;> omega
 refine ww_seq (ww_seq (ww_reg (fun n k => by simp -implicitDefEqProofs (disch := omega) only [go_sem, reduceIte, Nat.reduceEqDiff, gt_start, List.getD_cons_zero, List.getD_cons_succ, ldc_fst L24, len_sl hu, d_false]; rfl) ?_))
 refine ww_false sS (ww_skip ?_)
 obtain ⟨r1, hr1, f1, ⟨⟨s1, rfl, hs1⟩, df1, cf1, hf1⟩, ht1⟩ := made_spec hs dd (by omega) false ⟨h.rows, none, h.mods⟩
 refine ww_seq (ww_call (hr1) (fun n hn k => by simp -implicitDefEqProofs (disch := omega) only [go_sem, reduceIte, Nat.reduceEqDiff, gt_start, List.getD_cons_zero, List.getD_cons_succ, ldc_fst L24, clc2 hn hs.ex (Ex1.bool _), stc_two N26 1 .nils (.bool false) .nils (.bool false) _ rfl rfl, stc_two N26 1 s1 (.bool (false && !f1.isEmpty)) .nils (.bool false) _ hs1.pl.ok rfl]; rfl) ?_)
 have hbc : ∀ q : Nat, ∀ f : List Nat, vl B f = q → zv f ((!(b == c)) && !f.isEmpty) = bif b == c then (q : Int) else -(q : Int) := by
  intro q f hf
  subst hf
  cases b == c with
  | true => simp [zv]
  | false =>
   cases f with
   | nil => rfl
   | cons x0 l0 => rfl
 refine ww_join (M := fun st => I37 s u b c ⟨h.rows, none, h.mods⟩ st ∧ ∃ (sq : V) (bq : Bool) (q : Nat) (sr : V) (g : List Nat), lg st.loc 6 = (1, .cells false [sq, .bool bq]) ∧ lg st.loc 7 = (1, .cells false [sr, .bool false]) ∧ IsI k (.agg [sq, .bool bq]) (bif b == c then (q : Int) else -(q : Int)) ∧ Sl .u32 sr g ∧ Dg B g ∧ Cn g ∧ q * vl B e + vl B g = vl B d ∧ vl B g < vl B e) ?_ ?_
 ·obtain ⟨_, hcm, rfl⟩ := compare_spec hs hu dd de cd ce (by omega) (by omega) ⟨h.rows, none, h.mods⟩
  rcases Nat.lt_or_ge (vl B d) (vl B e) with hlt | hge
  ·have hc : cmpI (vl B d) (vl B e) = .negSucc 0 := by unfold cmpI; rw [if_pos hlt]
   rw [hc] at hcm
   refine ww_seq (ww_call (hcm) (fun n hn k => by simp -implicitDefEqProofs (disch := omega) only [go_sem, reduceIte, Nat.reduceEqDiff, ldc_fst L24, clc2 hn hs.ex hu.ex]; rfl) ?_)
   refine ww_false sS (ww_skip ?_)
   refine ⟨⟨sSG, sSG, sS, sS, sS, sS, sS, sS, sS, sS, rfl⟩, .nils, false, 0, s1, f1, sS, (by simp -implicitDefEqProofs (disch := omega) only [go_sem, reduceIte, Nat.reduceEqDiff, Bool.false_and]), by cases b == c <;> exact zeroI.mono (Nat.zero_le _), hs1, df1, cf1, by rw [ht1.vl]; omega, by rw [ht1.vl]; exact hlt⟩
  ·have hc : ∃ z, cmpI (vl B d) (vl B e) = .ofNat z := by
    unfold cmpI
    rw [if_neg (by omega)]
    split
    ·exact ⟨1, rfl⟩
    ·exact ⟨0, rfl⟩
   obtain ⟨z, hz⟩ := hc
   rw [hz] at hcm
   refine ww_seq (ww_call (hcm) (fun n hn k => by simp -implicitDefEqProofs (disch := omega) only [go_sem, reduceIte, Nat.reduceEqDiff, ldc_fst L24, clc2 hn hs.ex hu.ex, d_true]; rfl) ?_)
   refine ww_true sS ?_
   obtain ⟨_, hdv, so, st, O, T, rfl, hso, hst, dO, dT, cT, hv, hlt, lO⟩ := divided_spec hs hu dd de ce hne (len_le (by decide) dd ce hge) (by omega) ⟨h.rows, none, h.mods⟩
   refine ww_seq (ww_call (hdv) (fun n hn k => by simp -implicitDefEqProofs (disch := omega) only [go_sem, reduceIte, Nat.reduceEqDiff, ldc_fst L24, clc2 hn hs.ex hu.ex, ext_tuple]; rfl) ?_)
   obtain ⟨r2, hr2, f2, hf2, ht2⟩ := made_spec hso dO (by omega) (!(b == c)) ⟨h.rows, none, h.mods⟩
   obtain ⟨r3, hr3, f3, ⟨⟨s3, rfl, hs3⟩, df3, cf3, hf3⟩, ht3⟩ := made_spec hst dT (by have := len_le (B := B) (by decide) de cT (by omega); omega) false ⟨h.rows, none, h.mods⟩
   have hf2' := hf2
   obtain ⟨⟨s2, rfl, hs2⟩, df2, cf2, hf20⟩ := hf2
   have l2 := ht2.len
   refine ww_call (hr2.and hr3) (fun n hn k => by simp -implicitDefEqProofs (disch := omega) only [go_sem, reduceIte, Nat.reduceEqDiff, ldc_snd L4, bin_neb 4 false b c U4, clc2 hn.1 hso.ex (Ex1.bool _), clc2 hn.2 hst.ex (Ex1.bool _), stc_two N26 1 s2 (.bool (!(b == c) && !f2.isEmpty)) .nils (.bool false) _ hs2.pl.ok rfl, stc_two N26 1 s3 (.bool (false && !f3.isEmpty)) s1 (.bool (false && !f1.isEmpty)) _ hs3.pl.ok rfl]; rfl) ?_
   exact ⟨⟨sSG, sSG, sS, sS, sS, sS, sS, sS, sS, sS, rfl⟩, s2, _, vl B O, s3, f3, sS, (by simp -implicitDefEqProofs (disch := omega) only [go_sem, reduceIte, Nat.reduceEqDiff, Bool.false_and]), ⟨f2, _, hf2', (hbc _ _ (ht2.vl B)).symm, by omega⟩, hs3, df3, cf3, by rw [ht3.vl]; exact hv, by rw [ht3.vl]; exact hlt⟩
 intro st ⟨⟨h2, h3, h4, h5, h6, h7, l2, l3, l4, l5, hhp⟩, sq, bq, q, sr, g, l6, l7, hq, hsr, dg, cg, hv, hlt⟩
 obtain ⟨ql, qr⟩ := quo_law b c hv hlt
 have ex : x = bif b then -(vl B d : Int) else (vl B d : Int) := hx
 have ey : y = bif c then -(vl B e : Int) else (vl B e : Int) := hy
 rw [← ex, ← ey] at ql qr
 have hgz : (0 < g.length) ↔ 0 < vl B g := by
  constructor
  ·intro h1
   exact Nat.pos_of_ne_zero fun q => by have := (vl_zero cg).1 q; subst this; simp at h1
  ·intro h1
   rcases Nat.eq_zero_or_pos g.length with q | q
   ·have : g = [] := List.length_eq_zero_iff.1 q
    subst this; simp [vl] at h1
   ·exact q
 have hgl : g.length ≤ l := by have := len_le (B := B) (by decide) de cg (by omega); omega
 have hgI : IsI l (.agg [sr, .bool false]) ((vl B g : Nat) : Int) := ⟨g, false, ⟨⟨sr, rfl, hsr⟩, dg, cg, fun _ => rfl⟩, rfl, hgl⟩
 have hlast : ∀ (s2 : St) (v0 v1 w0 w1 : V), IsI k (.agg [v0, v1]) (x / y) → IsI l (.agg [w0, w1]) (x % y) → I37 s u b c ⟨h.rows, none, h.mods⟩ s2 → lg s2.loc 6 = (1, .cells false [v0, v1]) → lg s2.loc 7 = (1, .cells false [w0, w1]) → WW Pg kn0 tbl (.seq (.reg fun c t l h k => bO (ld Pg 26 (g6 t) l h) fun v0 => bO (ld Pg 26 (g7 t) l h) fun v1 => jE ((65, v1) :: (64, v0) :: []) fun e2 => jF ((ldF (g7 t)) :: (ldF (g6 t)) :: []) fun q2 => gD Try.f37 37 13 2 c (p64 (p4 t (g4 t)) v0) l h (fun v2 f2 l2 h2 => jF (f2 :: q2) fun q3 => gD Try.f37 37 13 3 c (p65 (p5 t (g5 t)) v1) l2 h2 (fun v3 f3 l3 h3 => finD (rgA Try.f37 13).toList [(1, 2)] [(1, 2)] (f3 :: q3) (k t l3 h3)) (sD Try.f37 37 13 c 3 none e2 q3 t l2 h2)) (sD Try.f37 37 13 c 2 none e2 q2 t l h)) .ret) s2 (fun _ => False) (fun _ _ => False) Q := by
  intro s2 v0 v1 w0 w1 hv hw ⟨k2, k3, k4, k5, k6, k7, m2, m3, m4, m5, mh⟩ m6 m7
  obtain ⟨sv, bv, e1, pv, _, _⟩ := hv.form
  obtain ⟨sw, bw, e2, pw, _, _⟩ := hw.form
  obtain ⟨rfl, rfl⟩ : v0 = sv ∧ v1 = .bool bv := by simpa using e1
  obtain ⟨rfl, rfl⟩ : w0 = sw ∧ w1 = .bool bw := by simpa using e2
  refine ww_seq (ww_reg (fun n k => by simp -implicitDefEqProofs (disch := omega) only [go_sem, reduceIte, Nat.reduceEqDiff, k4, k5, k6, k7, m4, m5, m6, m7, ldc_two L26, stc_two N26 1 v0 (.bool bv) .nils (.bool false) _ pv.ok rfl, stc_two N26 1 w0 (.bool bw) .nils (.bool false) _ pw.ok rfl]; exact finD_ok (by kernel_rfl)) ?_)
  exact ww_ret (fin _ _ _ _ _ hv (by rw [if_neg hyn]; exact hw) (sS1 k4) (sS1 k5) sS sS mh)
 have hb01 : b = true ∧ 0 < vl B g ∨ (b && decide (0 < vl B g)) = false := by
  cases b with
  | false => exact .inr rfl
  | true =>
   rcases Nat.eq_zero_or_pos (vl B g) with q | q
   ·exact .inr (by rw [q]; rfl)
   ·exact .inl ⟨rfl, q⟩
 rcases hb01 with ⟨rfl, hg0⟩ | hbf
 ·rw [decide_eq_true hg0, Bool.true_and, cond_true] at qr
  rw [decide_eq_true hg0] at ql
  simp only [cond_true] at ql
  have hgl0 := hgz.2 hg0
  refine ww_join (M := fun s2 => ∃ v0 v1 w0 w1, IsI k (.agg [v0, v1]) (x / y) ∧ IsI l (.agg [w0, w1]) (x % y) ∧ I37 s u true c ⟨h.rows, none, h.mods⟩ s2 ∧ lg s2.loc 6 = (1, .cells false [v0, v1]) ∧ lg s2.loc 7 = (1, .cells false [w0, w1])) ?_ (fun s2 ⟨v0, v1, w0, w1, a1, a2, a3, a4, a5⟩ => hlast s2 v0 v1 w0 w1 a1 a2 a3 a4 a5)
  refine ww_seq (ww_reg (fun n k => by simp -implicitDefEqProofs (disch := omega) only [go_sem, reduceIte, Nat.reduceEqDiff, h2, h7, l2, l7, ldc_snd L4, ldc_fst L24, len_sl hsr, decide_eq_true hgl0]; rfl) ?_)
  refine ww_true sS ?_
  obtain ⟨r4, hr4, f4, hf4, ht4⟩ := made_spec hu de (by omega) false ⟨h.rows, none, h.mods⟩
  have hI4 : IsI l r4 ((vl B e : Nat) : Int) := ⟨f4, _, hf4, by rw [Bool.false_and]; show ((vl B e : Nat) : Int) = ((vl B f4 : Nat) : Int); rw [ht4.vl], by have := ht4.len; omega⟩
  obtain ⟨r5, hr5, hI5⟩ := sub_spec hI4 hgI (by omega) (by omega) ⟨h.rows, none, h.mods⟩
  have hEl : vl B e < B ^ l := vl_lt_of (by decide) de hel
  have hI5' : IsI l r5 (x % y) := by rw [qr]; exact hI5.shrink (by omega)
  obtain ⟨s5, b5, rfl, p5, x5, q5⟩ := hI5'.form
  obtain ⟨s4, b4, rfl, p4, x4, q4⟩ := hI4.form
  obtain ⟨p7, x7, q7⟩ := hgI.nn
  refine ww_seq (ww_call (hr4.and hr5) (fun n hn k => by simp -implicitDefEqProofs (disch := omega) only [go_sem, reduceIte, Nat.reduceEqDiff, h3, h7, hhp, l3, l7, ldc_fst L24, ldc_two L26, cld2 hn.1 hu.ex (Ex1.bool _) hu.quiet rfl, cld2 hn.2 x4 x7 q4 q7, stc_two N26 1 s5 (.bool b5) sr (.bool false) _ p5.ok rfl]; exact finD_ok (by kernel_rfl)) ?_)
  obtain ⟨r8, hr8, hI8⟩ := of_spec (z := 1) (by decide) (by decide) ⟨h.rows, none, h.mods⟩
  obtain ⟨r9, hr9, hI9⟩ := of_spec (z := -1) (by decide) (by decide) ⟨h.rows, none, h.mods⟩
  obtain ⟨s8, b8, rfl, p8, x8, q8⟩ := hI8.form
  obtain ⟨s9, b9, rfl, p9, x9, q9⟩ := hI9.form
  have hr8' : Runs Pg kn0 tbl 21 [.int .i64 (.ofNat 1)] ⟨h.rows, none, h.mods⟩ (.val (.agg [s8, .bool b8]) ⟨h.rows, none, h.mods⟩) := hr8
  have hr9' : Runs Pg kn0 tbl 21 [.int .i64 (.negSucc 0)] ⟨h.rows, none, h.mods⟩ (.val (.agg [s9, .bool b9]) ⟨h.rows, none, h.mods⟩) := hr9
  refine ww_seq (ww_call (hr8') (fun n hn k => by simp -implicitDefEqProofs (disch := omega) only [go_sem, reduceIte, Nat.reduceEqDiff, hhp, clc1 hn (Ex1.int _ _), stc_two N26 ((lg st.loc 10).1 + 1) s8 (.bool b8) .nils (.bool false) _ p8.ok rfl]; rfl) ?_)
  obtain ⟨pq, xq, qq⟩ := hq.nn
  have hone : ∀ (s10 : V) (b10 : Bool) (st2 : St), IsI 2 (.agg [s10, .bool b10]) (bif c then -1 else 1) → I37 s u true c ⟨h.rows, none, h.mods⟩ st2 → gt st2.tm 10 = .ptr (.loc 10 ((lg st.loc 10).1 + 1)) 0 → lg st2.loc 10 = ((lg st.loc 10).1 + 1, .cells false [s10, .bool b10]) → lg st2.loc 6 = (1, .cells false [sq, .bool bq]) → lg st2.loc 7 = (1, .cells false [s5, .bool b5]) →
    WW Pg kn0 tbl (.reg fun c t l h k => bO (ld Pg 26 (g6 t) l h) fun v0 => bO (ld Pg 26 (g10 t) l h) fun v1 => cl c 27 [v0, v1] t l h fun v2 l2 h2 => jn (fun v3 l3 h3 => k t l3 h3) fun j3 => sto 26 (g6 t) v2 l2 h2 j3 (gn Try.f37 37 12 3 c (p63 (p6 t (g6 t)) v2) t l2 h2 j3)) st2 (fun s2 => ∃ v0 v1 w0 w1, IsI k (.agg [v0, v1]) (x / y) ∧ IsI l (.agg [w0, w1]) (x % y) ∧ I37 s u true c ⟨h.rows, none, h.mods⟩ s2 ∧ lg s2.loc 6 = (1, .cells false [v0, v1]) ∧ lg s2.loc 7 = (1, .cells false [w0, w1])) (fun _ _ => False) (fun _ => False) := by
   intro s10 b10 st2 hI10 ⟨k2, k3, k4, k5, k6, k7, m2, m3, m4, m5, mh⟩ m10 k10 n6 n7
   obtain ⟨r11, hr11, hI11⟩ := sub_spec hq hI10 (by omega) (by omega) ⟨h.rows, none, h.mods⟩
   have hval : (bif true == c then (q : Int) else -(q : Int)) - (bif c then -1 else 1) = x / y := by
    rw [ql]
    cases c with
    | false => rfl
    | true => show (q : Int) - (-1) = q + 1; omega
   rw [hval] at hI11
   have hI12 := hI11.shrink (l := k) (Nat.lt_of_le_of_lt (Int.natAbs_ediv_le_natAbs x y) ha0.abs_lt)
   obtain ⟨s11, b11, rfl, p11, x11, q11⟩ := hI12.form
   obtain ⟨_, x10, _⟩ := hI10.nn
   refine ww_call (hr11) (fun n hn k => by simp -implicitDefEqProofs (disch := omega) only [go_sem, reduceIte, Nat.reduceEqDiff, k6, n6, m10, k10, mh, ldc_two L26, clc2 hn xq x10, stc_two N26 1 s11 (.bool b11) sq (.bool bq) _ p11.ok rfl]; rfl) ?_
   exact ⟨s11, .bool b11, s5, .bool b5, hI12, hI5', ⟨(sS1 k2), (sS1 k3), (sS1 k4), (sS1 k5), (sS1 k6), (sS1 k7), (sS1 m2), (sS1 m3), (sS1 m4), (sS1 m5), rfl⟩, sS, (sS1 n7)⟩
  cases c with
  | false =>
   refine ww_seq (ww_seq (ww_reg (fun n k => by simp -implicitDefEqProofs (disch := omega) only [go_sem, reduceIte, Nat.reduceEqDiff, h3, l3, ldc_snd L4]; rfl) ?_))
   refine ww_false sS (ww_skip ?_)
   exact hone s8 b8 _ hI8 ⟨(sS1 h2), (sS1 h3), (sS1 h4), (sS1 h5), (sS1 h6), (sS1 h7), (sS1 l2), (sS1 l3), (sS1 l4), (sS1 l5), rfl⟩ sS sS (sS1 l6) sS
  | true =>
   refine ww_seq (ww_seq (ww_reg (fun n k => by simp -implicitDefEqProofs (disch := omega) only [go_sem, reduceIte, Nat.reduceEqDiff, h3, l3, ldc_snd L4]; rfl) ?_))
   refine ww_true sS ?_
   refine ww_call (hr9') (fun n hn k => by simp -implicitDefEqProofs (disch := omega) only [go_sem, reduceIte, Nat.reduceEqDiff, clc1 hn (Ex1.int _ _), stc_two N26 ((lg st.loc 10).1 + 1) s9 (.bool b9) s8 (.bool b8) _ p9.ok rfl]; rfl) ?_
   exact hone s9 b9 _ hI9 ⟨(sS1 h2), (sS1 h3), (sS1 h4), (sS1 h5), (sS1 h6), (sS1 h7), (sS1 l2), (sS1 l3), (sS1 l4), (sS1 l5), rfl⟩ sS sS (sS1 l6) sS
 ·rw [hbf, cond_false] at qr
  have qf : x / y = bif b == c then (q : Int) else -(q : Int) := by
   rw [ql]
   cases b with
   | false => cases c <;> rfl
   | true =>
    rw [Bool.true_and] at hbf
    rw [hbf]
    cases c <;> simp
  refine ww_join (M := fun s2 => s2.loc = st.loc ∧ I37 s u b c ⟨h.rows, none, h.mods⟩ s2) ?_ (fun s2 ⟨hloc, hI⟩ => hlast s2 sq (.bool bq) sr (.bool false) (by rw [qf]; exact hq) (by rw [qr]; exact hgI) hI (by rw [hloc]; exact l6) (by rw [hloc]; exact l7))
  cases b with
  | false =>
   refine ww_seq (ww_reg (fun n k => by simp -implicitDefEqProofs (disch := omega) only [go_sem, reduceIte, Nat.reduceEqDiff, h2, l2, ldc_snd L4]; rfl) ?_)
   exact ww_false sS (ww_skip ⟨rfl, ⟨(sS1 h2), (sS1 h3), (sS1 h4), (sS1 h5), (sS1 h6), (sS1 h7), l2, l3, l4, l5, hhp⟩⟩)
  | true =>
   rw [Bool.true_and, decide_eq_false_iff_not, ← hgz] at hbf
   refine ww_seq (ww_reg (fun n k => by simp -implicitDefEqProofs (disch := omega) only [go_sem, reduceIte, Nat.reduceEqDiff, h2, h7, l2, l7, ldc_snd L4, ldc_fst L24, len_sl hsr, decide_eq_false hbf]; rfl) ?_)
   exact ww_false sS (ww_skip ⟨rfl, ⟨(sS1 h2), (sS1 h3), (sS1 h4), (sS1 h5), (sS1 h6), (sS1 h7), l2, l3, l4, l5, hhp⟩⟩)
end Go.AM.S
end
section
namespace Go.AM.S
open Go Go.AM Go.Proofs NumL
open _root_.Go.AM.G (R)
set_option maxRecDepth 100000
theorem tbl39 : tbl 39 = some ⟨rc39, [.cell 4 26]⟩ := by kernel_rfl
theorem abs_of {v : V} {s : V} {d f : List Nat} {b : Bool} {k : Nat} (hf : NI v f (false && !f.isEmpty)) (ht : Tr0 d f) (hl : d.length ≤ k) : IsI k v ((vl B d : Nat) : Int) :=
 ⟨f, _, hf, by rw [Bool.false_and]; show ((vl B d : Nat) : Int) = ((vl B f : Nat) : Int); rw [ht.vl], by have := ht.len; omega⟩
theorem zv_abs (d : List Nat) (b : Bool) : (zv d b).natAbs = vl B d := by unfold zv; cases b <;> simp
theorem gcd_spec {k l : Nat} {va vb : V} {x y : Int} (ha : IsI k va x) (hb : IsI l vb y) (hk : k ≤ 300000) (hl : l ≤ 300000) : Gives 39 [va, vb] fun r => IsI (max k l) r ((Nat.gcd x.natAbs y.natAbs : Nat) : Int) := by
 obtain ⟨d, b, ⟨⟨s, rfl, hs⟩, dd, cd, h0⟩, rfl, hdl⟩ := ha
 obtain ⟨e, c, ⟨⟨u, rfl, hu⟩, de, ce, he0⟩, rfl, hel⟩ := hb
 rw [zv_abs, zv_abs]
 refine gives_of tbl39 fun h Q hQ => ?_
 unfold rc39
 refine sRG ?_
 obtain ⟨r1, hr1, f1, hf1, ht1⟩ := made_spec hs dd (by omega) false ⟨h.rows, none, h.mods⟩
 obtain ⟨r2, hr2, f2, hf2, ht2⟩ := made_spec hu de (by omega) false ⟨h.rows, none, h.mods⟩
 have hI1 : IsI (max k l) r1 ((vl B d : Nat) : Int) := abs_of (s := s) (b := b) hf1 ht1 (by omega)
 have hI2 : IsI (max k l) r2 ((vl B e : Nat) : Int) := abs_of (s := s) (b := b) hf2 ht2 (by omega)
 obtain ⟨s1, b1, rfl, p1, x1, q1⟩ := hI1.form
 obtain ⟨s2, b2, rfl, p2, x2, q2⟩ := hI2.form
 refine ww_seq (ww_call (hr1.and hr2) (fun n hn k => by simp -implicitDefEqProofs (disch := omega) only [go_sem, reduceIte, Nat.reduceEqDiff, gt_start, List.getD_cons_zero, List.getD_cons_succ, ldc_fst L24, cld2 hn.1 hs.ex (Ex1.bool _) hs.quiet rfl, cld2 hn.2 hu.ex (Ex1.bool _) hu.quiet rfl, stc_two N26 1 s1 (.bool b1) s (.bool b) _ p1.ok rfl, stc_two N26 1 s2 (.bool b2) u (.bool c) _ p2.ok rfl]; exact finD_ok (by kernel_rfl)) ?_)
 refine ww_seq (ww_for (fun m st => ∃ a sa ba sb bb, IsI (max k l) (.agg [sa, .bool ba]) ((a : Nat) : Int) ∧ IsI (max k l) (.agg [sb, .bool bb]) ((m : Nat) : Int) ∧ Nat.gcd a m = Nat.gcd (vl B d) (vl B e) ∧ gt st.tm 2 = .ptr (.loc 2 1) 0 ∧ gt st.tm 3 = .ptr (.loc 3 1) 0 ∧ gt st.tm 4 = .ptr (.loc 4 1) 0 ∧ lg st.loc 2 = (1, .cells false [sa, .bool ba]) ∧ lg st.loc 3 = (1, .cells false [sb, .bool bb]) ∧ lg st.loc 4 = (1, .cells false [.nils, .bool false]) ∧ st.hp = ⟨h.rows, none, h.mods⟩) (vl B e) ⟨vl B d, s1, b1, s2, b2, hI1, hI2, rfl, sSG, sSG, sS, sS, sS, sS, rfl⟩ ?_)
 intro m st ⟨a, sa, ba, sb, bb, hA, hM, hg, h2, h3, h4, l2, l3, l4, hhp⟩
 obtain ⟨pa, xa, qa⟩ := hA.nn
 obtain ⟨pb, xb, qb⟩ := hM.nn
 have hM' := hM
 obtain ⟨f, b', ⟨⟨sb', eb, hsb⟩, df, cf, hf0⟩, hmv, hfl⟩ := hM'
 obtain ⟨rfl, rfl⟩ : sb = sb' ∧ bb = b' := by simpa using eb
 have hfm : vl B f = m := by rw [← zv_abs f bb, ← hmv]; simp
 rcases Nat.eq_zero_or_pos f.length with e0 | e0
 ·have ef : f = [] := List.length_eq_zero_iff.1 e0
  have hm0 : m = 0 := by rw [← hfm, ef]; rfl
  refine ww_seq (ww_seq (ww_reg (fun n k => by simp -implicitDefEqProofs (disch := omega) only [go_sem, reduceIte, Nat.reduceEqDiff, h3, l3, ldc_fst L24, len_sl hsb, e0, d_false]; rfl) ?_))
  refine ww_false sS (ww_exit ?_)
  rw [if_pos rfl]
  refine ww_seq (ww_reg (fun n k => by simp -implicitDefEqProofs (disch := omega) only [go_sem, reduceIte, Nat.reduceEqDiff, h2, l2, h4, l4, ldc_two L26, stc_two N26 1 sa (.bool ba) .nils (.bool false) _ pa.ok rfl]; rfl) ?_)
  refine ww_ret (hQ _ _ (fin_cell (x := sa) (y := .bool ba) (f := false) (d := 4) (g := 1) (by kernel_rfl) (sS1 h4) sS pa (Pl.bool _) (by rw [hhp])) ?_)
  rw [← hg, hm0, Nat.gcd_zero_right]
  exact hA
 ·have hm0 : 0 < m := by
   rw [← hfm]
   exact Nat.pos_of_ne_zero fun q => by have := (vl_zero cf).1 q; subst this; simp at e0
  refine ww_seq (ww_seq (ww_reg (fun n k => by simp -implicitDefEqProofs (disch := omega) only [go_sem, reduceIte, Nat.reduceEqDiff, h3, l3, ldc_fst L24, len_sl hsb, d_true]; rfl) ?_))
  refine ww_true sS (ww_skip (ww_block ?_))
  obtain ⟨_, hq, v, w, rfl, hv, hw⟩ := quo_spec hA hM (by omega) (by omega) ⟨h.rows, none, h.mods⟩
  rw [if_neg (by omega), ← Int.natCast_emod] at hw
  obtain ⟨sv, bv, rfl, pv, xv, _⟩ := hv.form
  obtain ⟨sw, bw, rfl, pw, xw, _⟩ := hw.form
  refine ww_seq (ww_call (hq) (fun n hn k => by simp -implicitDefEqProofs (disch := omega) only [go_sem, reduceIte, Nat.reduceEqDiff, h2, h3, l2, l3, hhp, ldc_two L26, clc2 hn xa xb, ext_tuple, stc_two N26 ((lg st.loc 5).1 + 1) sv (.bool bv) .nils (.bool false) _ pv.ok rfl, stc_two N26 ((lg st.loc 6).1 + 1) sw (.bool bw) .nils (.bool false) _ pw.ok rfl]; rfl) ?_)
  refine ww_reg (fun n k => by simp -implicitDefEqProofs (disch := omega) only [go_sem, reduceIte, Nat.reduceEqDiff, h2, h3, l2, l3, ldc_two L26, stc_two N26 1 sb (.bool bb) sa (.bool ba) _ pb.ok rfl, stc_two N26 1 sw (.bool bw) sb (.bool bb) _ pw.ok rfl]; exact finD_ok (by kernel_rfl)) ?_
  exact ⟨a % m, Nat.mod_lt _ hm0, m, sb, bb, sw, bw, hM, hw, by rw [← hg, Nat.gcd_comm a m, Nat.gcd_rec m a, Nat.gcd_comm], (sS1 h2), (sS1 h3), (sS1 h4), sS, sS, (sS1 l4), rfl⟩
end Go.AM.S
end
section
namespace Go.AM.S
open Go Go.AM Go.Proofs NumL
open _root_.Go.AM.G (R)
set_option maxRecDepth 100000
theorem iZ_eql (k : IntKind) (x : Int) : G.int2 .eql k x x = some (.bool true) := by
 show some (V.bool (F.eqI x x)) = _
 rw [F.eqI_eq]
 simp
end Go.AM.S
end
section
namespace Go.AM.S
open Go Go.AM Go.Proofs NumL
open _root_.Go.AM.G (R)
set_option maxRecDepth 100000
end Go.AM.S
end
section
namespace Go.AM.S
open Go Go.AM Go.Proofs NumL
open _root_.Go.AM.G (R)
set_option maxRecDepth 100000
theorem bs79_3 (s t u : Str) : bs Pg 79 3 [(0, .str s), (1, .str t), (2, .str u)] = some (.slice none true 1 [.str s, .str t, .str u]) := by
 unfold bs
 rw [E79]
 change G.onSome (F.layE Pg 9) (fun p => G.onSome (F.zeroV Pg 9) (fun z => bif (Nat.mul 3 p.fst).ble 16777216 && F.noRefsR z && z.live && (F.lenR z.cells).beq p.fst then G.onSome (filE p.fst [(0, V.str s), (1, V.str t), (2, V.str u)] (F.repR 3 z)) (fun l => some (V.slice none true p.fst l)) none else none) none) none = _
 rw [L9]
 change G.onSome (F.zeroV Pg 9) (fun z => bif (Nat.mul 3 1).ble 16777216 && F.noRefsR z && z.live && (F.lenR z.cells).beq 1 then G.onSome (filE 1 [(0, V.str s), (1, V.str t), (2, V.str u)] (F.repR 3 z)) (fun l => some (V.slice none true 1 l)) none else none) none = _
 rw [Z9]
 rfl
theorem cmpZ_self (x : Int) : cmpZ x x = .ofNat 0 := by unfold cmpZ; rw [if_neg (by omega), if_neg (by omega)]
theorem cmpZ_eq {x y : Int} (h : x = y) : cmpZ x y = .ofNat 0 := by rw [h]; exact cmpZ_self y
theorem sgn_zero {x : Int} (h : x = 0) : sgn x = .ofNat 0 := by rw [h]; rfl
theorem wv_tup (w : Bool) : wv (.tuple []) w = some false := rfl
theorem ww_at {c : RC} {s : St} {N : St → Prop} {X : Nat → St → Prop} {Q : St → Prop} {hp : Hp} (M : Tm → Lo → Prop) (hh : s.hp = hp) (hs : M s.tm s.loc) (h : ∀ tm loc, M tm loc → WW Pg kn0 tbl c ⟨tm, loc, hp⟩ N X Q) : WW Pg kn0 tbl c s N X Q := by
 subst hh; exact h s.tm s.loc hs
theorem sgn_pos {x : Int} (h : 0 < x) : sgn x = .ofNat 1 := by unfold sgn cmpZ; rw [if_neg (by omega), if_pos h]
theorem emod_gcd_l (x y : Int) : x % ((Nat.gcd x.natAbs y.natAbs : Nat) : Int) = 0 := Int.emod_eq_zero_of_dvd (Int.ofNat_dvd_left.2 (Nat.gcd_dvd_left _ _))
theorem emod_gcd_r (x y : Int) : y % ((Nat.gcd x.natAbs y.natAbs : Nat) : Int) = 0 := Int.emod_eq_zero_of_dvd (Int.ofNat_dvd_left.2 (Nat.gcd_dvd_right _ _))
theorem tbl7 : tbl 7 = some ⟨rc7, [.tmp 6]⟩ := by kernel_rfl
theorem law7 {l m o : List Nat} (hdl : Dg 256 l) (hdm : Dg 256 m) (hdo : Dg 256 o) : Runs Pg kn0 tbl 7 [.str (sl l), .str (sl m), .str (sl o)] noHp (.val (.bool true) noHp) := by
 suffices hw : WW Pg kn0 tbl rc7 ⟨startTm [.str (sl l), .str (sl m), .str (sl o)], .lf, ⟨noHp.rows, none, noHp.mods⟩⟩ (fun _ => False) (fun _ _ => False) (fun s => ∃ o, fin Pg noHp [.tmp 6] s = some o ∧ o = .val (.bool true) noHp) by
  obtain ⟨o, h1, h2⟩ := runs_ex (kn := kn0) (h := noHp) rfl tbl7 (ww_mono hw (fun s hs => hs.elim) (fun _ _ h => h) (fun s h => h))
  subst h2
  exact h1
 have done : ∀ (st : St), gt st.tm 6 = .bool true → st.hp = noHp → ∃ o, fin Pg noHp [.tmp 6] st = some o ∧ o = .val (.bool true) noHp := by
  intro st h4 hh
  exact ⟨_, fin_tmpD h4 (Ex1.bool _) (by rw [hh]; exact fun x hx => by cases hx) rfl, rfl⟩
 have ehp : (⟨noHp.rows, none, noHp.mods⟩ : Hp) = noHp := rfl
 rw [ehp]
 unfold rc7
 refine sR ?_
 refine ww_seq (ww_seq (ww_call (known_runs) (fun n hn k => by simp -implicitDefEqProofs (disch := omega) only [go_sem, reduceIte, Nat.reduceEqDiff, clc0 hn]; rfl) ?_))
 refine ww_false sS (ww_skip ?_)
 obtain ⟨_, hlt0, rfl⟩ := light_spec true [sl l, sl m, sl o] (by simp) noHp
 have eall : ([sl l, sl m, sl o].all fun s => decide (s.n ≤ 300)) = decide (l.length ≤ 300 ∧ m.length ≤ 300 ∧ o.length ≤ 300) := by
  show (decide (l.length ≤ 300) && (decide (m.length ≤ 300) && (decide (o.length ≤ 300) && true))) = _
  simp only [Bool.and_true, Bool.decide_and]
 rw [eall] at hlt0
 have hlt : Runs Pg kn0 tbl 14 [.slice none true 1 [.str (sl l), .str (sl m), .str (sl o)]] noHp (.val (.bool (decide (l.length ≤ 300 ∧ m.length ≤ 300 ∧ o.length ≤ 300))) noHp) := hlt0
 refine ww_seq (ww_seq (ww_call (hlt) (fun n hn k => by simp -implicitDefEqProofs (disch := omega) only [go_sem, reduceIte, Nat.reduceEqDiff, gt_start, List.getD_cons_zero, List.getD_cons_succ, bs79_3, clc1 hn (fun _ => rfl)]; rfl) ?_))
 by_cases hl : l.length ≤ 300 ∧ m.length ≤ 300 ∧ o.length ≤ 300
 rotate_left
 ·rw [decide_eq_false hl]
  refine ww_true sS ?_
  refine sR ?_
  exact ww_ret (done _ sS rfl)
 rw [decide_eq_true hl]
 refine ww_false sS (ww_skip ?_)
 obtain ⟨_, Pa, va, wa, x, rfl, Ia, Ja⟩ := of24_spec hdl hl.1 noHp
 have ea := Ia.ex; have ua := Ia.quiet
 obtain ⟨_, Pb, vb, wb, y, rfl, Ib, Jb⟩ := of24_spec hdm hl.2.1 noHp
 have eb := Ib.ex; have ub := Ib.quiet
 obtain ⟨_, Pc, vc, wc, z, rfl, Ic, Jc⟩ := of24_spec hdo hl.2.2 noHp
 have ec := Ic.ex; have uc := Ic.quiet
 obtain ⟨rg, Pg', Ig⟩ := gcd_spec Ia Ib (by omega) (by omega) noHp
 have eg := Ig.ex; have ug := Ig.quiet
 obtain ⟨_, Px, vq, vx, rfl, Iq, Ix0⟩ := quo_spec Ia Ig (by omega) (by omega) noHp
 obtain ⟨_, Py, vr, vy, rfl, Ir, Iy0⟩ := quo_spec Ib Ig (by omega) (by omega) noHp
 have Ix : IsI 1002 vx 0 := by have := Ix0.mono (l := 1002) (by split <;> omega); rwa [emod_gcd_l] at this
 have Iy : IsI 1002 vy 0 := by have := Iy0.mono (l := 1002) (by split <;> omega); rwa [emod_gcd_r] at this
 have ex := Ix.ex; have ux := Ix.quiet; have ey := Iy.ex; have uy := Iy.quiet
 obtain ⟨r1, A1, I1⟩ := add_spec Ia Ib (by omega) (by omega) noHp
 have e1 := I1.ex; have u1 := I1.quiet
 obtain ⟨r2, A2, I2⟩ := add_spec Ib Ia (by omega) (by omega) noHp
 have e2 := I2.ex; have u2 := I2.quiet
 obtain ⟨_, A3, rfl⟩ := cmp_spec I1 I2 (by omega) (by omega) noHp
 rw [cmpZ_eq (show x + y = y + x from Int.add_comm _ _)] at A3
 obtain ⟨r4, A4, I4⟩ := mul_spec Ia Ib (by omega) (by omega) noHp
 have e4 := I4.ex; have u4 := I4.quiet
 obtain ⟨r5, A5, I5⟩ := mul_spec Ib Ia (by omega) (by omega) noHp
 have e5 := I5.ex; have u5 := I5.quiet
 obtain ⟨_, A6, rfl⟩ := cmp_spec I4 I5 (by omega) (by omega) noHp
 rw [cmpZ_eq (show x * y = y * x from Int.mul_comm _ _)] at A6
 obtain ⟨r7, A7, I7⟩ := add_spec Ib Ic (by omega) (by omega) noHp
 have e7 := I7.ex; have u7 := I7.quiet
 obtain ⟨r8, A8, I8⟩ := add_spec Ia I7 (by omega) (by omega) noHp
 have e8 := I8.ex; have u8 := I8.quiet
 obtain ⟨r9, A9, I9⟩ := add_spec I1 Ic (by omega) (by omega) noHp
 have e9 := I9.ex; have u9 := I9.quiet
 obtain ⟨_, A10, rfl⟩ := cmp_spec I8 I9 (by omega) (by omega) noHp
 rw [cmpZ_eq (show x + (y + z) = x + y + z from (Int.add_assoc _ _ _).symm)] at A10
 obtain ⟨r11, A11, I11⟩ := mul_spec Ib Ic (by omega) (by omega) noHp
 have e11 := I11.ex; have u11 := I11.quiet
 obtain ⟨r12, A12, I12⟩ := mul_spec Ia I11 (by omega) (by omega) noHp
 have e12 := I12.ex; have u12 := I12.quiet
 obtain ⟨r13, A13, I13⟩ := mul_spec I4 Ic (by omega) (by omega) noHp
 have e13 := I13.ex; have u13 := I13.quiet
 obtain ⟨_, A14, rfl⟩ := cmp_spec I12 I13 (by omega) (by omega) noHp
 rw [cmpZ_eq (show x * (y * z) = x * y * z from (Int.mul_assoc _ _ _).symm)] at A14
 obtain ⟨r15, A15, I15⟩ := mul_spec Ia I7 (by omega) (by omega) noHp
 have e15 := I15.ex; have u15 := I15.quiet
 obtain ⟨r16, A16, I16⟩ := mul_spec Ia Ic (by omega) (by omega) noHp
 have e16 := I16.ex; have u16 := I16.quiet
 obtain ⟨r17, A17, I17⟩ := add_spec I4 I16 (by omega) (by omega) noHp
 have e17 := I17.ex; have u17 := I17.quiet
 obtain ⟨_, A18, rfl⟩ := cmp_spec I15 I17 (by omega) (by omega) noHp
 rw [cmpZ_eq (show x * (y + z) = x * y + x * z from Int.mul_add _ _ _)] at A18
 obtain ⟨r19, A19, I19⟩ := sub_spec Ia Ib (by omega) (by omega) noHp
 have e19 := I19.ex; have u19 := I19.quiet
 obtain ⟨r20, A20, I20⟩ := add_spec I19 Ib (by omega) (by omega) noHp
 have e20 := I20.ex; have u20 := I20.quiet
 obtain ⟨_, A21, rfl⟩ := cmp_spec I20 Ia (by omega) (by omega) noHp
 rw [cmpZ_eq (show x - y + y = x from by omega)] at A21
 obtain ⟨r22, A22, I22⟩ := neg_spec Ia (by omega) noHp
 have e22 := I22.ex; have u22 := I22.quiet
 obtain ⟨r23, A23, I23⟩ := add_spec Ia I22 (by omega) (by omega) noHp
 have e23 := I23.ex; have u23 := I23.quiet
 obtain ⟨_, A24, rfl⟩ := sign_spec I23 (by omega) noHp
 rw [sgn_zero (show x + -x = 0 from by omega)] at A24
 obtain ⟨_, A25, rfl⟩ := sign_spec Ix (by omega) noHp
 rw [sgn_zero rfl] at A25
 obtain ⟨_, A26, rfl⟩ := sign_spec Iy (by omega) noHp
 rw [sgn_zero rfl] at A26
 obtain ⟨_, A27, rfl⟩ := sign_spec I19 (by omega) noHp
 rw [cmpZ_sgn] at A27
 obtain ⟨_, A28, rfl⟩ := cmp_spec Ia Ib (by omega) (by omega) noHp
 obtain ⟨_, A29, rfl⟩ := sign_spec Ig (by omega) noHp
 obtain ⟨sa, ba, rfl, pa, _, _⟩ := Ia.form
 obtain ⟨ta, da, rfl, qa, _, _⟩ := Ja.form
 obtain ⟨sb, bb, rfl, pb, _, _⟩ := Ib.form
 obtain ⟨tb, db, rfl, qb, _, _⟩ := Jb.form
 obtain ⟨sc, bc, rfl, pc, _, _⟩ := Ic.form
 obtain ⟨tc, dc, rfl, qc, _, _⟩ := Jc.form
 refine ww_seq (ww_call (Pa) (fun n hn k => by simp -implicitDefEqProofs (disch := omega) only [go_sem, reduceIte, Nat.reduceEqDiff, gt_start, List.getD_cons_zero, List.getD_cons_succ, clc1 hn (Ex1.str _), ext_tuple, stc_two N26 1 sa (.bool ba) .nils (.bool false) _ pa.ok rfl, stc_two N31 1 (.bool da) ta (.bool false) .nils _ rfl qa.ok]; rfl) ?_)
 refine ww_seq (ww_call (Pb) (fun n hn k => by simp -implicitDefEqProofs (disch := omega) only [go_sem, reduceIte, Nat.reduceEqDiff, gt_start, List.getD_cons_zero, List.getD_cons_succ, clc1 hn (Ex1.str _), ext_tuple, stc_two N26 1 sb (.bool bb) .nils (.bool false) _ pb.ok rfl, stc_two N31 1 (.bool db) tb (.bool false) .nils _ rfl qb.ok]; rfl) ?_)
 refine ww_seq (ww_call (Pc) (fun n hn k => by simp -implicitDefEqProofs (disch := omega) only [go_sem, reduceIte, Nat.reduceEqDiff, gt_start, List.getD_cons_zero, List.getD_cons_succ, clc1 hn (Ex1.str _), ext_tuple, stc_two N26 1 sc (.bool bc) .nils (.bool false) _ pc.ok rfl, stc_two N31 1 (.bool dc) tc (.bool false) .nils _ rfl qc.ok]; rfl) ?_)
 obtain ⟨sg, bg, rfl, pg, _, _⟩ := Ig.form
 obtain ⟨sq, bq, rfl, pq, _, _⟩ := Iq.form
 obtain ⟨sr, br, rfl, pr, _, _⟩ := Ir.form
 obtain ⟨sx, bx, rfl, px, _, _⟩ := Ix.form
 obtain ⟨sy, by', rfl, py, _, _⟩ := Iy.form
 refine ww_seq (ww_call (Pg') (fun n hn k => by simp -implicitDefEqProofs (disch := omega) only [go_sem, reduceIte, Nat.reduceEqDiff, ldc_two L26, clc2 hn ea eb, stc_two N26 1 sg (.bool bg) .nils (.bool false) _ pg.ok rfl]; rfl) ?_)
 refine ww_seq (ww_call (Px) (fun n hn k => by simp -implicitDefEqProofs (disch := omega) only [go_sem, reduceIte, Nat.reduceEqDiff, ldc_two L26, clc2 hn ea eg, ext_tuple, stc_two N26 1 sq (.bool bq) .nils (.bool false) _ pq.ok rfl, stc_two N26 1 sx (.bool bx) .nils (.bool false) _ px.ok rfl]; rfl) ?_)
 refine ww_seq (ww_call (Py) (fun n hn k => by simp -implicitDefEqProofs (disch := omega) only [go_sem, reduceIte, Nat.reduceEqDiff, ldc_two L26, clc2 hn eb eg, ext_tuple, stc_two N26 1 sr (.bool br) .nils (.bool false) _ pr.ok rfl, stc_two N26 1 sy (.bool by') .nils (.bool false) _ py.ok rfl]; rfl) ?_)
 refine ww_at (M := fun tm loc => gt tm 7 = .ptr (.loc 7 1) 0 ∧ gt tm 9 = .ptr (.loc 9 1) 0 ∧ gt tm 11 = .ptr (.loc 11 1) 0 ∧ gt tm 13 = .ptr (.loc 13 1) 0 ∧ gt tm 15 = .ptr (.loc 15 1) 0 ∧ gt tm 17 = .ptr (.loc 17 1) 0 ∧ lg loc 7 = (1, .cells false [sa, .bool ba]) ∧ lg loc 9 = (1, .cells false [sb, .bool bb]) ∧ lg loc 11 = (1, .cells false [sc, .bool bc]) ∧ lg loc 13 = (1, .cells false [sg, .bool bg]) ∧ lg loc 15 = (1, .cells false [sx, .bool bx]) ∧ lg loc 17 = (1, .cells false [sy, .bool by'])) rfl ⟨sS, sS, sS, sS, sS, sS, sS, sS, sS, sS, sS, sS⟩ ?_
 intro tm loc ⟨h7, h9, h11, h13, h15, h17, l7, l9, l11, l13, l15, l17⟩
 by_cases hg : ((Nat.gcd x.natAbs y.natAbs : Nat) : Int) = 0
 ·rw [sgn_zero hg] at A29
  refine ww_seq (ww_call (((((A1).and ((A2).and (A3))).and (((A4).and (A5)).and ((A6).and (A7)))).and (((A8).and ((A9).and (A10))).and (((A11).and (A12)).and ((A13).and (A14))))).and ((((A15).and ((A16).and (A17))).and (((A18).and (A19)).and ((A20).and (A21)))).and ((((A22).and (A23)).and ((A24).and (A25))).and (((A26).and (A27)).and ((A28).and (A29)))))) (fun n hn k => by simp -implicitDefEqProofs (disch := omega) only [go_sem, reduceIte, Nat.reduceEqDiff, h7, h9, h11, h13, h15, h17, l7, l9, l11, l13, l15, l17, ldc_two L26, wv_tup, i_eql, iZ_eql, d_true, ↓cld2 hn.1.1.1.1 ea eb ua ub, ↓cld2 hn.1.1.1.2.1 eb ea ub ua, ↓cld2 hn.1.1.1.2.2 e1 e2 u1 u2, ↓cld2 hn.1.1.2.1.1 ea eb ua ub, ↓cld2 hn.1.1.2.1.2 eb ea ub ua, ↓cld2 hn.1.1.2.2.1 e4 e5 u4 u5, ↓cld2 hn.1.1.2.2.2 eb ec ub uc, ↓cld2 hn.1.2.1.1 ea e7 ua u7, ↓cld2 hn.1.2.1.2.1 e1 ec u1 uc, ↓cld2 hn.1.2.1.2.2 e8 e9 u8 u9, ↓cld2 hn.1.2.2.1.1 eb ec ub uc, ↓cld2 hn.1.2.2.1.2 ea e11 ua u11, ↓cld2 hn.1.2.2.2.1 e4 ec u4 uc, ↓cld2 hn.1.2.2.2.2 e12 e13 u12 u13, ↓cld2 hn.2.1.1.1 ea e7 ua u7, ↓cld2 hn.2.1.1.2.1 ea ec ua uc, ↓cld2 hn.2.1.1.2.2 e4 e16 u4 u16, ↓cld2 hn.2.1.2.1.1 e15 e17 u15 u17, ↓cld2 hn.2.1.2.1.2 ea eb ua ub, ↓cld2 hn.2.1.2.2.1 e19 eb u19 ub, ↓cld2 hn.2.1.2.2.2 e20 ea u20 ua, ↓cld1 hn.2.2.1.1.1 ea ua, ↓cld2 hn.2.2.1.1.2 ea e22 ua u22, ↓cld1 hn.2.2.1.2.1 e23 u23, ↓cld1 hn.2.2.1.2.2 ex ux, ↓cld1 hn.2.2.2.1.1 ey uy, ↓cld1 hn.2.2.2.1.2 e19 u19, ↓cld2 hn.2.2.2.2.1 ea eb ua ub, ↓cld1 hn.2.2.2.2.2 eg ug]; exact finD_ok (by kernel_rfl)) ?_)
  exact ww_ret (done _ sS rfl)
 ·have hs := sgn_pos (show 0 < ((Nat.gcd x.natAbs y.natAbs : Nat) : Int) from by omega)
  rw [hs] at A29
  refine ww_seq (ww_call (((((A1).and ((A2).and (A3))).and (((A4).and (A5)).and ((A6).and (A7)))).and (((A8).and ((A9).and (A10))).and (((A11).and (A12)).and ((A13).and (A14))))).and ((((A15).and ((A16).and (A17))).and (((A18).and (A19)).and ((A20).and (A21)))).and ((((A22).and (A23)).and ((A24).and (A25))).and (((A26).and (A27)).and ((A28).and (A29)))))) (fun n hn k => by simp -implicitDefEqProofs (disch := omega) only [go_sem, reduceIte, Nat.reduceEqDiff, h7, h9, h11, h13, h15, h17, l7, l9, l11, l13, l15, l17, ldc_two L26, wv_tup, i_eql, iZ_eql, d_true, d_false, ↓cld2 hn.1.1.1.1 ea eb ua ub, ↓cld2 hn.1.1.1.2.1 eb ea ub ua, ↓cld2 hn.1.1.1.2.2 e1 e2 u1 u2, ↓cld2 hn.1.1.2.1.1 ea eb ua ub, ↓cld2 hn.1.1.2.1.2 eb ea ub ua, ↓cld2 hn.1.1.2.2.1 e4 e5 u4 u5, ↓cld2 hn.1.1.2.2.2 eb ec ub uc, ↓cld2 hn.1.2.1.1 ea e7 ua u7, ↓cld2 hn.1.2.1.2.1 e1 ec u1 uc, ↓cld2 hn.1.2.1.2.2 e8 e9 u8 u9, ↓cld2 hn.1.2.2.1.1 eb ec ub uc, ↓cld2 hn.1.2.2.1.2 ea e11 ua u11, ↓cld2 hn.1.2.2.2.1 e4 ec u4 uc, ↓cld2 hn.1.2.2.2.2 e12 e13 u12 u13, ↓cld2 hn.2.1.1.1 ea e7 ua u7, ↓cld2 hn.2.1.1.2.1 ea ec ua uc, ↓cld2 hn.2.1.1.2.2 e4 e16 u4 u16, ↓cld2 hn.2.1.2.1.1 e15 e17 u15 u17, ↓cld2 hn.2.1.2.1.2 ea eb ua ub, ↓cld2 hn.2.1.2.2.1 e19 eb u19 ub, ↓cld2 hn.2.1.2.2.2 e20 ea u20 ua, ↓cld1 hn.2.2.1.1.1 ea ua, ↓cld2 hn.2.2.1.1.2 ea e22 ua u22, ↓cld1 hn.2.2.1.2.1 e23 u23, ↓cld1 hn.2.2.1.2.2 ex ux, ↓cld1 hn.2.2.2.1.1 ey uy, ↓cld1 hn.2.2.2.1.2 e19 u19, ↓cld2 hn.2.2.2.2.1 ea eb ua ub, ↓cld1 hn.2.2.2.2.2 eg ug]; exact finD_ok (by kernel_rfl)) ?_)
  exact ww_ret (done _ sS rfl)
end Go.AM.S
end
section
namespace Go.AM.S
open Go Go.AM Go.Proofs
set_option maxRecDepth 100000
theorem ok7 : FOk Pg Cg 7 ⟨rc7, Try.f7.results.toList⟩ := fok (kp := kp7) rfl Try.func7 (by kernel_rfl) (by kernel_rfl) (by kernel_rfl)
theorem ok16 : FOk Pg Cg 16 ⟨rc16, Try.f16.results.toList⟩ := fok (kp := kp16) rfl Try.func16 (by kernel_rfl) (by kernel_rfl) (by kernel_rfl)
theorem ok25 : FOk Pg Cg 25 ⟨rc25, Try.f25.results.toList⟩ := fok (kp := kp25) rfl Try.func25 (by kernel_rfl) (by kernel_rfl) (by kernel_rfl)
theorem ok33 : FOk Pg Cg 33 ⟨rc33, Try.f33.results.toList⟩ := fok (kp := kp33) rfl Try.func33 (by kernel_rfl) (by kernel_rfl) (by kernel_rfl)
theorem ok64 : FOk Pg Cg 64 ⟨rc64, Try.f64.results.toList⟩ := fok (kp := kp64) rfl Try.func64 (by kernel_rfl) (by kernel_rfl) (by kernel_rfl)
theorem ok68 : FOk Pg Cg 68 ⟨rc68, Try.f68.results.toList⟩ := fok (kp := kp68) rfl Try.func68 (by kernel_rfl) (by kernel_rfl) (by kernel_rfl)
theorem ok72 : FOk Pg Cg 72 ⟨rc72, Try.f72.results.toList⟩ := fok (kp := kp72) rfl Try.func72 (by kernel_rfl) (by kernel_rfl) (by kernel_rfl)
theorem ok83 : FOk Pg Cg 83 ⟨rc83, Try.f83.results.toList⟩ := fok (kp := kp83) rfl Try.func83 (by kernel_rfl) (by kernel_rfl) (by kernel_rfl)
theorem ok87 : FOk Pg Cg 87 ⟨rc87, Try.f87.results.toList⟩ := fok (kp := kp87) rfl Try.func87 (by kernel_rfl) (by kernel_rfl) (by kernel_rfl)
end Go.AM.S
end
section
namespace Go.AM.S
open Go Go.AM Go.Proofs
set_option maxRecDepth 100000
theorem ok13 : FOk Pg Cg 13 ⟨rc13, Try.f13.results.toList⟩ := fok (kp := kp13) rfl Try.func13 (by kernel_rfl) (by kernel_rfl) (by kernel_rfl)
theorem ok18 : FOk Pg Cg 18 ⟨rc18, Try.f18.results.toList⟩ := fok (kp := kp18) rfl Try.func18 (by kernel_rfl) (by kernel_rfl) (by kernel_rfl)
theorem ok27 : FOk Pg Cg 27 ⟨rc27, Try.f27.results.toList⟩ := fok (kp := kp27) rfl Try.func27 (by kernel_rfl) (by kernel_rfl) (by kernel_rfl)
theorem ok35 : FOk Pg Cg 35 ⟨rc35, Try.f35.results.toList⟩ := fok (kp := kp35) rfl Try.func35 (by kernel_rfl) (by kernel_rfl) (by kernel_rfl)
theorem ok65 : FOk Pg Cg 65 ⟨rc65, Try.f65.results.toList⟩ := fok (kp := kp65) rfl Try.func65 (by kernel_rfl) (by kernel_rfl) (by kernel_rfl)
theorem ok69 : FOk Pg Cg 69 ⟨rc69, Try.f69.results.toList⟩ := fok (kp := kp69) rfl Try.func69 (by kernel_rfl) (by kernel_rfl) (by kernel_rfl)
theorem ok73 : FOk Pg Cg 73 ⟨rc73, Try.f73.results.toList⟩ := fok (kp := kp73) rfl Try.func73 (by kernel_rfl) (by kernel_rfl) (by kernel_rfl)
theorem ok84 : FOk Pg Cg 84 ⟨rc84, Try.f84.results.toList⟩ := fok (kp := kp84) rfl Try.func84 (by kernel_rfl) (by kernel_rfl) (by kernel_rfl)
theorem ok89 : FOk Pg Cg 89 ⟨rc89, Try.f89.results.toList⟩ := fok (kp := kp89) rfl Try.func89 (by kernel_rfl) (by kernel_rfl) (by kernel_rfl)
end Go.AM.S
end
section
namespace Go.AM.S
open Go Go.AM Go.Proofs
set_option maxRecDepth 100000
theorem ok14 : FOk Pg Cg 14 ⟨rc14, Try.f14.results.toList⟩ := fok (kp := kp14) rfl Try.func14 (by kernel_rfl) (by kernel_rfl) (by kernel_rfl)
theorem ok21 : FOk Pg Cg 21 ⟨rc21, Try.f21.results.toList⟩ := fok (kp := kp21) rfl Try.func21 (by kernel_rfl) (by kernel_rfl) (by kernel_rfl)
theorem ok29 : FOk Pg Cg 29 ⟨rc29, Try.f29.results.toList⟩ := fok (kp := kp29) rfl Try.func29 (by kernel_rfl) (by kernel_rfl) (by kernel_rfl)
theorem ok37 : FOk Pg Cg 37 ⟨rc37, Try.f37.results.toList⟩ := fok (kp := kp37) rfl Try.func37 (by kernel_rfl) (by kernel_rfl) (by kernel_rfl)
theorem ok66 : FOk Pg Cg 66 ⟨rc66, Try.f66.results.toList⟩ := fok (kp := kp66) rfl Try.func66 (by kernel_rfl) (by kernel_rfl) (by kernel_rfl)
theorem ok70 : FOk Pg Cg 70 ⟨rc70, Try.f70.results.toList⟩ := fok (kp := kp70) rfl Try.func70 (by kernel_rfl) (by kernel_rfl) (by kernel_rfl)
theorem ok77 : FOk Pg Cg 77 ⟨rc77, Try.f77.results.toList⟩ := fok (kp := kp77) rfl Try.func77 (by kernel_rfl) (by kernel_rfl) (by kernel_rfl)
theorem ok85 : FOk Pg Cg 85 ⟨rc85, Try.f85.results.toList⟩ := fok (kp := kp85) rfl Try.func85 (by kernel_rfl) (by kernel_rfl) (by kernel_rfl)
end Go.AM.S
end
section
namespace Go.AM.S
open Go Go.AM Go.Proofs
set_option maxRecDepth 100000
theorem ok15 : FOk Pg Cg 15 ⟨rc15, Try.f15.results.toList⟩ := fok (kp := kp15) rfl Try.func15 (by kernel_rfl) (by kernel_rfl) (by kernel_rfl)
theorem ok24 : FOk Pg Cg 24 ⟨rc24, Try.f24.results.toList⟩ := fok (kp := kp24) rfl Try.func24 (by kernel_rfl) (by kernel_rfl) (by kernel_rfl)
theorem ok31 : FOk Pg Cg 31 ⟨rc31, Try.f31.results.toList⟩ := fok (kp := kp31) rfl Try.func31 (by kernel_rfl) (by kernel_rfl) (by kernel_rfl)
theorem ok39 : FOk Pg Cg 39 ⟨rc39, Try.f39.results.toList⟩ := fok (kp := kp39) rfl Try.func39 (by kernel_rfl) (by kernel_rfl) (by kernel_rfl)
theorem ok67 : FOk Pg Cg 67 ⟨rc67, Try.f67.results.toList⟩ := fok (kp := kp67) rfl Try.func67 (by kernel_rfl) (by kernel_rfl) (by kernel_rfl)
theorem ok71 : FOk Pg Cg 71 ⟨rc71, Try.f71.results.toList⟩ := fok (kp := kp71) rfl Try.func71 (by kernel_rfl) (by kernel_rfl) (by kernel_rfl)
theorem ok78 : FOk Pg Cg 78 ⟨rc78, Try.f78.results.toList⟩ := fok (kp := kp78) rfl Try.func78 (by kernel_rfl) (by kernel_rfl) (by kernel_rfl)
theorem ok86 : FOk Pg Cg 86 ⟨rc86, Try.f86.results.toList⟩ := fok (kp := kp86) rfl Try.func86 (by kernel_rfl) (by kernel_rfl) (by kernel_rfl)
end Go.AM.S
end
section
namespace Go.AM.S
open Go Go.AM Go.Proofs
set_option maxRecDepth 100000
theorem tbl_ok : ∀ p ∈ tblL, FOk Pg Cg p.1 p.2 := by
 unfold tblL
 simp only [List.forall_mem_cons, List.not_mem_nil, false_imp_iff, implies_true, and_true]
 exact ⟨ok7, ok13, ok14, ok15, ok16, ok18, ok21, ok24, ok25, ok27, ok29, ok31, ok33, ok35, ok37, ok39, ok64, ok65, ok66, ok67, ok68, ok69, ok70, ok71, ok72, ok73, ok77, ok78, ok83, ok84, ok85, ok86, ok87, ok89⟩
theorem use_ok : tblL.map (·.1) = cUse := rfl
theorem seat_eq (kn : Kn) (n : Nat) : S.fn Pg kn tbl n = fnV Pg Cg kn n := by
 refine fn_eq (fun f fc h => ⟨?_, ?_⟩) (fun f h => ?_) n
 ·have := lkL_mem h
  show cUse.contains f = true
  rw [← use_ok, List.contains_iff_mem]
  exact List.mem_map.2 ⟨(f, fc), this, rfl⟩
 ·exact tbl_ok _ (lkL_mem h)
 ·have := lkL_none h
  show cUse.contains f = false
  rw [← use_ok]
  cases hb : (tblL.map (·.1)).contains f with
  | false => rfl
  | true => exact absurd (List.contains_iff_mem.1 hb) this
end Go.AM.S
end
section
namespace Go.AM.S
open Go Go.AM Go.Proofs
set_option maxRecDepth 100000
theorem prog_ok : progOk Pg Cg = true := by kernel_rfl
end Go.AM.S
end
