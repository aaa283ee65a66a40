/- Part 5 of the proof: what it says stands at its theorems. -/
import Derived.Test.YtooliddjiiilfaaNgA4
import Derived.Test.YtooliddjiiilfaaNgA3
import Derived.KernelRfl
set_option linter.unusedVariables false
set_option linter.unusedSimpArgs false
set_option linter.unusedSectionVars false
section
namespace Go.AM.S
open Go Go.AM Go.Proofs NumL
open _root_.Go.AM.G (R)
set_option maxRecDepth 100000
theorem tbl37 : tbl 37 = some ⟨rc37, [.cell 4 26, .cell 5 26]⟩ := by kernel_rfl
structure I37 (s u : V) (b c : Bool) (h : Hp) (st : St) : Prop where
 h2 : gt st.tm 2 = .ptr (.loc 2 1) 0
 h3 : gt st.tm 3 = .ptr (.loc 3 1) 0
 h4 : gt st.tm 4 = .ptr (.loc 4 1) 0
 h5 : gt st.tm 5 = .ptr (.loc 5 1) 0
 h6 : gt st.tm 6 = .ptr (.loc 6 1) 0
 h7 : gt st.tm 7 = .ptr (.loc 7 1) 0
 l2 : lg st.loc 2 = (1, .cells false [s, .bool b])
 l3 : lg st.loc 3 = (1, .cells false [u, .bool c])
 l4 : lg st.loc 4 = (1, .cells false [.nils, .bool false])
 l5 : lg st.loc 5 = (1, .cells false [.nils, .bool false])
 hp : st.hp = h
theorem IsI.nn {k : Nat} {s : V} {b : Bool} {z : Int} (h : IsI k (.agg [s, .bool b]) z) : Pl s ∧ Ex1 (.agg [s, .bool b]) ∧ AM.quiet (.agg [s, .bool b]) = true := by
 obtain ⟨s', b', e, p, x, q⟩ := h.form
 have e' : s = s' ∧ b = b' := by simpa using e
 obtain ⟨rfl, rfl⟩ := e'
 exact ⟨p, x, q⟩
theorem quo_spec {k l : Nat} {va vb : V} {x y : Int} (ha : IsI k va x) (hb : IsI l vb y) (hk : k ≤ 300000) (hl : l ≤ 300000) : Gives 37 [va, vb] fun r => ∃ v w, r = .tuple [v, w] ∧ IsI k v (x / y) ∧ IsI (if y = 0 then k else l) w (x % y) := by
 have ha0 := ha
 have hb0 := hb
 obtain ⟨d, b, ⟨⟨s, rfl, hs⟩, dd, cd, h0⟩, hx, hdl⟩ := ha
 obtain ⟨e, c, ⟨⟨u, rfl, hu⟩, de, ce, he0⟩, hy, hel⟩ := hb
 refine gives_of tbl37 fun h Q hQ => ?_
 unfold rc37
 refine sRG ?_
 have fin : ∀ (st : St) (v0 v1 w0 w1 : V) , IsI k (.agg [v0, v1]) (x / y) → IsI (if y = 0 then k else l) (.agg [w0, w1]) (x % y) → gt st.tm 4 = .ptr (.loc 4 1) 0 → gt st.tm 5 = .ptr (.loc 5 1) 0 → lg st.loc 4 = (1, .cells false [v0, v1]) → lg st.loc 5 = (1, .cells false [w0, w1]) → st.hp = ⟨h.rows, none, h.mods⟩ → Q st := by
  intro st v0 v1 w0 w1 hv hw h4 h5 l4 l5 hh
  obtain ⟨sv, bv, e1, pv, _, _⟩ := hv.form
  obtain ⟨sw, bw, e2, pw, _, _⟩ := hw.form
  obtain ⟨rfl, rfl⟩ : v0 = sv ∧ v1 = .bool bv := by simpa using e1
  obtain ⟨rfl, rfl⟩ : w0 = sw ∧ w1 = .bool bw := by simpa using e2
  exact hQ _ _ (fin_cells2 (x := v0) (y := .bool bv) (x2 := w0) (y2 := .bool bw) (d := 4) (g := 1) (d2 := 5) (g2 := 1) (f := false) (f2 := false) (by kernel_rfl) (by kernel_rfl) h4 h5 l4 l5 pv (Pl.bool _) pw (Pl.bool _) (by rw [hh]; exact fun x hx => by cases hx)) ⟨_, _, rfl, hv, hw⟩
 rcases Nat.eq_zero_or_pos e.length with ee | ee
 ·
  have e0 : e = [] := List.length_eq_zero_iff.1 ee
  have hy0 : y = 0 := by rw [hy, e0, he0 e0]; rfl
  refine ww_seq (ww_seq (ww_reg (fun n k => by simp -implicitDefEqProofs (disch := omega) only [go_sem, reduceIte, Nat.reduceEqDiff, gt_start, List.getD_cons_zero, List.getD_cons_succ, ldc_fst L24, len_sl hu, ee, d_true]; rfl) ?_))
  refine ww_true sS ?_
  refine ww_seq (ww_reg (fun n k => by simp -implicitDefEqProofs (disch := omega) only [go_sem, reduceIte, Nat.reduceEqDiff, gt_start, List.getD_cons_zero, List.getD_cons_succ, db37_2_0, ldc_two L26, stc_two N26 1 .nils (.bool false) .nils (.bool false) _ rfl rfl, stc_two N26 1 s (.bool b) .nils (.bool false) _ hs.pl.ok rfl]; exact finD_ok (by kernel_rfl)) ?_)
  refine ww_ret (fin _ .nils (.bool false) s (.bool b) ?_ ?_ sS sS sS sS rfl)
  ·rw [hy0, Int.ediv_zero]; exact zeroI.mono (Nat.zero_le _)
  ·rw [hy0, Int.emod_zero, if_pos rfl]; exact ha0
 have hne : e ≠ [] := fun q => by subst q; simp at ee
 have hE : 0 < vl B e := Nat.pos_of_ne_zero fun q => hne ((vl_zero ce).1 q)
 have hyn : y ≠ 0 := by rw [hy]; unfold zv; cases c <;> simp <;> omega
 refine ww_seq (ww_seq (ww_reg (fun n k => by simp -implicitDefEqProofs (disch := omega) only [go_sem, reduceIte, Nat.reduceEqDiff, gt_start, List.getD_cons_zero, List.getD_cons_succ, ldc_fst L24, len_sl hu, d_false]; rfl) ?_))
 refine ww_false sS (ww_skip ?_)
 obtain ⟨r1, hr1, f1, ⟨⟨s1, rfl, hs1⟩, df1, cf1, hf1⟩, ht1⟩ := made_spec hs dd (by omega) false ⟨h.rows, none, h.mods⟩
 refine ww_seq (ww_call (hr1) (fun n hn k => by simp -implicitDefEqProofs (disch := omega) only [go_sem, reduceIte, Nat.reduceEqDiff, gt_start, List.getD_cons_zero, List.getD_cons_succ, ldc_fst L24, clc2 hn hs.ex (Ex1.bool _), stc_two N26 1 .nils (.bool false) .nils (.bool false) _ rfl rfl, stc_two N26 1 s1 (.bool (false && !f1.isEmpty)) .nils (.bool false) _ hs1.pl.ok rfl]; rfl) ?_)
 have hbc : ∀ q : Nat, ∀ f : List Nat, vl B f = q → zv f ((!(b == c)) && !f.isEmpty) = bif b == c then (q : Int) else -(q : Int) := by
  intro q f hf
  subst hf
  cases b == c with
  | true => simp [zv]
  | false =>
   cases f with
   | nil => rfl
   | cons x0 l0 => rfl
 refine ww_join (M := fun st => I37 s u b c ⟨h.rows, none, h.mods⟩ st ∧ ∃ (sq : V) (bq : Bool) (q : Nat) (sr : V) (g : List Nat), lg st.loc 6 = (1, .cells false [sq, .bool bq]) ∧ lg st.loc 7 = (1, .cells false [sr, .bool false]) ∧ IsI k (.agg [sq, .bool bq]) (bif b == c then (q : Int) else -(q : Int)) ∧ Sl .u32 sr g ∧ Dg B g ∧ Cn g ∧ q * vl B e + vl B g = vl B d ∧ vl B g < vl B e) ?_ ?_
 ·obtain ⟨_, hcm, rfl⟩ := compare_spec hs hu dd de cd ce (by omega) (by omega) ⟨h.rows, none, h.mods⟩
  rcases Nat.lt_or_ge (vl B d) (vl B e) with hlt | hge
  ·have hc : cmpI (vl B d) (vl B e) = .negSucc 0 := by unfold cmpI; rw [if_pos hlt]
   rw [hc] at hcm
   refine ww_seq (ww_call (hcm) (fun n hn k => by simp -implicitDefEqProofs (disch := omega) only [go_sem, reduceIte, Nat.reduceEqDiff, ldc_fst L24, clc2 hn hs.ex hu.ex]; rfl) ?_)
   refine ww_false sS (ww_skip ?_)
   refine ⟨⟨sSG, sSG, sS, sS, sS, sS, sS, sS, sS, sS, rfl⟩, .nils, false, 0, s1, f1, sS, (by simp -implicitDefEqProofs (disch := omega) only [go_sem, reduceIte, Nat.reduceEqDiff, Bool.false_and]), by cases b == c <;> exact zeroI.mono (Nat.zero_le _), hs1, df1, cf1, by rw [ht1.vl]; omega, by rw [ht1.vl]; exact hlt⟩
  ·have hc : ∃ z, cmpI (vl B d) (vl B e) = .ofNat z := by
    unfold cmpI
    rw [if_neg (by omega)]
    split
    ·exact ⟨1, rfl⟩
    ·exact ⟨0, rfl⟩
   obtain ⟨z, hz⟩ := hc
   rw [hz] at hcm
   refine ww_seq (ww_call (hcm) (fun n hn k => by simp -implicitDefEqProofs (disch := omega) only [go_sem, reduceIte, Nat.reduceEqDiff, ldc_fst L24, clc2 hn hs.ex hu.ex, d_true]; rfl) ?_)
   refine ww_true sS ?_
   obtain ⟨_, hdv, so, st, O, T, rfl, hso, hst, dO, dT, cT, hv, hlt, lO⟩ := divided_spec hs hu dd de ce hne (len_le (by decide) dd ce hge) (by omega) ⟨h.rows, none, h.mods⟩
   refine ww_seq (ww_call (hdv) (fun n hn k => by simp -implicitDefEqProofs (disch := omega) only [go_sem, reduceIte, Nat.reduceEqDiff, ldc_fst L24, clc2 hn hs.ex hu.ex, ext_tuple]; rfl) ?_)
   obtain ⟨r2, hr2, f2, hf2, ht2⟩ := made_spec hso dO (by omega) (!(b == c)) ⟨h.rows, none, h.mods⟩
   obtain ⟨r3, hr3, f3, ⟨⟨s3, rfl, hs3⟩, df3, cf3, hf3⟩, ht3⟩ := made_spec hst dT (by have := len_le (B := B) (by decide) de cT (by omega); omega) false ⟨h.rows, none, h.mods⟩
   have hf2' := hf2
   obtain ⟨⟨s2, rfl, hs2⟩, df2, cf2, hf20⟩ := hf2
   have l2 := ht2.len
   refine ww_call (hr2.and hr3) (fun n hn k => by simp -implicitDefEqProofs (disch := omega) only [go_sem, reduceIte, Nat.reduceEqDiff, ldc_snd L4, bin_neb 4 false b c U4, clc2 hn.1 hso.ex (Ex1.bool _), clc2 hn.2 hst.ex (Ex1.bool _), stc_two N26 1 s2 (.bool (!(b == c) && !f2.isEmpty)) .nils (.bool false) _ hs2.pl.ok rfl, stc_two N26 1 s3 (.bool (false && !f3.isEmpty)) s1 (.bool (false && !f1.isEmpty)) _ hs3.pl.ok rfl]; rfl) ?_
   exact ⟨⟨sSG, sSG, sS, sS, sS, sS, sS, sS, sS, sS, rfl⟩, s2, _, vl B O, s3, f3, sS, (by simp -implicitDefEqProofs (disch := omega) only [go_sem, reduceIte, Nat.reduceEqDiff, Bool.false_and]), ⟨f2, _, hf2', (hbc _ _ (ht2.vl B)).symm, by omega⟩, hs3, df3, cf3, by rw [ht3.vl]; exact hv, by rw [ht3.vl]; exact hlt⟩
 intro st ⟨⟨h2, h3, h4, h5, h6, h7, l2, l3, l4, l5, hhp⟩, sq, bq, q, sr, g, l6, l7, hq, hsr, dg, cg, hv, hlt⟩
 obtain ⟨ql, qr⟩ := quo_law b c hv hlt
 have ex : x = bif b then -(vl B d : Int) else (vl B d : Int) := hx
 have ey : y = bif c then -(vl B e : Int) else (vl B e : Int) := hy
 rw [← ex, ← ey] at ql qr
 have hgz : (0 < g.length) ↔ 0 < vl B g := by
  constructor
  ·intro h1
   exact Nat.pos_of_ne_zero fun q => by have := (vl_zero cg).1 q; subst this; simp at h1
  ·intro h1
   rcases Nat.eq_zero_or_pos g.length with q | q
   ·have : g = [] := List.length_eq_zero_iff.1 q
    subst this; simp [vl] at h1
   ·exact q
 have hgl : g.length ≤ l := by have := len_le (B := B) (by decide) de cg (by omega); omega
 have hgI : IsI l (.agg [sr, .bool false]) ((vl B g : Nat) : Int) := ⟨g, false, ⟨⟨sr, rfl, hsr⟩, dg, cg, fun _ => rfl⟩, rfl, hgl⟩
 have hlast : ∀ (s2 : St) (v0 v1 w0 w1 : V), IsI k (.agg [v0, v1]) (x / y) → IsI l (.agg [w0, w1]) (x % y) → I37 s u b c ⟨h.rows, none, h.mods⟩ s2 → lg s2.loc 6 = (1, .cells false [v0, v1]) → lg s2.loc 7 = (1, .cells false [w0, w1]) → WW Pg kn0 tbl (.seq (.reg fun c t l h k => bO (ld Pg 26 (g6 t) l h) fun v0 => bO (ld Pg 26 (g7 t) l h) fun v1 => jE ((65, v1) :: (64, v0) :: []) fun e2 => jF ((ldF (g7 t)) :: (ldF (g6 t)) :: []) fun q2 => gD Try.f37 37 13 2 c (p64 (p4 t (g4 t)) v0) l h (fun v2 f2 l2 h2 => jF (f2 :: q2) fun q3 => gD Try.f37 37 13 3 c (p65 (p5 t (g5 t)) v1) l2 h2 (fun v3 f3 l3 h3 => finD (rgA Try.f37 13).toList [(1, 2)] [(1, 2)] (f3 :: q3) (k t l3 h3)) (sD Try.f37 37 13 c 3 none e2 q3 t l2 h2)) (sD Try.f37 37 13 c 2 none e2 q2 t l h)) .ret) s2 (fun _ => False) (fun _ _ => False) Q := by
  intro s2 v0 v1 w0 w1 hv hw ⟨k2, k3, k4, k5, k6, k7, m2, m3, m4, m5, mh⟩ m6 m7
  obtain ⟨sv, bv, e1, pv, _, _⟩ := hv.form
  obtain ⟨sw, bw, e2, pw, _, _⟩ := hw.form
  obtain ⟨rfl, rfl⟩ : v0 = sv ∧ v1 = .bool bv := by simpa using e1
  obtain ⟨rfl, rfl⟩ : w0 = sw ∧ w1 = .bool bw := by simpa using e2
  refine ww_seq (ww_reg (fun n k => by simp -implicitDefEqProofs (disch := omega) only [go_sem, reduceIte, Nat.reduceEqDiff, k4, k5, k6, k7, m4, m5, m6, m7, ldc_two L26, stc_two N26 1 v0 (.bool bv) .nils (.bool false) _ pv.ok rfl, stc_two N26 1 w0 (.bool bw) .nils (.bool false) _ pw.ok rfl]; exact finD_ok (by kernel_rfl)) ?_)
  exact ww_ret (fin _ _ _ _ _ hv (by rw [if_neg hyn]; exact hw) (sS1 k4) (sS1 k5) sS sS mh)
 have hb01 : b = true ∧ 0 < vl B g ∨ (b && decide (0 < vl B g)) = false := by
  cases b with
  | false => exact .inr rfl
  | true =>
   rcases Nat.eq_zero_or_pos (vl B g) with q | q
   ·exact .inr (by rw [q]; rfl)
   ·exact .inl ⟨rfl, q⟩
 rcases hb01 with ⟨rfl, hg0⟩ | hbf
 ·rw [decide_eq_true hg0, Bool.true_and, cond_true] at qr
  rw [decide_eq_true hg0] at ql
  simp only [cond_true] at ql
  have hgl0 := hgz.2 hg0
  refine ww_join (M := fun s2 => ∃ v0 v1 w0 w1, IsI k (.agg [v0, v1]) (x / y) ∧ IsI l (.agg [w0, w1]) (x % y) ∧ I37 s u true c ⟨h.rows, none, h.mods⟩ s2 ∧ lg s2.loc 6 = (1, .cells false [v0, v1]) ∧ lg s2.loc 7 = (1, .cells false [w0, w1])) ?_ (fun s2 ⟨v0, v1, w0, w1, a1, a2, a3, a4, a5⟩ => hlast s2 v0 v1 w0 w1 a1 a2 a3 a4 a5)
  refine ww_seq (ww_reg (fun n k => by simp -implicitDefEqProofs (disch := omega) only [go_sem, reduceIte, Nat.reduceEqDiff, h2, h7, l2, l7, ldc_snd L4, ldc_fst L24, len_sl hsr, decide_eq_true hgl0]; rfl) ?_)
  refine ww_true sS ?_
  obtain ⟨r4, hr4, f4, hf4, ht4⟩ := made_spec hu de (by omega) false ⟨h.rows, none, h.mods⟩
  have hI4 : IsI l r4 ((vl B e : Nat) : Int) := ⟨f4, _, hf4, by rw [Bool.false_and]; show ((vl B e : Nat) : Int) = ((vl B f4 : Nat) : Int); rw [ht4.vl], by have := ht4.len; omega⟩
  obtain ⟨r5, hr5, hI5⟩ := sub_spec hI4 hgI (by omega) (by omega) ⟨h.rows, none, h.mods⟩
  have hEl : vl B e < B ^ l := vl_lt_of (by decide) de hel
  have hI5' : IsI l r5 (x % y) := by rw [qr]; exact hI5.shrink (by omega)
  obtain ⟨s5, b5, rfl, p5, x5, q5⟩ := hI5'.form
  obtain ⟨s4, b4, rfl, p4, x4, q4⟩ := hI4.form
  obtain ⟨p7, x7, q7⟩ := hgI.nn
  refine ww_seq (ww_call (hr4.and hr5) (fun n hn k => by simp -implicitDefEqProofs (disch := omega) only [go_sem, reduceIte, Nat.reduceEqDiff, h3, h7, hhp, l3, l7, ldc_fst L24, ldc_two L26, cld2 hn.1 hu.ex (Ex1.bool _) hu.quiet rfl, cld2 hn.2 x4 x7 q4 q7, stc_two N26 1 s5 (.bool b5) sr (.bool false) _ p5.ok rfl]; exact finD_ok (by kernel_rfl)) ?_)
  obtain ⟨r8, hr8, hI8⟩ := of_spec (z := 1) (by decide) (by decide) ⟨h.rows, none, h.mods⟩
  obtain ⟨r9, hr9, hI9⟩ := of_spec (z := -1) (by decide) (by decide) ⟨h.rows, none, h.mods⟩
  obtain ⟨s8, b8, rfl, p8, x8, q8⟩ := hI8.form
  obtain ⟨s9, b9, rfl, p9, x9, q9⟩ := hI9.form
  have hr8' : Runs Pg kn0 tbl 21 [.int .i64 (.ofNat 1)] ⟨h.rows, none, h.mods⟩ (.val (.agg [s8, .bool b8]) ⟨h.rows, none, h.mods⟩) := hr8
  have hr9' : Runs Pg kn0 tbl 21 [.int .i64 (.negSucc 0)] ⟨h.rows, none, h.mods⟩ (.val (.agg [s9, .bool b9]) ⟨h.rows, none, h.mods⟩) := hr9
  refine ww_seq (ww_call (hr8') (fun n hn k => by simp -implicitDefEqProofs (disch := omega) only [go_sem, reduceIte, Nat.reduceEqDiff, hhp, clc1 hn (Ex1.int _ _), stc_two N26 ((lg st.loc 10).1 + 1) s8 (.bool b8) .nils (.bool false) _ p8.ok rfl]; rfl) ?_)
  obtain ⟨pq, xq, qq⟩ := hq.nn
  have hone : ∀ (s10 : V) (b10 : Bool) (st2 : St), IsI 2 (.agg [s10, .bool b10]) (bif c then -1 else 1) → I37 s u true c ⟨h.rows, none, h.mods⟩ st2 → gt st2.tm 10 = .ptr (.loc 10 ((lg st.loc 10).1 + 1)) 0 → lg st2.loc 10 = ((lg st.loc 10).1 + 1, .cells false [s10, .bool b10]) → lg st2.loc 6 = (1, .cells false [sq, .bool bq]) → lg st2.loc 7 = (1, .cells false [s5, .bool b5]) →
    WW Pg kn0 tbl (.reg fun c t l h k => bO (ld Pg 26 (g6 t) l h) fun v0 => bO (ld Pg 26 (g10 t) l h) fun v1 => cl c 27 [v0, v1] t l h fun v2 l2 h2 => jn (fun v3 l3 h3 => k t l3 h3) fun j3 => sto 26 (g6 t) v2 l2 h2 j3 (gn Try.f37 37 12 3 c (p63 (p6 t (g6 t)) v2) t l2 h2 j3)) st2 (fun s2 => ∃ v0 v1 w0 w1, IsI k (.agg [v0, v1]) (x / y) ∧ IsI l (.agg [w0, w1]) (x % y) ∧ I37 s u true c ⟨h.rows, none, h.mods⟩ s2 ∧ lg s2.loc 6 = (1, .cells false [v0, v1]) ∧ lg s2.loc 7 = (1, .cells false [w0, w1])) (fun _ _ => False) (fun _ => False) := by
   intro s10 b10 st2 hI10 ⟨k2, k3, k4, k5, k6, k7, m2, m3, m4, m5, mh⟩ m10 k10 n6 n7
   obtain ⟨r11, hr11, hI11⟩ := sub_spec hq hI10 (by omega) (by omega) ⟨h.rows, none, h.mods⟩
   have hval : (bif true == c then (q : Int) else -(q : Int)) - (bif c then -1 else 1) = x / y := by
    rw [ql]
    cases c with
    | false => rfl
    | true => show (q : Int) - (-1) = q + 1; omega
   rw [hval] at hI11
   have hI12 := hI11.shrink (l := k) (Nat.lt_of_le_of_lt (Int.natAbs_ediv_le_natAbs x y) ha0.abs_lt)
   obtain ⟨s11, b11, rfl, p11, x11, q11⟩ := hI12.form
   obtain ⟨_, x10, _⟩ := hI10.nn
   refine ww_call (hr11) (fun n hn k => by simp -implicitDefEqProofs (disch := omega) only [go_sem, reduceIte, Nat.reduceEqDiff, k6, n6, m10, k10, mh, ldc_two L26, clc2 hn xq x10, stc_two N26 1 s11 (.bool b11) sq (.bool bq) _ p11.ok rfl]; rfl) ?_
   exact ⟨s11, .bool b11, s5, .bool b5, hI12, hI5', ⟨(sS1 k2), (sS1 k3), (sS1 k4), (sS1 k5), (sS1 k6), (sS1 k7), (sS1 m2), (sS1 m3), (sS1 m4), (sS1 m5), rfl⟩, sS, (sS1 n7)⟩
  cases c with
  | false =>
   refine ww_seq (ww_seq (ww_reg (fun n k => by simp -implicitDefEqProofs (disch := omega) only [go_sem, reduceIte, Nat.reduceEqDiff, h3, l3, ldc_snd L4]; rfl) ?_))
   refine ww_false sS (ww_skip ?_)
   exact hone s8 b8 _ hI8 ⟨(sS1 h2), (sS1 h3), (sS1 h4), (sS1 h5), (sS1 h6), (sS1 h7), (sS1 l2), (sS1 l3), (sS1 l4), (sS1 l5), rfl⟩ sS sS (sS1 l6) sS
  | true =>
   refine ww_seq (ww_seq (ww_reg (fun n k => by simp -implicitDefEqProofs (disch := omega) only [go_sem, reduceIte, Nat.reduceEqDiff, h3, l3, ldc_snd L4]; rfl) ?_))
   refine ww_true sS ?_
   refine ww_call (hr9') (fun n hn k => by simp -implicitDefEqProofs (disch := omega) only [go_sem, reduceIte, Nat.reduceEqDiff, clc1 hn (Ex1.int _ _), stc_two N26 ((lg st.loc 10).1 + 1) s9 (.bool b9) s8 (.bool b8) _ p9.ok rfl]; rfl) ?_
   exact hone s9 b9 _ hI9 ⟨(sS1 h2), (sS1 h3), (sS1 h4), (sS1 h5), (sS1 h6), (sS1 h7), (sS1 l2), (sS1 l3), (sS1 l4), (sS1 l5), rfl⟩ sS sS (sS1 l6) sS
 ·rw [hbf, cond_false] at qr
  have qf : x / y = bif b == c then (q : Int) else -(q : Int) := by
   rw [ql]
   cases b with
   | false => cases c <;> rfl
   | true =>
    rw [Bool.true_and] at hbf
    rw [hbf]
    cases c <;> simp
  refine ww_join (M := fun s2 => s2.loc = st.loc ∧ I37 s u b c ⟨h.rows, none, h.mods⟩ s2) ?_ (fun s2 ⟨hloc, hI⟩ => hlast s2 sq (.bool bq) sr (.bool false) (by rw [qf]; exact hq) (by rw [qr]; exact hgI) hI (by rw [hloc]; exact l6) (by rw [hloc]; exact l7))
  cases b with
  | false =>
   refine ww_seq (ww_reg (fun n k => by simp -implicitDefEqProofs (disch := omega) only [go_sem, reduceIte, Nat.reduceEqDiff, h2, l2, ldc_snd L4]; rfl) ?_)
   exact ww_false sS (ww_skip ⟨rfl, ⟨(sS1 h2), (sS1 h3), (sS1 h4), (sS1 h5), (sS1 h6), (sS1 h7), l2, l3, l4, l5, hhp⟩⟩)
  | true =>
   rw [Bool.true_and, decide_eq_false_iff_not, ← hgz] at hbf
   refine ww_seq (ww_reg (fun n k => by simp -implicitDefEqProofs (disch := omega) only [go_sem, reduceIte, Nat.reduceEqDiff, h2, h7, l2, l7, ldc_snd L4, ldc_fst L24, len_sl hsr, decide_eq_false hbf]; rfl) ?_)
   exact ww_false sS (ww_skip ⟨rfl, ⟨(sS1 h2), (sS1 h3), (sS1 h4), (sS1 h5), (sS1 h6), (sS1 h7), l2, l3, l4, l5, hhp⟩⟩)
end Go.AM.S
end
section
namespace Go.AM.S
open Go Go.AM Go.Proofs NumL
open _root_.Go.AM.G (R)
set_option maxRecDepth 100000
theorem tbl39 : tbl 39 = some ⟨rc39, [.cell 4 26]⟩ := by kernel_rfl
theorem abs_of {v : V} {s : V} {d f : List Nat} {b : Bool} {k : Nat} (hf : NI v f (false && !f.isEmpty)) (ht : Tr0 d f) (hl : d.length ≤ k) : IsI k v ((vl B d : Nat) : Int) :=
 ⟨f, _, hf, by rw [Bool.false_and]; show ((vl B d : Nat) : Int) = ((vl B f : Nat) : Int); rw [ht.vl], by have := ht.len; omega⟩
theorem zv_abs (d : List Nat) (b : Bool) : (zv d b).natAbs = vl B d := by unfold zv; cases b <;> simp
theorem gcd_spec {k l : Nat} {va vb : V} {x y : Int} (ha : IsI k va x) (hb : IsI l vb y) (hk : k ≤ 300000) (hl : l ≤ 300000) : Gives 39 [va, vb] fun r => IsI (max k l) r ((Nat.gcd x.natAbs y.natAbs : Nat) : Int) := by
 obtain ⟨d, b, ⟨⟨s, rfl, hs⟩, dd, cd, h0⟩, rfl, hdl⟩ := ha
 obtain ⟨e, c, ⟨⟨u, rfl, hu⟩, de, ce, he0⟩, rfl, hel⟩ := hb
 rw [zv_abs, zv_abs]
 refine gives_of tbl39 fun h Q hQ => ?_
 unfold rc39
 refine sRG ?_
 obtain ⟨r1, hr1, f1, hf1, ht1⟩ := made_spec hs dd (by omega) false ⟨h.rows, none, h.mods⟩
 obtain ⟨r2, hr2, f2, hf2, ht2⟩ := made_spec hu de (by omega) false ⟨h.rows, none, h.mods⟩
 have hI1 : IsI (max k l) r1 ((vl B d : Nat) : Int) := abs_of (s := s) (b := b) hf1 ht1 (by omega)
 have hI2 : IsI (max k l) r2 ((vl B e : Nat) : Int) := abs_of (s := s) (b := b) hf2 ht2 (by omega)
 obtain ⟨s1, b1, rfl, p1, x1, q1⟩ := hI1.form
 obtain ⟨s2, b2, rfl, p2, x2, q2⟩ := hI2.form
 refine ww_seq (ww_call (hr1.and hr2) (fun n hn k => by simp -implicitDefEqProofs (disch := omega) only [go_sem, reduceIte, Nat.reduceEqDiff, gt_start, List.getD_cons_zero, List.getD_cons_succ, ldc_fst L24, cld2 hn.1 hs.ex (Ex1.bool _) hs.quiet rfl, cld2 hn.2 hu.ex (Ex1.bool _) hu.quiet rfl, stc_two N26 1 s1 (.bool b1) s (.bool b) _ p1.ok rfl, stc_two N26 1 s2 (.bool b2) u (.bool c) _ p2.ok rfl]; exact finD_ok (by kernel_rfl)) ?_)
 refine ww_seq (ww_for (fun m st => ∃ a sa ba sb bb, IsI (max k l) (.agg [sa, .bool ba]) ((a : Nat) : Int) ∧ IsI (max k l) (.agg [sb, .bool bb]) ((m : Nat) : Int) ∧ Nat.gcd a m = Nat.gcd (vl B d) (vl B e) ∧ gt st.tm 2 = .ptr (.loc 2 1) 0 ∧ gt st.tm 3 = .ptr (.loc 3 1) 0 ∧ gt st.tm 4 = .ptr (.loc 4 1) 0 ∧ lg st.loc 2 = (1, .cells false [sa, .bool ba]) ∧ lg st.loc 3 = (1, .cells false [sb, .bool bb]) ∧ lg st.loc 4 = (1, .cells false [.nils, .bool false]) ∧ st.hp = ⟨h.rows, none, h.mods⟩) (vl B e) ⟨vl B d, s1, b1, s2, b2, hI1, hI2, rfl, sSG, sSG, sS, sS, sS, sS, rfl⟩ ?_)
 intro m st ⟨a, sa, ba, sb, bb, hA, hM, hg, h2, h3, h4, l2, l3, l4, hhp⟩
 obtain ⟨pa, xa, qa⟩ := hA.nn
 obtain ⟨pb, xb, qb⟩ := hM.nn
 have hM' := hM
 obtain ⟨f, b', ⟨⟨sb', eb, hsb⟩, df, cf, hf0⟩, hmv, hfl⟩ := hM'
 obtain ⟨rfl, rfl⟩ : sb = sb' ∧ bb = b' := by simpa using eb
 have hfm : vl B f = m := by rw [← zv_abs f bb, ← hmv]; simp
 rcases Nat.eq_zero_or_pos f.length with e0 | e0
 ·have ef : f = [] := List.length_eq_zero_iff.1 e0
  have hm0 : m = 0 := by rw [← hfm, ef]; rfl
  refine ww_seq (ww_seq (ww_reg (fun n k => by simp -implicitDefEqProofs (disch := omega) only [go_sem, reduceIte, Nat.reduceEqDiff, h3, l3, ldc_fst L24, len_sl hsb, e0, d_false]; rfl) ?_))
  refine ww_false sS (ww_exit ?_)
  rw [if_pos rfl]
  refine ww_seq (ww_reg (fun n k => by simp -implicitDefEqProofs (disch := omega) only [go_sem, reduceIte, Nat.reduceEqDiff, h2, l2, h4, l4, ldc_two L26, stc_two N26 1 sa (.bool ba) .nils (.bool false) _ pa.ok rfl]; rfl) ?_)
  refine ww_ret (hQ _ _ (fin_cell (x := sa) (y := .bool ba) (f := false) (d := 4) (g := 1) (by kernel_rfl) (sS1 h4) sS pa (Pl.bool _) (by rw [hhp])) ?_)
  rw [← hg, hm0, Nat.gcd_zero_right]
  exact hA
 ·have hm0 : 0 < m := by
   rw [← hfm]
   exact Nat.pos_of_ne_zero fun q => by have := (vl_zero cf).1 q; subst this; simp at e0
  refine ww_seq (ww_seq (ww_reg (fun n k => by simp -implicitDefEqProofs (disch := omega) only [go_sem, reduceIte, Nat.reduceEqDiff, h3, l3, ldc_fst L24, len_sl hsb, d_true]; rfl) ?_))
  refine ww_true sS (ww_skip (ww_block ?_))
  obtain ⟨_, hq, v, w, rfl, hv, hw⟩ := quo_spec hA hM (by omega) (by omega) ⟨h.rows, none, h.mods⟩
  rw [if_neg (by omega), ← Int.natCast_emod] at hw
  obtain ⟨sv, bv, rfl, pv, xv, _⟩ := hv.form
  obtain ⟨sw, bw, rfl, pw, xw, _⟩ := hw.form
  refine ww_seq (ww_call (hq) (fun n hn k => by simp -implicitDefEqProofs (disch := omega) only [go_sem, reduceIte, Nat.reduceEqDiff, h2, h3, l2, l3, hhp, ldc_two L26, clc2 hn xa xb, ext_tuple, stc_two N26 ((lg st.loc 5).1 + 1) sv (.bool bv) .nils (.bool false) _ pv.ok rfl, stc_two N26 ((lg st.loc 6).1 + 1) sw (.bool bw) .nils (.bool false) _ pw.ok rfl]; rfl) ?_)
  refine ww_reg (fun n k => by simp -implicitDefEqProofs (disch := omega) only [go_sem, reduceIte, Nat.reduceEqDiff, h2, h3, l2, l3, ldc_two L26, stc_two N26 1 sb (.bool bb) sa (.bool ba) _ pb.ok rfl, stc_two N26 1 sw (.bool bw) sb (.bool bb) _ pw.ok rfl]; exact finD_ok (by kernel_rfl)) ?_
  exact ⟨a % m, Nat.mod_lt _ hm0, m, sb, bb, sw, bw, hM, hw, by rw [← hg, Nat.gcd_comm a m, Nat.gcd_rec m a, Nat.gcd_comm], (sS1 h2), (sS1 h3), (sS1 h4), sS, sS, (sS1 l4), rfl⟩
end Go.AM.S
end
section
namespace Go.AM.S
open Go Go.AM Go.Proofs NumL
open _root_.Go.AM.G (R)
set_option maxRecDepth 100000
theorem iZ_eql (k : IntKind) (x : Int) : G.int2 .eql k x x = some (.bool true) := by
 show some (V.bool (F.eqI x x)) = _
 rw [F.eqI_eq]
 simp
end Go.AM.S
end
section
namespace Go.AM.S
open Go Go.AM Go.Proofs NumL
open _root_.Go.AM.G (R)
set_option maxRecDepth 100000
end Go.AM.S
end
section
namespace Go.AM.S
open Go Go.AM Go.Proofs NumL
open _root_.Go.AM.G (R)
set_option maxRecDepth 100000
theorem bs79_3 (s t u : Str) : bs Pg 79 3 [(0, .str s), (1, .str t), (2, .str u)] = some (.slice none true 1 [.str s, .str t, .str u]) := by
 unfold bs
 rw [E79]
 change G.onSome (F.layE Pg 9) (fun p => G.onSome (F.zeroV Pg 9) (fun z => bif (Nat.mul 3 p.fst).ble 16777216 && F.noRefsR z && z.live && (F.lenR z.cells).beq p.fst then G.onSome (filE p.fst [(0, V.str s), (1, V.str t), (2, V.str u)] (F.repR 3 z)) (fun l => some (V.slice none true p.fst l)) none else none) none) none = _
 rw [L9]
 change G.onSome (F.zeroV Pg 9) (fun z => bif (Nat.mul 3 1).ble 16777216 && F.noRefsR z && z.live && (F.lenR z.cells).beq 1 then G.onSome (filE 1 [(0, V.str s), (1, V.str t), (2, V.str u)] (F.repR 3 z)) (fun l => some (V.slice none true 1 l)) none else none) none = _
 rw [Z9]
 rfl
theorem cmpZ_self (x : Int) : cmpZ x x = .ofNat 0 := by unfold cmpZ; rw [if_neg (by omega), if_neg (by omega)]
theorem cmpZ_eq {x y : Int} (h : x = y) : cmpZ x y = .ofNat 0 := by rw [h]; exact cmpZ_self y
theorem wv_tup (w : Bool) : wv (.tuple []) w = some false := rfl
theorem ww_at {c : RC} {s : St} {N : St → Prop} {X : Nat → St → Prop} {Q : St → Prop} {hp : Hp} (M : Tm → Lo → Prop) (hh : s.hp = hp) (hs : M s.tm s.loc) (h : ∀ tm loc, M tm loc → WW Pg kn0 tbl c ⟨tm, loc, hp⟩ N X Q) : WW Pg kn0 tbl c s N X Q := by
 subst hh; exact h s.tm s.loc hs
end Go.AM.S
end
section
namespace Go.AM.S
open Go Go.AM Go.Proofs NumL
open _root_.Go.AM.G (R)
set_option maxRecDepth 100000
section
variable {C : Cfg} {P : Program} {call : CallF} {gl : Nat → Bool} {o : Oper} {t' tm : Tm} {loc : Lo} {hp : Hp}
theorem genD_alloc {d n : Nat} {t : TypeId} {z : V} {J : JD} {X : XD} (hd : o.dst = some d) (ho : o.op = .alloc t) (hg : gl d = false) (hz : zeroV P t = some z) (hn : szOf P t = some n) (hl : z.live = true) (hc : z.cells.length = n) :
  genD P C call gl o t' loc hp J X = J (.ptr (.loc d ((lg loc d).1 + 1)) 0) ⟨[d], [d], false, false, false, false⟩ (lp loc d ((lg loc d).1 + 1, .cells false z.cells)) hp := by
 have hp1 : locV P C gl (⟨t', loc, hp⟩ : St).ρ (⟨t', loc, hp⟩ : St).lc o = some (.ptr (.loc d ((lg loc d).1 + 1)) 0, some (d, (lg loc d).1 + 1, .cells false z.cells)) := by
  unfold locV
  simp only [ho, hd, hg, cond_false, hz, hn, hl, hc, Nat.beq_refl, Bool.and_self, cond_true, lc_lg]
 have hf : footV P C gl (⟨t', loc, hp⟩ : St).ρ (⟨t', loc, hp⟩ : St).lc o = some ⟨[d], [d], false, false, false, false⟩ := by
  unfold footV
  rw [hp1]
 have hs : stepV P C gl ⟨t', loc, hp⟩ o = some (.val (.ptr (.loc d ((lg loc d).1 + 1)) 0) ⟨t', lp loc d ((lg loc d).1 + 1, .cells false z.cells), hp⟩) := by
  unfold stepV
  rw [hp1]
  simp only [applyL, aset_lp]
 unfold genD
 rw [F.e_footV, F.e_oneV, F.e_rho, F.e_lcf, hf]
 show G.onSome (oneV P C call gl ⟨t', loc, hp⟩ o) _ none = _
 unfold oneV
 rw [hs]
 have e1 : F.settle hp hp ⟨[d], [d], false, false, false, false⟩ = ⟨[d], [d], false, false, false, false⟩ := by
  unfold F.settle
  rw [Nat.beq_refl, Nat.beq_refl]; rfl
 simp only [putV, hd]
 show J (gt (aset t' d (.ptr (.loc d ((lg loc d).1 + 1)) 0)) d) (F.settle hp hp ⟨[d], [d], false, false, false, false⟩) (lp loc d ((lg loc d).1 + 1, .cells false z.cells)) hp = _
 rw [gt_eq, aget_aset, if_pos rfl, e1]
end
theorem da8_8_7 (c : CallF) (t : Tm) (l : Lo) (h : Hp) (J : JD) (X : XD) : gD Try.f8 8 8 7 c t l h J X = J (.ptr (.loc 13 ((lg l 13).1 + 1)) 0) ⟨[13], [13], false, false, false, false⟩ (lp l 13 ((lg l 13).1 + 1, .cells false [.nils, .bool false])) h :=
 genD_alloc (C := Cg) (gl := Cg.glob 8) (call := c) (o := opA Try.f8 8 7) (d := 13) (t := 26) (n := 2) (z := .agg [.nils, .bool false]) (by kernel_rfl) (by kernel_rfl) (by kernel_rfl) (by kernel_rfl) (by kernel_rfl) rfl rfl
theorem gcd_mul (x y z : Int) : ((Nat.gcd (x * z).natAbs (y * z).natAbs : Nat) : Int) = ((Nat.gcd x.natAbs y.natAbs : Nat) : Int) * ((z.natAbs : Nat) : Int) := by
 rw [Int.natAbs_mul, Int.natAbs_mul, Nat.gcd_mul_right, Int.natCast_mul]
theorem gcd_mod (x y : Int) : Nat.gcd x.natAbs y.natAbs = Nat.gcd y.natAbs (x % y).natAbs := by
 show Int.gcd x y = Int.gcd y (x % y)
 rw [Int.emod_def, Int.gcd_sub_mul_left_right, Int.gcd_comm]
theorem tbl8 : tbl 8 = some ⟨rc8, [.tmp 6]⟩ := by kernel_rfl
theorem law8 {l m o : List Nat} (hdl : Dg 256 l) (hdm : Dg 256 m) (hdo : Dg 256 o) : Runs Pg kn0 tbl 8 [.str (sl l), .str (sl m), .str (sl o)] noHp (.val (.bool true) noHp) := by
 suffices hw : WW Pg kn0 tbl rc8 ⟨startTm [.str (sl l), .str (sl m), .str (sl o)], .lf, ⟨noHp.rows, none, noHp.mods⟩⟩ (fun _ => False) (fun _ _ => False) (fun s => ∃ o, fin Pg noHp [.tmp 6] s = some o ∧ o = .val (.bool true) noHp) by
  obtain ⟨o, h1, h2⟩ := runs_ex (kn := kn0) (h := noHp) rfl tbl8 (ww_mono hw (fun s hs => hs.elim) (fun _ _ h => h) (fun s h => h))
  subst h2
  exact h1
 have done : ∀ (st : St), gt st.tm 6 = .bool true → st.hp = noHp → ∃ o, fin Pg noHp [.tmp 6] st = some o ∧ o = .val (.bool true) noHp := by
  intro st h4 hh
  exact ⟨_, fin_tmpD h4 (Ex1.bool _) (by rw [hh]; exact fun x hx => by cases hx) rfl, rfl⟩
 have ehp : (⟨noHp.rows, none, noHp.mods⟩ : Hp) = noHp := rfl
 rw [ehp]
 unfold rc8
 refine sR ?_
 refine ww_seq (ww_seq (ww_call (known_runs) (fun n hn k => by simp -implicitDefEqProofs (disch := omega) only [go_sem, reduceIte, Nat.reduceEqDiff, clc0 hn]; rfl) ?_))
 refine ww_false sS (ww_skip ?_)
 obtain ⟨_, hlt0, rfl⟩ := light_spec true [sl l, sl m, sl o] (by simp) noHp
 have eall : ([sl l, sl m, sl o].all fun s => decide (s.n ≤ 300)) = decide (l.length ≤ 300 ∧ m.length ≤ 300 ∧ o.length ≤ 300) := by
  show (decide (l.length ≤ 300) && (decide (m.length ≤ 300) && (decide (o.length ≤ 300) && true))) = _
  simp only [Bool.and_true, Bool.decide_and]
 rw [eall] at hlt0
 have hlt : Runs Pg kn0 tbl 14 [.slice none true 1 [.str (sl l), .str (sl m), .str (sl o)]] noHp (.val (.bool (decide (l.length ≤ 300 ∧ m.length ≤ 300 ∧ o.length ≤ 300))) noHp) := hlt0
 refine ww_seq (ww_seq (ww_call (hlt) (fun n hn k => by simp -implicitDefEqProofs (disch := omega) only [go_sem, reduceIte, Nat.reduceEqDiff, gt_start, List.getD_cons_zero, List.getD_cons_succ, bs79_3, clc1 hn (fun _ => rfl)]; rfl) ?_))
 by_cases hl : l.length ≤ 300 ∧ m.length ≤ 300 ∧ o.length ≤ 300
 rotate_left
 ·rw [decide_eq_false hl]
  refine ww_true sS ?_
  refine sR ?_
  exact ww_ret (done _ sS rfl)
 rw [decide_eq_true hl]
 refine ww_false sS (ww_skip ?_)
 obtain ⟨_, Pa, va, wa, x, rfl, Ia, Ja⟩ := of24_spec hdl hl.1 noHp
 have ea := Ia.ex; have ua := Ia.quiet
 obtain ⟨_, Pb, vb, wb, y, rfl, Ib, Jb⟩ := of24_spec hdm hl.2.1 noHp
 have eb := Ib.ex; have ub := Ib.quiet
 obtain ⟨_, Pc, vc, wc, z, rfl, Ic, Jc⟩ := of24_spec hdo hl.2.2 noHp
 have ec := Ic.ex; have uc := Ic.quiet
 obtain ⟨rn, Pn, In⟩ := neg_spec Ic (by omega) noHp
 have en := In.ex; have un := In.quiet
 obtain ⟨_, Pq, vq, vr, rfl, Iq, Ir0⟩ := quo_spec Ia Ib (by omega) (by omega) noHp
 have Ir : IsI 1002 vr (x % y) := Ir0.mono (l := 1002) (by split <;> omega)
 have er := Ir.ex; have ur := Ir.quiet
 obtain ⟨r1, A1, I1⟩ := mul_spec Ia Ic (by omega) (by omega) noHp
 have e1 := I1.ex; have u1 := I1.quiet
 obtain ⟨r2, A2, I2⟩ := mul_spec Ib Ic (by omega) (by omega) noHp
 have e2 := I2.ex; have u2 := I2.quiet
 obtain ⟨r3, A3, I3⟩ := gcd_spec I1 I2 (by omega) (by omega) noHp
 have e3 := I3.ex; have u3 := I3.quiet
 obtain ⟨_, Ps, rfl⟩ := sign_spec Ic (by omega) noHp
 obtain ⟨sa, ba, rfl, pa, _, _⟩ := Ia.form
 obtain ⟨ta, da, rfl, qa, _, _⟩ := Ja.form
 obtain ⟨sb, bb, rfl, pb, _, _⟩ := Ib.form
 obtain ⟨tb, db, rfl, qb, _, _⟩ := Jb.form
 obtain ⟨sc, bc, rfl, pc, _, _⟩ := Ic.form
 obtain ⟨tc, dc, rfl, qc, _, _⟩ := Jc.form
 refine ww_seq (ww_call (Pa) (fun n hn k => by simp -implicitDefEqProofs (disch := omega) only [go_sem, reduceIte, Nat.reduceEqDiff, gt_start, List.getD_cons_zero, List.getD_cons_succ, clc1 hn (Ex1.str _), ext_tuple, stc_two N26 1 sa (.bool ba) .nils (.bool false) _ pa.ok rfl, stc_two N31 1 (.bool da) ta (.bool false) .nils _ rfl qa.ok]; rfl) ?_)
 refine ww_seq (ww_call (Pb) (fun n hn k => by simp -implicitDefEqProofs (disch := omega) only [go_sem, reduceIte, Nat.reduceEqDiff, gt_start, List.getD_cons_zero, List.getD_cons_succ, clc1 hn (Ex1.str _), ext_tuple, stc_two N26 1 sb (.bool bb) .nils (.bool false) _ pb.ok rfl, stc_two N31 1 (.bool db) tb (.bool false) .nils _ rfl qb.ok]; rfl) ?_)
 refine ww_seq (ww_call (Pc) (fun n hn k => by simp -implicitDefEqProofs (disch := omega) only [go_sem, reduceIte, Nat.reduceEqDiff, gt_start, List.getD_cons_zero, List.getD_cons_succ, clc1 hn (Ex1.str _), ext_tuple, stc_two N26 1 sc (.bool bc) .nils (.bool false) _ pc.ok rfl, stc_two N31 1 (.bool dc) tc (.bool false) .nils _ rfl qc.ok]; rfl) ?_)
 obtain ⟨s3, b3, rfl, p3, _, _⟩ := I3.form
 obtain ⟨sn, bn, rfl, pn, _, _⟩ := In.form
 obtain ⟨sq, bq, rfl, pq, _, _⟩ := Iq.form
 obtain ⟨sr, br, rfl, pr, _, _⟩ := Ir.form
 refine ww_seq (ww_call ((A1.and A2).and A3) (fun n hn k => by simp -implicitDefEqProofs (disch := omega) only [go_sem, reduceIte, Nat.reduceEqDiff, da8_8_7, ldc_two L26, ↓cld2 hn.1.1 ea ec ua uc, ↓cld2 hn.1.2 eb ec ub uc, ↓cld2 hn.2 e1 e2 u1 u2, stc_two N26 1 s3 (.bool b3) .nils (.bool false) _ p3.ok rfl]; exact finD_ok (by kernel_rfl)) ?_)
 refine ww_seq (ww_reg (fun n k => by simp -implicitDefEqProofs (disch := omega) only [go_sem, reduceIte, Nat.reduceEqDiff, ldc_two L26, stc_two N26 1 sc (.bool bc) .nils (.bool false) _ pc.ok rfl]; rfl) ?_)
 have key : ∀ (sw : V) (bw : Bool) (tm : Tm) (loc : Lo), IsI 1002 (.agg [sw, .bool bw]) ((z.natAbs : Nat) : Int) → gt tm 7 = .ptr (.loc 7 1) 0 → gt tm 9 = .ptr (.loc 9 1) 0 → gt tm 13 = .ptr (.loc 13 1) 0 → gt tm 14 = .ptr (.loc 14 1) 0 → lg loc 7 = (1, .cells false [sa, .bool ba]) → lg loc 9 = (1, .cells false [sb, .bool bb]) → lg loc 13 = (1, .cells false [s3, .bool b3]) → lg loc 14 = (1, .cells false [sw, .bool bw]) → lg loc 15 = (0, .gone) → lg loc 16 = (0, .gone) →
   WW Pg kn0 tbl (.seq (.reg fun c t l h k => bO (ld Pg 26 (g7 t) l h) fun v0 => bO (ld Pg 26 (g9 t) l h) fun v1 => cl c 37 [v0, v1] t l h fun v2 l2 h2 => bO (ext v2 0) fun v3 => bO (ext v2 1) fun v4 => al Pg 26 15 l2 fun v5 l5 => al Pg 26 16 l5 fun v6 l6 => jn (fun v7 l7 h7 => jn (fun v8 l8 h8 => k (p16 t v6) l8 h8) fun j8 => sto 26 v6 v4 l7 h7 j8 (gn Try.f8 8 12 9 c (p58 (p16 t v6) v4) t l7 h7 j8)) fun j7 => sto 26 v5 v3 l6 h2 j7 (gn Try.f8 8 12 8 c (p57 (p15 t v5) v3) t l6 h2 j7)) (.seq (.reg fun c t l h k => bO (ld Pg 26 (g13 t) l h) fun v0 => bO (ld Pg 26 (g7 t) l h) fun v1 => bO (ld Pg 26 (g9 t) l h) fun v2 => jE ((61, v2) :: (60, v1) :: (59, v0) :: []) fun e3 => jF ((ldF (g9 t)) :: (ldF (g7 t)) :: (ldF (g13 t)) :: []) fun q3 => clD c 39 [v1, v2] l h (fun v3 f3 l3 h3 => bO (ld Pg 26 (g14 t) l3 h3) fun v4 => jE ((63, v4) :: (62, v3) :: e3) fun e5 => jF ((ldF (g14 t)) :: f3 :: q3) fun q5 => clD c 29 [v3, v4] l3 h3 (fun v5 f5 l5 h5 => jE ((64, v5) :: e5) fun e6 => jF (f5 :: q5) fun q6 => clD c 33 [v0, v5] l5 h5 (fun v6 f6 l6 h6 => bO (bin Pg .eql 3 true v6 (I 0)) fun v7 => jn (fun v8 f8 l8 h8 => jn (fun v9 f9 l9 h9 => jn (fun v10 f10 l10 h10 => jn (fun v11 f11 l11 h11 => jn (fun v12 f12 l12 h12 => jn (fun v13 f13 l13 h13 => jn (fun v14 f14 l14 h14 => jn (fun v15 f15 l15 h15 => bO (pick v7 v15 (.bool false)) fun v16 => jn (fun v17 f17 l17 h17 => jn (fun v18 f18 l18 h18 => jn (fun v19 f19 l19 h19 => jn (fun v20 f20 l20 h20 => jn (fun v21 f21 l21 h21 => jn (fun v22 f22 l22 h22 => jn (fun v23 f23 l23 h23 => jn (fun v24 f24 l24 h24 => bO (pick v16 v24 (.bool false)) fun v25 => jn (fun v26 f26 l26 h26 => jn (fun v27 f27 l27 h27 => jn (fun v28 f28 l28 h28 => jn (fun v29 f29 l29 h29 => jn (fun v30 f30 l30 h30 => jn (fun v31 f31 l31 h31 => jn (fun v32 f32 l32 h32 => jn (fun v33 f33 l33 h33 => jn (fun v34 f34 l34 h34 => bO (pick v25 v34 (.bool false)) fun v35 => jn (fun v36 f36 l36 h36 => jn (fun v37 f37 l37 h37 => jn (fun v38 f38 l38 h38 => jn (fun v39 f39 l39 h39 => jn (fun v40 f40 l40 h40 => jn (fun v41 f41 l41 h41 => jn (fun v42 f42 l42 h42 => jn (fun v43 f43 l43 h43 => bO (pick v35 v43 (.bool false)) fun v44 => finD (rgA Try.f8 13).toList [] [(0, 3), (3, 4), (0, 5), (11, 12), (11, 13), (21, 22), (21, 23), (30, 31), (30, 33), (32, 33), (30, 34), (32, 34), (40, 41), (41, 43), (42, 43), (41, 44), (42, 44)] (ft0 :: ft0 :: f43 :: f42 :: f41 :: f40 :: f39 :: f38 :: f37 :: f36 :: ft0 :: ft0 :: f34 :: f33 :: f32 :: f31 :: f30 :: f29 :: f28 :: f27 :: f26 :: ft0 :: ft0 :: f24 :: f23 :: f22 :: f21 :: f20 :: f19 :: f18 :: f17 :: ft0 :: ft0 :: f15 :: f14 :: f13 :: f12 :: f11 :: f10 :: f9 :: f8 :: ft0 :: ft0 :: f6 :: q6) (k (p6 t v44) l43 h43)) fun j43 => brB (wv v35 true) (j43 (.tuple []) ft0 l42 h42) (bO (bin Pg .eql 3 true v42 (I 0)) fun v44 => j43 v44 ft0 l42 h42)) fun j42 => brB (wv v35 true) (j42 (.tuple []) ft0 l41 h41) (jE ((104, v41) :: (103, v40) :: (102, v39) :: (101, v38) :: (100, v37) :: (99, v36) :: (98, v35) :: (97, v35) :: (96, v34) :: (95, v33) :: (94, v32) :: (93, v31) :: (92, v30) :: (91, v29) :: (90, v28) :: (89, v27) :: (88, v26) :: (87, v25) :: (86, v25) :: (85, v24) :: (84, v23) :: (83, v22) :: (82, v21) :: (81, v20) :: (80, v19) :: (79, v18) :: (78, v17) :: (77, v16) :: (76, v16) :: (75, v15) :: (74, v14) :: (73, v13) :: (72, v12) :: (71, v11) :: (70, v10) :: (69, v9) :: (68, v8) :: (67, v7) :: (66, v7) :: (65, v6) :: e6) fun e43 => jF (f41 :: f40 :: f39 :: f38 :: f37 :: f36 :: ft0 :: ft0 :: f34 :: f33 :: f32 :: f31 :: f30 :: f29 :: f28 :: f27 :: f26 :: ft0 :: ft0 :: f24 :: f23 :: f22 :: f21 :: f20 :: f19 :: f18 :: f17 :: ft0 :: ft0 :: f15 :: f14 :: f13 :: f12 :: f11 :: f10 :: f9 :: f8 :: ft0 :: ft0 :: f6 :: q6) fun q43 => clD c 33 [v38, v41] l41 h41 (fun v43 f43 l43 h43 => j42 v43 f43 l43 h43) (sD Try.f8 8 13 c 46 (some 105) e43 q43 t l41 h41))) fun j41 => brB (wv v35 true) (j41 (.tuple []) ft0 l40 h40) (jE ((103, v40) :: (102, v39) :: (101, v38) :: (100, v37) :: (99, v36) :: (98, v35) :: (97, v35) :: (96, v34) :: (95, v33) :: (94, v32) :: (93, v31) :: (92, v30) :: (91, v29) :: (90, v28) :: (89, v27) :: (88, v26) :: (87, v25) :: (86, v25) :: (85, v24) :: (84, v23) :: (83, v22) :: (82, v21) :: (81, v20) :: (80, v19) :: (79, v18) :: (78, v17) :: (77, v16) :: (76, v16) :: (75, v15) :: (74, v14) :: (73, v13) :: (72, v12) :: (71, v11) :: (70, v10) :: (69, v9) :: (68, v8) :: (67, v7) :: (66, v7) :: (65, v6) :: e6) fun e42 => jF (f40 :: f39 :: f38 :: f37 :: f36 :: ft0 :: ft0 :: f34 :: f33 :: f32 :: f31 :: f30 :: f29 :: f28 :: f27 :: f26 :: ft0 :: ft0 :: f24 :: f23 :: f22 :: f21 :: f20 :: f19 :: f18 :: f17 :: ft0 :: ft0 :: f15 :: f14 :: f13 :: f12 :: f11 :: f10 :: f9 :: f8 :: ft0 :: ft0 :: f6 :: q6) fun q42 => clD c 39 [v39, v40] l40 h40 (fun v42 f42 l42 h42 => j41 v42 f42 l42 h42) (sD Try.f8 8 13 c 45 (some 104) e42 q42 t l40 h40))) fun j40 => brB (wv v35 true) (j40 (.tuple []) ft0 l39 h39) (bO (ld Pg 26 (g7 t) l39 h39) fun v41 => j40 v41 (ldF (g7 t)) l39 h39)) fun j39 => brB (wv v35 true) (j39 (.tuple []) ft0 l38 h38) (bO (ld Pg 26 (g7 t) l38 h38) fun v40 => j39 v40 (ldF (g7 t)) l38 h38)) fun j38 => brB (wv v35 true) (j38 (.tuple []) ft0 l37 h37) (jE ((100, v37) :: (99, v36) :: (98, v35) :: (97, v35) :: (96, v34) :: (95, v33) :: (94, v32) :: (93, v31) :: (92, v30) :: (91, v29) :: (90, v28) :: (89, v27) :: (88, v26) :: (87, v25) :: (86, v25) :: (85, v24) :: (84, v23) :: (83, v22) :: (82, v21) :: (81, v20) :: (80, v19) :: (79, v18) :: (78, v17) :: (77, v16) :: (76, v16) :: (75, v15) :: (74, v14) :: (73, v13) :: (72, v12) :: (71, v11) :: (70, v10) :: (69, v9) :: (68, v8) :: (67, v7) :: (66, v7) :: (65, v6) :: e6) fun e39 => jF (f37 :: f36 :: ft0 :: ft0 :: f34 :: f33 :: f32 :: f31 :: f30 :: f29 :: f28 :: f27 :: f26 :: ft0 :: ft0 :: f24 :: f23 :: f22 :: f21 :: f20 :: f19 :: f18 :: f17 :: ft0 :: ft0 :: f15 :: f14 :: f13 :: f12 :: f11 :: f10 :: f9 :: f8 :: ft0 :: ft0 :: f6 :: q6) fun q39 => clD c 39 [v36, v37] l37 h37 (fun v39 f39 l39 h39 => j38 v39 f39 l39 h39) (sD Try.f8 8 13 c 42 (some 101) e39 q39 t l37 h37))) fun j37 => brB (wv v35 true) (j37 (.tuple []) ft0 l36 h36) (jE ((99, v36) :: (98, v35) :: (97, v35) :: (96, v34) :: (95, v33) :: (94, v32) :: (93, v31) :: (92, v30) :: (91, v29) :: (90, v28) :: (89, v27) :: (88, v26) :: (87, v25) :: (86, v25) :: (85, v24) :: (84, v23) :: (83, v22) :: (82, v21) :: (81, v20) :: (80, v19) :: (79, v18) :: (78, v17) :: (77, v16) :: (76, v16) :: (75, v15) :: (74, v14) :: (73, v13) :: (72, v12) :: (71, v11) :: (70, v10) :: (69, v9) :: (68, v8) :: (67, v7) :: (66, v7) :: (65, v6) :: e6) fun e38 => jF (f36 :: ft0 :: ft0 :: f34 :: f33 :: f32 :: f31 :: f30 :: f29 :: f28 :: f27 :: f26 :: ft0 :: ft0 :: f24 :: f23 :: f22 :: f21 :: f20 :: f19 :: f18 :: f17 :: ft0 :: ft0 :: f15 :: f14 :: f13 :: f12 :: f11 :: f10 :: f9 :: f8 :: ft0 :: ft0 :: f6 :: q6) fun q38 => clD c 21 [(I 0)] l36 h36 (fun v38 f38 l38 h38 => j37 v38 f38 l38 h38) (sD Try.f8 8 13 c 41 (some 100) e38 q38 t l36 h36))) fun j36 => brB (wv v35 true) (j36 (.tuple []) ft0 l34 h34) (bO (ld Pg 26 (g7 t) l34 h34) fun v37 => j36 v37 (ldF (g7 t)) l34 h34)) fun j34 => brB (wv v25 true) (j34 (.tuple []) ft0 l33 h33) (bO (bin Pg .eql 3 true v33 (I 0)) fun v35 => j34 v35 ft0 l33 h33)) fun j33 => brB (wv v25 true) (j33 (.tuple []) ft0 l32 h32) (jE ((94, v32) :: (93, v31) :: (92, v30) :: (91, v29) :: (90, v28) :: (89, v27) :: (88, v26) :: (87, v25) :: (86, v25) :: (85, v24) :: (84, v23) :: (83, v22) :: (82, v21) :: (81, v20) :: (80, v19) :: (79, v18) :: (78, v17) :: (77, v16) :: (76, v16) :: (75, v15) :: (74, v14) :: (73, v13) :: (72, v12) :: (71, v11) :: (70, v10) :: (69, v9) :: (68, v8) :: (67, v7) :: (66, v7) :: (65, v6) :: e6) fun e34 => jF (f32 :: f31 :: f30 :: f29 :: f28 :: f27 :: f26 :: ft0 :: ft0 :: f24 :: f23 :: f22 :: f21 :: f20 :: f19 :: f18 :: f17 :: ft0 :: ft0 :: f15 :: f14 :: f13 :: f12 :: f11 :: f10 :: f9 :: f8 :: ft0 :: ft0 :: f6 :: q6) fun q34 => clD c 33 [v29, v32] l32 h32 (fun v34 f34 l34 h34 => j33 v34 f34 l34 h34) (sD Try.f8 8 13 c 36 (some 95) e34 q34 t l32 h32))) fun j32 => brB (wv v25 true) (j32 (.tuple []) ft0 l31 h31) (jE ((93, v31) :: (92, v30) :: (91, v29) :: (90, v28) :: (89, v27) :: (88, v26) :: (87, v25) :: (86, v25) :: (85, v24) :: (84, v23) :: (83, v22) :: (82, v21) :: (81, v20) :: (80, v19) :: (79, v18) :: (78, v17) :: (77, v16) :: (76, v16) :: (75, v15) :: (74, v14) :: (73, v13) :: (72, v12) :: (71, v11) :: (70, v10) :: (69, v9) :: (68, v8) :: (67, v7) :: (66, v7) :: (65, v6) :: e6) fun e33 => jF (f31 :: f30 :: f29 :: f28 :: f27 :: f26 :: ft0 :: ft0 :: f24 :: f23 :: f22 :: f21 :: f20 :: f19 :: f18 :: f17 :: ft0 :: ft0 :: f15 :: f14 :: f13 :: f12 :: f11 :: f10 :: f9 :: f8 :: ft0 :: ft0 :: f6 :: q6) fun q33 => clD c 39 [v30, v31] l31 h31 (fun v33 f33 l33 h33 => j32 v33 f33 l33 h33) (sD Try.f8 8 13 c 35 (some 94) e33 q33 t l31 h31))) fun j31 => brB (wv v25 true) (j31 (.tuple []) ft0 l30 h30) (bO (ld Pg 26 (g9 t) l30 h30) fun v32 => j31 v32 (ldF (g9 t)) l30 h30)) fun j30 => brB (wv v25 true) (j30 (.tuple []) ft0 l29 h29) (bO (ld Pg 26 (g7 t) l29 h29) fun v31 => j30 v31 (ldF (g7 t)) l29 h29)) fun j29 => brB (wv v25 true) (j29 (.tuple []) ft0 l28 h28) (jE ((90, v28) :: (89, v27) :: (88, v26) :: (87, v25) :: (86, v25) :: (85, v24) :: (84, v23) :: (83, v22) :: (82, v21) :: (81, v20) :: (80, v19) :: (79, v18) :: (78, v17) :: (77, v16) :: (76, v16) :: (75, v15) :: (74, v14) :: (73, v13) :: (72, v12) :: (71, v11) :: (70, v10) :: (69, v9) :: (68, v8) :: (67, v7) :: (66, v7) :: (65, v6) :: e6) fun e30 => jF (f28 :: f27 :: f26 :: ft0 :: ft0 :: f24 :: f23 :: f22 :: f21 :: f20 :: f19 :: f18 :: f17 :: ft0 :: ft0 :: f15 :: f14 :: f13 :: f12 :: f11 :: f10 :: f9 :: f8 :: ft0 :: ft0 :: f6 :: q6) fun q30 => clD c 39 [v27, v28] l28 h28 (fun v30 f30 l30 h30 => j29 v30 f30 l30 h30) (sD Try.f8 8 13 c 32 (some 91) e30 q30 t l28 h28))) fun j28 => brB (wv v25 true) (j28 (.tuple []) ft0 l27 h27) (bO (ld Pg 26 (g9 t) l27 h27) fun v29 => j28 v29 (ldF (g9 t)) l27 h27)) fun j27 => brB (wv v25 true) (j27 (.tuple []) ft0 l26 h26) (jE ((88, v26) :: (87, v25) :: (86, v25) :: (85, v24) :: (84, v23) :: (83, v22) :: (82, v21) :: (81, v20) :: (80, v19) :: (79, v18) :: (78, v17) :: (77, v16) :: (76, v16) :: (75, v15) :: (74, v14) :: (73, v13) :: (72, v12) :: (71, v11) :: (70, v10) :: (69, v9) :: (68, v8) :: (67, v7) :: (66, v7) :: (65, v6) :: e6) fun e28 => jF (f26 :: ft0 :: ft0 :: f24 :: f23 :: f22 :: f21 :: f20 :: f19 :: f18 :: f17 :: ft0 :: ft0 :: f15 :: f14 :: f13 :: f12 :: f11 :: f10 :: f9 :: f8 :: ft0 :: ft0 :: f6 :: q6) fun q28 => clD c 31 [v26] l26 h26 (fun v28 f28 l28 h28 => j27 v28 f28 l28 h28) (sD Try.f8 8 13 c 30 (some 89) e28 q28 t l26 h26))) fun j26 => brB (wv v25 true) (j26 (.tuple []) ft0 l24 h24) (bO (ld Pg 26 (g7 t) l24 h24) fun v27 => j26 v27 (ldF (g7 t)) l24 h24)) fun j24 => brB (wv v16 true) (j24 (.tuple []) ft0 l23 h23) (bO (bin Pg .eql 3 true v23 (I 0)) fun v25 => j24 v25 ft0 l23 h23)) fun j23 => brB (wv v16 true) (j23 (.tuple []) ft0 l22 h22) (jE ((83, v22) :: (82, v21) :: (81, v20) :: (80, v19) :: (79, v18) :: (78, v17) :: (77, v16) :: (76, v16) :: (75, v15) :: (74, v14) :: (73, v13) :: (72, v12) :: (71, v11) :: (70, v10) :: (69, v9) :: (68, v8) :: (67, v7) :: (66, v7) :: (65, v6) :: e6) fun e24 => jF (f22 :: f21 :: f20 :: f19 :: f18 :: f17 :: ft0 :: ft0 :: f15 :: f14 :: f13 :: f12 :: f11 :: f10 :: f9 :: f8 :: ft0 :: ft0 :: f6 :: q6) fun q24 => clD c 33 [v19, v22] l22 h22 (fun v24 f24 l24 h24 => j23 v24 f24 l24 h24) (sD Try.f8 8 13 c 25 (some 84) e24 q24 t l22 h22))) fun j22 => brB (wv v16 true) (j22 (.tuple []) ft0 l21 h21) (jE ((82, v21) :: (81, v20) :: (80, v19) :: (79, v18) :: (78, v17) :: (77, v16) :: (76, v16) :: (75, v15) :: (74, v14) :: (73, v13) :: (72, v12) :: (71, v11) :: (70, v10) :: (69, v9) :: (68, v8) :: (67, v7) :: (66, v7) :: (65, v6) :: e6) fun e23 => jF (f21 :: f20 :: f19 :: f18 :: f17 :: ft0 :: ft0 :: f15 :: f14 :: f13 :: f12 :: f11 :: f10 :: f9 :: f8 :: ft0 :: ft0 :: f6 :: q6) fun q23 => clD c 39 [v20, v21] l21 h21 (fun v23 f23 l23 h23 => j22 v23 f23 l23 h23) (sD Try.f8 8 13 c 24 (some 83) e23 q23 t l21 h21))) fun j21 => brB (wv v16 true) (j21 (.tuple []) ft0 l20 h20) (bO (ld Pg 26 (g16 t) l20 h20) fun v22 => j21 v22 (ldF (g16 t)) l20 h20)) fun j20 => brB (wv v16 true) (j20 (.tuple []) ft0 l19 h19) (bO (ld Pg 26 (g9 t) l19 h19) fun v21 => j20 v21 (ldF (g9 t)) l19 h19)) fun j19 => brB (wv v16 true) (j19 (.tuple []) ft0 l18 h18) (jE ((79, v18) :: (78, v17) :: (77, v16) :: (76, v16) :: (75, v15) :: (74, v14) :: (73, v13) :: (72, v12) :: (71, v11) :: (70, v10) :: (69, v9) :: (68, v8) :: (67, v7) :: (66, v7) :: (65, v6) :: e6) fun e20 => jF (f18 :: f17 :: ft0 :: ft0 :: f15 :: f14 :: f13 :: f12 :: f11 :: f10 :: f9 :: f8 :: ft0 :: ft0 :: f6 :: q6) fun q20 => clD c 39 [v17, v18] l18 h18 (fun v20 f20 l20 h20 => j19 v20 f20 l20 h20) (sD Try.f8 8 13 c 21 (some 80) e20 q20 t l18 h18))) fun j18 => brB (wv v16 true) (j18 (.tuple []) ft0 l17 h17) (bO (ld Pg 26 (g9 t) l17 h17) fun v19 => j18 v19 (ldF (g9 t)) l17 h17)) fun j17 => brB (wv v16 true) (j17 (.tuple []) ft0 l15 h15) (bO (ld Pg 26 (g7 t) l15 h15) fun v18 => j17 v18 (ldF (g7 t)) l15 h15)) fun j15 => brB (wv v7 true) (j15 (.tuple []) ft0 l14 h14) (bO (bin Pg .eql 3 true v14 (I 0)) fun v16 => j15 v16 ft0 l14 h14)) fun j14 => brB (wv v7 true) (j14 (.tuple []) ft0 l13 h13) (jE ((73, v13) :: (72, v12) :: (71, v11) :: (70, v10) :: (69, v9) :: (68, v8) :: (67, v7) :: (66, v7) :: (65, v6) :: e6) fun e15 => jF (f13 :: f12 :: f11 :: f10 :: f9 :: f8 :: ft0 :: ft0 :: f6 :: q6) fun q15 => clD c 33 [v10, v13] l13 h13 (fun v15 f15 l15 h15 => j14 v15 f15 l15 h15) (sD Try.f8 8 13 c 15 (some 74) e15 q15 t l13 h13))) fun j13 => brB (wv v7 true) (j13 (.tuple []) ft0 l12 h12) (jE ((72, v12) :: (71, v11) :: (70, v10) :: (69, v9) :: (68, v8) :: (67, v7) :: (66, v7) :: (65, v6) :: e6) fun e14 => jF (f12 :: f11 :: f10 :: f9 :: f8 :: ft0 :: ft0 :: f6 :: q6) fun q14 => clD c 39 [v11, v12] l12 h12 (fun v14 f14 l14 h14 => j13 v14 f14 l14 h14) (sD Try.f8 8 13 c 14 (some 73) e14 q14 t l12 h12))) fun j12 => brB (wv v7 true) (j12 (.tuple []) ft0 l11 h11) (bO (ld Pg 26 (g7 t) l11 h11) fun v13 => j12 v13 (ldF (g7 t)) l11 h11)) fun j11 => brB (wv v7 true) (j11 (.tuple []) ft0 l10 h10) (bO (ld Pg 26 (g9 t) l10 h10) fun v12 => j11 v12 (ldF (g9 t)) l10 h10)) fun j10 => brB (wv v7 true) (j10 (.tuple []) ft0 l9 h9) (jE ((69, v9) :: (68, v8) :: (67, v7) :: (66, v7) :: (65, v6) :: e6) fun e11 => jF (f9 :: f8 :: ft0 :: ft0 :: f6 :: q6) fun q11 => clD c 39 [v8, v9] l9 h9 (fun v11 f11 l11 h11 => j10 v11 f11 l11 h11) (sD Try.f8 8 13 c 11 (some 70) e11 q11 t l9 h9))) fun j9 => brB (wv v7 true) (j9 (.tuple []) ft0 l8 h8) (bO (ld Pg 26 (g9 t) l8 h8) fun v10 => j9 v10 (ldF (g9 t)) l8 h8)) fun j8 => brB (wv v7 true) (j8 (.tuple []) ft0 l6 h6) (bO (ld Pg 26 (g7 t) l6 h6) fun v9 => j8 v9 (ldF (g7 t)) l6 h6)) (sD Try.f8 8 13 c 6 (some 65) e6 q6 t l5 h5)) (sD Try.f8 8 13 c 5 (some 64) e5 q5 t l3 h3)) (sD Try.f8 8 13 c 3 (some 62) e3 q3 t l h)) .ret)) ⟨tm, loc, noHp⟩ (fun _ => False) (fun _ _ => False) (fun s => ∃ o, fin Pg noHp [.tmp 6] s = some o ∧ o = .val (.bool true) noHp) := by
  intro sw bw tm loc Iw h7 h9 h13 h14 l7 l9 l13 l14 l15 l16
  have ew := Iw.ex; have uw := Iw.quiet
  refine ww_seq (ww_call (Pq) (fun n hn k => by simp -implicitDefEqProofs (disch := omega) only [go_sem, reduceIte, Nat.reduceEqDiff, h7, h9, l7, l9, l15, l16, ldc_two L26, clc2 hn ea eb, ext_tuple, stc_two N26 1 sq (.bool bq) .nils (.bool false) _ pq.ok rfl, stc_two N26 1 sr (.bool br) .nils (.bool false) _ pr.ok rfl]; rfl) ?_)
  refine ww_at (M := fun tm loc => gt tm 7 = .ptr (.loc 7 1) 0 ∧ gt tm 9 = .ptr (.loc 9 1) 0 ∧ gt tm 13 = .ptr (.loc 13 1) 0 ∧ gt tm 14 = .ptr (.loc 14 1) 0 ∧ gt tm 16 = .ptr (.loc 16 1) 0 ∧ lg loc 7 = (1, .cells false [sa, .bool ba]) ∧ lg loc 9 = (1, .cells false [sb, .bool bb]) ∧ lg loc 13 = (1, .cells false [s3, .bool b3]) ∧ lg loc 14 = (1, .cells false [sw, .bool bw]) ∧ lg loc 16 = (1, .cells false [sr, .bool br])) rfl ⟨(sS1 h7), (sS1 h9), (sS1 h13), (sS1 h14), sS, (sS1 l7), (sS1 l9), (sS1 l13), (sS1 l14), sS⟩ ?_
  clear h7 h9 h13 h14 l7 l9 l13 l14 l15 l16
  intro tm loc ⟨h7, h9, h13, h14, h16, l7, l9, l13, l14, l16⟩
  obtain ⟨r4, A4, I4⟩ := gcd_spec Ia Ib (by omega) (by omega) noHp
  have e4 := I4.ex; have u4 := I4.quiet
  obtain ⟨r5, A5, I5⟩ := mul_spec I4 Iw (by omega) (by omega) noHp
  have e5 := I5.ex; have u5 := I5.quiet
  obtain ⟨_, A6, rfl⟩ := cmp_spec I3 I5 (by omega) (by omega) noHp
  rw [cmpZ_eq (gcd_mul x y z)] at A6
  obtain ⟨r7, A7, I7⟩ := gcd_spec Ib Ia (by omega) (by omega) noHp
  have e7 := I7.ex; have u7 := I7.quiet
  obtain ⟨_, A8, rfl⟩ := cmp_spec I4 I7 (by omega) (by omega) noHp
  rw [cmpZ_eq (show ((Nat.gcd x.natAbs y.natAbs : Nat) : Int) = ((Nat.gcd y.natAbs x.natAbs : Nat) : Int) from by rw [Nat.gcd_comm])] at A8
  obtain ⟨r9, A9, I9⟩ := gcd_spec Ib Ir (by omega) (by omega) noHp
  have e9 := I9.ex; have u9 := I9.quiet
  obtain ⟨_, A10, rfl⟩ := cmp_spec I4 I9 (by omega) (by omega) noHp
  rw [cmpZ_eq (show ((Nat.gcd x.natAbs y.natAbs : Nat) : Int) = ((Nat.gcd y.natAbs (x % y).natAbs : Nat) : Int) from by rw [gcd_mod x y])] at A10
  obtain ⟨r11, A11, I11⟩ := neg_spec Ia (by omega) noHp
  have e11 := I11.ex; have u11 := I11.quiet
  obtain ⟨r12, A12, I12⟩ := gcd_spec I11 Ib (by omega) (by omega) noHp
  have e12 := I12.ex; have u12 := I12.quiet
  obtain ⟨_, A13, rfl⟩ := cmp_spec I12 I4 (by omega) (by omega) noHp
  rw [cmpZ_eq (show ((Nat.gcd (-x).natAbs y.natAbs : Nat) : Int) = ((Nat.gcd x.natAbs y.natAbs : Nat) : Int) from by rw [Int.natAbs_neg])] at A13
  obtain ⟨r14, A14, I14⟩ := of_spec (z := 0) (by decide) (by decide) noHp
  have e14 := I14.ex; have u14 := I14.quiet
  have B14 : Runs Pg kn0 tbl 21 [.int .i64 (.ofNat 0)] noHp (.val r14 noHp) := A14
  obtain ⟨r15, A15, I15⟩ := gcd_spec Ia I14 (by omega) (by omega) noHp
  have e15 := I15.ex; have u15 := I15.quiet
  obtain ⟨r16, A16, I16⟩ := gcd_spec Ia Ia (by omega) (by omega) noHp
  have e16 := I16.ex; have u16 := I16.quiet
  obtain ⟨_, A17, rfl⟩ := cmp_spec I15 I16 (by omega) (by omega) noHp
  rw [cmpZ_eq (show ((Nat.gcd x.natAbs (0 : Int).natAbs : Nat) : Int) = ((Nat.gcd x.natAbs x.natAbs : Nat) : Int) from by rw [Int.natAbs_zero, Nat.gcd_zero_right, Nat.gcd_self])] at A17
  refine ww_seq (ww_call ((((A4).and ((A5).and (A6))).and (((A7).and (A8)).and ((A9).and (A10)))).and (((A11).and ((A12).and (A13))).and (((B14).and (A15)).and ((A16).and (A17))))) (fun n hn k => by simp -implicitDefEqProofs (disch := omega) only [go_sem, reduceIte, Nat.reduceEqDiff, h7, h9, h13, h14, h16, l7, l9, l13, l14, l16, ldc_two L26, wv_tup, i_eql, iZ_eql, d_true, ↓cld2 hn.1.1.1 ea eb ua ub, ↓cld2 hn.1.1.2.1 e4 ew u4 uw, ↓cld2 hn.1.1.2.2 e3 e5 u3 u5, ↓cld2 hn.1.2.1.1 eb ea ub ua, ↓cld2 hn.1.2.1.2 e4 e7 u4 u7, ↓cld2 hn.1.2.2.1 eb er ub ur, ↓cld2 hn.1.2.2.2 e4 e9 u4 u9, ↓cld1 hn.2.1.1 ea ua, ↓cld2 hn.2.1.2.1 e11 eb u11 ub, ↓cld2 hn.2.1.2.2 e12 e4 u12 u4, ↓cld1 hn.2.2.1.1 (Ex1.int _ _) rfl, ↓cld2 hn.2.2.1.2 ea e14 ua u14, ↓cld2 hn.2.2.2.1 ea ea ua ua, ↓cld2 hn.2.2.2.2 e15 e16 u15 u16]; exact finD_ok (by kernel_rfl)) ?_)
  exact ww_ret (done _ sS rfl)
 refine ww_join (M := fun st => ∃ sw bw, IsI 1002 (.agg [sw, .bool bw]) ((z.natAbs : Nat) : Int) ∧ gt st.tm 7 = .ptr (.loc 7 1) 0 ∧ gt st.tm 9 = .ptr (.loc 9 1) 0 ∧ gt st.tm 13 = .ptr (.loc 13 1) 0 ∧ gt st.tm 14 = .ptr (.loc 14 1) 0 ∧ lg st.loc 7 = (1, .cells false [sa, .bool ba]) ∧ lg st.loc 9 = (1, .cells false [sb, .bool bb]) ∧ lg st.loc 13 = (1, .cells false [s3, .bool b3]) ∧ lg st.loc 14 = (1, .cells false [sw, .bool bw]) ∧ lg st.loc 15 = (0, .gone) ∧ lg st.loc 16 = (0, .gone) ∧ st.hp = noHp) ?_ (fun st ⟨sw, bw, Iw, a7, a9, a13, a14, c7, c9, c13, c14, c15, c16, hh⟩ => by
  obtain ⟨tm, loc, hp⟩ := st
  have hh' : hp = noHp := hh
  subst hh'
  exact key sw bw tm loc Iw a7 a9 a13 a14 c7 c9 c13 c14 c15 c16)
 by_cases hz : z < 0
 ·have hs : sgn z = .negSucc 0 := by unfold sgn cmpZ; rw [if_pos hz]
  rw [hs] at Ps
  refine ww_seq (ww_call (Ps) (fun n hn k => by simp -implicitDefEqProofs (disch := omega) only [go_sem, reduceIte, Nat.reduceEqDiff, ldc_two L26, clc1 hn ec, i_lss_neg]; rfl) ?_)
  refine ww_true sS ?_
  refine ww_call (Pn) (fun n hn k => by simp -implicitDefEqProofs (disch := omega) only [go_sem, reduceIte, Nat.reduceEqDiff, ldc_two L26, clc1 hn ec, stc_two N26 1 sn (.bool bn) sc (.bool bc) _ pn.ok rfl]; rfl) ?_
  refine ⟨sn, bn, ?_, sS, sS, sS, sS, sS, sS, sS, sS, (by simp -implicitDefEqProofs (disch := omega) only [go_sem, reduceIte, Nat.reduceEqDiff, lg_lf]), (by simp -implicitDefEqProofs (disch := omega) only [go_sem, reduceIte, Nat.reduceEqDiff, lg_lf]), rfl⟩
  rw [show ((z.natAbs : Nat) : Int) = -z by omega]; exact In
 ·have hs : ∃ q, sgn z = .ofNat q := by
   unfold sgn cmpZ
   rw [if_neg (by omega)]
   split
   ·exact ⟨1, rfl⟩
   ·exact ⟨0, rfl⟩
  obtain ⟨q, hs⟩ := hs
  rw [hs] at Ps
  refine ww_seq (ww_call (Ps) (fun n hn k => by simp -implicitDefEqProofs (disch := omega) only [go_sem, reduceIte, Nat.reduceEqDiff, ldc_two L26, clc1 hn ec, i_lss, d_false]; rfl) ?_)
  refine ww_false sS (ww_skip ?_)
  refine ⟨sc, bc, ?_, sS, sS, sS, sS, sS, sS, sS, sS, (by simp -implicitDefEqProofs (disch := omega) only [go_sem, reduceIte, Nat.reduceEqDiff, lg_lf]), (by simp -implicitDefEqProofs (disch := omega) only [go_sem, reduceIte, Nat.reduceEqDiff, lg_lf]), rfl⟩
  rw [show ((z.natAbs : Nat) : Int) = z by omega]; exact Ic
end Go.AM.S
end
section
namespace Go.AM.S
open Go Go.AM Go.Proofs
set_option maxRecDepth 100000
theorem ok8 : FOk Pg Cg 8 ⟨rc8, Try.f8.results.toList⟩ := fok (kp := kp8) rfl Try.func8 (by kernel_rfl) (by kernel_rfl) (by kernel_rfl)
theorem ok16 : FOk Pg Cg 16 ⟨rc16, Try.f16.results.toList⟩ := fok (kp := kp16) rfl Try.func16 (by kernel_rfl) (by kernel_rfl) (by kernel_rfl)
theorem ok25 : FOk Pg Cg 25 ⟨rc25, Try.f25.results.toList⟩ := fok (kp := kp25) rfl Try.func25 (by kernel_rfl) (by kernel_rfl) (by kernel_rfl)
theorem ok33 : FOk Pg Cg 33 ⟨rc33, Try.f33.results.toList⟩ := fok (kp := kp33) rfl Try.func33 (by kernel_rfl) (by kernel_rfl) (by kernel_rfl)
theorem ok64 : FOk Pg Cg 64 ⟨rc64, Try.f64.results.toList⟩ := fok (kp := kp64) rfl Try.func64 (by kernel_rfl) (by kernel_rfl) (by kernel_rfl)
theorem ok68 : FOk Pg Cg 68 ⟨rc68, Try.f68.results.toList⟩ := fok (kp := kp68) rfl Try.func68 (by kernel_rfl) (by kernel_rfl) (by kernel_rfl)
theorem ok72 : FOk Pg Cg 72 ⟨rc72, Try.f72.results.toList⟩ := fok (kp := kp72) rfl Try.func72 (by kernel_rfl) (by kernel_rfl) (by kernel_rfl)
theorem ok83 : FOk Pg Cg 83 ⟨rc83, Try.f83.results.toList⟩ := fok (kp := kp83) rfl Try.func83 (by kernel_rfl) (by kernel_rfl) (by kernel_rfl)
theorem ok87 : FOk Pg Cg 87 ⟨rc87, Try.f87.results.toList⟩ := fok (kp := kp87) rfl Try.func87 (by kernel_rfl) (by kernel_rfl) (by kernel_rfl)
end Go.AM.S
end
section
namespace Go.AM.S
open Go Go.AM Go.Proofs
set_option maxRecDepth 100000
theorem ok13 : FOk Pg Cg 13 ⟨rc13, Try.f13.results.toList⟩ := fok (kp := kp13) rfl Try.func13 (by kernel_rfl) (by kernel_rfl) (by kernel_rfl)
theorem ok18 : FOk Pg Cg 18 ⟨rc18, Try.f18.results.toList⟩ := fok (kp := kp18) rfl Try.func18 (by kernel_rfl) (by kernel_rfl) (by kernel_rfl)
theorem ok27 : FOk Pg Cg 27 ⟨rc27, Try.f27.results.toList⟩ := fok (kp := kp27) rfl Try.func27 (by kernel_rfl) (by kernel_rfl) (by kernel_rfl)
theorem ok35 : FOk Pg Cg 35 ⟨rc35, Try.f35.results.toList⟩ := fok (kp := kp35) rfl Try.func35 (by kernel_rfl) (by kernel_rfl) (by kernel_rfl)
theorem ok65 : FOk Pg Cg 65 ⟨rc65, Try.f65.results.toList⟩ := fok (kp := kp65) rfl Try.func65 (by kernel_rfl) (by kernel_rfl) (by kernel_rfl)
theorem ok69 : FOk Pg Cg 69 ⟨rc69, Try.f69.results.toList⟩ := fok (kp := kp69) rfl Try.func69 (by kernel_rfl) (by kernel_rfl) (by kernel_rfl)
theorem ok73 : FOk Pg Cg 73 ⟨rc73, Try.f73.results.toList⟩ := fok (kp := kp73) rfl Try.func73 (by kernel_rfl) (by kernel_rfl) (by kernel_rfl)
theorem ok84 : FOk Pg Cg 84 ⟨rc84, Try.f84.results.toList⟩ := fok (kp := kp84) rfl Try.func84 (by kernel_rfl) (by kernel_rfl) (by kernel_rfl)
theorem ok89 : FOk Pg Cg 89 ⟨rc89, Try.f89.results.toList⟩ := fok (kp := kp89) rfl Try.func89 (by kernel_rfl) (by kernel_rfl) (by kernel_rfl)
end Go.AM.S
end
section
namespace Go.AM.S
open Go Go.AM Go.Proofs
set_option maxRecDepth 100000
theorem ok14 : FOk Pg Cg 14 ⟨rc14, Try.f14.results.toList⟩ := fok (kp := kp14) rfl Try.func14 (by kernel_rfl) (by kernel_rfl) (by kernel_rfl)
theorem ok21 : FOk Pg Cg 21 ⟨rc21, Try.f21.results.toList⟩ := fok (kp := kp21) rfl Try.func21 (by kernel_rfl) (by kernel_rfl) (by kernel_rfl)
theorem ok29 : FOk Pg Cg 29 ⟨rc29, Try.f29.results.toList⟩ := fok (kp := kp29) rfl Try.func29 (by kernel_rfl) (by kernel_rfl) (by kernel_rfl)
theorem ok37 : FOk Pg Cg 37 ⟨rc37, Try.f37.results.toList⟩ := fok (kp := kp37) rfl Try.func37 (by kernel_rfl) (by kernel_rfl) (by kernel_rfl)
theorem ok66 : FOk Pg Cg 66 ⟨rc66, Try.f66.results.toList⟩ := fok (kp := kp66) rfl Try.func66 (by kernel_rfl) (by kernel_rfl) (by kernel_rfl)
theorem ok70 : FOk Pg Cg 70 ⟨rc70, Try.f70.results.toList⟩ := fok (kp := kp70) rfl Try.func70 (by kernel_rfl) (by kernel_rfl) (by kernel_rfl)
theorem ok77 : FOk Pg Cg 77 ⟨rc77, Try.f77.results.toList⟩ := fok (kp := kp77) rfl Try.func77 (by kernel_rfl) (by kernel_rfl) (by kernel_rfl)
theorem ok85 : FOk Pg Cg 85 ⟨rc85, Try.f85.results.toList⟩ := fok (kp := kp85) rfl Try.func85 (by kernel_rfl) (by kernel_rfl) (by kernel_rfl)
end Go.AM.S
end
section
namespace Go.AM.S
open Go Go.AM Go.Proofs
set_option maxRecDepth 100000
theorem ok15 : FOk Pg Cg 15 ⟨rc15, Try.f15.results.toList⟩ := fok (kp := kp15) rfl Try.func15 (by kernel_rfl) (by kernel_rfl) (by kernel_rfl)
theorem ok24 : FOk Pg Cg 24 ⟨rc24, Try.f24.results.toList⟩ := fok (kp := kp24) rfl Try.func24 (by kernel_rfl) (by kernel_rfl) (by kernel_rfl)
theorem ok31 : FOk Pg Cg 31 ⟨rc31, Try.f31.results.toList⟩ := fok (kp := kp31) rfl Try.func31 (by kernel_rfl) (by kernel_rfl) (by kernel_rfl)
theorem ok39 : FOk Pg Cg 39 ⟨rc39, Try.f39.results.toList⟩ := fok (kp := kp39) rfl Try.func39 (by kernel_rfl) (by kernel_rfl) (by kernel_rfl)
theorem ok67 : FOk Pg Cg 67 ⟨rc67, Try.f67.results.toList⟩ := fok (kp := kp67) rfl Try.func67 (by kernel_rfl) (by kernel_rfl) (by kernel_rfl)
theorem ok71 : FOk Pg Cg 71 ⟨rc71, Try.f71.results.toList⟩ := fok (kp := kp71) rfl Try.func71 (by kernel_rfl) (by kernel_rfl) (by kernel_rfl)
theorem ok78 : FOk Pg Cg 78 ⟨rc78, Try.f78.results.toList⟩ := fok (kp := kp78) rfl Try.func78 (by kernel_rfl) (by kernel_rfl) (by kernel_rfl)
theorem ok86 : FOk Pg Cg 86 ⟨rc86, Try.f86.results.toList⟩ := fok (kp := kp86) rfl Try.func86 (by kernel_rfl) (by kernel_rfl) (by kernel_rfl)
end Go.AM.S
end
section
namespace Go.AM.S
open Go Go.AM Go.Proofs
set_option maxRecDepth 100000
theorem tbl_ok : ∀ p ∈ tblL, FOk Pg Cg p.1 p.2 := by
 unfold tblL
 simp only [List.forall_mem_cons, List.not_mem_nil, false_imp_iff, implies_true, and_true]
 exact ⟨ok8, ok13, ok14, ok15, ok16, ok18, ok21, ok24, ok25, ok27, ok29, ok31, ok33, ok35, ok37, ok39, ok64, ok65, ok66, ok67, ok68, ok69, ok70, ok71, ok72, ok73, ok77, ok78, ok83, ok84, ok85, ok86, ok87, ok89⟩
theorem use_ok : tblL.map (·.1) = cUse := rfl
theorem seat_eq (kn : Kn) (n : Nat) : S.fn Pg kn tbl n = fnV Pg Cg kn n := by
 refine fn_eq (fun f fc h => ⟨?_, ?_⟩) (fun f h => ?_) n
 ·have := lkL_mem h
  show cUse.contains f = true
  rw [← use_ok, List.contains_iff_mem]
  exact List.mem_map.2 ⟨(f, fc), this, rfl⟩
 ·exact tbl_ok _ (lkL_mem h)
 ·have := lkL_none h
  show cUse.contains f = false
  rw [← use_ok]
  cases hb : (tblL.map (·.1)).contains f with
  | false => rfl
  | true => exact absurd (List.contains_iff_mem.1 hb) this
end Go.AM.S
end
section
namespace Go.AM.S
open Go Go.AM Go.Proofs
set_option maxRecDepth 100000
theorem prog_ok : progOk Pg Cg = true := by kernel_rfl
end Go.AM.S
end
