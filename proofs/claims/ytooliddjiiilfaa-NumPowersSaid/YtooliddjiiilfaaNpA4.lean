/- Part 4 of the proof: what it says stands at its theorems. -/
import Derived.Test.YtooliddjiiilfaaNpA3
import Derived.KernelRfl
set_option linter.unusedVariables false
set_option linter.unusedSimpArgs false
set_option linter.unusedSectionVars false
section
namespace Go.AM.S
open Go Go.AM Go.Proofs NumL
open _root_.Go.AM.G (R)
set_option maxRecDepth 100000
theorem tbl71 : tbl 71 = some ⟨rc71, [.tmp 4]⟩ := by kernel_rfl
structure I71 (va vb : V) (a b : List Nat) (h : Hp) (m : Nat) (s : St) (i n : Nat) (out : List Nat) : Prop where
 m : m + i = max a.length b.length + 1
 h0 : gt s.tm 0 = va
 h1 : gt s.tm 1 = vb
 h14 : gt s.tm 14 = .int .i64 (.ofNat i)
 h13 : gt s.tm 13 = .int .i64 (.ofNat (max a.length b.length + 1))
 h6 : gt s.tm 6 = .int .u64 (.ofNat n)
 hp : s.hp = h
 h5 : Ar s.loc 43 (gt s.tm 5) .u32 out
 len : out.length = i
 dg : Dg B out
 n1 : n ≤ 1
 v : vl B out + B ^ i * n = vl B (a.take i) + vl B (b.take i)
theorem plus_spec {va vb : V} {a b : List Nat} (ha : Sl .u32 va a) (hb : Sl .u32 vb b) (da : Dg B a) (db : Dg B b) (la : a.length ≤ 1000000) (lb : b.length ≤ 1000000) :
  Gives 71 [va, vb] fun r => ∃ c, Sl .u32 r c ∧ Dg B c ∧ vl B c = vl B a + vl B b ∧ c.length = max a.length b.length + 1 := by
 refine gives_of tbl71 fun h Q hQ => ?_
 unfold rc71
 refine sR ?_
 refine sR ?_
 refine sR ?_
 refine ww_seq (ww_seq (ww_reg (fun n k => by simp -implicitDefEqProofs (disch := omega) only [go_sem, reduceIte, Nat.reduceEqDiff, gt_start, List.getD_cons_zero, List.getD_cons_succ, len_sl ha, len_sl hb]; rfl) ?_))
 refine ww_for (fun m s => ∃ i n out, I71 va vb a b ⟨h.rows, none, h.mods⟩ m s i n out) (max a.length b.length + 1) ⟨0, 0, [], rfl, (by simp -implicitDefEqProofs (disch := omega) only [go_sem, reduceIte, Nat.reduceEqDiff, gt_start, List.getD_cons_zero]), sSG, sS, sS, sS, rfl, .inl ⟨rfl, sS⟩, rfl, Dg.nil B, by decide, by simp [vl]⟩ ?_
 intro m s ⟨i, n, out, hm, h0, h1, h14, h13, h6, hhp, h5, hlen, hdg, hn, hv⟩
 refine sR2 h14 h13 ?_
 refine ww_seq (ww_if (by simp only [gt_pt, reduceIte]; rfl) (fun hi => ww_skip ?_) (fun hi => ww_exit ?_))
 ·have da1 : a.getD i 0 < 4294967296 := da.get (by decide) i
  have db1 : b.getD i 0 < 4294967296 := db.get (by decide) i
  obtain ⟨v5, l5, happ, hAr, hfr⟩ := a71_10_4 ((n + a.getD i 0 + b.getD i 0) % 4294967296) h5 (by omega)
  refine ww_seq (ww_block ?_)
  refine sR1 h14 ?_
  refine ww_join (M := fun s1 => gt s1.tm 6 = .int .u64 (.ofNat (n + a.getD i 0)) ∧ gt s1.tm 7 = .int .i64 (.ofNat i) ∧ Kp [0, 1, 5, 13, 14] s.tm s1.tm ∧ s1.loc = s.loc ∧ s1.hp = s.hp) ?_ (fun s1 ⟨a6, a7, ak, al, ah⟩ => ?_)
  ·refine ww_seq (ww_reg (fun n k => by simp -implicitDefEqProofs (disch := omega) only [go_sem, reduceIte, Nat.reduceEqDiff, h0, len_sl ha]; rfl) ?_)
   refine ww_if (by simp only [gt_pt, reduceIte]; rfl) (fun hia => ?_) (fun hia => ww_skip ?_)
   ·refine ww_reg (fun n k => by simp -implicitDefEqProofs (disch := omega) only [go_sem, reduceIte, Nat.reduceEqDiff, h0, h6, ia24 ha]; rfl) ?_
    exact ⟨sS, sS, (by (try dsimp only); repeat (first | with_reducible exact Kp_refl _ _ | with_reducible refine Kp_pt (by decide) ?_)), rfl, rfl⟩
   ·exact ⟨(by simp -implicitDefEqProofs (disch := omega) only [go_sem, reduceIte, Nat.reduceEqDiff, h6, getD_ge hia, Nat.add_zero]), sS, (by (try dsimp only); repeat (first | with_reducible exact Kp_refl _ _ | with_reducible refine Kp_pt (by decide) ?_)), rfl, rfl⟩
  have k5 := ak 5 (by decide); have k1 := ak 1 (by decide); have k14 := ak 14 (by decide)
  refine ww_join (M := fun s2 => gt s2.tm 6 = .int .u64 (.ofNat (n + a.getD i 0 + b.getD i 0)) ∧ Kp [0, 1, 5, 13, 14] s1.tm s2.tm ∧ s2.loc = s.loc ∧ s2.hp = s.hp) ?_ (fun s2 ⟨b6, bk, bl, bh⟩ => ?_)
  ·refine ww_seq (ww_reg (fun n k => by simp -implicitDefEqProofs (disch := omega) only [go_sem, reduceIte, Nat.reduceEqDiff, k1, h1, a7, len_sl hb]; rfl) ?_)
   refine ww_if (by simp only [gt_pt, reduceIte]; rfl) (fun hia => ?_) (fun hia => ww_skip ?_)
   ·refine ww_reg (fun n k => by simp -implicitDefEqProofs (disch := omega) only [go_sem, reduceIte, Nat.reduceEqDiff, k1, h1, a6, a7, ia24 hb]; rfl) ?_
    exact ⟨sS, (by (try dsimp only); repeat (first | with_reducible exact Kp_refl _ _ | with_reducible refine Kp_pt (by decide) ?_)), al, ah⟩
   ·exact ⟨(by simp -implicitDefEqProofs (disch := omega) only [go_sem, reduceIte, Nat.reduceEqDiff, a6, getD_ge hia, Nat.add_zero]), (by (try dsimp only); repeat (first | with_reducible exact Kp_refl _ _ | with_reducible refine Kp_pt (by decide) ?_)), al, ah⟩
  have j5 := (bk 5 (by decide)).trans k5; have j14 := (bk 14 (by decide)).trans (k14.trans h14)
  refine ww_seq (ww_reg (fun n k => by simp -implicitDefEqProofs (disch := omega) only [go_sem, reduceIte, Nat.reduceEqDiff, b6, j5, bl, wrap_u32_mod, happ]; rfl) ?_)
  refine ww_reg (fun n k => by simp -implicitDefEqProofs (disch := omega) only [go_sem, reduceIte, Nat.reduceEqDiff, b6, Nat.reducePow]; rfl) ?_
  refine sE1 j14 ?_
  refine ⟨m - 1, by omega, i + 1, (n + a.getD i 0 + b.getD i 0) / 4294967296, out ++ [(n + a.getD i 0 + b.getD i 0) % 4294967296], by omega, ?_, ?_, sS, ?_, sS, bh.trans hhp, ?_, by simp [hlen], hdg.snoc (Nat.mod_lt _ (by decide)), by omega, ?_⟩
  ·exact (by simp -implicitDefEqProofs (disch := omega) only [go_sem, reduceIte, Nat.reduceEqDiff, bk 0 (by decide), ak 0 (by decide), h0])
  ·exact (by simp -implicitDefEqProofs (disch := omega) only [go_sem, reduceIte, Nat.reduceEqDiff, bk 1 (by decide), k1, h1])
  ·exact (by simp -implicitDefEqProofs (disch := omega) only [go_sem, reduceIte, Nat.reduceEqDiff, bk 13 (by decide), ak 13 (by decide), h13])
  ·have e : gt (pt (pt (pt s2.tm 5 v5) 6 (V.int IntKind.u64 (Int.ofNat ((n + a.getD i 0 + b.getD i 0) / 4294967296)))) 14 (V.int IntKind.i64 (Int.ofNat (i + 1)))) 5 = v5 := sS
   rw [e]; exact hAr
  ·rw [vl_take_next, vl_take_next]
   exact plus_step (by decide) hlen hv
 ·rw [if_pos rfl]
  refine sR ?_
  obtain ⟨r, l', hex, hsl, _⟩ := exp_Ar h5
  rw [vl_take_ge _ _ _ (by omega), vl_take_ge _ _ _ (by omega)] at hv
  have hn0 := top_none (k := max a.length b.length) (by omega) (by decide) (vl_lt_of (by decide) da (by omega)) (vl_lt_of (by decide) db (by omega)) hv
  refine ww_ret (hQ _ r (fin_tmp (v := gt s.tm 5) sS (hex _ _) (by rw [hhp]) hsl.noRefs) ⟨out, hsl, hdg, by rw [hn0] at hv; simpa using hv, by omega⟩)
end Go.AM.S
end
section
namespace Go.AM.S
open Go Go.AM Go.Proofs NumL
open _root_.Go.AM.G (R)
set_option maxRecDepth 100000
theorem tbl35 : tbl 35 = some ⟨rc35, [.tmp 2]⟩ := by kernel_rfl
theorem tbl25 : tbl 25 = some ⟨rc25, [.cell 4 26]⟩ := by kernel_rfl
theorem tbl27 : tbl 27 = some ⟨rc27, [.cell 4 26]⟩ := by kernel_rfl
theorem zeroI : IsI 0 (.agg [.nils, .bool false]) 0 := ⟨[], false, ⟨⟨.nils, rfl, .inr ⟨rfl, rfl⟩⟩, Dg.nil B, fun i h => by simp at h, fun _ => rfl⟩, rfl, Nat.le_refl _⟩
def sgn (x : Int) : Int := cmpZ x 0
theorem sign_spec {k : Nat} {va : V} {x : Int} (ha : IsI k va x) (hk : k ≤ 1000000) : Gives 35 [va] fun r => r = .int .i64 (sgn x) := by
 have ha0 := ha
 obtain ⟨d, b, ⟨⟨s, rfl, hs⟩, dd, cd, h0⟩, hx, hdl⟩ := ha
 refine gives_of tbl35 fun h Q hQ => ?_
 unfold rc35
 refine sRG ?_
 obtain ⟨r, hr, rfl⟩ := cmp_spec ha0 zeroI hk (by omega) ⟨h.rows, none, h.mods⟩
 refine ww_seq (ww_call (hr) (fun n hn k => by simp -implicitDefEqProofs (disch := omega) only [go_sem, reduceIte, Nat.reduceEqDiff, gt_start, List.getD_cons_zero, List.getD_cons_succ, ldc_two L26, clc2 hn (exI hs b) (exI (.inr ⟨rfl, rfl⟩) false)]; rfl) ?_)
 exact ww_ret (hQ _ _ (fin_tmp (v := .int .i64 (cmpZ x 0)) sS (Ex1.int _ _ _) rfl rfl) rfl)
theorem zv_same {d e f : List Nat} {b : Bool} (hf : vl B f = vl B d + vl B e) : zv f (b && !f.isEmpty) = zv d b + zv e b := by
 cases b with
 | false => simp only [zv, Bool.false_and, cond_false]; omega
 | true =>
  cases f with
  | nil => simp only [vl] at hf; simp only [zv, Bool.true_and, List.isEmpty_nil, Bool.not_true, cond_false, cond_true, vl]; omega
  | cons x l => simp only [zv, Bool.true_and, List.isEmpty_cons, Bool.not_false, cond_true]; omega
theorem zv_diff {d e f : List Nat} {b : Bool} (hf : vl B f + vl B e = vl B d) : zv f (b && !f.isEmpty) = zv d b + zv e (!b) := by
 cases b with
 | false => simp only [zv, Bool.false_and, cond_false, Bool.not_false, cond_true]; omega
 | true =>
  cases f with
  | nil => simp only [vl] at hf; simp only [zv, Bool.true_and, List.isEmpty_nil, Bool.not_true, cond_false, cond_true, vl]; omega
  | cons x l => simp only [zv, Bool.true_and, List.isEmpty_cons, Bool.not_false, cond_true, Bool.not_true, cond_false]; omega
theorem add_spec {k l : Nat} {va vb : V} {x y : Int} (ha : IsI k va x) (hb : IsI l vb y) (hk : k ≤ 1000000) (hl : l ≤ 1000000) : Gives 25 [va, vb] fun r => IsI (max k l + 1) r (x + y) := by
 obtain ⟨d, b, ⟨⟨s, rfl, hs⟩, dd, cd, h0⟩, rfl, hdl⟩ := ha
 obtain ⟨e, c, ⟨⟨u, rfl, hu⟩, de, ce, he0⟩, rfl, hel⟩ := hb
 refine gives_of tbl25 fun h Q hQ => ?_
 unfold rc25
 refine sRG ?_
 refine ww_seq (ww_block ?_)
 have fin : ∀ (s2 : V) (f : List Nat) (g : Bool) (st : St), NI (.agg [s2, .bool g]) f g → zv f g = zv d b + zv e c → f.length ≤ max k l + 1 → gt st.tm 4 = .ptr (.loc 4 1) 0 → lg st.loc 4 = (1, .cells false [s2, .bool g]) → st.hp = ⟨h.rows, none, h.mods⟩ → Q st := by
  intro s2 f g st hn hz hf h4 hr hh
  obtain ⟨⟨s3, e3, hs3⟩, q⟩ := hn
  obtain rfl : s2 = s3 := by simpa using e3
  exact hQ _ _ (fin_cell (x := s2) (y := .bool g) (f := false) (d := 4) (g := 1) (by kernel_rfl) h4 hr hs3.pl (Pl.bool _) (by rw [hh])) ⟨f, g, ⟨⟨s2, rfl, hs3⟩, q⟩, hz.symm, hf⟩
 by_cases hbc : b = c
 ·subst hbc
  have eqb : bin Pg .eql 4 false (.bool b) (.bool b) = some (.bool true) := by rw [bin_eqb 4 false b b U4, beq_self_eq_true]
  refine ww_seq (ww_reg (fun n k => by simp -implicitDefEqProofs (disch := omega) only [go_sem, reduceIte, Nat.reduceEqDiff, gt_start, List.getD_cons_zero, List.getD_cons_succ, ldc_snd L4, eqb]; rfl) ?_)
  refine ww_true sS ?_
  obtain ⟨p, hp, m, hm, dm, hvm, hlm⟩ := plus_spec hs hu dd de (by omega) (by omega) ⟨h.rows, none, h.mods⟩
  obtain ⟨r, hr, f, ⟨⟨s2, rfl, hs2⟩, df, cf, hf0⟩, ht⟩ := made_spec hm dm (by omega) b ⟨h.rows, none, h.mods⟩
  have hlen := ht.len
  refine ww_seq (ww_call (hp.and hr) (fun n hn k => by
   simp -implicitDefEqProofs (disch := omega) only [go_sem, reduceIte, Nat.reduceEqDiff, gt_start, List.getD_cons_zero, List.getD_cons_succ, ldc_fst L24, ldc_snd L4, cld2 hn.1 hs.ex hu.ex hs.quiet hu.quiet, cld2 hn.2 hm.ex (Ex1.bool _) hm.quiet rfl, stc_two N26 1 s2 (.bool (b && !f.isEmpty)) .nils (.bool false) _ hs2.pl.ok rfl]
   exact finD_ok (by kernel_rfl)) ?_)
  exact ww_ret (fin s2 f _ _ ⟨⟨s2, rfl, hs2⟩, df, cf, hf0⟩ (zv_same (by rw [ht.vl, hvm])) (by omega) sS sS rfl)
 ·have ec : c = !b := by cases b <;> cases c <;> first | rfl | exact absurd rfl hbc
  have eqb : bin Pg .eql 4 false (.bool b) (.bool c) = some (.bool false) := by
   rw [bin_eqb 4 false b c U4, ec]; cases b <;> rfl
  refine ww_seq (ww_reg (fun n k => by simp -implicitDefEqProofs (disch := omega) only [go_sem, reduceIte, Nat.reduceEqDiff, gt_start, List.getD_cons_zero, List.getD_cons_succ, ldc_snd L4, eqb]; rfl) ?_)
  refine ww_false sS ?_
  obtain ⟨q, hq, rfl⟩ := compare_spec hs hu dd de cd ce (by omega) (by omega) ⟨h.rows, none, h.mods⟩
  rcases Nat.lt_or_ge (vl B d) (vl B e) with hlt | hge
  ·have hcmp : cmpI (vl B d) (vl B e) = .negSucc 0 := by unfold cmpI; rw [if_pos hlt]
   rw [hcmp] at hq
   refine ww_seq (ww_call (hq) (fun n hn k => by simp -implicitDefEqProofs (disch := omega) only [go_sem, reduceIte, Nat.reduceEqDiff, gt_start, List.getD_cons_zero, List.getD_cons_succ, ldc_fst L24, clc2 hn hs.ex hu.ex]; rfl) ?_)
   refine ww_false sS (ww_skip ?_)
   have hle : d.length ≤ e.length := by
    rcases Nat.lt_or_ge e.length d.length with h1 | h1
    ·have := vl_lt_len (B := B) (by decide) de cd h1; omega
    ·exact h1
   obtain ⟨p, hp, m, hm, dm, hvm, hlm⟩ := minus_spec hu hs de dd (by omega) hle (by omega) ⟨h.rows, none, h.mods⟩
   obtain ⟨r, hr, f, ⟨⟨s2, rfl, hs2⟩, df, cf, hf0⟩, ht⟩ := made_spec hm dm (by omega) c ⟨h.rows, none, h.mods⟩
   have hlen := ht.len
   refine ww_seq (ww_call (hp.and hr) (fun n hn k => by
    simp -implicitDefEqProofs (disch := omega) only [go_sem, reduceIte, Nat.reduceEqDiff, gt_start, List.getD_cons_zero, List.getD_cons_succ, ldc_fst L24, ldc_snd L4, cld2 hn.1 hu.ex hs.ex hu.quiet hs.quiet, cld2 hn.2 hm.ex (Ex1.bool _) hm.quiet rfl, stc_two N26 1 s2 (.bool (c && !f.isEmpty)) .nils (.bool false) _ hs2.pl.ok rfl]
    exact finD_ok (by kernel_rfl)) ?_)
   refine ww_ret (fin s2 f _ _ ⟨⟨s2, rfl, hs2⟩, df, cf, hf0⟩ ?_ (by omega) sS sS rfl)
   rw [zv_diff (d := e) (e := d) (by rw [ht.vl, hvm]), ec, Int.add_comm]
   cases b <;> rfl
  ·have hcmp : ∃ n, cmpI (vl B d) (vl B e) = .ofNat n := by unfold cmpI; rw [if_neg (by omega)]; split <;> exact ⟨_, rfl⟩
   obtain ⟨n0, hcmp⟩ := hcmp
   rw [hcmp] at hq
   refine ww_seq (ww_call (hq) (fun n hn k => by simp -implicitDefEqProofs (disch := omega) only [go_sem, reduceIte, Nat.reduceEqDiff, gt_start, List.getD_cons_zero, List.getD_cons_succ, ldc_fst L24, clc2 hn hs.ex hu.ex, d_true]; rfl) ?_)
   refine ww_true sS ?_
   have hle : e.length ≤ d.length := by
    rcases Nat.lt_or_ge d.length e.length with h1 | h1
    ·have := vl_lt_len (B := B) (by decide) dd ce h1; omega
    ·exact h1
   obtain ⟨p, hp, m, hm, dm, hvm, hlm⟩ := minus_spec hs hu dd de (by omega) hle (by omega) ⟨h.rows, none, h.mods⟩
   obtain ⟨r, hr, f, ⟨⟨s2, rfl, hs2⟩, df, cf, hf0⟩, ht⟩ := made_spec hm dm (by omega) b ⟨h.rows, none, h.mods⟩
   have hlen := ht.len
   refine ww_seq (ww_call (hp.and hr) (fun n hn k => by
    simp -implicitDefEqProofs (disch := omega) only [go_sem, reduceIte, Nat.reduceEqDiff, gt_start, List.getD_cons_zero, List.getD_cons_succ, ldc_fst L24, ldc_snd L4, cld2 hn.1 hs.ex hu.ex hs.quiet hu.quiet, cld2 hn.2 hm.ex (Ex1.bool _) hm.quiet rfl, stc_two N26 1 s2 (.bool (b && !f.isEmpty)) .nils (.bool false) _ hs2.pl.ok rfl]
    exact finD_ok (by kernel_rfl)) ?_)
   refine ww_ret (fin s2 f _ _ ⟨⟨s2, rfl, hs2⟩, df, cf, hf0⟩ ?_ (by omega) sS sS rfl)
   rw [zv_diff (d := d) (e := e) (by rw [ht.vl, hvm]), ec]
end Go.AM.S
end
section
namespace Go.AM.S
open Go Go.AM Go.Proofs NumL
open _root_.Go.AM.G (R)
set_option maxRecDepth 100000
theorem IsI.form {k : Nat} {v : V} {x : Int} (h : IsI k v x) : ∃ s b, v = .agg [s, .bool b] ∧ Pl s ∧ Ex1 v ∧ quiet v = true := by
 obtain ⟨d, b, hn, _, _⟩ := h
 have h1 := hn.ex; have h2 := hn.quiet
 obtain ⟨⟨s, rfl, hs⟩, _⟩ := hn
 exact ⟨s, b, rfl, hs.pl, h1, h2⟩
theorem sub_spec {k l : Nat} {va vb : V} {x y : Int} (ha : IsI k va x) (hb : IsI l vb y) (hk : k ≤ 1000000) (hl : l ≤ 1000000) : Gives 27 [va, vb] fun r => IsI (max k l + 1) r (x - y) := by
 obtain ⟨s, b, rfl, ps, es, qs⟩ := ha.form
 obtain ⟨u, c, rfl, pu, eu, qu⟩ := hb.form
 refine gives_of tbl27 fun h Q hQ => ?_
 unfold rc27
 refine sRG ?_
 obtain ⟨p, hp, hpI⟩ := neg_spec hb hl ⟨h.rows, none, h.mods⟩
 obtain ⟨r, hr, hrI⟩ := add_spec ha hpI hk hl ⟨h.rows, none, h.mods⟩
 obtain ⟨s1, b1, rfl, ps1, es1, qs1⟩ := hpI.form
 obtain ⟨s2, b2, rfl, ps2, es2, qs2⟩ := hrI.form
 refine ww_seq (ww_call (hp.and hr) (fun n hn k => by
  simp -implicitDefEqProofs (disch := omega) only [go_sem, reduceIte, Nat.reduceEqDiff, gt_start, List.getD_cons_zero, List.getD_cons_succ, ldc_two L26, cld1 hn.1 eu qu, cld2 hn.2 es es1 qs qs1, stc_two N26 1 s2 (.bool b2) .nils (.bool false) _ ps2.ok rfl]
  exact finD_ok (by kernel_rfl)) ?_)
 exact ww_ret (hQ _ _ (fin_cell (x := s2) (y := .bool b2) (f := false) (d := 4) (g := 1) (by kernel_rfl) sS sS ps2 (Pl.bool _) rfl) (by rw [Int.sub_eq_add_neg]; exact hrI))
end Go.AM.S
end
section
namespace Go.AM.S
open Go Go.AM Go.Proofs NumL
open _root_.Go.AM.G (R)
set_option maxRecDepth 100000
theorem tbl29 : tbl 29 = some ⟨rc29, [.cell 4 26]⟩ := by kernel_rfl
theorem vl_set (B : Nat) : ∀ (l : List Nat) (i v : Nat), i < l.length → vl B (l.set i v) + B ^ i * l.getD i 0 = vl B l + B ^ i * v := by
 intro l
 induction l with
 | nil => intro i v h; simp at h
 | cons x l ih =>
  intro i v h
  cases i with
  | zero => simp only [List.set_cons_zero, vl, List.getD_cons_zero, Nat.pow_zero, Nat.one_mul]; omega
  | succ i =>
   have := ih i v (by simpa using h)
   simp only [List.set_cons_succ, vl, List.getD_cons_succ, Nat.pow_succ]
   have h2 : B * (vl B (l.set i v) + B ^ i * l.getD i 0) = B * (vl B l + B ^ i * v) := by rw [this]
   simp only [Nat.mul_add] at h2
   rw [show B ^ i * B * l.getD i 0 = B * (B ^ i * l.getD i 0) by rw [Nat.mul_comm (B ^ i) B, Nat.mul_assoc], show B ^ i * B * v = B * (B ^ i * v) by rw [Nat.mul_comm (B ^ i) B, Nat.mul_assoc]]
   omega
structure IMul (s u : V) (b c : Bool) (N : Nat) (h : Hp) (out : List Nat) (st : St) : Prop where
 h2 : gt st.tm 2 = .ptr (.loc 2 1) 0
 h3 : gt st.tm 3 = .ptr (.loc 3 1) 0
 h4 : gt st.tm 4 = .ptr (.loc 4 1) 0
 h5 : gt st.tm 5 = .arr (.loc 18 1) 0 N (some N) 1 false
 l2 : lg st.loc 2 = (1, .cells false [s, .bool b])
 l3 : lg st.loc 3 = (1, .cells false [u, .bool c])
 l4 : lg st.loc 4 = (1, .cells false [.nils, .bool false])
 l18 : lg st.loc 18 = (1, .cells false (nl .u32 out))
 len : out.length = N
 dg : Dg B out
 hp : st.hp = h
theorem mul_step {B t0 v2 o o' n n' x y i k : Nat} (h1 : v2 + B ^ (i + k) * o = t0 + B ^ (i + k) * o') (h2 : n + (x * y + o) = o' + B * n') {q p : Nat} (h3 : t0 + B ^ (i + k) * n = q + B ^ i * (x * p)) :
  v2 + B ^ (i + (k + 1)) * n' = q + B ^ i * (x * (p + B ^ k * y)) := by
 have e1 : B ^ (i + k) * (n + (x * y + o)) = B ^ (i + k) * (o' + B * n') := by rw [h2]
 simp only [Nat.mul_add] at e1
 have e2 : B ^ (i + (k + 1)) * n' = B ^ (i + k) * (B * n') := by rw [← Nat.add_assoc, Nat.pow_succ, Nat.mul_assoc]
 have e3 : B ^ i * (x * (p + B ^ k * y)) = B ^ i * (x * p) + B ^ (i + k) * (x * y) := by
  rw [Nat.mul_add, Nat.mul_add, Nat.pow_add, Nat.mul_assoc]
  congr 1
  rw [← Nat.mul_assoc x, Nat.mul_comm x, Nat.mul_assoc]
 rw [e2, e3]
 omega
theorem getD_set_ne (l : List Nat) (i j v : Nat) (h : i ≠ j) : (l.set i v).getD j 0 = l.getD j 0 := by
 rw [List.getD_eq_getElem?_getD, List.getD_eq_getElem?_getD, List.getElem?_set_ne h]
theorem mul_bound {x y : Nat} (hx : x < 4294967296) (hy : y < 4294967296) : x * y ≤ 18446744065119617025 := by
 have := Nat.mul_le_mul (show x ≤ 4294967295 by omega) (show y ≤ 4294967295 by omega)
 omega
theorem mul_spec {k l : Nat} {va vb : V} {x y : Int} (ha : IsI k va x) (hb : IsI l vb y) (hk : k ≤ 1000000) (hl : l ≤ 1000000) : Gives 29 [va, vb] fun r => IsI (k + l) r (x * y) := by
 obtain ⟨d, b, ⟨⟨s, rfl, hs⟩, dd, cd, h0⟩, rfl, hdl⟩ := ha
 obtain ⟨e, c, ⟨⟨u, rfl, hu⟩, de, ce, he0⟩, rfl, hel⟩ := hb
 refine gives_of tbl29 fun h Q hQ => ?_
 unfold rc29
 refine sRG ?_
 refine ww_seq (ww_reg (fun n k => by simp -implicitDefEqProofs (disch := omega) only [go_sem, reduceIte, Nat.reduceEqDiff, gt_start, List.getD_cons_zero, List.getD_cons_succ, ldc_fst L24, len_sl hs, len_sl hu]; rfl) ?_)
 refine ww_seq (ww_seq (ww_reg (fun n k => by simp -implicitDefEqProofs (disch := omega) only [go_sem, reduceIte, Nat.reduceEqDiff, gt_start, List.getD_cons_zero, List.getD_cons_succ, ldc_fst L24, len_sl hs]; rfl) ?_))
 refine ww_for (fun m st => ∃ i out, m + i = d.length ∧ IMul s u b c (d.length + e.length) ⟨h.rows, none, h.mods⟩ out st ∧ gt st.tm 20 = s ∧ gt st.tm 21 = .int .i64 (.ofNat d.length) ∧ gt st.tm 22 = .int .i64 (.ofNat i) ∧ vl B out = vl B (d.take i) * vl B e ∧ ∀ j, i + e.length ≤ j → out.getD j 0 = 0) d.length ⟨0, List.replicate (d.length + e.length) 0, rfl, ⟨sS, sS, sS, sS, sS, sS, sS, sS, by simp, fun x hx => by rw [List.eq_of_mem_replicate hx]; decide, rfl⟩, sS, sS, sS, by rw [vl_zeros]; simp [vl], fun j _ => by rw [List.getD_eq_getElem?_getD, List.getElem?_replicate]; split <;> rfl⟩ ?_
 intro m st ⟨i, out, hm, H, h20, h21, h22, hv, hz⟩
 obtain ⟨h2, h3, h4, h5, l2, l3, l4, l18, hlen, hdg, hhp⟩ := H
 refine sR2 h21 h22 ?_
 refine ww_seq (ww_if (by simp only [gt_pt, reduceIte]; rfl) (fun hi => ww_skip ?_) (fun hi => ww_exit ?_))
 ·have hx : d.getD i 0 < 4294967296 := dd.get (by decide) i
  refine ww_seq (ww_block ?_)
  refine ww_seq (ww_reg (fun n k => by simp -implicitDefEqProofs (disch := omega) only [go_sem, reduceIte, Nat.reduceEqDiff, h20, h22, ia24 hs]; rfl) ?_)
  refine sR ?_
  refine ww_seq (ww_seq ?_)
  refine ww_reg (fun n k => by simp -implicitDefEqProofs (disch := omega) only [go_sem, reduceIte, Nat.reduceEqDiff, h3, l3, ldc_fst L24, len_sl hu]; rfl) ?_
  refine ww_for (fun m2 s1 => ∃ k o2 n, m2 + k = e.length ∧ IMul s u b c (d.length + e.length) ⟨h.rows, none, h.mods⟩ o2 s1 ∧ gt s1.tm 20 = s ∧ gt s1.tm 21 = .int .i64 (.ofNat d.length) ∧ gt s1.tm 22 = .int .i64 (.ofNat i) ∧ gt s1.tm 6 = .int .i64 (.ofNat i) ∧ gt s1.tm 7 = .int .u32 (.ofNat (d.getD i 0)) ∧ gt s1.tm 8 = .int .u64 (.ofNat n) ∧ gt s1.tm 28 = u ∧ gt s1.tm 29 = .int .i64 (.ofNat e.length) ∧ gt s1.tm 30 = .int .i64 (.ofNat k) ∧ n < 4294967296 ∧ vl B o2 + B ^ (i + k) * n = vl B out + B ^ i * (d.getD i 0 * vl B (e.take k)) ∧ ∀ j, i + e.length ≤ j → o2.getD j 0 = 0) e.length ⟨0, out, 0, rfl, ⟨(sS1 h2), (sS1 h3), (sS1 h4), (sS1 h5), (sS1 l2), (sS1 l3), (sS1 l4), (sS1 l18), hlen, hdg, hhp⟩, (sS1 h20), (sS1 h21), (sS1 h22), sS, sS, sS, sS, sS, sS, by decide, by simp [vl], hz⟩ ?_
  intro m2 s1 ⟨k, o2, n, hm2, H2, j20, j21, j22, j6, j7, j8, j28, j29, j30, hn, hv2, hz2⟩
  obtain ⟨i2, i3, i4, i5, k2, k3, k4, k18, hlen2, hdg2, hhp2⟩ := H2
  refine sR2 j29 j30 ?_
  refine ww_seq (ww_if (by simp only [gt_pt, reduceIte]; rfl) (fun hk2 => ww_skip ?_) (fun hk2 => ww_exit ?_))
  ·have hy : e.getD k 0 < 4294967296 := de.get (by decide) k
   have ho : o2.getD (i + k) 0 < 4294967296 := hdg2.get (by decide) _
   have hxy := mul_bound hx hy
   refine ww_seq (ww_block ?_)
   refine ww_seq (ww_reg (fun n k => by simp -implicitDefEqProofs (disch := omega) only [go_sem, reduceIte, Nat.reduceEqDiff, j28, j30, ia24 hu]; rfl) ?_)
   refine ww_seq (ww_reg (fun n k => by simp -implicitDefEqProofs (disch := omega) only [go_sem, reduceIte, Nat.reduceEqDiff, j6, j7, j8, i5, k18]; rfl) ?_)
   refine ww_seq (ww_reg (fun n k => by simp -implicitDefEqProofs (disch := omega) only [go_sem, reduceIte, Nat.reduceEqDiff, j6, i5, k18, wrap_u32_mod]; rfl) ?_)
   refine ww_reg (fun n k => by simp -implicitDefEqProofs (disch := omega) only [go_sem, reduceIte, Nat.reduceEqDiff, Nat.reducePow]; rfl) ?_
   refine sE1 j30 ?_
   refine ⟨m2 - 1, by omega, k + 1, o2.set (i + k) ((n + (d.getD i 0 * e.getD k 0 + o2.getD (i + k) 0)) % 4294967296), (n + (d.getD i 0 * e.getD k 0 + o2.getD (i + k) 0)) / 4294967296, by omega, ⟨(sS1 i2), (sS1 i3), (sS1 i4), (sS1 i5), (sS1 k2), (sS1 k3), (sS1 k4), sS, by simp [hlen2], hdg2.set _ (Nat.mod_lt _ (by decide)), hhp2⟩, (sS1 j20), (sS1 j21), (sS1 j22), (sS1 j6), (sS1 j7), sS, (sS1 j28), (sS1 j29), sS, by omega, ?_, fun j hj => by rw [getD_set_ne _ _ _ _ (by omega)]; exact hz2 j hj⟩
   rw [vl_take_next]
   exact mul_step (vl_set B o2 (i + k) _ (by omega)) (by show n + (d.getD i 0 * e.getD k 0 + o2.getD (i + k) 0) = (n + (d.getD i 0 * e.getD k 0 + o2.getD (i + k) 0)) % 4294967296 + 4294967296 * ((n + (d.getD i 0 * e.getD k 0 + o2.getD (i + k) 0)) / 4294967296); omega) hv2
  ·rw [if_pos rfl]
   refine ww_reg (fun n k => by simp -implicitDefEqProofs (disch := omega) only [go_sem, reduceIte, Nat.reduceEqDiff, i3, k3, i5, k18, j6, j8, ldc_fst L24, len_sl hu]; rfl) ?_
   refine sE1 j22 ?_
   have ek : k = e.length := by omega
   refine ⟨m - 1, by omega, i + 1, o2.set (i + e.length) n, by omega, ⟨(sS1 i2), (sS1 i3), (sS1 i4), (sS1 i5), (sS1 k2), (sS1 k3), (sS1 k4), sS, by simp [hlen2], hdg2.set _ hn, hhp2⟩, (sS1 j20), (sS1 j21), sS, ?_, fun j hj => by rw [getD_set_ne _ _ _ _ (by omega)]; exact hz2 j (by omega)⟩
   have e1 := vl_set B o2 (i + e.length) n (by omega)
   rw [hz2 (i + e.length) (Nat.le_refl _), Nat.mul_zero, Nat.add_zero] at e1
   rw [e1, vl_take_next, Nat.add_mul, ← hv, Nat.mul_assoc]
   subst ek
   rw [List.take_length] at hv2
   exact hv2
 ·rw [if_pos rfl]
  have hid : i = d.length := by omega
  subst hid
  rw [List.take_length] at hv
  obtain ⟨r, hr, f, ⟨⟨s2, rfl, hs2⟩, df, cf, hf0⟩, ht⟩ := made_spec (a := out) (.inl ⟨false, rfl⟩) hdg (by omega) (!(b == c)) ⟨h.rows, none, h.mods⟩
  have hlen3 := ht.len
  refine ww_seq (ww_call (hr) (fun n hn k => by simp -implicitDefEqProofs (disch := omega) only [go_sem, reduceIte, Nat.reduceEqDiff, h2, h3, h4, h5, l2, l3, l4, hhp, ldc_snd L4, bin_neb 4 false b c U4, cl_arr2 hlen.symm l18 hn (Ex1.bool _), stc_two N26 1 s2 (.bool (!(b == c) && !f.isEmpty)) .nils (.bool false) _ hs2.pl.ok rfl]; rfl) ?_)
  refine ww_ret (hQ _ _ (fin_cell (x := s2) (y := .bool (!(b == c) && !f.isEmpty)) (f := false) (d := 4) (g := 1) (by kernel_rfl) (sS1 h4) sS hs2.pl (Pl.bool _) rfl) ⟨f, _, ⟨⟨s2, rfl, hs2⟩, df, cf, hf0⟩, ?_, by omega⟩)
  have e3 := ht.vl B
  rw [hv] at e3
  have e4 : (vl B f : Int) = (vl B d : Int) * (vl B e : Int) := by rw [e3]; simp
  cases f with
  | nil =>
   have e5 : (vl B d : Int) * (vl B e : Int) = 0 := by rw [← e4]; rfl
   cases b <;> cases c <;> simp only [zv, vl, cond_true, cond_false, Int.neg_mul, Int.mul_neg, Int.neg_neg, e5] <;> rfl
  | cons x0 l0 => cases b <;> cases c <;> simp only [zv, cond_true, cond_false, Int.neg_mul, Int.mul_neg, Int.neg_neg, e4] <;> simp [e4]
end Go.AM.S
end
section
namespace Go.AM.S
open Go Go.AM Go.Proofs NumL
open _root_.Go.AM.G (R)
set_option maxRecDepth 100000
theorem tbl68 : tbl 68 = some ⟨rc68, [.tmp 2]⟩ := by kernel_rfl
theorem n68_3_0 (c : CallF) (t' t : Tm) (l : Lo) (h : Hp) (j : V → Lo → Hp → R) : gn Try.f68 68 3 0 c t' t l h j = j (.arr (.loc 5 ((lg l 5).1 + 1)) 0 0 (some 0) 1 false) (lp l 5 ((lg l 5).1 + 1, .cells false [])) h :=
 gen_empty (C := Cg) (gl := Cg.glob 68) (call := c) (o := opA Try.f68 3 0) (d := 5) (t := 24) (e := 86) (by kernel_rfl) (by kernel_rfl) (by kernel_rfl) (by kernel_rfl) (by kernel_rfl) (by kernel_rfl) (show zeroV Pg 86 = some (.int .u32 (.ofNat 0)) by kernel_rfl) rfl rfl
theorem c68_3_2 {loc : Lo} {hp : Hp} {ys : List Nat} {w : V} {g : Nat} (hs : lg loc 5 = (g, .cells false [])) (hit : ∀ tm, itemsOf ⟨tm, loc, hp⟩ w = some (nl .u32 ys)) (hys : ys ≠ []) (hn : ys.length ≤ 1000000000) (call : CallF) (tm : Tm) (j : V → Lo → Hp → R) :
  go2 Try.f68 68 3 2 5 6 (.arr (.loc 5 g) 0 0 (some 0) 1 false) w call tm loc hp j = j (.arr (.glob hp.rows.length) 0 ys.length none 1 false) loc (hadd hp (.cells false (nl .u32 ys))) :=
 gen_clone (C := Cg) (gl := Cg.glob 68) (e := 86) (b := 4) i68_3_2 (by kernel_rfl) (by kernel_rfl) (by kernel_rfl) (by kernel_rfl) (by kernel_rfl) (by decide) hs hit hys (by omega) call tm j
theorem ne_nil {v : V} (h : v ≠ .nils) (hv : (∃ k d, Sl k v d) ∨ ∃ r o n li, v = .arr r o n li 1 false) (cn : Bool) : bin Pg .eql 24 cn v .nils = some (.bool false) := by
 have hu : Pg.underlying 24 = some (.slice 86) := U24
 rcases hv with ⟨k, d, ⟨f, rfl⟩ | ⟨rfl, _⟩⟩ | ⟨r, o, n, li, rfl⟩
 ·show F.eqV .eql (Pg.underlying 24) cn (.slice none f 1 (nl k d)) .nils = _
  rw [hu]; rfl
 ·exact absurd rfl h
 ·show F.eqV .eql (Pg.underlying 24) cn (.arr r o n li 1 false) .nils = _
  rw [hu]; rfl
theorem clone_runs {va : V} {ys : List Nat} (h : Hp) (hne : va ≠ .nils) (hv : (∃ k d, Sl k va d) ∨ ∃ r o n li, va = .arr r o n li 1 false) (hys : ys ≠ []) (hn : ys.length ≤ 1000000000)
  (hit : ∀ (tm : Tm) (loc : Lo), itemsOf ⟨tm, loc, ⟨h.rows, none, h.mods⟩⟩ va = some (nl .u32 ys)) :
  Runs Pg kn0 tbl 68 [va] h (.val (.arr (.glob h.rows.length) 0 ys.length none 1 false) (hadd h (.cells false (nl .u32 ys)))) := by
 suffices hw : WW Pg kn0 tbl rc68 ⟨startTm [va], .lf, ⟨h.rows, none, h.mods⟩⟩ (fun s => ∃ o, fin Pg h [.tmp 2] s = some o ∧ o = .val (.arr (.glob h.rows.length) 0 ys.length none 1 false) (hadd h (.cells false (nl .u32 ys)))) (fun _ _ => False) (fun s => ∃ o, fin Pg h [.tmp 2] s = some o ∧ o = .val (.arr (.glob h.rows.length) 0 ys.length none 1 false) (hadd h (.cells false (nl .u32 ys)))) by
  obtain ⟨o, h1, h2⟩ := runs_ex (kn := kn0) (h := h) rfl tbl68 hw
  subst h2
  exact h1
 unfold rc68
 refine sR ?_
 refine ww_seq (ww_seq (ww_reg (fun n k => by simp -implicitDefEqProofs (disch := omega) only [go_sem, reduceIte, Nat.reduceEqDiff, gt_start, List.getD_cons_zero, List.getD_cons_succ, ne_nil hne hv]; rfl) ?_))
 refine ww_false sS (ww_skip ?_)
 refine ww_seq (ww_reg (fun n k => by simp -implicitDefEqProofs (disch := omega) only [go_sem, reduceIte, Nat.reduceEqDiff, gt_start, List.getD_cons_zero, List.getD_cons_succ, n68_3_0, c68_3_2 (loc := lp .lf 5 (1, .cells false [])) (g := 1) (by rw [lg_lp, if_pos rfl]) (fun tm => hit tm _) hys hn]; rfl) ?_)
 refine ww_ret ⟨_, ?_, rfl⟩
 unfold fin
 simp only [resV, rho_gt, Option.map_some]
 rw [show ∀ t, gt (pt t 2 (.arr (.glob h.rows.length) 0 ys.length none 1 false)) 2 = .arr (.glob h.rows.length) 0 ys.length none 1 false from fun t => sS]
 rfl
end Go.AM.S
end
section
namespace Go.AM.S
open Go Go.AM Go.Proofs NumL
open _root_.Go.AM.G (R)
set_option maxRecDepth 100000
theorem tbl64 : tbl 64 = some ⟨rc64, [.tmp 6]⟩ := by kernel_rfl
theorem take_set_lt (l : List Nat) (i v : Nat) : (l.set i v).take i = l.take i := by
 rw [List.take_set]
 exact List.set_eq_of_length_le (by simp; omega)
theorem getD_set_eq (l : List Nat) (i v : Nat) (h : i < l.length) : (l.set i v).getD i 0 = v := by
 rw [List.getD_eq_getElem?_getD, List.getElem?_set_self h]; rfl
structure HG (n : Nat) (h : Hp) (v : V) (l : Nat) (s : Hp) : Prop where
 len : h.rows.length ≤ s.rows.length
 same : ∀ i, i < h.rows.length → v ≠ .arr (.glob i) 0 l none 1 false → s.rows[i]? = h.rows[i]?
 dg : DG n s
theorem nth_rows {h : Hp} {r : Nat} {row : Row} (hr : h.rows[r]? = some row) : F.nthR h.rows r = some row := by rw [F.nthR_eq]; exact hr
theorem len_gr {h : Hp} {v : V} {k : IntKind} {d : List Nat} (hv : Gr h v k d) (e : TypeId) : len (some (.slice e)) v = some (.int .i64 (.ofNat d.length)) := by
 rcases hv with ⟨rfl, rfl⟩ | ⟨_, r, rfl, _⟩
 ·exact len_nils e
 ·rfl
theorem grown_runs {n : Nat} {h : Hp} {v : V} {d : List Nat} (T M : Nat) (hv : Gr h v .u32 d) (dd : Dg B d) (hl : d.length ≤ 1000000) (hT : T < 4294967296) (hM : M < 4294967296) (hn : DG n h) (hvn : ∀ r, v = .arr (.glob r) 0 d.length none 1 false → n ≤ r) (hlen : n ≤ h.rows.length) :
  ∃ v' h' d', Runs Pg kn0 tbl 64 [v, .int .u64 (.ofNat T), .int .u64 (.ofNat M)] h (.val v' h') ∧ Gr h' v' .u32 d' ∧ Dg B d' ∧ vl B d' = vl B d * T + M ∧ d'.length ≤ d.length + 1 ∧ HG n h v d.length h' ∧ (∀ r, v' = .arr (.glob r) 0 d'.length none 1 false → n ≤ r) ∧ d.length ≤ d'.length := by
 let Post : Out → Prop := fun o => ∃ v' h' d', o = .val v' h' ∧ Gr h' v' .u32 d' ∧ Dg B d' ∧ vl B d' = vl B d * T + M ∧ d'.length ≤ d.length + 1 ∧ HG n h v d.length h' ∧ (∀ r, v' = .arr (.glob r) 0 d'.length none 1 false → n ≤ r) ∧ d.length ≤ d'.length
 suffices hw : WW Pg kn0 tbl rc64 ⟨startTm [v, .int .u64 (.ofNat T), .int .u64 (.ofNat M)], .lf, ⟨h.rows, none, h.mods⟩⟩ (fun s => ∃ o, fin Pg h [.tmp 6] s = some o ∧ Post o) (fun _ _ => False) (fun s => ∃ o, fin Pg h [.tmp 6] s = some o ∧ Post o) by
  obtain ⟨o, h1, v', h', d', rfl, h2⟩ := runs_ex (kn := kn0) (h := h) rfl tbl64 hw
  exact ⟨v', h', d', h1, h2⟩
 have fin1 : ∀ (s : St) (v' : V) (d' : List Nat), gt s.tm 6 = v' → Gr s.hp v' .u32 d' → Dg B d' → vl B d' = vl B d * T + M → d'.length ≤ d.length + 1 → HG n h v d.length s.hp → (∀ r, v' = .arr (.glob r) 0 d'.length none 1 false → n ≤ r) → d.length ≤ d'.length → (v' = .nils → s.hp.dirty = none) → ∃ o, fin Pg h [.tmp 6] s = some o ∧ Post o := by
  intro s v' d' h6 hg' hd' hvl hlen' hH hvn' hle' hnil
  have hr6 : resV Pg s [.tmp 6] = some [v'] := by simp only [resV, rho_gt, h6, Option.map_some]
  rcases hg' with ⟨rfl, rfl⟩ | ⟨hd0, r, rfl, hrow⟩
  ·refine ⟨.val .nils h, ?_, .nils, h, [], rfl, .inl ⟨rfl, rfl⟩, hd', hvl, by simp, ⟨Nat.le_refl _, fun _ _ _ => rfl, hn⟩, (fun r e => by cases e), hle'⟩
   unfold fin
   rw [hr6]
   show some (Out.val .nils (backHp h s.hp [.nils])) = _
   rw [back_id h s.hp [.nils] (hnil rfl) rfl]
  ·refine ⟨.val (.arr (.glob r) 0 d'.length none 1 false) (backHp h s.hp [.arr (.glob r) 0 d'.length none 1 false]), ?_, _, _, d', rfl, .inr ⟨hd0, r, rfl, ?_⟩, hd', hvl, hlen', ⟨?_, ?_, hn.back hH.dg _⟩, hvn', hle'⟩
   ·unfold fin
    rw [hr6]; rfl
   ·rw [back_rows rfl]; exact hrow
   ·rw [back_rows rfl]; exact hH.len
   ·rw [back_rows rfl]; exact hH.same
 unfold rc64
 refine sR ?_
 refine ww_seq (ww_seq (ww_reg (fun n k => by simp -implicitDefEqProofs (disch := omega) only [go_sem, reduceIte, Nat.reduceEqDiff, gt_start, List.getD_cons_zero, List.getD_cons_succ, len_gr hv]; rfl) ?_))
 refine ww_mono (N := fun s => ∃ cur c, gt s.tm 0 = v ∧ gt s.tm 2 = .int .u64 (.ofNat c) ∧ Gr s.hp v .u32 cur ∧ cur.length = d.length ∧ Dg B cur ∧ c < 4294967296 ∧ vl B cur + B ^ d.length * c = vl B d * T + M ∧ HG n h v d.length s.hp ∧ s.hp.rows.length = h.rows.length ∧ (d = [] → s.hp.dirty = none)) (X := fun _ _ => False) (Q := fun _ => False) ?_ ?_ (fun _ _ h => h.elim) (fun _ h => h.elim)
 ·refine ww_for (fun m s => ∃ i cur c, m + i = d.length ∧ gt s.tm 0 = v ∧ gt s.tm 1 = .int .u64 (.ofNat T) ∧ gt s.tm 2 = .int .u64 (.ofNat c) ∧ gt s.tm 9 = v ∧ gt s.tm 10 = .int .i64 (.ofNat d.length) ∧ gt s.tm 11 = .int .i64 (.ofNat i) ∧ Gr s.hp v .u32 cur ∧ cur.length = d.length ∧ Dg B cur ∧ c < 4294967296 ∧ vl B (cur.take i) + B ^ i * c = vl B (d.take i) * T + M ∧ (∀ j, i ≤ j → cur.getD j 0 = d.getD j 0) ∧ HG n h v d.length s.hp ∧ s.hp.rows.length = h.rows.length ∧ (d = [] → s.hp.dirty = none)) d.length ⟨0, d, M, rfl, sSG, sSG, sSG, sSG, sSG, sS, hv, rfl, dd, hM, by simp [vl], fun _ _ => rfl, ⟨Nat.le_refl _, fun _ _ _ => rfl, fun x hx => by cases hx⟩, rfl, fun _ => rfl⟩ ?_
  intro m s ⟨i, cur, c, hm, h0, h1, h2, h9, h10, h11, hg, hcl, hcd, hc, hvl, hrest, hH, hrl, hnil⟩
  refine sR2 h10 h11 ?_
  refine ww_seq (ww_if (by simp only [gt_pt, reduceIte]; rfl) (fun hi => ww_skip ?_) (fun hi => ww_exit ?_))
  ·rcases hg with ⟨hcur, _⟩ | ⟨hc0, r, rfl, hrow⟩
   ·exfalso; rw [hcur] at hcl; simp at hcl; omega
   have hnr := hvn r (by rw [hcl])
   have hx : cur.getD i 0 < 4294967296 := hcd.get (by decide) i
   have hxT := mul_bound hx hT
   refine ww_seq (ww_block ?_)
   refine ww_seq (ww_reg (fun n k => by simp -implicitDefEqProofs (disch := omega) only [go_sem, reduceIte, Nat.reduceEqDiff, h9, h11, nth_rows hrow, ldg_nl L86]; rfl) ?_)
   refine sR2 h1 h2 ?_
   refine ww_seq (ww_reg (fun n k => by simp -implicitDefEqProofs (disch := omega) only [go_sem, reduceIte, Nat.reduceEqDiff, h0, nth_rows hrow, wrap_u32_mod, w64_5_5 hrow]; rfl) ?_)
   refine ww_reg (fun n k => by simp -implicitDefEqProofs (disch := omega) only [go_sem, reduceIte, Nat.reduceEqDiff, Nat.reducePow]; rfl) ?_
   refine sE1 h11 ?_
   refine ⟨m - 1, by omega, i + 1, cur.set i ((c + cur.getD i 0 * T) % 4294967296), (c + cur.getD i 0 * T) / 4294967296, by omega, (sS1 h0), (sS1 h1), sS, (sS1 h9), (sS1 h10), sS, .inr ⟨fun e => hc0 ((List.set_eq_nil_iff _ _).1 e), r, by simp, hset_at _ hrow⟩, by simp [hcl], hcd.set _ (Nat.mod_lt _ (by decide)), by omega, ?_, fun j hj => by rw [getD_set_ne _ _ _ _ (by omega)]; exact hrest j (by omega), ⟨by rw [hset_len]; exact hH.len, fun j hj hne => by rw [hset_ne _ (fun e => hne (by rw [e, hcl]))]; exact hH.same j hj hne, hH.dg.set hnr _⟩, by rw [hset_len]; exact hrl, fun e => by subst e; simp at hi⟩
   rw [vl_take_next, vl_take_next, take_set_lt, getD_set_eq _ _ _ (by omega), ← hrest i (Nat.le_refl _), Nat.pow_succ, Nat.mul_assoc, Nat.add_mul, Nat.mul_assoc]
   have e1 : B ^ i * (c + cur.getD i 0 * T) = B ^ i * ((c + cur.getD i 0 * T) % 4294967296 + 4294967296 * ((c + cur.getD i 0 * T) / 4294967296)) := by rw [Nat.mod_add_div]
   simp only [Nat.mul_add] at e1
   have e2 : B ^ i * (B * ((c + cur.getD i 0 * T) / 4294967296)) = B ^ i * (4294967296 * ((c + cur.getD i 0 * T) / 4294967296)) := rfl
   omega
  ·rw [if_pos rfl]
   have ei : i = d.length := by omega
   subst ei
   rw [List.take_length] at hvl
   rw [List.take_of_length_le (by omega)] at hvl
   exact ⟨cur, c, (sS1 h0), (sS1 h2), hg, hcl, hcd, hc, hvl, hH, hrl, hnil⟩
 ·intro s ⟨cur, c, h0, h2, hg, hcl, hcd, hc, hvl, hH, hrl, hnil⟩
  refine sQ1 h2 ?_
  refine ww_if (by simp only [gt_pt, reduceIte]; rfl) (fun hc0 => ?_) (fun hc0 => ww_skip ?_)
  ·obtain ⟨h', happ, hrow', hlen', hsame', hform⟩ := a64_9_4 (loc := lp s.loc 35 ((lg s.loc 35).1 + 1, .cells false (nl .u32 [c]))) (w := .arr (.loc 35 ((lg s.loc 35).1 + 1)) 0 1 (some 1) 1 false) (ys := [c]) hg (fun tm => getRow_arr (ys := [c]) (by rw [lg_lp, if_pos rfl])) (by simp) (by simp; omega)
   have hdg' : DG n h' := by
    rcases hform with rfl | ⟨r, hr, rfl⟩
    ·exact hH.dg
    ·exact DG.add (hH.dg.set (hvn r (by rw [hr, hcl])) .gone) (.cells false (nl .u32 (cur ++ [c])))
   refine sE3 h0 h2 happ ?_
   refine sR ?_
   refine ww_ret (fin1 _ (.arr (.glob s.hp.rows.length) 0 (cur ++ [c]).length none 1 false) (cur ++ [c]) (by simp -implicitDefEqProofs (disch := omega) only [go_sem, reduceIte, Nat.reduceEqDiff, List.length_append, List.length_cons, List.length_nil]) (.inr ⟨by simp, _, rfl, hrow'⟩) (hcd.snoc hc) ?_ (by simp; omega) ⟨by rw [hlen']; have := hH.len; omega, fun j hj hne => ?_, hdg'⟩ (fun r e => ?_) (by simp; omega) (fun e => by cases e))
   ·rw [vl_append, vl_one, hcl]; exact hvl
   ·rw [hsame' j (by have := hH.len; omega) (by rw [hcl]; exact hne)]
    exact hH.same j hj hne
   ·have : s.hp.rows.length = r := by cases e; rfl
    omega
  ·have ec : c = 0 := by omega
   subst ec
   refine sR1 h0 ?_
   refine ww_ret (fin1 _ v cur sS hg hcd (by simpa using hvl) (by omega) hH (fun r e => hvn r (by rw [e, hcl])) (by omega) (fun e => hnil ?_))
   rcases hg with ⟨hcur, _⟩ | ⟨_, r, hr, _⟩
   ·rw [hcur] at hcl; exact List.length_eq_zero_iff.1 hcl.symm
   ·rw [hr] at e; cases e
end Go.AM.S
end
section
namespace Go.AM.S
open Go Go.AM Go.Proofs NumL
open _root_.Go.AM.G (R)
set_option maxRecDepth 100000
theorem made_glob {n : Nat} {h : Hp} {r0 : Nat} {a : List Nat} (hr : h.rows[r0]? = some (.cells false (nl .u32 a))) (da : Dg B a) (la : a.length ≤ 1000000000) (ng : Bool) (hn : DG n h) (hnr : n ≤ r0) :
  ∃ r h' d, Runs Pg kn0 tbl 65 [.arr (.glob r0) 0 a.length none 1 false, .bool ng] h (.val r h') ∧ NI r d (ng && !d.isEmpty) ∧ Tr0 a d ∧ HG n h (.arr (.glob r0) 0 a.length none 1 false) a.length h' ∧ h'.rows.length = h.rows.length := by
 let Post : Out → Prop := fun o => ∃ r h' d, o = .val r h' ∧ NI r d (ng && !d.isEmpty) ∧ Tr0 a d ∧ HG n h (.arr (.glob r0) 0 a.length none 1 false) a.length h' ∧ h'.rows.length = h.rows.length
 suffices hw : WW Pg kn0 tbl rc65 ⟨startTm [.arr (.glob r0) 0 a.length none 1 false, .bool ng], .lf, ⟨h.rows, none, h.mods⟩⟩ (fun s => ∃ o, fin Pg h [.cell 4 26] s = some o ∧ Post o) (fun _ _ => False) (fun s => ∃ o, fin Pg h [.cell 4 26] s = some o ∧ Post o) by
  obtain ⟨o, h1, r, h', d, rfl, h2⟩ := runs_ex (kn := kn0) (h := h) rfl tbl65 hw
  exact ⟨r, h', d, h1, h2⟩
 unfold rc65
 refine sR ?_
 refine ww_seq (ww_for (fun m s => ∃ d, m = d.length ∧ gt s.tm 0 = .arr (.glob r0) 0 d.length none 1 false ∧ Tr0 a d ∧ gt s.tm 1 = .bool ng ∧ gt s.tm 4 = .ptr (.loc 4 1) 0 ∧ lg s.loc 4 = (1, .cells false [.nils, .bool false]) ∧ s.hp = ⟨h.rows, none, h.mods⟩) a.length ⟨a, rfl, sSG, Tr0.refl a, sSG, sS, sS, rfl⟩ ?_)
 intro m s ⟨d, hm, h0, ht, h1, h4, hl4, hhp⟩
 have hln := ht.len
 have hrr : s.hp.rows[r0]? = some (.cells false (nl .u32 a)) := by rw [hhp]; exact hr
 have htake : a.take d.length = d := by obtain ⟨q, rfl⟩ := ht; simp
 have hget : ∀ i, i < d.length → a.getD i 0 = d.getD i 0 := by
  intro i hi
  obtain ⟨q, rfl⟩ := ht
  rw [List.getD_eq_getElem?_getD, List.getD_eq_getElem?_getD, List.getElem?_append_left hi]
 have stop : Cn d → WW Pg kn0 tbl (.seq (.reg fun c t l h k => jn (fun v0 l0 h0 => jn (fun v1 l1 h1 => jn (fun v2 l2 h2 => bO (pick (g1 t) v2 (.bool false)) fun v3 => gn Try.f65 65 3 7 c (p28 (p22 t (g0 t)) v3) t l2 h2 (fun v4 l4 h4 => jn (fun v5 l5 h5 => k t l5 h5) fun j5 => sto 26 (g4 t) v4 l4 h4 j5 (gn Try.f65 65 3 8 c (p29 (p4 t (g4 t)) v4) t l4 h4 j5))) fun j2 => brB (wv (g1 t) true) (j2 (.tuple []) l1 h1) (bO (bin Pg .gtr 3 true v1 (I 0)) fun v3 => j2 v3 l1 h1)) fun j1 => brB (wv (g1 t) true) (j1 (.tuple []) l0 h0) (bO (len (Pg.underlying 24) v0) fun v2 => j1 v2 l0 h0)) fun j0 => brB (wv (g1 t) true) (j0 (.tuple []) l h) (j0 (g0 t) l h))
 .ret) ⟨pt s.tm 16 (.bool false), s.loc, s.hp⟩ (fun s => ∃ o, fin Pg h [.cell 4 26] s = some o ∧ Post o) (fun _ _ => False) (fun s => ∃ o, fin Pg h [.cell 4 26] s = some o ∧ Post o) := by
  intro hcn
  have hsl : Sl .u32 (.slice none false 1 (nl .u32 (a.take d.length))) d := .inl ⟨false, by rw [htake]⟩
  have key : ∀ b : Bool, b = (ng && !d.isEmpty) → ∃ o, fin Pg h [.cell 4 26] ⟨pt s.tm 16 (.bool false), lp s.loc 4 (1, .cells false [.slice none false 1 (nl .u32 (a.take d.length)), .bool b]), hset s.hp r0 (.cells true (nl .u32 a))⟩ = some o ∧ Post o := by
   intro b hb
   refine ⟨_, fin_cellH (x := .slice none false 1 (nl .u32 (a.take d.length))) (y := .bool b) (f := false) (d := 4) (g := 1) (by kernel_rfl) (sS1 h4) sS hsl.pl (Pl.bool _), _, _, d, rfl, ?_, ht, ?_, ?_⟩
   ·subst hb
    exact ⟨⟨_, rfl, hsl⟩, ht.dg da, hcn, fun e => by subst e; simp⟩
   ·have hc : (hset s.hp r0 (.cells true (nl .u32 a))).rows.length = h.rows.length := by rw [hset_len, hhp]
    have hd2 : DG n (hset s.hp r0 (.cells true (nl .u32 a))) := DG.set (n := n) (h := s.hp) (by rw [hhp]; exact fun x hx => by cases hx) hnr _
    refine ⟨?_, ?_, hn.back hd2 _⟩
    ·unfold backHp
     cases cleanB h (hset s.hp r0 (.cells true (nl .u32 a))) with
     | true => cases V.noRefsL [.agg [.slice none false 1 (nl .u32 (a.take d.length)), .bool b]] with
      | true => exact Nat.le_refl _
      | false => exact Nat.le_of_eq hc.symm
     | false => exact Nat.le_of_eq hc.symm
    ·intro i hi hne
     have e1 : (hset s.hp r0 (.cells true (nl .u32 a))).rows[i]? = h.rows[i]? := by
      rw [hset_ne _ (fun e => hne (by rw [e])), hhp]
     unfold backHp
     cases cleanB h (hset s.hp r0 (.cells true (nl .u32 a))) with
     | true => cases V.noRefsL [.agg [.slice none false 1 (nl .u32 (a.take d.length)), .bool b]] with
      | true => rfl
      | false => exact e1
     | false => exact e1
   ·have hc : (hset s.hp r0 (.cells true (nl .u32 a))).rows.length = h.rows.length := by rw [hset_len, hhp]
    unfold backHp
    cases cleanB h (hset s.hp r0 (.cells true (nl .u32 a))) with
    | true => cases V.noRefsL [.agg [.slice none false 1 (nl .u32 (a.take d.length)), .bool b]] with
     | true => rfl
     | false => exact hc
    | false => exact hc
  cases ng with
  | false =>
   refine ww_seq (ww_reg (fun n k => by simp -implicitDefEqProofs (disch := omega) only [go_sem, reduceIte, Nat.reduceEqDiff, h0, h1, h4, hl4, bb65_3_7 hrr hln (Pl.bool false), stc_two N26 1 (.slice none false 1 (nl .u32 (a.take d.length))) (.bool false) .nils (.bool false) _ rfl rfl]; rfl) ?_)
   exact ww_ret (key false (by simp))
  | true =>
   refine ww_seq (ww_reg (fun n k => by simp -implicitDefEqProofs (disch := omega) only [go_sem, reduceIte, Nat.reduceEqDiff, h0, h1, h4, hl4, bb65_3_7 hrr hln (Pl.bool (decide (0 < d.length))), stc_two N26 1 (.slice none false 1 (nl .u32 (a.take d.length))) (.bool (decide (0 < d.length))) .nils (.bool false) _ rfl rfl]; rfl) ?_)
   refine ww_ret (key _ ?_)
   cases d with
   | nil => rfl
   | cons x l => simp
 rcases Nat.eq_zero_or_pos d.length with hd | hd
 ·refine ww_seq (ww_seq (ww_reg (fun n k => by simp -implicitDefEqProofs (disch := omega) only [go_sem, reduceIte, Nat.reduceEqDiff, h0, d_false]; rfl) ?_))
  refine ww_false sS (ww_exit ?_)
  rw [if_pos rfl]
  exact stop (fun i hi => by omega)
 ·have hx : d.getD (d.length - 1) 0 < 4294967296 := (ht.dg da).get (by decide) _
  have hg1 := hget (d.length - 1) (by omega)
  by_cases hz : d.getD (d.length - 1) 0 = 0
  ·refine ww_seq (ww_seq (ww_reg (fun n k => by simp -implicitDefEqProofs (disch := omega) only [go_sem, reduceIte, Nat.reduceEqDiff, h0, d_true, nth_rows hrr, ldg_nl L86, hg1, hz]; rfl) ?_))
   refine ww_true sS (ww_skip (ww_block ?_))
   refine sE1 h0 ?_
   exact ⟨d.length - 1, by omega, d.take (d.length - 1), by simp, (by simp -implicitDefEqProofs (disch := omega) only [go_sem, reduceIte, Nat.reduceEqDiff, List.length_take, Nat.min_eq_left]), ht.next hd hz, (sS1 h1), (sS1 h4), (sS1 hl4), hhp⟩
  ·refine ww_seq (ww_seq (ww_reg (fun n k => by simp -implicitDefEqProofs (disch := omega) only [go_sem, reduceIte, Nat.reduceEqDiff, h0, d_true, nth_rows hrr, ldg_nl L86, hg1, d_false]; rfl) ?_))
   refine ww_false sS (ww_exit ?_)
   rw [if_pos rfl]
   exact stop (fun i hi => by rw [show i = d.length - 1 by omega]; exact hz)
end Go.AM.S
end
section
namespace Go.AM.S
open Go Go.AM Go.Proofs NumL
open _root_.Go.AM.G (R)
def sl (l : List Nat) : Str := ⟨l.length, vl 256 l⟩
theorem p8_pow (n : Nat) : AM.p8 n = 256 ^ n := by
 show 2 ^ (8 * n) = _
 rw [show (256 : Nat) = 2 ^ 8 from rfl, ← Nat.pow_mul]
theorem vl_div (B : Nat) (hB : 0 < B) (l : List Nat) (h : Dg B l) (i : Nat) : vl B l / B ^ i = vl B (l.drop i) := by
 by_cases hi : i ≤ l.length
 ·conv => lhs; rw [← List.take_append_drop i l]
  rw [vl_append, List.length_take, Nat.min_eq_left hi, Nat.add_mul_div_left _ _ (Nat.pow_pos hB), Nat.div_eq_of_lt (vl_lt_of hB (h.take i) (by simp; omega)), Nat.zero_add]
 ·rw [List.drop_eq_nil_of_le (by omega), Nat.div_eq_of_lt (vl_lt_of hB h (by omega))]; rfl
theorem vl_mod (B : Nat) (hB : 0 < B) (l : List Nat) (h : Dg B l) (i : Nat) : vl B l % B ^ i = vl B (l.take i) := by
 by_cases hi : i ≤ l.length
 ·conv => lhs; rw [← List.take_append_drop i l]
  rw [vl_append, List.length_take, Nat.min_eq_left hi, Nat.add_mul_mod_self_left, Nat.mod_eq_of_lt (vl_lt_of hB (h.take i) (by simp; omega))]
 ·rw [List.take_of_length_le (by omega), Nat.mod_eq_of_lt (vl_lt_of hB h (by omega))]
theorem sl_n (l : List Nat) : (sl l).n = l.length := rfl
theorem sl_app {a b : List Nat} (ha : Dg 256 a) : (sl a).app (sl b) = sl (a ++ b) := by
 unfold Str.app sl
 congr 1
 ·simp
 ·show Nat.mod (vl 256 a) (AM.p8 a.length) + Nat.shiftLeft (vl 256 b) (Nat.mul 8 a.length) = _
  rw [shl8, p8_pow, vl_append, Nat.mul_comm (vl 256 b)]
  congr 1
  exact Nat.mod_eq_of_lt (vl_lt (by decide) ha)
theorem vl_inj' (B : Nat) : ∀ (a b : List Nat), Dg B a → Dg B b → a.length = b.length → vl B a = vl B b → a = b := by
 intro a
 induction a with
 | nil => intro b _ _ hl _; exact (List.length_eq_zero_iff.1 hl.symm).symm
 | cons x a ih =>
  intro b da db hl hv
  cases b with
  | nil => simp at hl
  | cons y b =>
   have hx : x < B := da x (by simp)
   have hy : y < B := db y (by simp)
   simp only [vl] at hv
   have e1 : x = y := by
    have h1 : (x + B * vl B a) % B = (y + B * vl B b) % B := by rw [hv]
    rwa [Nat.add_mul_mod_self_left, Nat.add_mul_mod_self_left, Nat.mod_eq_of_lt hx, Nat.mod_eq_of_lt hy] at h1
   subst e1
   have e2 : vl B a = vl B b := by
    have h1 : B * vl B a = B * vl B b := by omega
    exact Nat.eq_of_mul_eq_mul_left (by omega) h1
   rw [ih b (fun z hz => da z (by simp [hz])) (fun z hz => db z (by simp [hz])) (by simpa using hl) e2]
theorem sl_same {a b : List Nat} (ha : Dg 256 a) (hb : Dg 256 b) : (sl a).same (sl b) = decide (a = b) := by
 rw [Bool.eq_iff_iff, decide_eq_true_iff]
 unfold Str.same sl
 rw [Bool.and_eq_true, Nat.beq_eq, Nat.beq_eq]
 show _ ∧ vl 256 a % AM.p8 a.length = vl 256 b % AM.p8 b.length ↔ _
 rw [p8_pow, p8_pow, Nat.mod_eq_of_lt (vl_lt (by decide) ha), Nat.mod_eq_of_lt (vl_lt (by decide) hb)]
 constructor
 ·intro ⟨h1, h2⟩; exact vl_inj' 256 a b ha hb h1 h2
 ·intro h; subst h; exact ⟨rfl, rfl⟩
theorem pk_vl (l : List UInt8) : pk l = vl 256 (l.map UInt8.toNat) := by
 induction l with
 | nil => rfl
 | cons b l ih => simp only [pk, List.map_cons, vl, ih]
theorem ofL_sl (l : List UInt8) : Str.ofL l = sl (l.map UInt8.toNat) := by
 unfold Str.ofL sl
 rw [pk_vl, List.length_map]
section
variable {P : Program} {C : Cfg} {call : CallF} {gl : Nat → Bool} {o : Oper} {tm : Tm} {loc : Lo} {hp : Hp} {j : V → Lo → Hp → R}
theorem bytesOf_nl (l : List Nat) : bytesOf (nl .u8 l) = some (l.map UInt8.ofNat) := by
 unfold nl
 induction l with
 | nil => rfl
 | cons x l ih => simp only [List.map_cons, bytesOf, ih, Option.map_some]; rfl
theorem ofL_bytes {l : List Nat} (h : Dg 256 l) : Str.ofL (l.map UInt8.ofNat) = sl l := by
 rw [ofL_sl]
 congr 1
 rw [List.map_map]
 conv => rhs; rw [← List.map_id l]
 refine List.map_congr_left (fun x hx => ?_)
 have : x < 256 := h x hx
 show (UInt8.ofNat x).toNat = x
 rw [UInt8.toNat_ofNat']
 exact Nat.mod_eq_of_lt this
theorem gen_text {d x : Nat} {s t e : TypeId} {w : V} {l : List Nat} (hd : o.dst = some d) (ho : o.op = .convert s t (.tmp x)) (h1 : P.underlying s = some (.slice e)) (h2 : P.underlying t = some .string) (h3 : P.underlying e = some (.int .u8)) (hw : ∀ q, w ≠ .str q)
  (hi : ∀ tm, itemsOf ⟨tm, loc, hp⟩ w = some (nl .u8 l)) (hl : Dg 256 l) :
  gen P C call gl o (pt .lf x w) tm loc hp j = j (.str (sl l)) loc hp := by
 have hx : gt (pt .lf x w) x = w := by rw [gt_pt, if_pos rfl]
 refine gen_val (v := .str (sl l)) (st := ⟨pt .lf x w, loc, hp⟩) hd ?_
 have hp1 : locV P C gl (⟨pt .lf x w, loc, hp⟩ : St).ρ (⟨pt .lf x w, loc, hp⟩ : St).lc o = none := by
  unfold locV
  simp only [ho, pureV, opd_gt, hx, convV, h1, h2]
  rfl
 unfold stepV
 rw [hp1]
 unfold stepG
 simp only [ho, hd, convS, h1, h2, h3, opd_gt, hx, hi]
 cases w with
 | str q => exact absurd rfl (hw q)
 | _ => simp only [bytesOf_nl, Option.map_some, ofL_bytes hl]
end
theorem eq_str (t : TypeId) (cn : Bool) {a b : List Nat} (ha : Dg 256 a) (hb : Dg 256 b) : bin Pg .eql t cn (.str (sl a)) (.str (sl b)) = some (.bool (decide (a = b))) := by
 show some (V.bool ((sl a).same (sl b))) = _
 rw [sl_same ha hb]
theorem eq_nil (t : TypeId) (cn : Bool) {a : List Nat} (ha : Dg 256 a) : bin Pg .eql t cn (.str (sl a)) (.str ⟨0, 0⟩) = some (.bool (decide (a = []))) := eq_str t cn ha (b := []) (Dg.nil 256)
theorem add_str0 (t : TypeId) (cn : Bool) (x y : Str) : bin Pg .add t cn (.str x) (.str y) = strOp .add x y := rfl
theorem str_add (x y : Str) (h : Nat.ble (Nat.add x.n y.n) 4611686018427387904 = true) : strOp .add x y = some (.str (x.app y)) := by
 unfold strOp
 rw [h]; rfl
theorem add_str (t : TypeId) (cn : Bool) {a b : List Nat} (ha : Dg 256 a) (hl : a.length + b.length ≤ 4611686018427387904) : bin Pg .add t cn (.str (sl a)) (.str (sl b)) = some (.str (sl (a ++ b))) := by
 rw [add_str0, str_add _ _ (Nat.ble_eq_true_of_le hl), sl_app ha]
attribute [go_sem] sl_n
end Go.AM.S
end
section
namespace Go.AM.S
open Go Go.AM Go.Proofs NumL
open _root_.Go.AM.G (R)
set_option maxRecDepth 100000
theorem clean_dg {h s : Hp} (hd : DG h.rows.length s) : cleanB h s = true := by
 unfold cleanB
 cases hq : s.dirty with
 | none => rfl
 | some d => have := hd d hq; simp only [Nat.ble_eq]; exact this
def dv (l : List Nat) : Nat := l.foldl (fun n b => 10 * n + (b - 48)) 0
theorem dv_snoc (l : List Nat) (b : Nat) : dv (l ++ [b]) = 10 * dv l + (b - 48) := by simp [dv]
def ng (l : List Nat) : Bool := decide (l.getD 0 0 = 45)
def bodyN (l : List Nat) : List Nat := bif ng l then l.drop 1 else l
def badB (l : List Nat) : Bool := (bodyN l).isEmpty || (decide ((bodyN l).getD 0 0 = 48) && (decide (1 < (bodyN l).length) || ng l))
def Dec (l : List Nat) : Prop := ∀ b ∈ l, 48 ≤ b ∧ b ≤ 57
instance (l : List Nat) : Decidable (Dec l) := by unfold Dec; infer_instance
def goodB (l : List Nat) : Bool := !badB l && decide (Dec (bodyN l))
def zOf (l : List Nat) : Int := bif goodB l then (bif ng l then -(dv (bodyN l) : Int) else (dv (bodyN l) : Int)) else 0
theorem ng_len {l : List Nat} (h : ng l = true) : 1 ≤ l.length := by
 cases l with
 | nil => simp [ng] at h
 | cons x l => simp
theorem take_snoc (r : List Nat) (i : Nat) (h : i < r.length) : r.take (i + 1) = r.take i ++ [r.getD i 0] := by
 rw [List.take_add_one, List.getD_eq_getElem?_getD, List.getElem?_eq_getElem h]; simp
theorem Dec.snoc {l : List Nat} (h : Dec l) {b : Nat} (h1 : 48 ≤ b) (h2 : b ≤ 57) : Dec (l ++ [b]) := by
 intro x hx
 rcases List.mem_append.1 hx with hx | hx
 ·exact h x hx
 ·rw [List.mem_singleton.1 hx]; exact ⟨h1, h2⟩
end Go.AM.S
end
section
namespace Go.AM.S
open Go Go.AM Go.Proofs NumL
open _root_.Go.AM.G (R)
set_option maxRecDepth 100000
theorem tbl69 : tbl 69 = some ⟨rc69, []⟩ := by kernel_rfl
theorem list_ext_getD {a b : List Nat} (hl : a.length = b.length) (h : ∀ i, i < a.length → a.getD i 0 = b.getD i 0) : a = b := by
 apply List.ext_getElem hl
 intro i h1 h2
 have := h i h1
 rw [List.getD_eq_getElem?_getD, List.getD_eq_getElem?_getD, List.getElem?_eq_getElem h1, List.getElem?_eq_getElem h2] at this
 simpa using this
theorem getD_rev (l : List Nat) (i : Nat) (h : i < l.length) : l.reverse.getD i 0 = l.getD (l.length - 1 - i) 0 := by
 rw [List.getD_eq_getElem?_getD, List.getD_eq_getElem?_getD, List.getElem?_reverse h]
theorem getD_take (l : List Nat) (n i : Nat) (h : i < n) : (l.take n).getD i 0 = l.getD i 0 := by
 rw [List.getD_eq_getElem?_getD, List.getD_eq_getElem?_getD, List.getElem?_take, if_pos h]
theorem reverse_runs {n : Nat} {h : Hp} {r0 : Nat} {L l : List Nat} (hr : h.rows[r0]? = some (.cells false (nl .u8 L))) (ht : L.take l.length = l) (hlL : l.length ≤ L.length) (hl : 0 < l.length) (hb : l.length ≤ 1000000) (hn : DG n h) (hnr : n ≤ r0) :
  ∃ h' L', Runs Pg kn0 tbl 69 [.arr (.glob r0) 0 l.length none 1 false] h (.val (.tuple []) h') ∧ h'.rows[r0]? = some (.cells false (nl .u8 L')) ∧ L'.take l.length = l.reverse ∧ L'.length = L.length ∧ DG n h' ∧ h'.rows.length = h.rows.length ∧ ∀ i, i ≠ r0 → h'.rows[i]? = h.rows[i]? := by
 have hr0 : r0 < h.rows.length := by
  rcases Nat.lt_or_ge r0 h.rows.length with h1 | h1
  ·exact h1
  ·rw [List.getElem?_eq_none h1] at hr; simp at hr
 let Post : Out → Prop := fun o => ∃ h' L', o = .val (.tuple []) h' ∧ h'.rows[r0]? = some (.cells false (nl .u8 L')) ∧ L'.take l.length = l.reverse ∧ L'.length = L.length ∧ DG n h' ∧ h'.rows.length = h.rows.length ∧ ∀ i, i ≠ r0 → h'.rows[i]? = h.rows[i]?
 suffices hw : WW Pg kn0 tbl rc69 ⟨startTm [.arr (.glob r0) 0 l.length none 1 false], .lf, ⟨h.rows, none, h.mods⟩⟩ (fun s => ∃ o, fin Pg h [] s = some o ∧ Post o) (fun _ _ => False) (fun s => ∃ o, fin Pg h [] s = some o ∧ Post o) by
  obtain ⟨o, h1, h', L', rfl, h2⟩ := runs_ex (kn := kn0) (h := h) rfl tbl69 hw
  exact ⟨h', L', h1, h2⟩
 have hget : ∀ i, i < l.length → L.getD i 0 = l.getD i 0 := fun i hi => by rw [← getD_take L l.length i hi, ht]
 unfold rc69
 refine sRG ?_
 refine ww_for (fun m s => ∃ i j cur, m = j + 1 - i ∧ i + j + 1 = l.length ∧ gt s.tm 0 = .arr (.glob r0) 0 l.length none 1 false ∧ gt s.tm 2 = .int .i64 (.ofNat i) ∧ gt s.tm 3 = .int .i64 (.ofNat j) ∧ s.hp.rows[r0]? = some (.cells false (nl .u8 cur)) ∧ cur.length = L.length ∧ (∀ p, p < l.length → cur.getD p 0 = if p < i ∨ j < p then l.getD (l.length - 1 - p) 0 else l.getD p 0) ∧ DG n s.hp ∧ s.hp.rows.length = h.rows.length ∧ (∀ i, i ≠ r0 → s.hp.rows[i]? = h.rows[i]?) ∧ (s.hp.dirty = none → cur = L ∧ s.hp = ⟨h.rows, none, h.mods⟩) ∧ (∀ x, s.hp.dirty = some x → x = r0)) (l.length - 1 + 1) ⟨0, l.length - 1, L, rfl, by omega, sSG, sS, sS, hr, rfl, fun p hp => by rw [if_neg (by omega)]; exact hget p hp, (fun x hx => by cases hx), rfl, fun _ _ => rfl, fun _ => ⟨rfl, rfl⟩, fun x hx => by cases hx⟩ ?_
 intro m s ⟨i, j, cur, hm, hij, h0, h2, h3, hrow, hcl, hval, hdg, hrl, hsame, hclean, hdirt⟩
 refine sQ2 h2 h3 ?_
 refine ww_if (by simp only [gt_pt, reduceIte]; rfl) (fun hlt => ww_skip ?_) (fun hlt => ww_exit ?_)
 ·have hrow2 : (hset s.hp r0 (.cells false (nl .u8 (cur.set i (cur.getD j 0))))).rows[r0]? = some (.cells false (nl .u8 (cur.set i (cur.getD j 0)))) := hset_at _ hrow
  refine ww_seq (ww_block ?_)
  refine ww_reg (fun n k => by
   simp -implicitDefEqProofs (disch := omega) only [go_sem, reduceIte, Nat.reduceEqDiff, h0, h2, h3, nth_rows hrow, ldg_nl L5, dg69_3_13 hrow (show i < cur.length by omega), dg69_3_15 hrow2 (show j < (cur.set i (cur.getD j 0)).length by rw [List.length_set]; omega)]
   exact finD_ok (by kernel_rfl)) ?_
  refine sE2 h2 h3 ?_
  refine ⟨j - 1 + 1 - (i + 1), by omega, i + 1, j - 1, (cur.set i (cur.getD j 0)).set j (cur.getD i 0), rfl, by omega, (sS1 h0), sS, sS, hset_at _ hrow2, by simp [hcl], ?_, DG.set (DG.set hdg hnr _) hnr _, by rw [hset_len, hset_len]; exact hrl, fun q hq => by rw [hset_ne _ hq, hset_ne _ hq]; exact hsame q hq, fun e => ?_, fun x hx => ?_⟩
  ·intro p hp
   by_cases e1 : p = j
   ·subst e1
    rw [getD_set_eq _ _ _ (by simp; omega), if_pos (by omega), hval i (by omega), if_neg (by omega)]
    congr 1; omega
   ·rw [getD_set_ne _ _ _ _ (Ne.symm e1)]
    by_cases e2 : p = i
    ·subst e2
     rw [getD_set_eq _ _ _ (by omega), if_pos (by omega), hval j (by omega), if_neg (by omega)]
     congr 1; omega
    ·rw [getD_set_ne _ _ _ _ (Ne.symm e2), hval p hp]
     by_cases e3 : p < i ∨ j < p
     ·rw [if_pos e3, if_pos (by omega)]
     ·rw [if_neg e3, if_neg (by omega)]
  ·exfalso
   have e : lower (lower s.hp.dirty r0) r0 = none := e
   cases hq : s.hp.dirty with
   | none => rw [hq] at e; simp [lower] at e
   | some y => rw [hq] at e; simp [lower] at e
  ·have hx : lower (lower s.hp.dirty r0) r0 = some x := hx
   cases hq : s.hp.dirty with
   | none => rw [hq] at hx; simp [lower] at hx; omega
   | some y => have := hdirt y hq; rw [hq] at hx; simp [lower] at hx; omega
 ·rw [if_pos rfl]
  have hfin : cur.take l.length = l.reverse := by
   refine list_ext_getD (by simp; omega) (fun p hp => ?_)
   have hp' : p < l.length := by simp at hp; omega
   rw [getD_take _ _ _ hp', getD_rev l p hp', hval p hp']
   by_cases e3 : p < i ∨ j < p
   ·rw [if_pos e3]
   ·rw [if_neg e3]; congr 1; omega
  refine ⟨.val (.tuple []) (backHp h s.hp []), rfl, backHp h s.hp [], ?_⟩
  cases hq : s.hp.dirty with
  | none =>
   obtain ⟨e1, e2⟩ := hclean hq
   have eb : backHp h s.hp [] = h := back_id h s.hp [] hq rfl
   subst e1
   exact ⟨cur, rfl, by rw [eb]; exact hr, hfin, rfl, by rw [eb]; exact hn, by rw [eb], fun i _ => by rw [eb]⟩
  | some x =>
   have ex := hdirt x hq
   subst ex
   have hc : cleanB h s.hp = false := by
    unfold cleanB; rw [hq]
    show Nat.ble h.rows.length x = false
    cases hb : Nat.ble h.rows.length x with
    | false => rfl
    | true => rw [Nat.ble_eq] at hb; omega
   have eb : (backHp h s.hp []).rows = s.hp.rows := by unfold backHp; rw [hc]; rfl
   exact ⟨cur, rfl, by rw [eb]; exact hrow, hfin, hcl, hn.back hdg _, by rw [eb]; exact hrl, fun i hi => by rw [eb]; exact hsame i hi⟩
end Go.AM.S
end
section
namespace Go.AM.S
open Go Go.AM Go.Proofs NumL
open _root_.Go.AM.G (R)
def lv : List Nat → Nat
 | [] => 0
 | b :: l => (b - 48) + 10 * lv l
theorem lv_app : ∀ (a b : List Nat), lv (a ++ b) = lv a + 10 ^ a.length * lv b := by
 intro a
 induction a with
 | nil => intro b; simp [lv]
 | cons x a ih => intro b; simp only [List.cons_append, lv, ih, List.length_cons, Nat.pow_succ, Nat.mul_add]; rw [Nat.mul_comm (10 ^ a.length) 10, Nat.mul_assoc]; omega
theorem dv_rev : ∀ l : List Nat, dv l.reverse = lv l := by
 intro l
 induction l with
 | nil => rfl
 | cons b l ih => rw [List.reverse_cons, dv_snoc, ih]; simp only [lv]; omega
theorem Dec.dg {l : List Nat} (h : Dec l) : Dg 256 l := fun x hx => by have := h x hx; omega
theorem Dec.rev {l : List Nat} (h : Dec l) : Dec l.reverse := fun x hx => h x (by simpa using hx)
theorem Dec.take {l : List Nat} (h : Dec l) (n : Nat) : Dec (l.take n) := fun x hx => h x (List.mem_of_mem_take hx)
theorem rev_head (l : List Nat) (hl : 0 < l.length) : l.reverse.getD 0 0 = l.getD (l.length - 1) 0 := by
 rw [getD_rev l 0 hl, Nat.sub_zero]
theorem good_of {out : List Nat} (b : Bool) (hd : Dec out) (hne : 0 < out.length) (hlast : out.getD (out.length - 1) 0 ≠ 48) :
  goodB (out ++ bif b then [45] else []).reverse = true ∧ zOf (out ++ bif b then [45] else []).reverse = bif b then -(lv out : Int) else (lv out : Int) := by
 have hh := rev_head out hne
 have e : ng (out ++ bif b then [45] else []).reverse = b ∧ bodyN (out ++ bif b then [45] else []).reverse = out.reverse := by
  cases b with
  | true =>
   have e1 : (out ++ bif true then [45] else []).reverse = 45 :: out.reverse := by simp
   rw [e1]
   have e2 : ng (45 :: out.reverse) = true := rfl
   exact ⟨e2, by unfold bodyN; rw [e2]; rfl⟩
  | false =>
   have e1 : (out ++ bif false then [45] else []).reverse = out.reverse := by simp
   rw [e1]
   have e2 : ng out.reverse = false := by
    unfold ng
    rw [hh]
    refine decide_eq_false ?_
    have hm : out.getD (out.length - 1) 0 ∈ out := by
     rw [List.getD_eq_getElem?_getD, List.getElem?_eq_getElem (by omega)]
     exact List.getElem_mem _
    have := hd _ hm
    omega
   exact ⟨e2, by unfold bodyN; rw [e2]; rfl⟩
 have hg : goodB (out ++ bif b then [45] else []).reverse = true := by
  unfold goodB badB
  rw [e.2, decide_eq_true hd.rev, hh, decide_eq_false hlast]
  cases hr : out.reverse with
  | nil => exfalso; have := congrArg List.length hr; simp at this; subst this; simp at hne
  | cons x l => rfl
 refine ⟨hg, ?_⟩
 unfold zOf
 rw [hg, e.1, e.2, dv_rev]
 cases b <;> rfl
theorem nl_ne {k k' : IntKind} {l l' : List Nat} (hk : k ≠ k') (hl : 0 < l.length) : nl k l ≠ nl k' l' := by
 intro e
 cases l with
 | nil => simp at hl
 | cons x l =>
  cases l' with
  | nil => simp [nl] at e
  | cons y l' =>
   simp only [nl, List.map_cons, List.cons.injEq, V.int.injEq] at e
   exact hk e.1.1
theorem Gs.ne {h : Hp} {v : V} {k k' : IntKind} {l L : List Nat} (hv : Gs h v k l) {r : Nat} {f : Bool} (hr : h.rows[r]? = some (.cells f (nl k' L))) (hk : k ≠ k') : v ≠ .arr (.glob r) 0 l.length none 1 false := by
 intro e
 rcases hv with ⟨_, rfl⟩ | ⟨r1, L1, rfl, hr1, _, _, h0⟩
 ·cases e
 ·have : r1 = r := by cases e; rfl
  subst this
  rw [hr1] at hr
  have e2 : nl k L1 = nl k' L := by injection hr with hr; injection hr
  exact nl_ne hk h0 e2
theorem Gs.hset {h : Hp} {v : V} {k k' : IntKind} {l L : List Nat} (hv : Gs h v k l) {r : Nat} {f : Bool} (hr : h.rows[r]? = some (.cells f (nl k' L))) (hk : k ≠ k') (row : Row) : Gs (hset h r row) v k l := by
 have hne := hv.ne hr hk
 rcases hv with ⟨h1, h2⟩ | ⟨r1, L1, rfl, hr1, q⟩
 ·exact .inl ⟨h1, h2⟩
 ·refine .inr ⟨r1, L1, rfl, ?_, q⟩
  rw [hset_ne _ (fun e => hne (by rw [e]))]
  exact hr1
theorem fin_tmpD {h : Hp} {t : Nat} {s : St} {v : V} (hv : gt s.tm t = v) (he : Ex1 v) (hc : DG h.rows.length s.hp) (hr : v.noRefs = true) : fin Pg h [.tmp t] s = some (.val v h) := by
 unfold fin
 have e1 : resV Pg s [.tmp t] = some [v] := by simp only [resV, rho_gt, hv, Option.map_some]
 rw [e1]
 have e2 := exps_ex [v] s ⟨he, trivial⟩
 simp only [e2]
 unfold backHp
 rw [clean_dg hc]
 simp only [V.noRefsL, hr, Bool.and_self, cond_true]
theorem pow10_B (k : Nat) : B ^ k ≤ 10 ^ (10 * k) := by
 rw [Nat.pow_mul]
 exact Nat.pow_le_pow_left (by decide) k
theorem pow_lt_inv {a b c : Nat} (hc : 1 < c) (h : c ^ a < c ^ b) : a < b := by
 rcases Nat.lt_or_ge a b with q | q
 ·exact q
 ·have := Nat.pow_le_pow_right (n := c) (by omega) q; omega
theorem or_shl {c x : Nat} (hx : x < 4294967296) : c * 4294967296 ||| x = c * 4294967296 + x := by
 have := Nat.two_pow_add_eq_or_of_lt (i := 32) hx c
 rw [show (2 : Nat) ^ 32 = 4294967296 from rfl] at this
 rw [Nat.mul_comm, this]
end Go.AM.S
end
section
namespace Go.AM.S
open Go Go.AM Go.Proofs NumL
open _root_.Go.AM.G (R)
set_option maxRecDepth 100000
theorem tbl18 : tbl 18 = some ⟨rc18, [.tmp 2]⟩ := by kernel_rfl
theorem tx18 {l : Lo} {h : Hp} {w : V} {d : List Nat} (hw : ∀ q, w ≠ .str q) (hi : ∀ tm, itemsOf ⟨tm, l, h⟩ w = some (nl .u8 d)) (hd : Dg 256 d) (c : CallF) (t : Tm) (j : V → Lo → Hp → R) : go1 Try.f18 18 25 1 88 w c t l h j = j (.str (sl d)) l h :=
 gen_text (C := Cg) (gl := Cg.glob 18) (call := c) (tm := t) (loc := l) (hp := h) (j := j) (x := 88) (o := opA Try.f18 25 1) (d := 89) (s := 51) (t := 9) (e := 5) (by kernel_rfl) (by kernel_rfl) U51 U9 U5 hw hi hd
structure IT (s : V) (b : Bool) (N : Nat) (h : Hp) (st : St) (cur L : List Nat) (v3 : V) (out : List Nat) : Prop where
 h1 : gt st.tm 1 = .ptr (.loc 1 1) 0
 h3 : gt st.tm 3 = v3
 h4 : gt st.tm 4 = .arr (.glob h.rows.length) 0 cur.length none 1 false
 l1 : lg st.loc 1 = (1, .cells false [s, .bool b])
 row : st.hp.rows[h.rows.length]? = some (.cells false (nl .u32 L))
 tk : L.take cur.length = cur
 ll : cur.length ≤ L.length
 lz : 0 < L.length
 gs : Gs st.hp v3 .u8 out
 dg : Dg B cur
 dec : Dec out
 hdg : DG h.rows.length st.hp
 hrl : h.rows.length < st.hp.rows.length
 v3n : ∀ r, v3 = .arr (.glob r) 0 out.length none 1 false → h.rows.length ≤ r
theorem getD_tk {L cur : List Nat} (ht : L.take cur.length = cur) (i : Nat) (hi : i < cur.length) : L.getD i 0 = cur.getD i 0 := by rw [← getD_take L cur.length i hi, ht]
theorem drop_set_ge (l : List Nat) (i v : Nat) : (l.set i v).drop (i + 1) = l.drop (i + 1) := by
 rw [List.drop_set]
 split
 ·rfl
 ·rw [List.set_eq_of_length_le]; omega
theorem last_split (l : List Nat) (h : 0 < l.length) : l = l.take (l.length - 1) ++ [l.getD (l.length - 1) 0] := by
 conv => lhs; rw [← List.take_length (l := l), show l.length = l.length - 1 + 1 by omega, take_snoc l (l.length - 1) (by omega)]
theorem div_bound {c x : Nat} (hc : c < 1000000000) (hx : x < 4294967296) : (c * 4294967296 + x) / 1000000000 < 4294967296 := by
 rw [Nat.div_lt_iff_lt_mul (by decide)]; omega
theorem Dg.rev {B : Nat} {l : List Nat} (h : Dg B l) : Dg B l.reverse := fun x hx => h x (by simpa using hx)
theorem string_spec {k : Nat} {v : V} {z : Int} (ha : IsI k v z) (hk : k ≤ 90000) : Gives 18 [v] fun r => ∃ t, r = .str (sl t) ∧ Dg 256 t ∧ goodB t = true ∧ zOf t = z ∧ t.length ≤ 10 * k + 20 := by
 obtain ⟨d, b, ⟨⟨s, rfl, hs⟩, dd, cd, h0⟩, hx, hl⟩ := ha
 refine gives_of tbl18 fun h Q hQ => ?_
 unfold rc18
 refine sRG ?_
 rcases Nat.eq_zero_or_pos d.length with e0 | e0
 ·have e : d = [] := List.length_eq_zero_iff.1 e0
  have eb := h0 e
  refine ww_seq (ww_seq (ww_reg (fun n k => by simp -implicitDefEqProofs (disch := omega) only [go_sem, reduceIte, Nat.reduceEqDiff, ldc_fst L24, len_sl hs, e0, d_true]; rfl) ?_))
  refine ww_true sS ?_
  refine sR ?_
  refine ww_ret (hQ _ _ (fin_tmpD (v := .str (sl [48])) (by simp -implicitDefEqProofs only [go_sem, reduceIte]; rfl) (Ex1.str _) (fun x hx => by cases hx) rfl) ⟨[48], rfl, by intro x hx; simp at hx; subst hx; decide, by decide, ?_, by simp⟩)
  subst e; subst eb; subst hx
  rfl
 have hne : d ≠ [] := fun e => by subst e; simp at e0
 have hN : 0 < vl B d := Nat.pos_of_ne_zero fun e => hne ((vl_zero cd).1 e)
 have hNB : vl B d < 10 ^ (10 * k) := Nat.lt_of_lt_of_le (vl_lt_of (by decide) dd hl) (pow10_B k)
 have hsn : s ≠ .nils := by
  rcases hs with ⟨f, rfl⟩ | ⟨rfl, e⟩
  ·intro e; cases e
  ·exact absurd e hne
 refine ww_seq (ww_seq (ww_reg (fun n k => by simp -implicitDefEqProofs (disch := omega) only [go_sem, reduceIte, Nat.reduceEqDiff, ldc_fst L24, len_sl hs, d_false]; rfl) ?_))
 refine ww_false sS (ww_skip ?_)
 refine sR ?_
 have hcl := clone_runs ⟨h.rows, none, h.mods⟩ hsn (.inl ⟨_, _, hs⟩) hne (by omega) (fun tm loc => items_sl hs _)
 refine ww_seq (ww_call (hcl) (fun n hn k => by simp -implicitDefEqProofs (disch := omega) only [go_sem, reduceIte, Nat.reduceEqDiff, ldc_fst L24, clc1 hn hs.ex]; rfl) ?_)
 refine ww_join (M := fun st => ∃ L v3 out, IT s b (vl B d) h st [] L v3 out ∧ lv out = vl B d ∧ out.length ≤ 10 * k + 9) ?_ ?_
 ·refine ww_for (fun m st => ∃ cur L v3 out, m = vl B cur ∧ IT s b (vl B d) h st cur L v3 out ∧ lv out + 10 ^ out.length * vl B cur = vl B d ∧ out.length ≤ 10 * k + 9 ∧ Cn cur ∧ cur.length ≤ d.length) (vl B d) ⟨d, d, .nils, [], rfl, ⟨sS, sS, sS, sS, hadd_at _ _, by simp, Nat.le_refl _, e0, .inl ⟨rfl, rfl⟩, dd, (fun x hx => by simp at hx), (fun x hx => by cases hx), by rw [hadd_len]; exact Nat.lt_succ_self _, (fun r e => by cases e)⟩, by simp [lv], by simp, cd, Nat.le_refl _⟩ ?_
  intro m st ⟨cur, L, v3, out, hm, H, heq, hol, hcn, hcd⟩
  obtain ⟨h1, h3, h4, l1, row, tk, ll, lz, gs, dg, dec, hdg, hrl, v3n⟩ := H
  refine sQ1 h4 ?_
  refine ww_if (by simp only [gt_pt, reduceIte]; rfl) (fun hc0 => ww_skip ?_) (fun hc0 => ww_exit ?_)
  ·have hcne : cur ≠ [] := fun e => by subst e; simp at hc0
   have hV : 0 < vl B cur := Nat.pos_of_ne_zero fun e => hcne ((vl_zero hcn).1 e)
   have hcb : cur.length ≤ 1000000 := by omega
   have hob : out.length < 10 * k := by
    refine pow_lt_inv (c := 10) (by decide) (Nat.lt_of_le_of_lt ?_ hNB)
    have := Nat.le_mul_of_pos_right (10 ^ out.length) hV
    omega
   refine ww_block ?_
   refine sR ?_
   refine ww_join (M := fun s2 => ∃ c L2 cur2, gt s2.tm 5 = .int .u64 (.ofNat c) ∧ c < 1000000000 ∧ IT s b (vl B d) h s2 cur2 L2 v3 out ∧ vl B cur = 1000000000 * vl B cur2 + c ∧ cur2.length = cur.length) ?_ ?_
   ·refine ww_seq (ww_reg (fun n k => by simp -implicitDefEqProofs (disch := omega) only [go_sem, reduceIte, Nat.reduceEqDiff, h4, i_dec]; rfl) ?_)
    refine ww_for (fun m s2 => ∃ c L2 cur2, m ≤ cur.length ∧ gt s2.tm 6 = .int .i64 (dn m) ∧ gt s2.tm 5 = .int .u64 (.ofNat c) ∧ c < 1000000000 ∧ IT s b (vl B d) h s2 cur2 L2 v3 out ∧ cur2.length = cur.length ∧ vl B (cur.drop m) = 1000000000 * vl B (cur2.drop m) + c ∧ ∀ i, i < m → cur2.getD i 0 = cur.getD i 0) cur.length ⟨0, L, cur, Nat.le_refl _, sS, sS, by decide, ⟨(sS1 h1), (sS1 h3), (sS1 h4), (sS1 l1), row, tk, ll, lz, gs, dg, dec, hdg, hrl, v3n⟩, rfl, by rw [List.drop_length]; rfl, fun _ _ => rfl⟩ ?_
    intro m2 s2 ⟨c, L2, cur2, hm2, j6, j5, hc, H2, hl2, hv2, hsame⟩
    have H2' := H2
    obtain ⟨i1, i3, i4, k1, row2, tk2, ll2, lp2, gs2, dg2, dec2, hdg2, hrl2, v3n2⟩ := H2
    cases m2 with
    | zero =>
     refine ww_seq (ww_seq (ww_reg (fun n k => by simp -implicitDefEqProofs (disch := omega) only [go_sem, reduceIte, Nat.reduceEqDiff, j6, dn]; rfl) ?_))
     refine ww_false sS (ww_exit ?_)
     rw [if_pos rfl]
     refine ⟨c, L2, cur2, (sS1 j5), hc, ⟨(sS1 i1), (sS1 i3), (sS1 i4), (sS1 k1), row2, tk2, ll2, lp2, gs2, dg2, dec2, hdg2, hrl2, v3n2⟩, ?_, hl2⟩
     simpa using hv2
    | succ i =>
     have j6' : gt s2.tm 6 = .int .i64 (.ofNat i) := j6
     have hi2 : i < L2.length := by omega
     have hxi : cur.getD i 0 < 4294967296 := dg.get (by decide) i
     have hLi : L2.getD i 0 = cur.getD i 0 := by rw [getD_tk tk2 i (by omega)]; exact hsame i (by omega)
     refine ww_seq (ww_seq (ww_reg (fun n k => by simp -implicitDefEqProofs (disch := omega) only [go_sem, reduceIte, Nat.reduceEqDiff, j6', d_true]; rfl) ?_))
     refine ww_true sS (ww_skip ?_)
     refine ww_seq (ww_block ?_)
     have hq := div_bound hc hxi
     refine ww_seq (ww_reg (fun n k => by simp -implicitDefEqProofs (disch := omega) only [go_sem, reduceIte, Nat.reduceEqDiff, i4, j5, j6', nth_rows row2, ldg_nl L86, hLi, Nat.reducePow, or_shl]; rfl) ?_)
     refine ww_seq (ww_reg (fun n k => by simp -implicitDefEqProofs (disch := omega) only [go_sem, reduceIte, Nat.reduceEqDiff, i4, j6', nth_rows row2, w18_11_6 row2 hi2]; rfl) ?_)
     refine sE ?_
     refine ww_reg (fun n k => by simp -implicitDefEqProofs (disch := omega) only [go_sem, reduceIte, Nat.reduceEqDiff, j6', i_dec]; rfl) ?_
     have hrow : (hset s2.hp h.rows.length (.cells false (nl .u32 (L2.set i ((c * 4294967296 + cur.getD i 0) / 1000000000))))).rows[h.rows.length]? = some (.cells false (nl .u32 (L2.set i ((c * 4294967296 + cur.getD i 0) / 1000000000)))) := hset_at _ row2
     refine ⟨i, by omega, (c * 4294967296 + cur.getD i 0) % 1000000000, L2.set i ((c * 4294967296 + cur.getD i 0) / 1000000000), cur2.set i ((c * 4294967296 + cur.getD i 0) / 1000000000), by omega, sS, sS, Nat.mod_lt _ (by decide), ⟨(sS1 i1), (sS1 i3), (by simp -implicitDefEqProofs (disch := omega) only [go_sem, reduceIte, Nat.reduceEqDiff, i4, List.length_set]), (sS1 k1), hrow, by rw [List.length_set, List.take_set, tk2], by simpa using ll2, by simpa using lp2, gs2.hset row2 (by decide) _, dg2.set _ hq, dec2, DG.set hdg2 (Nat.le_refl _) _, by rw [hset_len]; exact hrl2, v3n2⟩, by simpa using hl2, ?_, fun j hj => by rw [getD_set_ne _ _ _ _ (by omega)]; exact hsame j (by omega)⟩
     rw [vl_drop_cons B cur i (by omega), vl_drop_cons B _ i (by rw [List.length_set]; omega), hv2, getD_set_eq _ _ _ (by omega), drop_set_ge]
     have := Nat.div_add_mod (c * 4294967296 + cur.getD i 0) 1000000000
     show cur.getD i 0 + 4294967296 * (1000000000 * vl B (cur2.drop (i + 1)) + c) = 1000000000 * ((c * 4294967296 + cur.getD i 0) / 1000000000 + 4294967296 * vl B (cur2.drop (i + 1))) + (c * 4294967296 + cur.getD i 0) % 1000000000
     omega
   ·intro s2 ⟨c, L2, cur2, j5, hc, H2, hv2, hl2⟩
    refine ww_join (M := fun s3 => ∃ cur3, gt s3.tm 5 = .int .u64 (.ofNat c) ∧ IT s b (vl B d) h s3 cur3 L2 v3 out ∧ Tr0 cur2 cur3 ∧ Cn cur3) ?_ ?_
    ·refine ww_for (fun m s3 => ∃ cur3, m = cur3.length ∧ gt s3.tm 5 = .int .u64 (.ofNat c) ∧ IT s b (vl B d) h s3 cur3 L2 v3 out ∧ Tr0 cur2 cur3) cur2.length ⟨cur2, rfl, j5, H2, Tr0.refl _⟩ ?_
     intro m3 s3 ⟨cur3, hm3, g5, H3, ht⟩
     obtain ⟨i1, i3, i4, k1, row3, tk3, ll3, lp3, gs3, dg3, dec3, hdg3, hrl3, v3n3⟩ := H3
     have hl3 := ht.len
     rcases Nat.eq_zero_or_pos cur3.length with hd3 | hd3
     ·refine ww_seq (ww_seq (ww_reg (fun n k => by simp -implicitDefEqProofs (disch := omega) only [go_sem, reduceIte, Nat.reduceEqDiff, i4, d_false]; rfl) ?_))
      refine ww_false sS (ww_exit ?_)
      rw [if_pos rfl]
      exact ⟨cur3, (sS1 g5), ⟨(sS1 i1), (sS1 i3), (sS1 i4), (sS1 k1), row3, tk3, ll3, lp3, gs3, dg3, dec3, hdg3, hrl3, v3n3⟩, ht, fun i hi => by omega⟩
     ·have hx3 : cur3.getD (cur3.length - 1) 0 < 4294967296 := dg3.get (by decide) _
      have hLx : L2.getD (cur3.length - 1) 0 = cur3.getD (cur3.length - 1) 0 := getD_tk tk3 _ (by omega)
      by_cases hz : cur3.getD (cur3.length - 1) 0 = 0
      ·refine ww_seq (ww_seq (ww_reg (fun n k => by simp -implicitDefEqProofs (disch := omega) only [go_sem, reduceIte, Nat.reduceEqDiff, i4, d_true, nth_rows row3, ldg_nl L86, hLx, hz]; rfl) ?_))
       refine ww_true sS (ww_skip (ww_block ?_))
       refine sE1 i4 ?_
       have e1 : (cur3.take (cur3.length - 1)).length = cur3.length - 1 := by simp
       refine ⟨cur3.length - 1, by omega, cur3.take (cur3.length - 1), by rw [e1], (sS1 g5), ⟨(sS1 i1), (sS1 i3), (sS1 e1), (sS1 k1), row3, ?_, by omega, lp3, gs3, dg3.take _, dec3, hdg3, hrl3, v3n3⟩, ht.next hd3 hz⟩
       rw [e1, ← tk3, List.take_take, List.length_take]
       congr 1; omega
      ·refine ww_seq (ww_seq (ww_reg (fun n k => by simp -implicitDefEqProofs (disch := omega) only [go_sem, reduceIte, Nat.reduceEqDiff, i4, d_true, nth_rows row3, ldg_nl L86, hLx, d_false]; rfl) ?_))
       refine ww_false sS (ww_exit ?_)
       rw [if_pos rfl]
       exact ⟨cur3, (sS1 g5), ⟨(sS1 i1), (sS1 i3), (sS1 i4), (sS1 k1), row3, tk3, ll3, lp3, gs3, dg3, dec3, hdg3, hrl3, v3n3⟩, ht, fun i hi => by rw [show i = cur3.length - 1 by omega]; exact hz⟩
    ·intro s3 ⟨cur3, g5, H3, ht, hcn3⟩
     have hv3 := ht.vl B
     have hl3 := ht.len
     refine sR ?_
     obtain ⟨i1, i3, i4, k1, row3, tk3, ll3, lp3, gs3, dg3, dec3, hdg3, hrl3, v3n3⟩ := H3
     refine ww_for (fun m s4 => ∃ i n v4 out4, m + i = 9 ∧ gt s4.tm 57 = .int .i64 (.ofNat i) ∧ gt s4.tm 5 = .int .u64 (.ofNat n) ∧ n < 10 ^ (9 - i) ∧ IT s b (vl B d) h s4 cur3 L2 v4 out4 ∧ lv out4 + 10 ^ out4.length * (n + 10 ^ (9 - i) * vl B cur3) = vl B d ∧ out4.length = out.length + i) 9 ⟨0, c, v3, out, rfl, sS, (sS1 g5), hc, ⟨(sS1 i1), (sS1 i3), (sS1 i4), (sS1 k1), row3, tk3, ll3, lp3, gs3, dg3, dec3, hdg3, hrl3, v3n3⟩, ?_, rfl⟩ ?_
     ·rw [hv3, show (10 : Nat) ^ (9 - 0) = 1000000000 from rfl, Nat.add_comm c, ← hv2]; exact heq
     intro m4 s4 ⟨i, n, v4, out4, hm4, g57, g5', hn, H4, heq4, hlen4⟩
     obtain ⟨q1, q3, q4, w1, row4, tk4, ll4, lp4, gs4, dg4, dec4, hdg4, hrl4, v3n4⟩ := H4
     refine sR1 g57 ?_
     refine ww_seq (ww_if (by simp only [gt_pt, reduceIte]; rfl) (fun hi9 => ww_skip ?_) (fun hi9 => ww_exit ?_))
     ·have hn9 : n < 10 ^ 9 := Nat.lt_of_lt_of_le hn (Nat.pow_le_pow_right (by decide) (by omega))
      have hn9' : n < 1000000000 := hn9
      have hm10 : n % 10 < 10 := Nat.mod_lt _ (by decide)
      refine ww_seq (ww_block ?_)
      obtain ⟨v5, h5, happ, hP⟩ := a18_17_6 (loc := lp s4.loc 64 ((lg s4.loc 64).1 + 1, .cells false (nl .u8 [48 + n % 10]))) (w := .arr (.loc 64 ((lg s4.loc 64).1 + 1)) 0 1 (some 1) 1 false) (n := 48 + n % 10) gs4 (fun tm => getRow_arr (ys := [48 + n % 10]) (by rw [lg_lp, if_pos rfl])) (by omega)
      refine sR3 g5' q3 happ ?_
      refine sE1 g5' ?_
      refine sE1 g57 ?_
      obtain ⟨hdg5, hv5⟩ := hP.dg _ hdg4 v3n4 (Nat.le_of_lt hrl4)
      have hlen5 := hP.len
      have hrow5 := (hP.same h.rows.length hrl4 (gs4.ne row4 (by decide))).trans row4
      refine ⟨m4 - 1, by omega, i + 1, n / 10, v5, out4 ++ [48 + n % 10], by omega, sS, sS, ?_, ⟨(sS1 q1), sS, (sS1 q4), (sS1 w1), hrow5, tk4, ll4, lp4, hP.gs, dg4, dec4.snoc (by omega) (by omega), hdg5, Nat.lt_of_lt_of_le hrl4 hlen5, hv5⟩, ?_, by simp [hlen4]; omega⟩
      ·have e : 10 ^ (9 - i) = 10 * 10 ^ (9 - (i + 1)) := by rw [show 9 - i = (9 - (i + 1)) + 1 by omega, Nat.pow_succ, Nat.mul_comm]
       omega
      ·rw [lv_app, List.length_append, List.length_cons, List.length_nil, Nat.pow_succ, ← heq4, show 9 - i = (9 - (i + 1)) + 1 by omega, Nat.pow_succ 10 (9 - (i + 1))]
       simp only [lv, Nat.mul_zero, Nat.add_zero, Nat.mul_assoc, Nat.add_assoc]
       rw [← Nat.mul_add, Nat.add_sub_cancel_left]
       congr 2
       have e2 : 10 ^ (9 - (i + 1)) * (10 * vl B cur3) = 10 * (10 ^ (9 - (i + 1)) * vl B cur3) := by rw [Nat.mul_left_comm]
       have e3 := Nat.div_add_mod n 10
       generalize 10 ^ (9 - (i + 1)) * vl B cur3 = W at *
       rw [e2]
       omega
     ·rw [if_pos rfl]
      have ei : i = 9 := by omega
      subst ei
      have en : n = 0 := by
       rw [show (10 : Nat) ^ (9 - 9) = 1 from rfl] at hn; omega
      subst en
      rw [show (10 : Nat) ^ (9 - 9) = 1 from rfl, Nat.one_mul, Nat.zero_add] at heq4
      refine ⟨vl B cur3, by omega, cur3, L2, v4, out4, rfl, ⟨(sS1 q1), (sS1 q3), (sS1 q4), (sS1 w1), row4, tk4, ll4, lp4, gs4, dg4, dec4, hdg4, hrl4, v3n4⟩, heq4, by omega, hcn3, by omega⟩
  ·rw [if_pos rfl]
   have ec : cur = [] := by cases cur with | nil => rfl | cons x l => simp at hc0
   subst ec
   exact ⟨L, v3, out, ⟨(sS1 h1), (sS1 h3), (sS1 h4), (sS1 l1), row, tk, ll, lz, gs, dg, dec, hdg, hrl, v3n⟩, by simpa [vl] using heq, hol⟩
 ·intro st ⟨L, v3, out, H, hlv, hol⟩
  refine ww_join (M := fun s2 => ∃ r L1 out2, gt s2.tm 3 = .arr (.glob r) 0 out2.length none 1 false ∧ s2.hp.rows[r]? = some (.cells false (nl .u8 L1)) ∧ L1.take out2.length = out2 ∧ out2.length ≤ L1.length ∧ Dec out2 ∧ lv out2 = vl B d ∧ 0 < out2.length ∧ out2.getD (out2.length - 1) 0 ≠ 48 ∧ out2.length ≤ out.length ∧ gt s2.tm 1 = .ptr (.loc 1 1) 0 ∧ lg s2.loc 1 = (1, .cells false [s, .bool b]) ∧ h.rows.length ≤ r ∧ DG h.rows.length s2.hp ∧ h.rows.length < s2.hp.rows.length) ?_ ?_
  ·obtain ⟨h1, h3, h4, l1, row, tk, ll, lz, gs, dg, dec, hdg, hrl, v3n⟩ := H
   have hpos : 0 < out.length := by
    cases out with
    | nil => simp only [lv] at hlv; omega
    | cons x l => simp
   rcases gs with ⟨e, _⟩ | ⟨r, L1, rfl, hr, ht, hlL, _⟩
   ·subst e; simp at hpos
   have hrn := v3n r rfl
   refine ww_for (fun m s2 => ∃ out2, m = out2.length ∧ gt s2.tm 3 = .arr (.glob r) 0 out2.length none 1 false ∧ s2.hp.rows[r]? = some (.cells false (nl .u8 L1)) ∧ L1.take out2.length = out2 ∧ out2.length ≤ L1.length ∧ Dec out2 ∧ lv out2 = vl B d ∧ out2.length ≤ out.length ∧ gt s2.tm 1 = .ptr (.loc 1 1) 0 ∧ lg s2.loc 1 = (1, .cells false [s, .bool b]) ∧ DG h.rows.length s2.hp ∧ h.rows.length < s2.hp.rows.length) out.length ⟨out, rfl, h3, hr, ht, hlL, dec, hlv, Nat.le_refl _, h1, l1, hdg, hrl⟩ ?_
   intro m s2 ⟨out2, hm, j3, hr2, ht2, hl2, dec2, hlv2, hlo, j1, k1, hdg2, hrl2⟩
   have hpos2 : 0 < out2.length := by
    cases out2 with
    | nil => simp only [lv] at hlv2; omega
    | cons x l => simp
   have hx : out2.getD (out2.length - 1) 0 < 256 := dec2.dg.get (by decide) _
   have hLx : L1.getD (out2.length - 1) 0 = out2.getD (out2.length - 1) 0 := getD_tk ht2 _ (by omega)
   refine ww_seq (ww_seq (ww_reg (fun n k => by simp -implicitDefEqProofs (disch := omega) only [go_sem, reduceIte, Nat.reduceEqDiff, j3, nth_rows hr2, ldg_nl L5, hLx]; rfl) ?_))
   refine ww_if (by simp only [gt_pt, reduceIte]; rfl) (fun h48 => ww_skip ?_) (fun h48 => ww_exit ?_)
   ·refine ww_block ?_
    refine sE1 j3 ?_
    have e1 : (out2.take (out2.length - 1)).length = out2.length - 1 := by simp
    refine ⟨out2.length - 1, by omega, out2.take (out2.length - 1), by rw [e1], (sS1 e1), hr2, ?_, by omega, dec2.take _, ?_, by omega, (sS1 j1), (sS1 k1), hdg2, hrl2⟩
    ·rw [e1, ← ht2, List.take_take, List.length_take]
     congr 1; omega
    ·rw [← hlv2]
     conv => rhs; rw [last_split out2 hpos2, lv_app, h48]
     simp [lv]
   ·rw [if_pos rfl]
    exact ⟨r, L1, out2, (sS1 j3), hr2, ht2, hl2, dec2, hlv2, hpos2, h48, hlo, (sS1 j1), (sS1 k1), hrn, hdg2, hrl2⟩
  ·intro s2 ⟨r, L1, out2, j3, hr2, ht2, hl2, dec2, hlv2, hpos2, h48, hlo, j1, k1, hrn, hdg2, hrl2⟩
   have hgood := good_of b dec2 hpos2 h48
   refine ww_join (M := fun s3 => ∃ r' L', gt s3.tm 3 = .arr (.glob r') 0 (out2 ++ bif b then [45] else []).length none 1 false ∧ s3.hp.rows[r']? = some (.cells false (nl .u8 L')) ∧ L'.take (out2 ++ bif b then [45] else []).length = (out2 ++ bif b then [45] else []) ∧ (out2 ++ bif b then [45] else []).length ≤ L'.length ∧ h.rows.length ≤ r' ∧ DG h.rows.length s3.hp) ?_ ?_
   ·refine ww_seq (ww_reg (fun n k => by simp -implicitDefEqProofs (disch := omega) only [go_sem, reduceIte, Nat.reduceEqDiff, j1, k1, ldc_snd L4]; rfl) ?_)
    cases b with
    | true =>
     refine ww_true sS ?_
     obtain ⟨v5, h5, happ, hP⟩ := a18_23_2 (loc := lp s2.loc 84 ((lg s2.loc 84).1 + 1, .cells false (nl .u8 [45]))) (w := .arr (.loc 84 ((lg s2.loc 84).1 + 1)) 0 1 (some 1) 1 false) (n := 45) (v := .arr (.glob r) 0 out2.length none 1 false) (.inr ⟨r, L1, rfl, hr2, ht2, hl2, by omega⟩) (fun tm => getRow_arr (ys := [45]) (by rw [lg_lp, if_pos rfl])) (by omega)
     obtain ⟨hdg5, hv5⟩ := hP.dg _ hdg2 (fun r0 e => by cases e; exact hrn) (Nat.le_of_lt hrl2)
     refine sE2 j3 happ ?_
     rcases hP.gs with ⟨e, _⟩ | ⟨r', L', rfl, q1, q2, q3, _⟩
     ·simp at e
     ·exact ⟨r', L', (by simp -implicitDefEqProofs (disch := omega) only [go_sem, reduceIte, Nat.reduceEqDiff, cond_true]), q1, q2, q3, hv5 r' rfl, hdg5⟩
    | false =>
     refine ww_false sS (ww_skip ?_)
     exact ⟨r, L1, (by simp -implicitDefEqProofs (disch := omega) only [go_sem, reduceIte, Nat.reduceEqDiff, cond_false, List.append_nil, j3]), hr2, by simpa using ht2, by simpa using hl2, hrn, hdg2⟩
   ·intro s3 ⟨r', L', g3, q1, q2, q3, q4, q5⟩
    generalize hout : (out2 ++ bif b then [45] else []) = o3 at *
    have ho3 : 0 < o3.length ∧ o3.length ≤ out2.length + 1 := by
     subst hout
     cases b <;> simp <;> omega
    have hd3 : Dg 256 o3 := by
     subst hout
     cases b with
     | true =>
       intro x hx
       rcases List.mem_append.1 hx with hx | hx
       ·exact dec2.dg x hx
       ·simp at hx; subst hx; decide
     | false => exact fun x hx => dec2.dg x (by simpa using hx)
    obtain ⟨h6, L6, hrun, hr6, ht6, hl6, hdg6, _, _⟩ := reverse_runs (n := h.rows.length) q1 q2 q3 ho3.1 (by omega) q5 q4
    refine ww_seq (ww_call (hrun) (fun n hn k => by simp -implicitDefEqProofs (disch := omega) only [go_sem, reduceIte, Nat.reduceEqDiff, g3, clc1 hn (Ex1.glob _ _ _ _ _ _)]; rfl) ?_)
    have hit : ∀ tm loc, itemsOf ⟨tm, loc, h6⟩ (.arr (.glob r') 0 o3.length none 1 false) = some (nl .u8 o3.reverse) := by
     intro tm loc
     have := Gs.items (h := h6) (v := .arr (.glob r') 0 o3.length none 1 false) (k := .u8) (l := o3.reverse) (.inr ⟨r', L6, by simp, hr6, by rw [List.length_reverse]; exact ht6, by simp; omega, by omega⟩) tm loc
     exact this
    refine ww_seq (ww_reg (fun n k => by simp -implicitDefEqProofs (disch := omega) only [go_sem, reduceIte, Nat.reduceEqDiff, g3, tx18 (fun q e => by cases e) (fun tm => hit tm _) (Dg.rev hd3)]; rfl) ?_)
    refine ww_ret (hQ _ _ (fin_tmpD (v := .str (sl o3.reverse)) sS (Ex1.str _) hdg6 rfl) ⟨o3.reverse, rfl, Dg.rev hd3, hgood.1, ?_, by simp; omega⟩)
    rw [hgood.2, hlv2, hx]
    rfl
end Go.AM.S
end
section
namespace Go.AM.S
open Go Go.AM Go.Proofs NumL
open _root_.Go.AM.G (R)
@[congr] theorem bO_congr {x y : Option V} {f : V → R} (h : x = y) : bO x f = bO y f := by rw [h]
@[congr] theorem brB_congr {x y : Option Bool} {a b : R} (h : x = y) : brB x a b = brB y a b := by rw [h]
attribute [go_sem ↓] jn_eq bO_some brB_true brB_false
attribute [go_sem] Bool.not_true Bool.not_false
end Go.AM.S
end
section
namespace Go.AM.S
open Go Go.AM Go.Proofs NumL
open _root_.Go.AM.G (R)
set_option maxRecDepth 100000
end Go.AM.S
end
section
namespace Go.AM.S
open Go Go.AM Go.Proofs NumL
open _root_.Go.AM.G (R)
set_option maxRecDepth 100000
end Go.AM.S
end
section
namespace Go.AM.S
open Go Go.AM Go.Proofs NumL
open _root_.Go.AM.G (R)
set_option maxRecDepth 100000
theorem dv_eq (l : List Nat) : dv l = lv l.reverse := by rw [← dv_rev, List.reverse_reverse]
theorem lv_lt : ∀ {l : List Nat}, Dec l → lv l < 10 ^ l.length := by
 intro l
 induction l with
 | nil => intro _; simp [lv]
 | cons x l ih =>
  intro h
  have h1 := ih (fun y hy => h y (by simp [hy]))
  have h2 := h x (by simp)
  simp only [lv, List.length_cons, Nat.pow_succ]
  omega
theorem dv_lt {l : List Nat} (h : Dec l) : dv l < 10 ^ l.length := by
 rw [dv_eq]
 have := lv_lt h.rev
 rwa [List.length_reverse] at this
theorem good_pos {l : List Nat} (h : goodB l = true) : 0 < (bodyN l).length ∧ Dec (bodyN l) ∧ badB l = false := by
 unfold goodB at h
 have h1 : badB l = false := by cases hb : badB l with | false => rfl | true => rw [hb] at h; simp at h
 refine ⟨?_, ?_, h1⟩
 ·cases hb : bodyN l with
  | nil => unfold badB at h1; rw [hb] at h1; simp at h1
  | cons x t => simp
 ·rw [h1] at h; simpa using h
end Go.AM.S
end
section
namespace Go.AM.S
open Go Go.AM Go.Proofs NumL
open _root_.Go.AM.G (R)
section
variable {P : Program} {C : Cfg} {call : CallF} {gl : Nat → Bool} {o : Oper} {loc : Lo} {hp : Hp}
end
end Go.AM.S
end
section
namespace Go.AM.S
open Go Go.AM Go.Proofs NumL
open _root_.Go.AM.G (R)
set_option maxRecDepth 100000
end Go.AM.S
end
section
namespace Go.AM.S
open Go Go.AM Go.Proofs NumL
open _root_.Go.AM.G (R)
theorem lv_inj : ∀ {a b : List Nat}, Dec a → Dec b → a.length = b.length → lv a = lv b → a = b := by
 intro a
 induction a with
 | nil => intro b _ _ hl _; cases b with | nil => rfl | cons y b => simp at hl
 | cons x a ih =>
  intro b ha hb hl h
  cases b with
  | nil => simp at hl
  | cons y b =>
   have h1 := ha x (by simp)
   have h2 := hb y (by simp)
   simp only [lv] at h
   have e1 : x = y := by omega
   have e2 : lv a = lv b := by omega
   rw [e1, ih (fun z hz => ha z (by simp [hz])) (fun z hz => hb z (by simp [hz])) (by simpa using hl) e2]
theorem lv_ge {l : List Nat} (hd : Dec l) (hl : 0 < l.length) (h : l.getD (l.length - 1) 0 ≠ 48) : 10 ^ (l.length - 1) ≤ lv l := by
 have hm : l.getD (l.length - 1) 0 ∈ l := by
  rw [List.getD_eq_getElem?_getD, List.getElem?_eq_getElem (by omega)]
  exact List.getElem_mem _
 have h1 := hd _ hm
 have e := last_split l hl
 rw [e, lv_app]
 simp only [lv, List.length_append, List.length_take, List.length_cons, List.length_nil, Nat.mul_zero, Nat.add_zero]
 rw [show min (l.length - 1) l.length + (0 + 1) - 1 = l.length - 1 by omega, show min (l.length - 1) l.length = l.length - 1 by omega]
 have : 10 ^ (l.length - 1) * 1 ≤ 10 ^ (l.length - 1) * (l.getD (l.length - 1) 0 - 48) := Nat.mul_le_mul_left _ (by omega)
 omega
theorem good_form {a : List Nat} (h : goodB a = true) : Dec (bodyN a) ∧ 0 < (bodyN a).length ∧ a = (bif ng a then 45 :: bodyN a else bodyN a) ∧ ((bodyN a).getD 0 0 = 48 → bodyN a = [48] ∧ ng a = false) := by
 obtain ⟨h1, h2, h3⟩ := good_pos h
 refine ⟨h2, h1, ?_, fun h48 => ?_⟩
 ·unfold bodyN
  cases hn : ng a with
  | false => rfl
  | true =>
   have hlen := ng_len hn
   cases a with
   | nil => simp at hlen
   | cons x l =>
    have : x = 45 := by simpa [ng] using hn
    rw [this]; rfl
 ·unfold badB at h3
  rw [decide_eq_true h48] at h3
  simp only [Bool.true_and, Bool.or_eq_false_iff, decide_eq_false_iff_not] at h3
  refine ⟨?_, h3.2.2⟩
  have hl : (bodyN a).length = 1 := by omega
  obtain ⟨x, hx⟩ := List.length_eq_one_iff.1 hl
  rw [hx] at h48 ⊢
  simp at h48
  rw [h48]
theorem zOf_good {a : List Nat} (h : goodB a = true) : zOf a = bif ng a then -(dv (bodyN a) : Int) else (dv (bodyN a) : Int) := by
 unfold zOf; rw [h]; rfl
theorem dv_pos {l : List Nat} (hd : Dec l) (hl : 0 < l.length) (h : l.getD 0 0 ≠ 48) : 10 ^ (l.length - 1) ≤ dv l := by
 rw [dv_eq]
 have := lv_ge hd.rev (by simpa using hl) (by
  rw [List.length_reverse, getD_rev l (l.length - 1) (by omega), show l.length - 1 - (l.length - 1) = 0 by omega]
  exact h)
 rwa [List.length_reverse] at this
theorem dv_inj {a b : List Nat} (ha : Dec a) (hb : Dec b) (la : 0 < a.length) (lb : 0 < b.length) (ca : a.getD 0 0 = 48 → a = [48]) (cb : b.getD 0 0 = 48 → b = [48]) (h : dv a = dv b) : a = b := by
 by_cases h1 : a.getD 0 0 = 48
 ·by_cases h2 : b.getD 0 0 = 48
  ·rw [ca h1, cb h2]
  ·exfalso
   have := dv_pos hb lb h2
   have e : dv a = 0 := by rw [ca h1]; rfl
   have : 0 < 10 ^ (b.length - 1) := Nat.pow_pos (by decide)
   omega
 ·by_cases h2 : b.getD 0 0 = 48
  ·exfalso
   have := dv_pos ha la h1
   have e : dv b = 0 := by rw [cb h2]; rfl
   have : 0 < 10 ^ (a.length - 1) := Nat.pow_pos (by decide)
   omega
  ·have g1 := dv_pos ha la h1
   have g2 := dv_pos hb lb h2
   have l1 := dv_lt ha
   have l2 := dv_lt hb
   have q1 : a.length - 1 < b.length := pow_lt_inv (c := 10) (by decide) (by omega)
   have q2 : b.length - 1 < a.length := pow_lt_inv (c := 10) (by decide) (by omega)
   have hl : a.length = b.length := by omega
   have e := lv_inj ha.rev hb.rev (by simpa using hl) (by rw [← dv_eq, ← dv_eq]; exact h)
   rw [← List.reverse_reverse a, e, List.reverse_reverse]
theorem zOf_inj {a b : List Nat} (ha : goodB a = true) (hb : goodB b = true) (h : zOf a = zOf b) : a = b := by
 obtain ⟨a1, a2, a3, a4⟩ := good_form ha
 obtain ⟨b1, b2, b3, b4⟩ := good_form hb
 rw [zOf_good ha, zOf_good hb] at h
 have pos : ∀ {l : List Nat}, Dec (bodyN l) → 0 < (bodyN l).length → ((bodyN l).getD 0 0 = 48 → bodyN l = [48] ∧ ng l = false) → ng l = true → 0 < dv (bodyN l) := by
  intro l h1 h2 h3 h4
  have : (bodyN l).getD 0 0 ≠ 48 := fun e => by have := (h3 e).2; rw [h4] at this; cases this
  have := dv_pos h1 h2 this
  have : 0 < 10 ^ ((bodyN l).length - 1) := Nat.pow_pos (by decide)
  omega
 have hng : ng a = ng b := by
  cases h1 : ng a with
  | true => cases h2 : ng b with
   | true => rfl
   | false => have := pos a1 a2 a4 h1; rw [h1, h2] at h; simp only [cond_true, cond_false] at h; omega
  | false => cases h2 : ng b with
   | false => rfl
   | true => have := pos b1 b2 b4 h2; rw [h1, h2] at h; simp only [cond_true, cond_false] at h; omega
 have hdv : dv (bodyN a) = dv (bodyN b) := by
  rw [hng] at h
  cases h2 : ng b with
  | true => rw [h2] at h; simp only [cond_true] at h; omega
  | false => rw [h2] at h; simp only [cond_false] at h; omega
 have e := dv_inj a1 b1 a2 b2 (fun q => (a4 q).1) (fun q => (b4 q).1) hdv
 rw [a3, b3, hng, e]
end Go.AM.S
end
section
namespace Go.AM.S
open Go Go.AM Go.Proofs NumL
open _root_.Go.AM.G (R)
set_option maxRecDepth 100000
theorem IsI.ex {k : Nat} {v : V} {z : Int} (h : IsI k v z) : Ex1 v := by obtain ⟨d, b, h1, _⟩ := h; exact h1.ex
theorem IsI.quiet {k : Nat} {v : V} {z : Int} (h : IsI k v z) : AM.quiet v = true := by obtain ⟨d, b, h1, _⟩ := h; exact h1.quiet
end Go.AM.S
end
section
namespace Go.AM.S
open Go Go.AM Go.Proofs NumL
open _root_.Go.AM.G (R)
set_option maxRecDepth 100000
section
variable {P : Program} {C : Cfg} {call : CallF} {gl : Nat → Bool} {o : Oper} {t' tm : Tm} {loc : Lo} {hp : Hp} {j : V → Lo → Hp → R}
theorem gen_pair {d : Nat} {x y : Operand} {t e : TypeId} {k : IntKind} {n m : Nat} (hd : o.dst = some d) (ho : o.op = .buildSlice t 2 #[(0, x), (1, y)]) (ha : C.isArr t = true) (hg : gl d = false) (he : elemT P t = some e) (hl : layE P e = some (1, false))
  {k0 : IntKind} {n0 : Int} (hz : zeroV P e = some (.int k0 n0)) (hv : AM.opd (⟨t', loc, hp⟩ : St).ρ x = .int k (.ofNat n)) (hw : AM.opd (⟨t', loc, hp⟩ : St).ρ y = .int k (.ofNat m)) :
  gen P C call gl o t' tm loc hp j = j (.arr (.loc d ((lg loc d).1 + 1)) 0 2 (some 2) 1 false) (lp loc d ((lg loc d).1 + 1, .cells false (nl k [n, m]))) hp := by
 refine gen_val (v := .arr (.loc d ((lg loc d).1 + 1)) 0 2 (some 2) 1 false) (st := ⟨t', lp loc d ((lg loc d).1 + 1, .cells false (nl k [n, m])), hp⟩) hd ?_
 have hp1 : locV P C gl (⟨t', loc, hp⟩ : St).ρ (⟨t', loc, hp⟩ : St).lc o = none := by
  unfold locV
  simp only [ho, pureV, he, hl, hz, ha, Bool.not_true, Bool.false_and, cond_false, Option.map_none]
 unfold stepV
 rw [hp1]
 unfold stepG
 simp only [ho, hd, he, hl, hz, opds, List.map_cons, List.map_nil, hv, hw, exps, exp, exp1, V.live, V.noLoc, Bool.and_self, cond_true, ha, hg, addRow, cond_false, lc_lg, aset_lp]
 rfl
end
theorem pr21 (n m : Nat) (l : Lo) (h : Hp) (c : CallF) (t : Tm) (j : V → Lo → Hp → R) : go2 Try.f21 21 4 5 11 14 (.int .u32 (.ofNat n)) (.int .u32 (.ofNat m)) c t l h j = j (.arr (.loc 15 ((lg l 15).1 + 1)) 0 2 (some 2) 1 false) (lp l 15 ((lg l 15).1 + 1, .cells false (nl .u32 [n, m]))) h :=
 gen_pair (C := Cg) (gl := Cg.glob 21) (call := c) (tm := t) (loc := l) (hp := h) (j := j) (t' := pt (pt .lf 11 (.int .u32 (.ofNat n))) 14 (.int .u32 (.ofNat m))) (k := .u32) (n := n) (m := m) (o := opA Try.f21 4 5) (d := 15) (x := .tmp 11) (y := .tmp 14) (t := 24) (e := 86) (by kernel_rfl) (by kernel_rfl) (by kernel_rfl) (by kernel_rfl) (by kernel_rfl) (by kernel_rfl) (show zeroV Pg 86 = some (.int .u32 (.ofNat 0)) by kernel_rfl) (by rw [opd_gt, gt_pt, if_neg (by decide), gt_pt, if_pos rfl]) (by rw [opd_gt, gt_pt, if_pos rfl])
theorem tbl21 : tbl 21 = some ⟨rc21, [.cell 2 26]⟩ := by kernel_rfl
theorem wrap_u64_int' (n : Int) : F.wrapI .u64 n = .ofNat (n % 18446744073709551616).toNat := by
 rw [F.wrapI_eq]
 have h : 0 ≤ n % 18446744073709551616 := Int.emod_nonneg _ (by decide)
 show n % 18446744073709551616 = _
 exact (Int.toNat_of_nonneg h).symm
theorem wrap_u64_negS {n : Nat} (h : n < 18446744073709551616) : F.wrapI .u64 (.negSucc n) = .ofNat (18446744073709551615 - n) := by
 rw [wrap_u64_int']
 have e : ((Int.negSucc n) % 18446744073709551616).toNat = 18446744073709551615 - n := by omega
 rw [e]
theorem un_neg64 {m : Nat} (h0 : 0 < m) (h : m ≤ 18446744073709551616) : G.un .neg (.int .u64 (.ofNat m)) = some (.int .u64 (.ofNat (18446744073709551616 - m))) := by
 show some (V.int .u64 (F.wrapI .u64 (Int.sub 0 (.ofNat m)))) = _
 rw [wrap_u64_int']
 have e : (Int.sub 0 (.ofNat m) % 18446744073709551616).toNat = 18446744073709551616 - m := by
  show ((0 - (m : Int)) % 18446744073709551616).toNat = _
  omega
 rw [e]
theorem i_lss_neg (k : IntKind) (m n : Nat) : G.int2 .lss k (.negSucc m) (.ofNat n) = some (.bool true) := rfl
theorem of_spec {z : Int} (h1 : -9223372036854775808 ≤ z) (h2 : z ≤ 9223372036854775807) : Gives 21 [.int .i64 z] fun r => IsI 2 r z := by
 refine gives_of tbl21 fun h Q hQ => ?_
 unfold rc21
 refine sR ?_
 have hab : z.natAbs ≤ 9223372036854775808 := by omega
 have neg : G.int2 .lss .i64 z (.ofNat 0) = some (.bool (decide (z < 0))) := by
  cases z with
  | ofNat n => rw [i_lss, decide_eq_false (Nat.not_lt_zero n), decide_eq_false (show ¬ (Int.ofNat n < 0) from Int.not_lt.2 (Int.natCast_nonneg n))]
  | negSucc n => rw [i_lss_neg, decide_eq_true (Int.negSucc_lt_zero n)]
 refine ww_joinX (fun s => gt s.tm 3 = .int .u64 (.ofNat (if z < 0 then 18446744073709551616 - z.natAbs else z.natAbs)) ∧ gt s.tm 0 = .int .i64 z ∧ gt s.tm 2 = .ptr (.loc 2 1) 0 ∧ lg s.loc 2 = (1, .cells false [.nils, .bool false]) ∧ lg s.loc 15 = (0, .gone) ∧ s.hp = ⟨h.rows, none, h.mods⟩) ?_ (fun s ⟨a3, a0, a2, al, al5, ah⟩ => ?_)
 ·cases z with
  | ofNat n =>
   have hn2 : n ≤ 9223372036854775807 := Int.ofNat_le.1 h2
   refine sEG ?_
   exact ⟨by rw [if_neg (show ¬ (Int.ofNat n < 0) from Int.not_lt.2 (Int.natCast_nonneg n))]; exact (by simp -implicitDefEqProofs (disch := omega) only [go_sem, reduceIte, Nat.reduceEqDiff, Int.natAbs_natCast, show (Int.ofNat n).natAbs = n from rfl]), sSG, sS, sS, sS, rfl⟩
  | negSucc n =>
   refine ww_reg (fun n k => by simp -implicitDefEqProofs (disch := omega) only [go_sem, reduceIte, Nat.reduceEqDiff, gt_start, List.getD_cons_zero, List.getD_cons_succ, wrap_u64_negS]; rfl) ?_
   exact ⟨by rw [if_pos (by omega), show 18446744073709551616 - (Int.negSucc n).natAbs = 18446744073709551615 - n by omega]; exact sS, sSG, sS, sS, sS, rfl⟩
 refine ww_join (M := fun s => gt s.tm 3 = .int .u64 (.ofNat z.natAbs) ∧ gt s.tm 0 = .int .i64 z ∧ gt s.tm 2 = .ptr (.loc 2 1) 0 ∧ lg s.loc 2 = (1, .cells false [.nils, .bool false]) ∧ lg s.loc 15 = (0, .gone) ∧ s.hp = ⟨h.rows, none, h.mods⟩) ?_ (fun s2 ⟨b3, b0, b2, bl, bl5, bh⟩ => ?_)
 ·refine ww_seq (ww_reg (fun n k => by simp -implicitDefEqProofs (disch := omega) only [go_sem, reduceIte, Nat.reduceEqDiff, a0, neg]; rfl) ?_)
  refine ww_if (by simp only [gt_pt, reduceIte]; rfl) (fun hz => ?_) (fun hz => ww_skip ?_)
  ·rw [if_pos hz] at a3
   refine ww_reg (fun n k => by simp -implicitDefEqProofs (disch := omega) only [go_sem, reduceIte, Nat.reduceEqDiff, a3, un_neg64]; rfl) ?_
   exact ⟨(by simp -implicitDefEqProofs (disch := omega) only [go_sem, reduceIte, Nat.reduceEqDiff, Nat.sub_sub_self]), (sS1 a0), (sS1 a2), (by simp -implicitDefEqProofs (disch := omega) only [go_sem, reduceIte, Nat.reduceEqDiff, al]), (sS1 al5), ah⟩
  ·rw [if_neg hz] at a3
   exact ⟨(sS1 a3), (sS1 a0), (sS1 a2), (by simp -implicitDefEqProofs (disch := omega) only [go_sem, reduceIte, Nat.reduceEqDiff, al]), (sS1 al5), ah⟩
 ·have hq1 : z.natAbs % 4294967296 < 4294967296 := Nat.mod_lt _ (by decide)
  have hq2 : z.natAbs / 4294967296 < 4294967296 := by omega
  have hdg : Dg B [z.natAbs % 4294967296, z.natAbs / 4294967296] := by
   intro x hx
   simp at hx
   rcases hx with rfl | rfl
   ·exact hq1
   ·exact hq2
  obtain ⟨r, hr, d, hw, ht⟩ := made_spec (va := .slice none false 1 (nl .u32 [z.natAbs % 4294967296, z.natAbs / 4294967296])) (a := [z.natAbs % 4294967296, z.natAbs / 4294967296]) (.inl ⟨false, rfl⟩) hdg (by simp) (decide (z < 0)) ⟨h.rows, none, h.mods⟩
  have hw0 := hw
  obtain ⟨⟨x, rfl, hx⟩, _⟩ := hw
  refine ww_seq (ww_call (hr) (fun n hn k => by simp -implicitDefEqProofs (disch := omega) only [go_sem, reduceIte, Nat.reduceEqDiff, b0, b2, b3, bh, bl, bl5, neg, wrap_u32_mod, Nat.mod_eq_of_lt hq2, Nat.reducePow, pr21, cl_arr2 (loc := lp s2.loc 15 (1, .cells false (nl .u32 [z.natAbs % 4294967296, z.natAbs / 4294967296]))) (l := [z.natAbs % 4294967296, z.natAbs / 4294967296]) (d := 15) (g := 1) (k := .u32) (f0 := false) (n := 2) rfl (by rw [lg_lp, if_pos rfl]) hn (Ex1.bool _), stc_two N26 1 x (.bool (decide (z < 0) && !d.isEmpty)) .nils (.bool false) _ hx.pl.ok rfl]; rfl) ?_)
  refine ww_ret (hQ _ _ (fin_cell (x := x) (y := .bool (decide (z < 0) && !d.isEmpty)) (f := false) (d := 2) (g := 1) (by kernel_rfl) (sS1 b2) (by simp -implicitDefEqProofs (disch := omega) only [go_sem, reduceIte, Nat.reduceEqDiff, bl]) hx.pl (Pl.bool _) rfl) ⟨d, _, hw0, ?_, by have := ht.len; simpa using this⟩)
  have e6 := ht.vl B
  have e7 : vl B [z.natAbs % 4294967296, z.natAbs / 4294967296] = z.natAbs := by
   show z.natAbs % 4294967296 + 4294967296 * (z.natAbs / 4294967296 + 4294967296 * 0) = z.natAbs
   omega
  rw [e7] at e6
  unfold zv
  by_cases hz : z < 0
  ·rw [decide_eq_true hz]
   cases d with
   | nil => simp only [vl] at e6; omega
   | cons x0 l0 => simp only [List.isEmpty_cons, Bool.not_false, Bool.and_self, cond_true, e6]; omega
  ·rw [decide_eq_false hz]
   simp only [Bool.false_and, cond_false, e6]; omega
end Go.AM.S
end
section
namespace Go.AM.S
open Go Go.AM Go.Proofs NumL
open _root_.Go.AM.G (R)
set_option maxRecDepth 100000
end Go.AM.S
end
section
namespace Go.AM.S
open Go Go.AM Go.Proofs NumL
open _root_.Go.AM.G (R)
set_option maxRecDepth 100000
section
variable {P : Program} {C : Cfg} {call : CallF} {gl : Nat → Bool} {o : Oper} {t' tm : Tm} {loc : Lo} {hp : Hp} {j : V → Lo → Hp → R}
end
end Go.AM.S
end
section
namespace Go.AM.S
open Go Go.AM Go.Proofs NumL
open _root_.Go.AM.G (R)
set_option maxRecDepth 100000
end Go.AM.S
end
section
namespace Go.AM.S
open Go Go.AM Go.Proofs NumL
open _root_.Go.AM.G (R)
set_option maxRecDepth 100000
end Go.AM.S
end
section
namespace Go.AM.S
open Go Go.AM Go.Proofs NumL
open _root_.Go.AM.G (R)
set_option maxRecDepth 100000
end Go.AM.S
end
section
namespace Go.AM.S
open Go Go.AM Go.Proofs NumL
open _root_.Go.AM.G (R)
set_option maxRecDepth 100000
end Go.AM.S
end
section
namespace Go.AM.S
open Go Go.AM Go.Proofs NumL
open _root_.Go.AM.G (R)
set_option maxRecDepth 100000
end Go.AM.S
end
section
namespace Go.AM.S
open Go Go.AM Go.Proofs NumL
open _root_.Go.AM.G (R)
set_option maxRecDepth 100000
theorem known_any (n : Nat) : fn Pg kn0 tbl (n + 40) 13 [] noHp = some (.val (.bool true) noHp) := by kernel_rfl
theorem known_runs : Runs Pg kn0 tbl 13 [] noHp (.val (.bool true) noHp) := ⟨40, fun n hn => by
 obtain ⟨m, rfl⟩ := Nat.exists_eq_add_of_le hn
 rw [Nat.add_comm]; exact known_any m⟩
end Go.AM.S
end
section
namespace Go.AM.S
open Go Go.AM Go.Proofs NumL
open _root_.Go.AM.G (R)
set_option maxRecDepth 100000
section
variable {P : Program} {C : Cfg} {call : CallF} {gl : Nat → Bool} {o : Oper} {t' tm : Tm} {loc : Lo} {hp : Hp} {j : V → Lo → Hp → R}
theorem gen_makeG {d : Nat} {x : Nat} {t e : TypeId} {n b : Nat} {k1 k2 : IntKind} (hd : o.dst = some d) (ho : o.op = .makeSlice t (.tmp x) (.tmp x)) (hg : gl d = true) (he : elemT P t = some e) (hl : layE P e = some (1, false)) (hb : (P.info? e).map (·.bytes) = some b)
  (hz : zeroV P e = some (.int k2 (.ofNat 0))) (hv : gt t' x = .int k1 (.ofNat n)) (hn : n * b ≤ 70368744177664) (hn2 : n ≤ 70368744177664) :
  gen P C call gl o t' tm loc hp j = j (.arr (.glob hp.rows.length) 0 n (some n) 1 false) loc (hadd hp (.cells false (nl k2 (List.replicate n 0)))) := by
 have hf : flat (List.replicate n (V.int k2 (.ofNat 0))) = nl k2 (List.replicate n 0) := by
  unfold flat nl
  rw [List.map_replicate]
  clear hv hn hn2
  induction n with
  | zero => rfl
  | succ n ih => rw [List.replicate_succ, List.flatMap_cons, ih]; rfl
 refine gen_val (v := .arr (.glob hp.rows.length) 0 n (some n) 1 false) (st := ⟨t', loc, hadd hp (.cells false (nl k2 (List.replicate n 0)))⟩) hd ?_
 have hp1 : locV P C gl (⟨t', loc, hp⟩ : St).ρ (⟨t', loc, hp⟩ : St).lc o = none := by
  unfold locV
  simp only [ho, pureV, Option.map_none]
 unfold stepV
 rw [hp1]
 unfold stepG
 simp only [ho, hd, opd_gt, hv, makeV, he, hl, hb, hz]
 rw [show Nat.ble n n = true from by rw [Nat.ble_eq]; exact Nat.le_refl n, show Nat.ble (n * b) maxBytes = true from by rw [Nat.ble_eq]; exact hn, show Nat.ble n maxBytes = true from by rw [Nat.ble_eq]; exact hn2]
 simp only [V.cells, List.length_cons, List.length_nil, V.live, Bool.and_self, hg, addRow, cond_true, hf]
 rfl
theorem slc_cut {t e : TypeId} {ag0 : Bool} (he : F.elemT P t = some e) (hl : F.layE P e = some (1, ag0)) (r : Ref) (len c : Nat) (ag : Bool) (k k' : IntKind) (i m : Nat) (hi : i < m) (hm : m ≤ len) (hc : len ≤ c) :
  slc P t (.arr r 0 len (some c) 1 ag) (some (.int k (.ofNat i))) (some (.int k' (.ofNat m))) none = some (.arr r i (m - i) (some (c - i)) 1 ag) := by
 show F.sliceV P t (.arr r 0 len (some c) 1 ag) (some (.ofNat i)) (some (.ofNat m)) none = _
 unfold F.sliceV
 simp only [he, hl, Nat.beq_refl, cond_true]
 unfold F.sliceArr
 simp only [Option.getD_some, F.toNatLe]
 rw [show Nat.ble m len = true from by rw [Nat.ble_eq]; exact hm]
 simp only [cond_true]
 rw [show Nat.ble i m = true from by rw [Nat.ble_eq]; omega]
 simp only [cond_true, show Nat.beq i c = false from by
  cases hb : Nat.beq i c with
  | false => rfl
  | true => have := Nat.eq_of_beq_eq_true hb; omega, Bool.false_and, cond_false, Nat.mul_one, Nat.zero_add]
theorem slc_pre {t e : TypeId} {ag0 : Bool} (he : F.elemT P t = some e) (hl : F.layE P e = some (1, ag0)) (r : Ref) (off len c : Nat) (ag : Bool) (k' : IntKind) (i : Nat) (hi : i ≤ len) :
  slc P t (.arr r off len (some c) 1 ag) none (some (.int k' (.ofNat i))) none = some (.arr r off i (some c) 1 ag) := by
 show F.sliceV P t (.arr r off len (some c) 1 ag) none (some (.ofNat i)) none = _
 unfold F.sliceV
 simp only [he, hl, Nat.beq_refl, cond_true]
 unfold F.sliceArr
 simp only [Option.getD_some, F.toNatLe]
 rw [show Nat.ble i len = true from by rw [Nat.ble_eq]; exact hi]
 simp only [cond_true, Option.getD_none, show Nat.ble 0 i = true from Nat.ble_eq ▸ Nat.zero_le i, show (Nat.beq 0 0) = true from rfl, Bool.not_true, Bool.and_false, cond_false, Nat.zero_mul, Nat.add_zero, Nat.sub_zero]
def put (L : List Nat) (i : Nat) (l : List Nat) : List Nat := L.take i ++ l ++ L.drop (i + l.length)
theorem setAt_put (k : IntKind) (L l : List Nat) (i : Nat) (h : i + l.length ≤ L.length) : setAt (nl k L) i (nl k l) = some (nl k (put L i l)) := by
 unfold setAt put
 simp only [nl_length]
 rw [show Nat.ble (i + l.length) L.length = true from by rw [Nat.ble_eq]; exact h]
 simp only [cond_true, nl, List.map_append, List.map_take, List.map_drop]
theorem put_length {L l : List Nat} {i : Nat} (h : i + l.length ≤ L.length) : (put L i l).length = L.length := by
 unfold put
 simp only [List.length_append, List.length_take, List.length_drop]
 omega
theorem gen_clear {x : Nat} {c : Call} {t e : TypeId} {k : IntKind} {r off len : Nat} {li : Option Nat} {L : List Nat} (hd : o.dst = none) (ho : o.op = .call c) (hc : c.callee = .builtin .clear) (ha : c.args = #[.tmp x]) (hty : c.argTypes[0]? = some t)
  (he : elemT P t = some e) (hl : layE P e = some (1, false)) (hz : zeroV P e = some (.int k (.ofNat 0))) (hx : gt t' x = .arr (.glob r) off len li 1 false) (hlen : 0 < len) (hr : hp.rows[r]? = some (.cells false (nl k L))) (hb : off + len ≤ L.length) :
  gen P C call gl o t' tm loc hp j = j (.tuple []) loc (hset hp r (.cells false (nl k (put L off (List.replicate len 0))))) := by
 have hf : flat (List.replicate len (V.int k (.ofNat 0))) = nl k (List.replicate len 0) := by
  rw [← flat_nl]
  unfold nl
  rw [List.map_replicate]
 refine gen_none (v := .tuple []) (st := ⟨t', loc, hset hp r (.cells false (nl k (put L off (List.replicate len 0))))⟩) hd ?_
 have hp1 : locV P C gl (⟨t', loc, hp⟩ : St).ρ (⟨t', loc, hp⟩ : St).lc o = none := by
  unfold locV
  simp only [ho, pureV, hc, ha, Option.map_none]
 unfold stepV
 rw [hp1]
 unfold stepG
 simp only [ho, callS, hc, hty, hd, opds, ha, List.map_cons, List.map_nil, opd_gt, hx, clearV, he, hl, hz, hf]
 rw [show Nat.blt 0 len = true from by rw [Nat.blt_eq]; exact hlen]
 simp only [Nat.beq_refl, V.live, V.cells, V.noLoc, List.length_cons, List.length_nil, List.all_cons, List.all_nil, V.cellOk, Bool.or_true, Bool.and_self, cond_true, getRow_glob, hr, setAt_put k L (List.replicate len 0) off (by simpa using hb), setRow_glob]
theorem gen_copy {d x y : Nat} {c : Call} {t e : TypeId} {k : IntKind} {r off len : Nat} {li : Option Nat} {L ys : List Nat} {w : V} (hd : o.dst = some d) (ho : o.op = .call c) (hc : c.callee = .builtin .copy) (ha : c.args = #[.tmp x, .tmp y]) (hty : c.argTypes[0]? = some t)
  (he : elemT P t = some e) (hl : layE P e = some (1, false)) (hxy : x ≠ y) (hit : itemsOf ⟨pt (pt .lf x (.arr (.glob r) off len li 1 false)) y w, loc, hp⟩ w = some (nl k ys)) (hys : ys.length ≤ len) (hr : hp.rows[r]? = some (.cells false (nl k L))) (hb : off + len ≤ L.length) :
  gen P C call gl o (pt (pt .lf x (.arr (.glob r) off len li 1 false)) y w) tm loc hp j = j (.int .i64 (.ofNat ys.length)) loc (hset hp r (.cells false (nl k (put L off ys)))) := by
 have hx : gt (pt (pt .lf x (.arr (.glob r) off len li 1 false)) y w) x = .arr (.glob r) off len li 1 false := by rw [gt_pt, if_neg (Ne.symm hxy), gt_pt, if_pos rfl]
 have hy : gt (pt (pt .lf x (.arr (.glob r) off len li 1 false)) y w) y = w := by rw [gt_pt, if_pos rfl]
 have hf : flat ((nl k ys).take len) = nl k ys := by rw [List.take_of_length_le (by rw [nl_length]; exact hys), flat_nl]
 refine gen_val (v := .int .i64 (.ofNat ys.length)) (st := ⟨pt (pt .lf x (.arr (.glob r) off len li 1 false)) y w, loc, hset hp r (.cells false (nl k (put L off ys)))⟩) hd ?_
 have hp1 : locV P C gl (⟨pt (pt .lf x (.arr (.glob r) off len li 1 false)) y w, loc, hp⟩ : St).ρ (⟨pt (pt .lf x (.arr (.glob r) off len li 1 false)) y w, loc, hp⟩ : St).lc o = none := by
  unfold locV
  simp only [ho, pureV, hc, ha, Option.map_none]
 unfold stepV
 rw [hp1]
 unfold stepG
 simp only [ho, callS, hc, hty, hd, opds, ha, List.map_cons, List.map_nil, opd_gt, hx, hy, copyV, he, hl, hit, fits_nl, flat_nl, noLocL_nl, Nat.beq_refl, Bool.or_true, Bool.and_self, getRow_glob, hr, hf, setAt_put k L ys off (by omega), nl_length, Nat.mul_one]
 rw [show Nat.ble (off + len) L.length = true from by rw [Nat.ble_eq]; exact hb, Nat.min_eq_left hys]
 simp only [cond_true, setRow_glob]
 rfl
end
end Go.AM.S
end
section
namespace Go.AM.S
open Go Go.AM Go.Proofs NumL
open _root_.Go.AM.G (R)
set_option maxRecDepth 100000
theorem tbl85 : tbl 85 = some ⟨rc85, [.tmp 4]⟩ := by kernel_rfl
theorem g85_1_3 (c : CallF) (t : Tm) (l : Lo) (h : Hp) (j : V → Lo → Hp → R) (k : IntKind) (n : Nat) (hn : n ≤ 1000000000) : go1 Try.f85 85 1 3 11 (.int k (.ofNat n)) c t l h j = j (.arr (.glob h.rows.length) 0 n (some n) 1 false) l (hadd h (.cells false (nl .u32 (List.replicate n 0)))) :=
 gen_makeG (C := Cg) (gl := Cg.glob 85) (call := c) (tm := t) (loc := l) (hp := h) (j := j) (t' := pt .lf 11 (.int k (.ofNat n))) (k1 := k) (n := n) (o := opA Try.f85 1 3) (d := 12) (x := 11) (t := 24) (e := 86) (b := 4) (by kernel_rfl) (by kernel_rfl) (by kernel_rfl) (by kernel_rfl) (by kernel_rfl) (by kernel_rfl) (by kernel_rfl) (by rw [gt_pt, if_pos rfl]) (by omega) (by omega)
theorem or_low {a b m : Nat} (hb : b < 2 ^ m) : a * 2 ^ m ||| b = a * 2 ^ m + b := by
 rw [Nat.mul_comm, Nat.two_pow_add_eq_or_of_lt hb]
theorem shl_parts {x up : Nat} (hx : x < 4294967296) (hu : up ≤ 32) : x * 2 ^ up < 18446744073709551616 := by
 have h1 : 2 ^ up ≤ 2 ^ 32 := Nat.pow_le_pow_right (by decide) hu
 calc x * 2 ^ up ≤ 4294967295 * 2 ^ 32 := Nat.mul_le_mul (by omega) h1
  _ < _ := by decide
structure I85 (v : V) (a : List Nat) (up : Nat) (h : Hp) (m : Nat) (s : St) (i : Nat) (L : List Nat) : Prop where
 m : m + i = a.length
 h0 : gt s.tm 13 = v
 h1 : gt s.tm 1 = .int .u64 (.ofNat up)
 h5 : gt s.tm 5 = .arr (.glob h.rows.length) 0 (a.length + 1) (some (a.length + 1)) 1 false
 h14 : gt s.tm 14 = .int .i64 (.ofNat a.length)
 h15 : gt s.tm 15 = .int .i64 (.ofNat i)
 len : L.length = a.length + 1
 dg : Dg B L
 top : L.getD i 0 < 2 ^ up
 zero : ∀ q, i < q → L.getD q 0 = 0
 v : vl B L = vl B (a.take i) * 2 ^ up
 row : s.hp.rows[h.rows.length]? = some (.cells false (nl .u32 L))
 rl : s.hp.rows.length = h.rows.length + 1
 same : ∀ q, q < h.rows.length → s.hp.rows[q]? = h.rows[q]?
 dg2 : DG h.rows.length s.hp
theorem shl_split (x up : Nat) (hu : up ≤ 32) : x * 2 ^ up % 4294967296 = x % 2 ^ (32 - up) * 2 ^ up := by
 have e : (4294967296 : Nat) = 2 ^ (32 - up) * 2 ^ up := by rw [← Nat.pow_add, Nat.sub_add_cancel hu]
 rw [e, Nat.mul_mod_mul_right]
theorem shl_hi {x up : Nat} (hx : x < 4294967296) : x * 2 ^ up / 4294967296 < 2 ^ up := by
 rw [Nat.div_lt_iff_lt_mul (by decide), Nat.mul_comm (2 ^ up)]
 exact Nat.mul_lt_mul_of_pos_right hx (Nat.two_pow_pos up)
theorem low_fit {x up y : Nat} (hu : up ≤ 32) (hy : y < 2 ^ up) : (y ||| x * 2 ^ up % 4294967296) = y + x * 2 ^ up % 4294967296 ∧ y + x * 2 ^ up % 4294967296 < 4294967296 := by
 rw [shl_split x up hu]
 have h1 : x % 2 ^ (32 - up) + 1 ≤ 2 ^ (32 - up) := Nat.mod_lt _ (Nat.two_pow_pos _)
 have h2 : (x % 2 ^ (32 - up) + 1) * 2 ^ up ≤ 2 ^ (32 - up) * 2 ^ up := Nat.mul_le_mul_right _ h1
 rw [← Nat.pow_add, Nat.sub_add_cancel hu, Nat.add_mul, Nat.one_mul] at h2
 refine ⟨by rw [Nat.or_comm, or_low hy, Nat.add_comm], ?_⟩
 have : (2 : Nat) ^ 32 = 4294967296 := rfl
 omega
theorem vl_rep0 (B n : Nat) : vl B (List.replicate n 0) = 0 := by
 induction n with
 | zero => rfl
 | succ n ih => simp only [List.replicate_succ, vl, ih, Nat.mul_zero, Nat.add_zero]
theorem getD_rep0 (n i : Nat) : (List.replicate n 0).getD i 0 = 0 := by
 rw [List.getD_eq_getElem?_getD, List.getElem?_replicate]
 split <;> rfl
theorem dg_rep0 (n : Nat) : Dg B (List.replicate n 0) := by
 intro x hx
 rw [List.eq_of_mem_replicate hx]; decide
theorem back_eq {h h' : Hp} {l : List V} (hd : DG h.rows.length h') (hl : V.noRefsL l = false) : backHp h h' l = ⟨h'.rows, h.dirty, h.mods⟩ := by
 unfold backHp
 rw [clean_dg hd, hl]; rfl
theorem shl_step {p i v0 v1 v2 l lo hi w x u : Nat} (e1 : v1 + p ^ i * l = v0 + p ^ i * (l + lo)) (e2 : v2 = v1 + p ^ (i + 1) * hi) (hy : lo + p * hi = x * u) (hv : v0 = w * u) : v2 = (w + p ^ i * x) * u := by
 rw [Nat.add_mul, Nat.mul_assoc, ← hy, ← hv, e2, Nat.pow_succ, Nat.mul_add, Nat.mul_assoc]
 rw [Nat.mul_add] at e1
 omega
theorem shifted_runs {v : V} {a : List Nat} {up : Nat} (hv : Sl .u32 v a) (da : Dg B a) (la : a.length ≤ 1000000) (hu : up ≤ 32) (h : Hp) :
  ∃ h' L, Runs Pg kn0 tbl 85 [v, .int .u64 (.ofNat up)] h (.val (.arr (.glob h.rows.length) 0 (a.length + 1) (some (a.length + 1)) 1 false) h') ∧ L.length = a.length + 1 ∧ Dg B L ∧ vl B L = vl B a * 2 ^ up ∧ h'.rows.length = h.rows.length + 1 ∧ h'.rows[h.rows.length]? = some (.cells false (nl .u32 L)) ∧ (∀ q, q < h.rows.length → h'.rows[q]? = h.rows[q]?) ∧ h'.dirty = h.dirty := by
 let Post : Out → Prop := fun o => ∃ h' L, o = .val (.arr (.glob h.rows.length) 0 (a.length + 1) (some (a.length + 1)) 1 false) h' ∧ L.length = a.length + 1 ∧ Dg B L ∧ vl B L = vl B a * 2 ^ up ∧ h'.rows.length = h.rows.length + 1 ∧ h'.rows[h.rows.length]? = some (.cells false (nl .u32 L)) ∧ (∀ q, q < h.rows.length → h'.rows[q]? = h.rows[q]?) ∧ h'.dirty = h.dirty
 suffices hw : WW Pg kn0 tbl rc85 ⟨startTm [v, .int .u64 (.ofNat up)], .lf, ⟨h.rows, none, h.mods⟩⟩ (fun s => ∃ o, fin Pg h [.tmp 4] s = some o ∧ Post o) (fun _ _ => False) (fun s => ∃ o, fin Pg h [.tmp 4] s = some o ∧ Post o) by
  obtain ⟨o, h1, h', L, rfl, h2⟩ := runs_ex (kn := kn0) (h := h) rfl tbl85 hw
  exact ⟨h', L, h1, h2⟩
 unfold rc85
 refine sR ?_
 refine ww_seq (ww_reg (fun n k => by simp -implicitDefEqProofs (disch := omega) only [go_sem, reduceIte, Nat.reduceEqDiff, gt_start, List.getD_cons_zero, List.getD_cons_succ, len_sl hv, g85_1_3]; rfl) ?_)
 refine ww_seq (ww_seq (ww_reg (fun n k => by simp -implicitDefEqProofs (disch := omega) only [go_sem, reduceIte, Nat.reduceEqDiff, gt_start, List.getD_cons_zero, List.getD_cons_succ, len_sl hv]; rfl) ?_))
 refine ww_for (fun m s => ∃ i L, I85 v a up h m s i L) a.length ⟨0, List.replicate (a.length + 1) 0, by omega, sSG, sSG, sS, sS, sS, by simp, dg_rep0 _, ?_, fun q _ => getD_rep0 _ q, ?_, hadd_at _ _, ?_, fun q hq => hadd_lt _ _ hq, fun x hx => by cases hx⟩ ?_
 ·rw [getD_rep0]; exact Nat.two_pow_pos _
 ·rw [vl_rep0]; simp [vl]
 ·rw [hadd_len]
 intro m s ⟨i, L, hm, h0, h1, h5, h14, h15, hL, hdg, htop, hz, hvl, hrow, hrl, hsame, hdg2⟩
 refine sR2 h14 h15 ?_
 refine ww_seq (ww_if (by simp only [gt_pt, reduceIte]; rfl) (fun hi => ww_skip ?_) (fun hi => ww_exit ?_))
 ·have hx : a.getD i 0 < 4294967296 := da.get (by decide) i
  have hp := shl_parts hx hu
  obtain ⟨f1, f2⟩ := low_fit (x := a.getD i 0) hu htop
  have hLi : L.getD i 0 < 4294967296 := hdg.get (by decide) i
  have hhi := shl_hi (up := up) hx
  have hu2 : (2 : Nat) ^ up ≤ 4294967296 := Nat.pow_le_pow_right (by decide) hu
  refine ww_seq (ww_block ?_)
  refine ww_seq (ww_reg (fun n k => by simp -implicitDefEqProofs (disch := omega) only [go_sem, reduceIte, Nat.reduceEqDiff, h0, h15, ia24 hv]; rfl) ?_)
  refine sR1 h1 ?_
  refine ww_seq (ww_reg (fun n k => by simp -implicitDefEqProofs (disch := omega) only [go_sem, reduceIte, Nat.reduceEqDiff, h5, nth_rows hrow, ldg_nl L86, wrap_u32_mod, f1, w85_6_8 hrow]; rfl) ?_)
  have hrow2 := hset_at s.hp (row := .cells false (nl .u32 (L.set i (L.getD i 0 + a.getD i 0 * 2 ^ up % 4294967296)))) hrow
  refine ww_reg (fun n k => by simp -implicitDefEqProofs (disch := omega) only [go_sem, reduceIte, Nat.reduceEqDiff, h5, Nat.reducePow, w85_7_7 (off := i + 1) hrow2 (by rw [List.length_set]; omega)]; rfl) ?_
  refine sE1 h15 ?_
  refine ⟨m - 1, by omega, i + 1, (L.set i (L.getD i 0 + a.getD i 0 * 2 ^ up % 4294967296)).set (i + 1) (a.getD i 0 * 2 ^ up / 4294967296), by omega, (sS1 h0), (sS1 h1), (sS1 h5), (sS1 h14), sS, by simp [hL], (hdg.set _ f2).set _ (Nat.lt_of_lt_of_le hhi hu2), ?_, ?_, ?_, hset_at _ hrow2, by rw [hset_len, hset_len]; exact hrl, fun q hq => by rw [hset_ne _ (by omega), hset_ne _ (by omega)]; exact hsame q hq, (hdg2.set (Nat.le_refl _) _).set (Nat.le_refl _) _⟩
  ·rw [getD_set_eq _ _ _ (by rw [List.length_set]; omega)]; exact hhi
  ·intro q hq
   rw [getD_set_ne _ _ _ _ (by omega), getD_set_ne _ _ _ _ (by omega)]
   exact hz q (by omega)
  ·have e1 := vl_set B L i (L.getD i 0 + a.getD i 0 * 2 ^ up % 4294967296) (by omega)
   have e2 := vl_set B (L.set i (L.getD i 0 + a.getD i 0 * 2 ^ up % 4294967296)) (i + 1) (a.getD i 0 * 2 ^ up / 4294967296) (by rw [List.length_set]; omega)
   rw [getD_set_ne _ _ _ _ (by omega), hz (i + 1) (by omega), Nat.mul_zero, Nat.add_zero] at e2
   rw [vl_take_next]
   exact shl_step e1 e2 (Nat.mod_add_div _ _) hvl
 ·rw [if_pos rfl]
  have ei : i = a.length := by omega
  subst ei
  refine sR1 h5 ?_
  rw [List.take_length] at hvl
  have key : fin Pg h [.tmp 4] ⟨pt (pt s.tm 16 (.bool (decide (a.length < a.length)))) 4 (.arr (.glob h.rows.length) 0 (a.length + 1) (some (a.length + 1)) 1 false), s.loc, s.hp⟩ = some (.val (.arr (.glob h.rows.length) 0 (a.length + 1) (some (a.length + 1)) 1 false) (backHp h s.hp [.arr (.glob h.rows.length) 0 (a.length + 1) (some (a.length + 1)) 1 false])) := by
   unfold fin
   simp only [resV, rho_gt, Option.map_some]
   rw [show ∀ t w, gt (pt t 4 w) 4 = w from fun t w => sS]
   rfl
  refine ww_ret ⟨_, key, _, L, rfl, hL, hdg, hvl, ?_⟩
  rw [back_eq hdg2 rfl]
  exact ⟨hrl, hrow, hsame, rfl⟩
end Go.AM.S
end
section
namespace Go.AM.S
open Go Go.AM Go.Proofs NumL
open _root_.Go.AM.G (R)
set_option maxRecDepth 100000
theorem tbl87 : tbl 87 = some ⟨rc87, [.tmp 4]⟩ := by kernel_rfl
structure I87 (r : Nat) (a : List Nat) (up : Nat) (c : Nat) (h : Hp) (m : Nat) (s : St) (i : Nat) (L : List Nat) : Prop where
 m : m + i = a.length
 h12 : gt s.tm 12 = .arr (.glob r) 0 a.length (some c) 1 false
 h1 : gt s.tm 1 = .int .u64 (.ofNat up)
 h5 : gt s.tm 5 = .arr (.loc 11 1) 0 a.length (some a.length) 1 false
 h13 : gt s.tm 13 = .int .i64 (.ofNat a.length)
 h14 : gt s.tm 14 = .int .i64 (.ofNat i)
 row : lg s.loc 11 = (1, .cells false (nl .u32 L))
 len : L.length = a.length
 dg : Dg B L
 top : ∀ q, i = q + 1 → L.getD q 0 < 2 ^ (32 - up)
 zero : ∀ q, i ≤ q → L.getD q 0 = 0
 v : vl B L * 2 ^ up + a.getD 0 0 % 2 ^ up * (if i = 0 then 0 else 1) = vl B (a.take i)
 hp : s.hp = h
theorem back_parts {x up : Nat} (hx : x < 4294967296) (hu : up < 32) : x * 2 ^ 32 / 2 ^ up = x * 2 ^ (32 - up) := by
 rw [show (2 : Nat) ^ 32 = 2 ^ (32 - up) * 2 ^ up by rw [← Nat.pow_add, Nat.sub_add_cancel (by omega)], ← Nat.mul_assoc, Nat.mul_div_cancel _ (Nat.two_pow_pos up)]
theorem back_hi {x up : Nat} (hu : up < 32) : x * 2 ^ (32 - up) / 4294967296 = x / 2 ^ up := by
 rw [show (4294967296 : Nat) = 2 ^ up * 2 ^ (32 - up) by rw [← Nat.pow_add, Nat.add_sub_cancel' (by omega)], Nat.mul_div_mul_right _ _ (Nat.two_pow_pos _)]
theorem back_lt {x up : Nat} (hx : x < 4294967296) (hu : up < 32) : x / 2 ^ up < 2 ^ (32 - up) := by
 rw [Nat.div_lt_iff_lt_mul (Nat.two_pow_pos up), ← Nat.pow_add, Nat.sub_add_cancel (by omega)]
 exact hx
theorem back_step {p b v0 v1 v2 l lo hi x u r w : Nat} (e1 : v1 = v0 + p * b * hi) (e2 : v2 + p * l = v1 + p * (l + lo)) (hx : b * hi * u + lo * u = b * x) (hv : v0 * u + r = w) : v2 * u + r = w + p * b * x := by
 rw [Nat.mul_add] at e2
 have e3 : v2 = v0 + p * b * hi + p * lo := by omega
 have e4 : p * (b * hi * u + lo * u) = p * (b * x) := by rw [hx]
 rw [Nat.mul_add, ← Nat.mul_assoc, ← Nat.mul_assoc, ← Nat.mul_assoc, ← Nat.mul_assoc] at e4
 rw [e3, Nat.add_mul, Nat.add_mul]
 omega
theorem back_runs {r c : Nat} {a : List Nat} {up : Nat} {h : Hp} {f : Bool} (hr : h.rows[r]? = some (.cells f (nl .u32 a))) (da : Dg B a) (la : a.length ≤ 1000000) (hu : up < 32) :
  ∃ v b, Runs Pg kn0 tbl 87 [.arr (.glob r) 0 a.length (some c) 1 false, .int .u64 (.ofNat up)] h (.val v h) ∧ Sl .u32 v b ∧ Dg B b ∧ vl B b = vl B a / 2 ^ up ∧ b.length = a.length := by
 let Post : Out → Prop := fun o => ∃ v b, o = .val v h ∧ Sl .u32 v b ∧ Dg B b ∧ vl B b = vl B a / 2 ^ up ∧ b.length = a.length
 suffices hw : WW Pg kn0 tbl rc87 ⟨startTm [.arr (.glob r) 0 a.length (some c) 1 false, .int .u64 (.ofNat up)], .lf, ⟨h.rows, none, h.mods⟩⟩ (fun s => ∃ o, fin Pg h [.tmp 4] s = some o ∧ Post o) (fun _ _ => False) (fun s => ∃ o, fin Pg h [.tmp 4] s = some o ∧ Post o) by
  obtain ⟨o, h1, v, b, rfl, h2⟩ := runs_ex (kn := kn0) (h := h) rfl tbl87 hw
  exact ⟨v, b, h1, h2⟩
 unfold rc87
 refine sR ?_
 refine sRG ?_
 refine sQG ?_
 refine ww_for (fun m s => ∃ i L, I87 r a up c ⟨h.rows, none, h.mods⟩ m s i L) a.length ⟨0, List.replicate a.length 0, by omega, sSG, sSG, sS, sS, sS, sS, by simp, dg_rep0 _, (fun q hq => by omega), fun q _ => getD_rep0 _ q, by rw [vl_rep0]; simp [vl], rfl⟩ ?_
 intro m s ⟨i, L, hm, h12, h1, h5, h13, h14, hrow, hL, hdg, htop, hz, hvl, hhp⟩
 have hrr : s.hp.rows[r]? = some (.cells f (nl .u32 a)) := by rw [hhp]; exact hr
 refine sR2 h13 h14 ?_
 refine ww_seq (ww_if (by simp only [gt_pt, reduceIte]; rfl) (fun hi => ww_skip ?_) (fun hi => ww_exit ?_))
 ·have hx : a.getD i 0 < 4294967296 := da.get (by decide) i
  have hp32 : a.getD i 0 * 2 ^ 32 < 18446744073709551616 := by
   have : (2 : Nat) ^ 32 = 4294967296 := rfl
   omega
  have hle : a.getD i 0 * 2 ^ (32 - up) < 18446744073709551616 := by rw [← back_parts hx hu]; exact Nat.lt_of_le_of_lt (Nat.div_le_self _ _) hp32
  have hhi := back_lt hx hu
  have hhi2 : a.getD i 0 / 2 ^ up < 4294967296 := Nat.lt_of_le_of_lt (Nat.div_le_self _ _) hx
  have hLi := hz i (Nat.le_refl _)
  refine ww_join (M := fun s1 => ∃ L2, gt s1.tm 12 = .arr (.glob r) 0 a.length (some c) 1 false ∧ gt s1.tm 1 = .int .u64 (.ofNat up) ∧ gt s1.tm 5 = .arr (.loc 11 1) 0 a.length (some a.length) 1 false ∧ gt s1.tm 13 = .int .i64 (.ofNat a.length) ∧ gt s1.tm 14 = .int .i64 (.ofNat i) ∧ lg s1.loc 11 = (1, .cells false (nl .u32 L2)) ∧ L2.length = a.length ∧ Dg B L2 ∧ L2.getD i 0 < 2 ^ (32 - up) ∧ (∀ q, i < q → L2.getD q 0 = 0) ∧ vl B L2 * 2 ^ up + a.getD 0 0 % 2 ^ up = vl B (a.take (i + 1)) ∧ s1.hp = ⟨h.rows, none, h.mods⟩) ?_ ?_
  ·refine ww_block ?_
   refine ww_seq (ww_reg (fun n k => by simp -implicitDefEqProofs (disch := omega) only [go_sem, reduceIte, Nat.reduceEqDiff, h12, h14, nth_rows hrr, ldg_nl L86]; rfl) ?_)
   refine ww_seq (ww_reg (fun n k => by simp -implicitDefEqProofs (disch := omega) only [go_sem, reduceIte, Nat.reduceEqDiff, h1, Nat.reducePow, back_parts hx hu]; rfl) ?_)
   refine ww_seq (ww_reg (fun n k => by simp -implicitDefEqProofs (disch := omega) only [go_sem, reduceIte, Nat.reduceEqDiff, h5, hrow, hLi, Nat.zero_or, Nat.reducePow, back_hi hu]; rfl) ?_)
   have e1 := vl_set B L i (a.getD i 0 / 2 ^ up) (by omega)
   rw [hLi, Nat.mul_zero, Nat.add_zero] at e1
   have hmd := Nat.div_add_mod (a.getD i 0) (2 ^ up)
   refine sR ?_
   refine ww_if (by simp only [gt_pt, reduceIte]; rfl) (fun h0 => ?_) (fun h0 => ww_skip ?_)
   ·have hq := htop (i - 1) (by omega)
    obtain ⟨f1, f2⟩ := low_fit (x := a.getD i 0) (up := 32 - up) (by omega) hq
    have hn1 : (L.set i (a.getD i 0 / 2 ^ up)).getD (i - 1) 0 = L.getD (i - 1) 0 := getD_set_ne _ _ _ _ (by omega)
    have hLq : L.getD (i - 1) 0 < 4294967296 := hdg.get (by decide) _
    have hb : i - 1 < (L.set i (a.getD i 0 / 2 ^ up)).length := by rw [List.length_set]; omega
    refine ww_reg (fun n k => by simp -implicitDefEqProofs (disch := omega) only [go_sem, reduceIte, Nat.reduceEqDiff, h5, wrap_u32_mod, hn1, f1, ldc_nl (P := Pg) L86 1 false .u32 _ _ hb, stc_nl (P := Pg) N86 _ _ hb]; rfl) ?_
    refine ⟨(L.set i (a.getD i 0 / 2 ^ up)).set (i - 1) (L.getD (i - 1) 0 + a.getD i 0 * 2 ^ (32 - up) % 4294967296), (sS1 h12), (sS1 h1), (sS1 h5), (sS1 h13), (sS1 h14), sS, by simp [hL], (hdg.set _ hhi2).set _ f2, ?_, ?_, ?_, hhp⟩
    ·rw [getD_set_ne _ _ _ _ (by omega), getD_set_eq _ _ _ (by omega)]; exact hhi
    ·intro q hq
     rw [getD_set_ne _ _ _ _ (by omega), getD_set_ne _ _ _ _ (by omega)]
     exact hz q (by omega)
    ·have e2 := vl_set B (L.set i (a.getD i 0 / 2 ^ up)) (i - 1) (L.getD (i - 1) 0 + a.getD i 0 * 2 ^ (32 - up) % 4294967296) hb
     rw [hn1] at e2
     rw [if_neg (by omega), Nat.mul_one] at hvl
     rw [vl_take_next]
     have ei : B ^ i = B ^ (i - 1) * B := by rw [← Nat.pow_succ]; congr 1; omega
     rw [ei] at e1 ⊢
     refine back_step e1 e2 ?_ hvl
     have e5 : (4294967296 : Nat) = 2 ^ (32 - up) * 2 ^ up := by rw [← Nat.pow_add, Nat.sub_add_cancel (by omega)]
     have e3 : a.getD i 0 * 2 ^ (32 - up) % 4294967296 = a.getD i 0 % 2 ^ up * 2 ^ (32 - up) := by
      rw [e5, Nat.mul_comm (2 ^ (32 - up)) (2 ^ up), Nat.mul_mod_mul_right]
     rw [e3, Nat.mul_assoc _ (2 ^ (32 - up)), ← e5]
     show 4294967296 * (a.getD i 0 / 2 ^ up) * 2 ^ up + a.getD i 0 % 2 ^ up * 4294967296 = 4294967296 * a.getD i 0
     rw [Nat.mul_assoc, Nat.mul_comm (a.getD i 0 / 2 ^ up), Nat.mul_comm (a.getD i 0 % 2 ^ up), ← Nat.mul_add, hmd]
   ·have ei : i = 0 := by omega
    subst ei
    refine ⟨L.set 0 (a.getD 0 0 / 2 ^ up), (sS1 h12), (sS1 h1), (sS1 h5), (sS1 h13), (sS1 h14), sS, by simpa using hL, hdg.set _ hhi2, by rw [getD_set_eq _ _ _ (by omega)]; exact hhi, fun q hq => by rw [getD_set_ne _ _ _ _ (by omega)]; exact hz q (by omega), ?_, hhp⟩
    rw [e1, vl_take_next]
    simp only [if_true, Nat.mul_zero, Nat.add_zero, Nat.pow_zero, Nat.one_mul] at hvl ⊢
    rw [← hvl, Nat.add_mul, Nat.mul_comm (a.getD 0 0 / 2 ^ up)]
    omega
  ·intro s1 ⟨L2, g12, g1, g5, g13, g14, grow, gL, gdg, gtop, gz, gvl, ghp⟩
   refine sE1 g14 ?_
   exact ⟨m - 1, by omega, i + 1, L2, by omega, (sS1 g12), (sS1 g1), (sS1 g5), (sS1 g13), sS, (by simp -implicitDefEqProofs (disch := omega) only [go_sem, reduceIte, Nat.reduceEqDiff, grow]), gL, gdg, fun q hq => by rw [show q = i by omega]; exact gtop, fun q hq => gz q (by omega), by rw [if_neg (by omega), Nat.mul_one]; exact gvl, ghp⟩
 ·rw [if_pos rfl]
  have ei : i = a.length := by omega
  refine sR1 h5 ?_
  have key : fin Pg h [.tmp 4] ⟨pt (pt s.tm 15 (.bool (decide (i < a.length)))) 4 (.arr (.loc 11 1) 0 a.length (some a.length) 1 false), s.loc, s.hp⟩ = some (.val (.slice none false 1 (nl .u32 L)) h) := by
   have hx := exp_arr (tm := pt (pt s.tm 15 (.bool (decide (i < a.length)))) 4 (.arr (.loc 11 1) 0 a.length (some a.length) 1 false)) (hp := s.hp) (li := some a.length) hrow
   rw [hL] at hx
   exact fin_tmp sS hx (by rw [hhp]) rfl
  refine ww_ret ⟨_, key, _, L, rfl, .inl ⟨false, rfl⟩, hdg, ?_, hL⟩
  rw [ei, List.take_length] at hvl
  rw [← hvl]
  symm
  split
  ·rw [Nat.mul_zero, Nat.add_zero, Nat.mul_div_cancel _ (Nat.two_pow_pos up)]
  ·rw [Nat.mul_one, Nat.mul_comm, Nat.mul_add_div (Nat.two_pow_pos up), Nat.div_eq_of_lt (Nat.mod_lt _ (Nat.two_pow_pos up)), Nat.add_zero]
end Go.AM.S
end
section
namespace Go.AM.S
open Go Go.AM Go.Proofs NumL
open _root_.Go.AM.G (R)
set_option maxRecDepth 100000
theorem tbl89 : tbl 89 = some ⟨rc89, [.tmp 2]⟩ := by kernel_rfl
theorem tbl84 : tbl 84 = some ⟨rc84, [.tmp 2]⟩ := by kernel_rfl
def Bits (x n : Nat) : Prop := x < 2 ^ n ∧ (0 < x → 2 ^ n ≤ 2 * x)
instance (x n : Nat) : Decidable (Bits x n) := inferInstanceAs (Decidable (_ ∧ _))
theorem idx_any (s : Str) (k : IntKind) (i : Nat) (hi : i < s.n) : idx Pg 9 (.str s) (.int k (.ofNat i)) = some (.int .u8 (.ofNat (s.get i))) := by
 have hu : G.isStr (Pg.underlying 9) = true := by rw [U9]; rfl
 show (bif G.isStr (Pg.underlying 9) then (bif Nat.blt i s.n then some (V.int .u8 (.ofNat (s.get i))) else none) else none) = _
 rw [hu, show Nat.blt i s.n = true from by rw [Nat.blt_eq]; exact hi]
 rfl
theorem len8 : ∀ i, i < 256 → Bits i (Str.get ⟨256, 1013866857139168856493015739252390649739422828853819106890363778118420553376247557433637691341895324351018602695588957474325319502760499485336098898398377509666851054660423406800006203933793007272033180812049178612605246075062580585469430410618860250057463399279570354286669047577758927328864388992123306212451509403152394148136105363817402562688186708175358218852349079190158732807302672745370040257219644697201681238697346923541678507645485296520536209706771857694240900605172937619415410180424934769249448772944216470541052485265558808433676546390051204254346932932316488017972311616136051587427851453983453479168⟩ i) ∧ Str.get ⟨256, 1013866857139168856493015739252390649739422828853819106890363778118420553376247557433637691341895324351018602695588957474325319502760499485336098898398377509666851054660423406800006203933793007272033180812049178612605246075062580585469430410618860250057463399279570354286669047577758927328864388992123306212451509403152394148136105363817402562688186708175358218852349079190158732807302672745370040257219644697201681238697346923541678507645485296520536209706771857694240900605172937619415410180424934769249448772944216470541052485265558808433676546390051204254346932932316488017972311616136051587427851453983453479168⟩ i ≤ 8 := by decide +kernel
theorem Bits.up {x n k : Nat} (h : Bits (x / 2 ^ k) n) (hx : 2 ^ k ≤ x) : Bits x (k + n) := by
 have hp := Nat.two_pow_pos k
 obtain ⟨h1, h2⟩ := h
 have h3 := h2 (Nat.div_pos hx hp)
 refine ⟨?_, fun _ => ?_⟩
 ·rw [Nat.div_lt_iff_lt_mul hp] at h1
  rwa [Nat.pow_add, Nat.mul_comm]
 ·have h4 : 2 ^ k * 2 ^ n ≤ 2 ^ k * (2 * (x / 2 ^ k)) := Nat.mul_le_mul_left _ h3
  have h5 := Nat.div_mul_le_self x (2 ^ k)
  rw [Nat.mul_comm] at h5
  rw [Nat.pow_add]
  have h6 : 2 ^ k * (2 * (x / 2 ^ k)) = 2 * (2 ^ k * (x / 2 ^ k)) := by rw [← Nat.mul_assoc, ← Nat.mul_assoc, Nat.mul_comm (2 ^ k) 2]
  omega
theorem len32_spec {x : Nat} (hx : x < 4294967296) : Gives 89 [.int .u32 (.ofNat x)] fun r => ∃ n, r = .int .i64 (.ofNat n) ∧ Bits x n ∧ n ≤ 32 := by
 refine gives_of tbl89 fun h Q hQ => ?_
 unfold rc89
 refine sR ?_
 have last : ∀ (s : St) (y n : Nat), y < 256 → n ≤ 24 → (∀ m, Bits y m → Bits x (n + m)) → gt s.tm 0 = .int .u32 (.ofNat y) → gt s.tm 2 = .int .i64 (.ofNat n) → s.hp = ⟨h.rows, none, h.mods⟩ → WW Pg kn0 tbl (.seq (.reg fun c t l h k => gn Try.f89 89 7 2 c (p14 t (g0 t)) t l h (fun v0 l0 h0 => bO (idx Pg 9 (.str ⟨256, 1013866857139168856493015739252390649739422828853819106890363778118420553376247557433637691341895324351018602695588957474325319502760499485336098898398377509666851054660423406800006203933793007272033180812049178612605246075062580585469430410618860250057463399279570354286669047577758927328864388992123306212451509403152394148136105363817402562688186708175358218852349079190158732807302672745370040257219644697201681238697346923541678507645485296520536209706771857694240900605172937619415410180424934769249448772944216470541052485265558808433676546390051204254346932932316488017972311616136051587427851453983453479168⟩) v0) fun v1 => gn Try.f89 89 7 4 c (p16 t v1) t l0 h0 (fun v2 l2 h2 => bO (bin Pg .add 3 false (g2 t) v2) fun v3 => k (p2 t v3) l2 h2))) .ret) s (fun _ => False) (fun _ _ => False) Q := by
  intro s y n hy hn hb h0 h2 hh
  obtain ⟨b1, b2⟩ := len8 y hy
  generalize hg : Str.get ⟨256, 1013866857139168856493015739252390649739422828853819106890363778118420553376247557433637691341895324351018602695588957474325319502760499485336098898398377509666851054660423406800006203933793007272033180812049178612605246075062580585469430410618860250057463399279570354286669047577758927328864388992123306212451509403152394148136105363817402562688186708175358218852349079190158732807302672745370040257219644697201681238697346923541678507645485296520536209706771857694240900605172937619415410180424934769249448772944216470541052485265558808433676546390051204254346932932316488017972311616136051587427851453983453479168⟩ y = q at b1 b2
  refine ww_seq (ww_reg (fun n k => by simp -implicitDefEqProofs (disch := omega) only [go_sem, reduceIte, Nat.reduceEqDiff, h0, h2, wrap_u8, idx_any, hg]; rfl) ?_)
  exact ww_ret (hQ _ _ (fin_tmp (v := .int .i64 (.ofNat (n + q))) sS (Ex1.int _ _ _) (by rw [hh]) rfl) ⟨_, rfl, hb q b1, by omega⟩)
 refine ww_join (M := fun s => ∃ y n, y < 65536 ∧ n ≤ 16 ∧ (∀ m, Bits y m → Bits x (n + m)) ∧ gt s.tm 0 = .int .u32 (.ofNat y) ∧ gt s.tm 2 = .int .i64 (.ofNat n) ∧ s.hp = ⟨h.rows, none, h.mods⟩) ?_ ?_
 ·refine sRG ?_
  refine ww_if (by simp only [gt_pt, reduceIte]; rfl) (fun hb => ?_) (fun hb => ww_skip ?_)
  ·have e1 : x / 2 ^ 16 < 65536 := by rw [Nat.div_lt_iff_lt_mul (by decide)]; exact hx
   refine sRG ?_
   refine sE ?_
   exact ⟨x / 2 ^ 16, 16, e1, Nat.le_refl _, fun m hm => hm.up hb, sS, sS, rfl⟩
  ·exact ⟨x, 0, by omega, by decide, fun m hm => by rwa [Nat.zero_add], sSG, sS, rfl⟩
 intro s ⟨y, n, hy, hn, hb, h0, h2, hh⟩
 refine ww_join (M := fun s => ∃ y n, y < 256 ∧ n ≤ 24 ∧ (∀ m, Bits y m → Bits x (n + m)) ∧ gt s.tm 0 = .int .u32 (.ofNat y) ∧ gt s.tm 2 = .int .i64 (.ofNat n) ∧ s.hp = ⟨h.rows, none, h.mods⟩) ?_ ?_
 ·refine sR1 h0 ?_
  refine ww_if (by simp only [gt_pt, reduceIte]; rfl) (fun hc => ?_) (fun hc => ww_skip ?_)
  ·have e1 : y / 2 ^ 8 < 256 := by rw [Nat.div_lt_iff_lt_mul (by decide)]; exact hy
   refine sR1 h0 ?_
   refine sE1 h2 ?_
   exact ⟨y / 2 ^ 8, n + 8, e1, by omega, fun m hm => by rw [Nat.add_assoc]; exact hb _ (hm.up hc), sS, sS, hh⟩
  ·exact ⟨y, n, by omega, by omega, hb, (sS1 h0), (sS1 h2), hh⟩
 ·intro s ⟨y, n, hy, hn, hb, h0, h2, hh⟩
  exact last s y n hy hn hb h0 h2 hh
theorem lz32_spec {x : Nat} (hx : x < 4294967296) (h0 : 0 < x) : Gives 84 [.int .u32 (.ofNat x)] fun r => ∃ n, r = .int .i64 (.ofNat n) ∧ n < 32 ∧ 2147483648 ≤ x * 2 ^ n ∧ x * 2 ^ n < 4294967296 := by
 refine gives_of tbl84 fun h Q hQ => ?_
 unfold rc84
 refine sR ?_
 obtain ⟨_, hr, n, rfl, ⟨b1, b2⟩, hn⟩ := len32_spec hx ⟨h.rows, none, h.mods⟩
 have b3 := b2 h0
 have hn0 : 0 < n := by
  rcases Nat.eq_zero_or_pos n with e | e
  ·subst e; simp at b1; omega
  ·exact e
 refine ww_seq (ww_call (hr) (fun n hn k => by simp -implicitDefEqProofs (disch := omega) only [go_sem, reduceIte, Nat.reduceEqDiff, gt_start, List.getD_cons_zero, List.getD_cons_succ, clc1 hn (Ex1.int _ _)]; rfl) ?_)
 have e1 : (2 : Nat) ^ n * 2 ^ (32 - n) = 4294967296 := by rw [← Nat.pow_add, Nat.add_sub_cancel' hn]
 have hp := Nat.two_pow_pos (32 - n)
 refine ww_ret (hQ _ _ (fin_tmp (v := .int .i64 (.ofNat (32 - n))) sS (Ex1.int _ _ _) rfl rfl) ⟨_, rfl, by omega, ?_, ?_⟩)
 ·have := Nat.mul_le_mul_right (2 ^ (32 - n)) b3
  rw [e1, Nat.mul_assoc] at this
  omega
 ·rw [← e1]
  exact Nat.mul_lt_mul_of_pos_right b1 hp
end Go.AM.S
end
section
namespace Go.AM.S
open Go Go.AM Go.Proofs NumL
open _root_.Go.AM.G (R)
set_option maxRecDepth 100000
theorem tbl86 : tbl 86 = some ⟨rc86, [.tmp 6]⟩ := by kernel_rfl
theorem fld26 (v : V) (l : List V) : fld Pg 26 (.agg (v :: l)) 0 = some v := by kernel_rfl
theorem m86_6_1 (c : CallF) (t' t : Tm) (l : Lo) (h : Hp) (j : V → Lo → Hp → R) : gn Try.f86 86 6 1 c t' t l h j = go1 Try.f86 86 6 1 27 (gt t' 27) c t l h j := gn_go1 (by kernel_rfl)
theorem c86_6_1 {r off len : Nat} {li : Option Nat} {L : List Nat} {h : Hp} (hlen : 0 < len) (hr : h.rows[r]? = some (.cells false (nl .u32 L))) (hb : off + len ≤ L.length) (c : CallF) (t : Tm) (l : Lo) (j : V → Lo → Hp → R) :
  go1 Try.f86 86 6 1 27 (.arr (.glob r) off len li 1 false) c t l h j = j (.tuple []) l (hset h r (.cells false (nl .u32 (put L off (List.replicate len 0))))) :=
 gen_clear (C := Cg) (gl := Cg.glob 86) (call := c) (o := opA Try.f86 6 1) (x := 27) (t := 24) (e := 86) (k := .u32) (c := { callee := .builtin .clear, args := #[.tmp 27], argTypes := #[24] }) (by kernel_rfl) (by kernel_rfl) rfl rfl rfl (by kernel_rfl) (by kernel_rfl) (by kernel_rfl) (by rw [gt_pt, if_pos rfl]) hlen hr hb
theorem c86_7_2 {r off len : Nat} {li : Option Nat} {L ys : List Nat} {w : V} {h : Hp} {l : Lo} (hw : ∀ tm, itemsOf ⟨tm, l, h⟩ w = some (nl .u32 ys)) (hys : ys.length ≤ len) (hr : h.rows[r]? = some (.cells false (nl .u32 L))) (hb : off + len ≤ L.length) (c : CallF) (t : Tm) (j : V → Lo → Hp → R) :
  go2 Try.f86 86 7 2 28 29 (.arr (.glob r) off len li 1 false) w c t l h j = j (.int .i64 (.ofNat ys.length)) l (hset h r (.cells false (nl .u32 (put L off ys)))) :=
 gen_copy (C := Cg) (gl := Cg.glob 86) (call := c) (o := opA Try.f86 7 2) (d := 30) (x := 28) (y := 29) (t := 24) (e := 86) (k := .u32) (c := { callee := .builtin .copy, args := #[.tmp 28, .tmp 29], argTypes := #[24, 24] }) (by kernel_rfl) (by kernel_rfl) rfl rfl rfl (by kernel_rfl) (by kernel_rfl) (by decide) (hw _) hys hr hb
theorem put_put {L a b : List Nat} {i : Nat} (h : b.length ≤ a.length) (hi : i + a.length ≤ L.length) : put (put L i a) i b = put L i (b ++ a.drop b.length) := by
 have e1 : (put L i a).take i = L.take i := by
  unfold put
  rw [List.append_assoc, List.take_append_of_le_length (by simp; omega), List.take_take, Nat.min_self]
 have e2 : (put L i a).drop (i + b.length) = a.drop b.length ++ L.drop (i + a.length) := by
  unfold put
  rw [List.append_assoc, List.drop_append, List.length_take, Nat.min_eq_left (by omega), List.drop_eq_nil_of_le (by simp; omega), List.nil_append, Nat.add_sub_cancel_left, List.drop_append, Nat.sub_eq_zero_of_le h]
  rfl
 have e3 : (b ++ a.drop b.length).length = a.length := by simp; omega
 show (put L i a).take i ++ b ++ (put L i a).drop (i + b.length) = L.take i ++ (b ++ a.drop b.length) ++ L.drop (i + (b ++ a.drop b.length).length)
 rw [e1, e2, e3]
 simp only [List.append_assoc]
theorem vl_pad (B : Nat) (a : List Nat) (n : Nat) : vl B (a ++ List.replicate n 0) = vl B a := by rw [vl_append, vl_rep0]; simp
theorem len_le {B : Nat} (hB : 0 < B) {a b : List Nat} (da : Dg B a) (cb : Cn b) (h : vl B b ≤ vl B a) : b.length ≤ a.length := by
 rcases Nat.lt_or_ge a.length b.length with h1 | h1
 ·have := vl_lt_len hB da cb h1; omega
 ·exact h1
theorem back_set {h h' : Hp} {r : Nat} {row : Row} {l : List V} (hr : r < h.rows.length) : (backHp h (hset h' r row) l).rows = (hset h' r row).rows := by
 have hc : cleanB h (hset h' r row) = false := by
  have hd : (hset h' r row).dirty = lower h'.dirty r := rfl
  unfold cleanB
  rw [hd]
  cases h'.dirty with
  | none =>
   show Nat.ble h.rows.length r = false
   cases hb : Nat.ble h.rows.length r with
   | false => rfl
   | true => rw [Nat.ble_eq] at hb; omega
  | some x =>
   show Nat.ble h.rows.length (min x r) = false
   cases hb : Nat.ble h.rows.length (min x r) with
   | false => rfl
   | true => rw [Nat.ble_eq] at hb; omega
 unfold backHp
 rw [hc]; rfl
theorem takes_runs {n r0 r1 i m q lb : Nat} {li lj : Option Nat} {L Lb : List Nat} {fb : Bool} {h : Hp} (hr0 : h.rows[r0]? = some (.cells false (nl .u32 L))) (hr1 : h.rows[r1]? = some (.cells fb (nl .u32 Lb))) (dL : Dg B L) (dLb : Dg B Lb) (hne : r0 ≠ r1)
  (him : i + m ≤ L.length) (hm : 0 < m) (hlb : lb ≤ Lb.length) (hb : 0 < lb) (lL : L.length ≤ 1000000) (lLb : Lb.length ≤ 900000) (hq : q < 4294967296) (hn : DG n h) (hn0 : n ≤ r0) :
  ∃ ok h', Runs Pg kn0 tbl 86 [.arr (.glob r0) i m li 1 false, .arr (.glob r1) 0 lb lj 1 false, .int .u64 (.ofNat q)] h (.val (.bool ok) h') ∧ DG n h' ∧ h.rows.length ≤ h'.rows.length ∧ (∀ p, p < h.rows.length → p ≠ r0 → h'.rows[p]? = h.rows[p]?) ∧
   (ok = false → vl B ((L.drop i).take m) < vl B (Lb.take lb) * q ∧ h' = h) ∧ (ok = true → ∃ c, c.length = m ∧ Dg B c ∧ vl B c + vl B (Lb.take lb) * q = vl B ((L.drop i).take m) ∧ h'.rows[r0]? = some (.cells false (nl .u32 (put L i c)))) := by
 let Post : Out → Prop := fun o => ∃ ok h', o = .val (.bool ok) h' ∧ DG n h' ∧ h.rows.length ≤ h'.rows.length ∧ (∀ p, p < h.rows.length → p ≠ r0 → h'.rows[p]? = h.rows[p]?) ∧
   (ok = false → vl B ((L.drop i).take m) < vl B (Lb.take lb) * q ∧ h' = h) ∧ (ok = true → ∃ c, c.length = m ∧ Dg B c ∧ vl B c + vl B (Lb.take lb) * q = vl B ((L.drop i).take m) ∧ h'.rows[r0]? = some (.cells false (nl .u32 (put L i c))))
 suffices hw : WW Pg kn0 tbl rc86 ⟨startTm [.arr (.glob r0) i m li 1 false, .arr (.glob r1) 0 lb lj 1 false, .int .u64 (.ofNat q)], .lf, ⟨h.rows, none, h.mods⟩⟩ (fun s => ∃ o, fin Pg h [.tmp 6] s = some o ∧ Post o) (fun _ _ => False) (fun s => ∃ o, fin Pg h [.tmp 6] s = some o ∧ Post o) by
  obtain ⟨o, h1, ok, h', rfl, h2⟩ := runs_ex (kn := kn0) (h := h) rfl tbl86 hw
  exact ⟨ok, h', h1, h2⟩
 have hl0 : r0 < h.rows.length := by
  rcases Nat.lt_or_ge r0 h.rows.length with h1 | h1
  ·exact h1
  ·rw [List.getElem?_eq_none h1] at hr0; simp at hr0
 unfold rc86
 refine sR ?_
 have hbl : (Lb.take lb).length = lb := by rw [List.length_take, Nat.min_eq_left hlb]
 have hbne : Lb.take lb ≠ [] := fun e => by rw [e] at hbl; simp at hbl; omega
 have hcl1 := clone_runs (va := .arr (.glob r1) 0 lb lj 1 false) ⟨h.rows, none, h.mods⟩ (by intro e; cases e) (.inr ⟨_, _, _, _, rfl⟩) hbne (by omega) (fun tm loc => by
  have := items_glob (tm := tm) (loc := loc) (h := ⟨h.rows, none, h.mods⟩) (li := lj) hr1 (off := 0) (len := lb) (by omega)
  rwa [List.drop_zero] at this)
 obtain ⟨v2, h2, d2, hg2, gr2, dd2, vl2, ll2, HG2, vn2, le2⟩ := grown_runs (n := h.rows.length) (h := hadd ⟨h.rows, none, h.mods⟩ (.cells false (nl .u32 (Lb.take lb)))) (v := .arr (.glob h.rows.length) 0 (Lb.take lb).length none 1 false) q 0 (.inr ⟨hbne, _, rfl, hadd_at _ _⟩) (dLb.take lb) (by omega) hq (by decide) (fun x hx => by cases hx) (fun r e => by cases e; exact Nat.le_refl _) (by rw [hadd_len]; exact Nat.le_succ _)
 rcases gr2 with ⟨e2, _⟩ | ⟨ne2, r2, rfl, hr2⟩
 ·exfalso; rw [e2] at le2; simp only [List.length_nil] at le2; omega
 obtain ⟨u3, h3, d3, hg3, ⟨⟨s3, rfl, hs3⟩, dd3, cd3, _⟩, ht3, HG3, rl3⟩ := made_glob (n := h.rows.length) hr2 dd2 (by omega) false HG2.dg (vn2 _ rfl)
 have hrl2 := HG2.len
 rw [hadd_len] at hrl2
 have hrl2' : h.rows.length + 1 ≤ h2.rows.length := hrl2
 have same3 : ∀ p, p < h.rows.length → h3.rows[p]? = h.rows[p]? := by
  intro p hp
  have hp2 := vn2 _ rfl
  rw [HG3.same p (by omega) (by intro e; cases e; omega), HG2.same p (by rw [hadd_len]; exact Nat.lt_succ_of_lt hp) (by intro e; cases e; omega)]
  exact hadd_lt ⟨h.rows, none, h.mods⟩ _ hp
 refine ww_seq (ww_call (hcl1.and (hg2.and hg3)) (fun n hn k => by simp -implicitDefEqProofs (disch := omega) only [go_sem, reduceIte, Nat.reduceEqDiff, gt_start, List.getD_cons_zero, List.getD_cons_succ, clc1 hn.1 (Ex1.glob _ _ _ _ _ _), clc3 hn.2.1 (Ex1.glob _ _ _ _ _ _) (Ex1.int _ _) (Ex1.int _ _), clc2 hn.2.2 (Ex1.glob _ _ _ _ _ _) (Ex1.bool _), fld26]; rfl) ?_)
 have hpl : ((L.drop i).take m).length = m := by rw [List.length_take, List.length_drop, Nat.min_eq_left (by omega)]
 have hpne : (L.drop i).take m ≠ [] := fun e => by rw [e] at hpl; simp at hpl; omega
 have hr03 : h3.rows[r0]? = some (.cells false (nl .u32 L)) := by rw [same3 _ hl0]; exact hr0
 have hcl4 := clone_runs (va := .arr (.glob r0) i m li 1 false) h3 (by intro e; cases e) (.inr ⟨_, _, _, _, rfl⟩) hpne (by omega) (fun tm loc => items_glob (tm := tm) (loc := loc) (h := ⟨h3.rows, none, h3.mods⟩) (li := li) hr03 (off := i) (len := m) him)
 have hrl3 : h.rows.length ≤ h3.rows.length := by omega
 obtain ⟨u5, h5, d5, hg5, ⟨⟨s5, rfl, hs5⟩, dd5, cd5, _⟩, ht5, HG5, rl5⟩ := made_glob (n := h.rows.length) (h := hadd h3 (.cells false (nl .u32 ((L.drop i).take m)))) (hadd_at _ _) ((dL.drop i).take m) (by omega) false (HG3.dg.add _) hrl3
 have hrl5 : h.rows.length ≤ h5.rows.length := by rw [rl5, hadd_len]; omega
 have same5 : ∀ p, p < h.rows.length → h5.rows[p]? = h.rows[p]? := by
  intro p hp
  rw [HG5.same p (by rw [hadd_len]; omega) (by intro e; cases e; omega), hadd_lt _ _ (by omega)]
  exact same3 p hp
 refine ww_seq (ww_call (hcl4.and hg5) (fun n hn k => by simp -implicitDefEqProofs (disch := omega) only [go_sem, reduceIte, Nat.reduceEqDiff, gt_start, List.getD_cons_zero, List.getD_cons_succ, clc1 hn.1 (Ex1.glob _ _ _ _ _ _), clc2 hn.2 (Ex1.glob _ _ _ _ _ _) (Ex1.bool _), fld26]; rfl) ?_)
 have v3 : vl B d3 = vl B (Lb.take lb) * q := by rw [ht3.vl, vl2, Nat.add_zero]
 have v5 : vl B d5 = vl B ((L.drop i).take m) := ht5.vl B
 have l3 := ht3.len
 have l5 := ht5.len
 obtain ⟨_, hcm, rfl⟩ := compare_spec hs3 hs5 dd3 dd5 cd3 cd5 (by omega) (by omega) h5
 rcases Nat.lt_or_ge (vl B d5) (vl B d3) with hlt | hge
 ·have hc : cmpI (vl B d3) (vl B d5) = .ofNat 1 := by unfold cmpI; rw [if_neg (by omega), if_pos hlt]
  rw [hc] at hcm
  refine ww_seq (ww_seq (ww_call (hcm) (fun n hn k => by simp -implicitDefEqProofs (disch := omega) only [go_sem, reduceIte, Nat.reduceEqDiff, clc2 hn hs3.ex hs5.ex, d_true]; rfl) ?_))
  refine ww_true sS ?_
  refine sR ?_
  refine ww_ret ⟨_, fin_tmpD (v := .bool false) sS (Ex1.bool _) HG5.dg rfl, false, h, rfl, hn, Nat.le_refl _, fun _ _ _ => rfl, fun _ => ⟨by rw [← v3, ← v5]; exact hlt, rfl⟩, fun e => by cases e⟩
 ·have hc : ∃ z, cmpI (vl B d3) (vl B d5) = z ∧ bin Pg .gtr 3 true (.int .i64 z) (.int .i64 (.ofNat 0)) = some (.bool false) := by
   unfold cmpI
   rcases Nat.lt_or_ge (vl B d3) (vl B d5) with h1 | h1
   ·exact ⟨_, rfl, by rw [if_pos h1]; rfl⟩
   ·exact ⟨_, rfl, by rw [if_neg (by omega), if_neg (by omega)]; rfl⟩
  obtain ⟨z, hz, hzb⟩ := hc
  rw [hz] at hcm
  refine ww_seq (ww_seq (ww_call (hcm) (fun n hn k => by simp -implicitDefEqProofs (disch := omega) only [go_sem, reduceIte, Nat.reduceEqDiff, clc2 hn hs3.ex hs5.ex, hzb]; rfl) ?_))
  refine ww_false sS (ww_skip ?_)
  have hll : d3.length ≤ d5.length := len_le (by decide) dd5 cd3 hge
  obtain ⟨w6, hmi, c, hsc, dc, vc, lc⟩ := minus_spec hs5 hs3 dd5 dd3 (by omega) hll hge h5
  refine ww_seq (ww_call (hmi) (fun n hn k => by simp -implicitDefEqProofs (disch := omega) only [go_sem, reduceIte, Nat.reduceEqDiff, clc2 hn hs5.ex hs3.ex]; rfl) ?_)
  have hr05 : h5.rows[r0]? = some (.cells false (nl .u32 L)) := by rw [same5 _ hl0]; exact hr0
  refine ww_seq (ww_reg (fun n k => by simp -implicitDefEqProofs (disch := omega) only [go_sem, reduceIte, Nat.reduceEqDiff, gt_start, List.getD_cons_zero, List.getD_cons_succ, m86_6_1, c86_6_1 hm hr05 him]; rfl) ?_)
  have hr06 := hset_at h5 (row := .cells false (nl .u32 (put L i (List.replicate m 0)))) hr05
  have hpz : (put L i (List.replicate m 0)).length = L.length := put_length (by simpa using him)
  refine ww_seq (ww_reg (fun n k => by simp -implicitDefEqProofs (disch := omega) only [go_sem, reduceIte, Nat.reduceEqDiff, gt_start, List.getD_cons_zero, List.getD_cons_succ, c86_7_2 (fun tm => items_sl hsc _) (show c.length ≤ m by omega) hr06 (by rw [hpz]; exact him)]; rfl) ?_)
  refine sR ?_
  have hrow := hset_at (hset h5 r0 (.cells false (nl .u32 (put L i (List.replicate m 0))))) (row := .cells false (nl .u32 (put (put L i (List.replicate m 0)) i c))) hr06
  have hpp : put (put L i (List.replicate m 0)) i c = put L i (c ++ List.replicate (m - c.length) 0) := by rw [put_put (by simp; omega) (by simpa using him), List.drop_replicate]
  have hd6 : DG n (hset (hset h5 r0 (.cells false (nl .u32 (put L i (List.replicate m 0))))) r0 (.cells false (nl .u32 (put (put L i (List.replicate m 0)) i c)))) := (DG.set (n := n) (fun x hx => Nat.le_trans (by omega) (HG5.dg x hx)) hn0 _).set hn0 _
  refine ww_ret ⟨.val (.bool true) (backHp h (hset (hset h5 r0 (.cells false (nl .u32 (put L i (List.replicate m 0))))) r0 (.cells false (nl .u32 (put (put L i (List.replicate m 0)) i c)))) [.bool true]), ?_, true, _, rfl, hn.back hd6 _, ?_⟩
  ·unfold fin
   simp only [resV, rho_gt, Option.map_some]
   rw [show ∀ t w, gt (pt t 6 w) 6 = w from fun t w => sS]
   rfl
  rw [back_set hl0]
  refine ⟨by rw [hset_len, hset_len]; exact hrl5, fun p hp hne => by rw [hset_ne _ hne, hset_ne _ hne]; exact same5 p hp, (fun e => by cases e), fun _ => ⟨c ++ List.replicate (m - c.length) 0, by simp; omega, ?_, by rw [vl_pad, ← v3, ← v5]; exact vc, by rw [hrow, hpp]⟩⟩
  intro x hx
  rcases List.mem_append.1 hx with h1 | h1
  ·exact dc x h1
  ·rw [List.eq_of_mem_replicate h1]; decide
end Go.AM.S
end
section
namespace Go.AM.S
open Go Go.AM Go.Proofs NumL
open _root_.Go.AM.G (R)
set_option maxRecDepth 100000
section
variable {C : Cfg} {P : Program} {call : CallF} {gl : Nat → Bool} {o : Oper} {t' tm : Tm} {loc : Lo} {hp : Hp}
theorem genD_cv {d x : Nat} {s t : TypeId} {ks kd k : IntKind} {n : Int} {J : JD} {X : XD} (hd : o.dst = some d) (ho : o.op = .convert s t (.tmp x)) (h1 : P.underlying s = some (.int ks)) (h2 : P.underlying t = some (.int kd)) (hv : gt t' x = .int k n) :
  genD P C call gl o t' loc hp J X = J (.int kd (F.wrapI kd n)) ⟨[], [], false, false, false, false⟩ loc hp := by
 have hp1 : locV P C gl (⟨t', loc, hp⟩ : St).ρ (⟨t', loc, hp⟩ : St).lc o = some (.int kd (F.wrapI kd n), none) := by
  unfold locV
  simp only [ho, pureV, opd_gt, hv, convV, h1, h2, F.wrapI_eq, Option.map_some]
 have hf : footV P C gl (⟨t', loc, hp⟩ : St).ρ (⟨t', loc, hp⟩ : St).lc o = some ⟨[], [], false, false, false, false⟩ := by
  unfold footV
  rw [hp1]
  simp only [ho]
 have hs : stepV P C gl ⟨t', loc, hp⟩ o = some (.val (.int kd (F.wrapI kd n)) ⟨t', loc, hp⟩) := by
  unfold stepV
  rw [hp1]; rfl
 unfold genD
 rw [F.e_footV, F.e_oneV, F.e_rho, F.e_lcf, hf]
 show G.onSome (oneV P C call gl ⟨t', loc, hp⟩ o) _ none = _
 unfold oneV
 rw [hs]
 have e1 : F.settle hp hp ⟨[], [], false, false, false, false⟩ = ⟨[], [], false, false, false, false⟩ := by
  unfold F.settle
  rw [Nat.beq_refl, Nat.beq_refl]; rfl
 simp only [putV, hd]
 show J (gt (aset t' d (V.int kd (F.wrapI kd n))) d) (F.settle hp hp ⟨[], [], false, false, false, false⟩) loc hp = _
 rw [gt_eq, aget_aset, if_pos rfl, e1]
end
theorem dv78_7 (k : IntKind) (n : Int) (c : CallF) (t : Tm) (l : Lo) (h : Hp) (J : JD) (X : XD) : gD Try.f78 78 18 7 c (pt t 97 (.int k n)) l h J X = J (.int .u64 (F.wrapI .u64 n)) ⟨[], [], false, false, false, false⟩ l h :=
 genD_cv (C := Cg) (gl := Cg.glob 78) (call := c) (o := opA Try.f78 18 7) (d := 98) (x := 97) (s := 86) (t := 80) (by kernel_rfl) (by kernel_rfl) U86 U80 (by rw [gt_pt, if_pos rfl])
theorem dv78_15 (k : IntKind) (n : Int) (c : CallF) (t : Tm) (l : Lo) (h : Hp) (J : JD) (X : XD) : gD Try.f78 78 18 15 c (pt t 105 (.int k n)) l h J X = J (.int .u64 (F.wrapI .u64 n)) ⟨[], [], false, false, false, false⟩ l h :=
 genD_cv (C := Cg) (gl := Cg.glob 78) (call := c) (o := opA Try.f78 18 15) (d := 106) (x := 105) (s := 86) (t := 80) (by kernel_rfl) (by kernel_rfl) U86 U80 (by rw [gt_pt, if_pos rfl])
structure Norm (b : List Nat) (up : Nat) (Lb : List Nat) : Prop where
 len : Lb.length = b.length + 1
 dg : Dg B Lb
 v : vl B (Lb.take b.length) = vl B b * 2 ^ up
 top : 0 < Lb.getD (b.length - 1) 0
 lead : Lb.getD (b.length - 1) 0 * B ^ (b.length - 1) ≤ vl B b * 2 ^ up
 high : 2147483648 * B ^ (b.length - 1) ≤ vl B b * 2 ^ up
theorem norm_of {b Lb : List Nat} {up : Nat} (hb : b ≠ []) (db : Dg B b) (hu : up < 32) (h1 : 2147483648 ≤ b.getD (b.length - 1) 0 * 2 ^ up) (h2 : b.getD (b.length - 1) 0 * 2 ^ up < 4294967296)
  (hl : Lb.length = b.length + 1) (dL : Dg B Lb) (hv : vl B Lb = vl B b * 2 ^ up) : Norm b up Lb := by
 have hp : 0 < b.length := List.length_pos_iff.2 hb
 have hB : 0 < B := by decide
 have hu0 := Nat.two_pow_pos up
 have eb := vl_at B b (b.length - 1) (by omega)
 rw [List.drop_eq_nil_of_le (show b.length ≤ b.length - 1 + 1 by omega)] at eb
 simp only [vl, Nat.mul_zero, Nat.add_zero] at eb
 have t1 : vl B (b.take (b.length - 1)) < B ^ (b.length - 1) := vl_lt_of hB (db.take _) (by simp)
 have hpow : B ^ b.length = B ^ (b.length - 1) * B := by rw [← Nat.pow_succ]; congr 1; omega
 generalize hx : b.getD (b.length - 1) 0 = x at *
 generalize hP : B ^ (b.length - 1) = p at *
 have hx1 : (x + 1) * 2 ^ up ≤ 4294967296 := by
  have e5 : (4294967296 : Nat) = 2 ^ (32 - up) * 2 ^ up := by rw [← Nat.pow_add, Nat.sub_add_cancel (by omega)]
  rw [e5] at h2 ⊢
  exact Nat.mul_le_mul_right _ (Nat.lt_of_mul_lt_mul_right h2)
 have hlt : vl B b * 2 ^ up < B ^ b.length := by
  rw [hpow]
  have h3 : vl B b < p * (x + 1) := by rw [eb, Nat.mul_add, Nat.mul_one]; omega
  have h4 : vl B b * 2 ^ up < p * (x + 1) * 2 ^ up := Nat.mul_lt_mul_of_pos_right h3 hu0
  rw [Nat.mul_assoc] at h4
  exact Nat.lt_of_lt_of_le h4 (Nat.mul_le_mul_left _ hx1)
 have hvt : vl B (Lb.take b.length) = vl B b * 2 ^ up := by
  rw [← vl_mod B hB Lb dL, hv, Nat.mod_eq_of_lt hlt]
 have hhigh : 2147483648 * p ≤ vl B b * 2 ^ up := by
  have h3 : p * x ≤ vl B b := by rw [eb]; omega
  have h4 : p * x * 2 ^ up ≤ vl B b * 2 ^ up := Nat.mul_le_mul_right _ h3
  have h5 : p * 2147483648 ≤ p * (x * 2 ^ up) := Nat.mul_le_mul_left _ h1
  rw [Nat.mul_assoc] at h4
  rw [Nat.mul_comm]
  omega
 have el := vl_at B (Lb.take b.length) (b.length - 1) (by simp; omega)
 have et : (Lb.take b.length).getD (b.length - 1) 0 = Lb.getD (b.length - 1) 0 := getD_take _ _ _ (by omega)
 rw [List.drop_eq_nil_of_le (show (Lb.take b.length).length ≤ b.length - 1 + 1 by simp; omega), et, hvt, hP] at el
 simp only [vl, Nat.mul_zero, Nat.add_zero] at el
 have t2 : vl B ((Lb.take b.length).take (b.length - 1)) < p := by rw [← hP]; exact vl_lt_of hB ((dL.take _).take _) (by simp; omega)
 have hp0 : 0 < p := by rw [← hP]; exact Nat.pow_pos hB
 refine ⟨hl, dL, hvt, ?_, ?_, by rw [hP]; exact hhigh⟩
 ·rcases Nat.eq_zero_or_pos (Lb.getD (b.length - 1) 0) with e | e
  ·rw [e, Nat.mul_zero, Nat.add_zero] at el; omega
  ·exact e
 ·rw [hP, el, Nat.mul_comm]; omega
theorem guess_ok {rv bv bt two p : Nat} (hbt : 0 < bt) (hp : rv < (two + 1) * p) (hl : bt * p ≤ bv) (hB : rv < bv * B) : rv < bv * (min (two / bt) 4294967295 + 1) := by
 rcases Nat.lt_or_ge (two / bt) 4294967295 with h | h
 ·rw [Nat.min_eq_left (by omega)]
  have h1 : two + 1 ≤ bt * (two / bt + 1) := by
   have := Nat.lt_mul_div_succ two hbt
   omega
  calc rv < (two + 1) * p := hp
   _ ≤ bt * (two / bt + 1) * p := Nat.mul_le_mul_right _ h1
   _ = bt * p * (two / bt + 1) := by rw [Nat.mul_assoc, Nat.mul_comm (two / bt + 1), ← Nat.mul_assoc]
   _ ≤ bv * (two / bt + 1) := Nat.mul_le_mul_right _ hl
 ·rw [Nat.min_eq_right h]; exact hB
structure Div (a' bv lb la i : Nat) (L O : List Nat) : Prop where
 len : L.length = la + 1
 olen : O.length = la
 dg : Dg B L
 odg : Dg B O
 eq : vl B L + bv * vl B O = a'
 low : vl B (L.drop i) < bv
 zero : ∀ j, j < i → O.getD j 0 = 0
theorem div_start {a L : List Nat} {up lb bv : Nat} (da : Dg B a) (hl : L.length = a.length + 1) (dL : Dg B L) (hv : vl B L = vl B a * 2 ^ up) (hu : up < 32) (hlb : 0 < lb) (hla : lb ≤ a.length) (hh : 2147483648 * B ^ (lb - 1) ≤ bv) :
  Div (vl B a * 2 ^ up) bv lb a.length (a.length - lb + 1) L (List.replicate a.length 0) := by
 refine ⟨hl, by simp, dL, dg_rep0 _, by rw [vl_rep0, hv]; simp, ?_, fun j _ => getD_rep0 _ j⟩
 have hB : 0 < B := by decide
 rw [← vl_div B hB L dL, hv, Nat.div_lt_iff_lt_mul (Nat.pow_pos hB)]
 have h1 : vl B a < B ^ a.length := vl_lt_of hB da (Nat.le_refl _)
 have h2 : (2 : Nat) ^ up ≤ 2147483648 := Nat.pow_le_pow_right (n := 2) (by decide) (show up ≤ 31 by omega)
 have h3 : B ^ a.length = B ^ (lb - 1) * B ^ (a.length - lb + 1) := by rw [← Nat.pow_add]; congr 1; omega
 calc vl B a * 2 ^ up < B ^ a.length * 2 ^ up := Nat.mul_lt_mul_of_pos_right h1 (Nat.two_pow_pos up)
  _ ≤ B ^ a.length * 2147483648 := Nat.mul_le_mul_left _ h2
  _ = 2147483648 * B ^ (lb - 1) * B ^ (a.length - lb + 1) := by rw [h3, Nat.mul_comm, Nat.mul_assoc]
  _ ≤ bv * B ^ (a.length - lb + 1) := Nat.mul_le_mul_right _ hh
theorem Div.rest {a' bv lb la i : Nat} {L O : List Nat} (D : Div a' bv lb la (i + 1) L O) (hb : bv < B ^ lb) (hi : i + lb ≤ la) : vl B (L.drop (i + lb + 1)) = 0 := by
 have h1 := D.low
 have h2 := vl_split B (L.drop (i + 1)) lb
 have hl := D.len
 rw [Nat.min_eq_left (show lb ≤ (L.drop (i + 1)).length by simp; omega), List.drop_drop, show i + 1 + lb = i + lb + 1 by omega] at h2
 rcases Nat.eq_zero_or_pos (vl B (L.drop (i + lb + 1))) with e | e
 ·exact e
 ·exfalso
  have : B ^ lb * 1 ≤ B ^ lb * vl B (L.drop (i + lb + 1)) := Nat.mul_le_mul_left _ e
  omega
theorem Div.part {a' bv lb la i : Nat} {L O : List Nat} (D : Div a' bv lb la (i + 1) L O) (hb : bv < B ^ lb) (hi : i + lb ≤ la) : vl B ((L.drop i).take (lb + 1)) = vl B (L.drop i) := by
 have h2 := vl_split B (L.drop i) (lb + 1)
 rw [List.drop_drop, show i + (lb + 1) = i + lb + 1 by omega, D.rest hb hi] at h2
 omega
theorem Div.lt {a' bv lb la i : Nat} {L O : List Nat} (D : Div a' bv lb la (i + 1) L O) (hi : i + lb ≤ la) : vl B (L.drop i) < bv * B := by
 have hl := D.len
 rw [vl_drop_cons B L i (by omega)]
 have h1 := D.low
 have h2 : L.getD i 0 < B := D.dg.get (by decide) i
 have h3 : B * (vl B (L.drop (i + 1)) + 1) ≤ B * bv := Nat.mul_le_mul_left _ h1
 rw [Nat.mul_add, Nat.mul_one] at h3
 rw [Nat.mul_comm bv]
 omega
theorem Div.two {a' bv lb la i : Nat} {L O : List Nat} (D : Div a' bv lb la (i + 1) L O) (hb : bv < B ^ lb) (hi : i + lb ≤ la) (hlb : 0 < lb) : vl B (L.drop i) < (L.getD (i + lb) 0 * 4294967296 + L.getD (i + (lb - 1)) 0 + 1) * B ^ (lb - 1) := by
 have hl := D.len
 have h2 := vl_split B (L.drop i) (lb - 1)
 rw [Nat.min_eq_left (show lb - 1 ≤ (L.drop i).length by simp; omega), List.drop_drop, vl_drop_cons B L (i + (lb - 1)) (by omega), show i + (lb - 1) + 1 = i + lb by omega, vl_drop_cons B L (i + lb) (by omega), D.rest hb hi, Nat.mul_zero, Nat.add_zero] at h2
 have h3 : vl B ((L.drop i).take (lb - 1)) < B ^ (lb - 1) := vl_lt_of (by decide) ((D.dg.drop i).take _) (by simp; omega)
 rw [h2, Nat.mul_comm _ (B ^ (lb - 1)), Nat.mul_add (B ^ (lb - 1)) _ 1, Nat.mul_one, show L.getD (i + lb) 0 * 4294967296 + L.getD (i + (lb - 1)) 0 = L.getD (i + (lb - 1)) 0 + B * L.getD (i + lb) 0 by rw [Nat.mul_comm, Nat.add_comm]]
 omega
theorem Div.next {a' bv lb la i q : Nat} {L O c : List Nat} (D : Div a' bv lb la (i + 1) L O) (hb : bv < B ^ lb) (hi : i + lb ≤ la) (hlb : 0 < lb) (hc : c.length = lb + 1) (dc : Dg B c) (hv : vl B c + bv * q = vl B (L.drop i)) (hlt : vl B c < bv) (hq : q < B) :
  Div a' bv lb la i (put L i c) (O.set i q) := by
 have hl := D.len
 have ho := D.olen
 have e1 : vl B ((put L i c).drop i) = vl B c := by
  unfold put
  rw [List.append_assoc, List.drop_append, List.length_take, Nat.min_eq_left (by omega), List.drop_eq_nil_of_le (by simp; omega), List.nil_append, Nat.sub_self, List.drop_zero, vl_append, hc, show i + (lb + 1) = i + lb + 1 by omega, D.rest hb hi, Nat.mul_zero, Nat.add_zero]
 have e2 : (put L i c).take i = L.take i := by
  unfold put
  rw [List.append_assoc, List.take_append_of_le_length (by simp; omega), List.take_take, Nat.min_self]
 have hpl : (put L i c).length = L.length := put_length (by omega)
 refine ⟨hpl.trans hl, by simp [ho], ?_, D.odg.set _ hq, ?_, by rw [e1]; exact hlt, fun j hj => by rw [getD_set_ne _ _ _ _ (by omega)]; exact D.zero j (by omega)⟩
 ·intro x hx
  unfold put at hx
  rcases List.mem_append.1 hx with h1 | h1
  ·rcases List.mem_append.1 h1 with h2 | h2
   ·exact D.dg.take i x h2
   ·exact dc x h2
  ·exact D.dg.drop _ x h1
 ·have s1 := vl_split B (put L i c) i
  have s2 := vl_split B L i
  rw [e1, e2, hpl] at s1
  rw [Nat.min_eq_left (by omega)] at s1 s2
  have s3 := vl_set B O i q (by omega)
  rw [D.zero i (by omega), Nat.mul_zero, Nat.add_zero] at s3
  have s4 := D.eq
  rw [s1, s3, Nat.mul_add]
  rw [s2, ← hv] at s4
  rw [Nat.mul_add] at s4
  have s5 : bv * (B ^ i * q) = B ^ i * (bv * q) := by rw [← Nat.mul_assoc, ← Nat.mul_assoc, Nat.mul_comm bv]
  omega
theorem div_end {va vb up lb la : Nat} {L O : List Nat} (D : Div (va * 2 ^ up) (vb * 2 ^ up) lb la 0 L O) : vl B O * vb + vl B L / 2 ^ up = va ∧ vl B L / 2 ^ up < vb := by
 have h1 := D.eq
 have h2 := D.low
 have hp := Nat.two_pow_pos up
 rw [List.drop_zero] at h2
 have h3 : vl B L / 2 ^ up < vb := by rw [Nat.div_lt_iff_lt_mul hp]; exact h2
 refine ⟨?_, h3⟩
 have h4 : vl B L / 2 ^ up + vb * vl B O = va := by
  have e : vl B L + vb * vl B O * 2 ^ up = va * 2 ^ up := by rw [← h1, Nat.mul_assoc vb, Nat.mul_comm (vl B O), ← Nat.mul_assoc]
  have e2 : (vl B L + vb * vl B O * 2 ^ up) / 2 ^ up = va := by rw [e, Nat.mul_div_cancel _ hp]
  rwa [Nat.add_mul_div_right _ _ hp] at e2
 rw [Nat.mul_comm]; omega
end Go.AM.S
end
section
namespace Go.AM.S
open Go Go.AM Go.Proofs NumL
open _root_.Go.AM.G (R)
set_option maxRecDepth 100000
theorem tbl78 : tbl 78 = some ⟨rc78, [.tmp 4, .tmp 5]⟩ := by kernel_rfl
theorem fin_arr_two {h : Hp} {a b d g n : Nat} {li : Option Nat} {k : IntKind} {l : List Nat} {s : St} {w : V} (hv : gt s.tm a = .arr (.loc d g) 0 n li 1 false) (hn : n = l.length) (hr : lg s.loc d = (g, .cells false (nl k l))) (hw : gt s.tm b = w) (pw : Ex1 w) (rw' : w.noRefs = true) (hd : DG h.rows.length s.hp) :
  fin Pg h [.tmp a, .tmp b] s = some (.val (.tuple [.slice none false 1 (nl k l), w]) h) := by
 subst hn
 unfold fin
 have e1 : resV Pg s [.tmp a, .tmp b] = some [.arr (.loc d g) 0 l.length li 1 false, w] := by simp only [resV, rho_gt, hv, hw, Option.map_some]
 rw [e1]
 have e2 : exps false s [.arr (.loc d g) 0 l.length li 1 false, w] = some ([.slice none false 1 (nl k l), w], ⟨s.tm, lp s.loc d (g, .cells true (nl k l)), s.hp⟩) := by
  rw [show ∀ (st : St) (v : V) (r : List V), exps false st (v :: r) = (match exp false st v with
   | none => none
   | some (v', st') => match exps false st' r with
    | none => none
    | some (l', st'') => some (v' :: l', st'')) from fun _ _ _ => rfl]
  have hx := exp_arr (tm := s.tm) (hp := s.hp) (li := li) hr
  have hx' : exp false s (.arr (.loc d g) 0 l.length li 1 false) = some (.slice none false 1 (nl k l), ⟨s.tm, lp s.loc d (g, .cells true (nl k l)), s.hp⟩) := hx
  rw [hx']
  simp only [exps_ex [w] _ ⟨pw, trivial⟩]
 simp only [e2]
 show some (Out.val (.tuple [.slice none false 1 (nl k l), w]) (backHp h s.hp [.slice none false 1 (nl k l), w])) = _
 unfold backHp
 rw [clean_dg hd]
 simp only [V.noRefsL, V.noRefs, rw', Bool.and_self, cond_true, Option.isNone_none]
theorem short_bound {n x b : Nat} (hn : n < b) (hb : b ≤ 4294967296) (hx : x < 4294967296) : (n * 4294967296 + x) / b < 4294967296 := by
 rw [Nat.div_lt_iff_lt_mul (by omega)]
 have := Nat.mul_le_mul_right 4294967296 (show n + 1 ≤ b by omega)
 rw [Nat.mul_comm 4294967296]
 omega
structure I78 (va : V) (a b Lb : List Nat) (up N : Nat) (s : St) (m : Nat) (L O : List Nat) : Prop where
 h0 : gt s.tm 0 = va
 h1 : gt s.tm 1 = .arr (.glob N) 0 b.length (some (b.length + 1)) 1 false
 h9 : gt s.tm 9 = .int .u64 (.ofNat up)
 h10 : gt s.tm 10 = .arr (.glob (N + 1)) 0 (a.length + 1) (some (a.length + 1)) 1 false
 h11 : gt s.tm 11 = .arr (.loc 78 1) 0 a.length (some a.length) 1 false
 h12 : gt s.tm 12 = .int .i64 (.ofNat (b.length - 1))
 row : lg s.loc 78 = (1, .cells false (nl .u32 O))
 rb : s.hp.rows[N]? = some (.cells false (nl .u32 Lb))
 rl : s.hp.rows[N + 1]? = some (.cells false (nl .u32 L))
 dg : DG N s.hp
 D : Div (vl B a * 2 ^ up) (vl B b * 2 ^ up) b.length a.length m L O
def Quot (a b : List Nat) (r : V) : Prop := ∃ s t d e, r = .tuple [s, t] ∧ Sl .u32 s d ∧ Sl .u32 t e ∧ Dg B d ∧ Dg B e ∧ Cn e ∧ vl B d * vl B b + vl B e = vl B a ∧ vl B e < vl B b ∧ d.length = a.length
theorem divided_spec {va vb : V} {a b : List Nat} (ha : Sl .u32 va a) (hb : Sl .u32 vb b) (da : Dg B a) (db : Dg B b) (cb : Cn b) (hne : b ≠ []) (hle : b.length ≤ a.length) (la : a.length ≤ 400000) : Gives 78 [va, vb] (Quot a b) := by
 have hb0 : 0 < b.length := List.length_pos_iff.2 hne
 have htop : b.getD (b.length - 1) 0 ≠ 0 := cb _ (by omega)
 refine gives_of tbl78 fun h Q hQ => ?_
 unfold rc78
 refine sR ?_
 by_cases h1 : b.length = 1
 ·have hbb : b = [b.getD 0 0] := by
   obtain ⟨x, rfl⟩ := List.length_eq_one_iff.1 h1
   rfl
  have hvb : vl B b = b.getD 0 0 := by rw [hbb, vl_one]; rfl
  have hx0 : b.getD 0 0 ≠ 0 := by rw [h1] at htop; exact htop
  have hxB : b.getD 0 0 < 4294967296 := db.get (by decide) 0
  refine ww_seq (ww_seq (ww_reg (fun n k => by simp -implicitDefEqProofs (disch := omega) only [go_sem, reduceIte, Nat.reduceEqDiff, gt_start, List.getD_cons_zero, List.getD_cons_succ, len_sl hb, h1, d_true]; rfl) ?_))
  refine ww_true sS ?_
  refine ww_seq (ww_reg (fun n k => by simp -implicitDefEqProofs (disch := omega) only [go_sem, reduceIte, Nat.reduceEqDiff, gt_start, List.getD_cons_zero, List.getD_cons_succ, len_sl ha]; rfl) ?_)
  refine ww_seq (ww_seq (ww_reg (fun n k => by simp -implicitDefEqProofs (disch := omega) only [go_sem, reduceIte, Nat.reduceEqDiff, gt_start, List.getD_cons_zero, List.getD_cons_succ, len_sl ha, i_dec]; rfl) ?_))
  refine ww_for (fun m s => ∃ z O, m ≤ a.length ∧ gt s.tm 8 = .int .i64 (dn m) ∧ gt s.tm 7 = .int .u64 (.ofNat z) ∧ z < b.getD 0 0 ∧ gt s.tm 0 = va ∧ gt s.tm 1 = vb ∧ gt s.tm 6 = .arr (.loc 21 1) 0 a.length (some a.length) 1 false ∧ lg s.loc 21 = (1, .cells false (nl .u32 O)) ∧ O.length = a.length ∧ Dg B O ∧ vl B (a.drop m) = b.getD 0 0 * vl B (O.drop m) + z ∧ s.hp = ⟨h.rows, none, h.mods⟩) a.length ⟨0, List.replicate a.length 0, Nat.le_refl _, sS, sS, by omega, sSG, sSG, sS, sS, by simp, dg_rep0 _, by rw [List.drop_length, List.drop_eq_nil_of_le (by simp)]; rfl, rfl⟩ ?_
  intro m s ⟨z, O, hm, h8, h7, hz, g0, g1, h6, hrow, hO, dO, hv, hhp⟩
  cases m with
  | zero =>
   refine ww_seq (ww_seq (ww_reg (fun n k => by simp -implicitDefEqProofs (disch := omega) only [go_sem, reduceIte, Nat.reduceEqDiff, h8, dn]; rfl) ?_))
   refine ww_false sS (ww_exit ?_)
   rw [if_pos rfl]
   obtain ⟨r, hr, e, ⟨⟨s2, rfl, hs2⟩, de, ce, he0⟩, ht⟩ := made_spec (va := .slice none false 1 (nl .u32 [z])) (a := [z]) (.inl ⟨false, rfl⟩) (fun x hx => by rw [List.mem_singleton.1 hx]; exact Nat.lt_trans hz hxB) (by simp) false ⟨h.rows, none, h.mods⟩
   have hl56 : lg (lp s.loc 56 ((lg s.loc 56).1 + 1, .cells false (nl .u32 [z]))) 56 = ((lg s.loc 56).1 + 1, .cells false (nl .u32 [z])) := by rw [lg_lp, if_pos rfl]
   refine ww_seq (ww_call (hr) (fun n hn k => by simp -implicitDefEqProofs (disch := omega) only [go_sem, reduceIte, Nat.reduceEqDiff, h7, h6, hhp, cl_arr2 (show 1 = [z].length from rfl) hl56 hn (Ex1.bool _), fld26]; rfl) ?_)
   refine ww_ret (hQ _ _ (fin_arr_two (d := 21) (li := some a.length) (g := 1) (k := .u32) (l := O) sS hO.symm (sS1 hrow) sS hs2.ex hs2.noRefs (fun x hx => by cases hx)) ⟨_, _, O, e, rfl, .inl ⟨false, rfl⟩, hs2, dO, de, ce, ?_, ?_, hO⟩)
   ·rw [ht.vl, vl_one, hvb, Nat.mul_comm]
    simpa using hv.symm
   ·rw [ht.vl, vl_one, hvb]; exact hz
  | succ i =>
   have h8' : gt s.tm 8 = .int .i64 (.ofNat i) := h8
   have hx : a.getD i 0 < 4294967296 := da.get (by decide) i
   have hq := short_bound hz (Nat.le_of_lt hxB) hx
   refine ww_seq (ww_seq (ww_reg (fun n k => by simp -implicitDefEqProofs (disch := omega) only [go_sem, reduceIte, Nat.reduceEqDiff, h8', d_true]; rfl) ?_))
   refine ww_true sS (ww_skip ?_)
   refine ww_seq (ww_block ?_)
   refine ww_seq (ww_reg (fun n k => by simp -implicitDefEqProofs (disch := omega) only [go_sem, reduceIte, Nat.reduceEqDiff, h7, g0, h8', ia24 ha, Nat.reducePow, or_shl]; rfl) ?_)
   refine ww_seq (ww_reg (fun n k => by simp -implicitDefEqProofs (disch := omega) only [go_sem, reduceIte, Nat.reduceEqDiff, g1, ia24 hb, h6, h8', hrow]; rfl) ?_)
   refine ww_reg (fun n k => by simp -implicitDefEqProofs (disch := omega) only [go_sem, reduceIte, Nat.reduceEqDiff, g1, ia24 hb]; rfl) ?_
   refine ww_reg (fun n k => by simp -implicitDefEqProofs (disch := omega) only [go_sem, reduceIte, Nat.reduceEqDiff, h8', i_dec]; rfl) ?_
   refine ⟨i, by omega, (z * 4294967296 + a.getD i 0) % b.getD 0 0, O.set i ((z * 4294967296 + a.getD i 0) / b.getD 0 0), by omega, sS, sS, Nat.mod_lt _ (by omega), (sS1 g0), (sS1 g1), (sS1 h6), sS, by simpa using hO, dO.set _ hq, ?_, hhp⟩
   rw [vl_drop_cons B a i (by omega), vl_drop_cons B _ i (by rw [List.length_set]; omega), hv, getD_set_eq _ _ _ (by omega), drop_set_ge]
   have := Nat.div_add_mod (z * 4294967296 + a.getD i 0) (b.getD 0 0)
   rw [Nat.mul_add, Nat.mul_add]
   have e1 : B * (b.getD 0 0 * vl B (O.drop (i + 1))) = b.getD 0 0 * (B * vl B (O.drop (i + 1))) := by rw [← Nat.mul_assoc, ← Nat.mul_assoc, Nat.mul_comm B]
   have e2 : B * z = z * 4294967296 := Nat.mul_comm _ _
   omega
 ·have hxB : b.getD (b.length - 1) 0 < 4294967296 := db.get (by decide) _
  obtain ⟨_, hlz, up, rfl, hup, hlo, hhi⟩ := lz32_spec hxB (Nat.pos_of_ne_zero htop) ⟨h.rows, none, h.mods⟩
  refine ww_seq (ww_seq (ww_reg (fun n k => by simp -implicitDefEqProofs (disch := omega) only [go_sem, reduceIte, Nat.reduceEqDiff, gt_start, List.getD_cons_zero, List.getD_cons_succ, len_sl hb, d_false]; rfl) ?_))
  refine ww_false sS (ww_skip ?_)
  refine ww_seq (ww_call (hlz) (fun n hn k => by simp -implicitDefEqProofs (disch := omega) only [go_sem, reduceIte, Nat.reduceEqDiff, gt_start, List.getD_cons_zero, List.getD_cons_succ, len_sl hb, ia24 hb, clc1 hn (Ex1.int _ _), wrap_u64]; rfl) ?_)
  obtain ⟨k1, Lb, hs1, lLb, dLb, vLb, rl1, rr1, rs1, rd1⟩ := shifted_runs hb db (by omega) (show up ≤ 32 by omega) ⟨h.rows, none, h.mods⟩
  have hN := norm_of hne db hup hlo hhi lLb dLb vLb
  refine ww_seq (ww_call (hs1) (fun n hn k => by simp -implicitDefEqProofs (disch := omega) only [go_sem, reduceIte, Nat.reduceEqDiff, gt_start, List.getD_cons_zero, List.getD_cons_succ, len_sl hb, clc2 hn hb.ex (Ex1.int _ _), slc_pre E24 L86]; rfl) ?_)
  obtain ⟨k2, L0, hs2, lL0, dL0, vL0, rl2, rr2, rs2, rd2⟩ := shifted_runs ha da (by omega) (show up ≤ 32 by omega) k1
  refine ww_seq (ww_call (hs2) (fun n hn k => by simp -implicitDefEqProofs (disch := omega) only [go_sem, reduceIte, Nat.reduceEqDiff, gt_start, List.getD_cons_zero, List.getD_cons_succ, clc2 hn ha.ex (Ex1.int _ _)]; rfl) ?_)
  refine ww_seq (ww_reg (fun n k => by simp -implicitDefEqProofs (disch := omega) only [go_sem, reduceIte, Nat.reduceEqDiff, gt_start, List.getD_cons_zero, List.getD_cons_succ, len_sl ha]; rfl) ?_)
  refine ww_seq (ww_reg (fun n k => by simp -implicitDefEqProofs (disch := omega) only [go_sem, reduceIte, Nat.reduceEqDiff, gt_start, List.getD_cons_zero, List.getD_cons_succ, len_arr]; rfl) ?_)
  refine ww_seq (ww_seq (ww_reg (fun n k => by simp -implicitDefEqProofs (disch := omega) only [go_sem, reduceIte, Nat.reduceEqDiff, gt_start, List.getD_cons_zero, List.getD_cons_succ, len_sl ha, len_arr]; rfl) ?_))
  rw [rl1] at rl2 rr2 rs2
  have rl1' : k1.rows.length = h.rows.length + 1 := rl1
  have hlB : vl B b * 2 ^ up < B ^ b.length := by rw [← hN.v]; exact vl_lt_of (by decide) (dLb.take _) (by simp; omega)
  have hDG : DG h.rows.length k2 := by intro x hx; rw [rd2, rd1] at hx; cases hx
  have hst := div_start da lL0 dL0 vL0 hup hb0 hle hN.high
  refine ww_for (fun m s => ∃ L O, m ≤ a.length - b.length + 1 ∧ gt s.tm 13 = .int .i64 (dn m) ∧ I78 va a b Lb up h.rows.length s m L O) (a.length - b.length + 1) ⟨L0, List.replicate a.length 0, Nat.le_refl _, (by simp -implicitDefEqProofs (disch := omega) only [go_sem, reduceIte, Nat.reduceEqDiff, dn]), ⟨sSG, sS, sS, (sS1 rl1'), sS, sS, sS, by rw [rs2 _ (Nat.lt_succ_self _)]; exact rr1, rr2, hDG, hst⟩⟩ ?_
  intro m s ⟨L, O, hm, h13, H⟩
  have H' := H
  obtain ⟨g0, g1, g9, g10, g11, g12, row, rb, rl, dg, D⟩ := H'
  have hLl := D.len
  have hOl := D.olen
  cases m with
  | zero =>
   refine ww_seq (ww_seq (ww_reg (fun n k => by simp -implicitDefEqProofs (disch := omega) only [go_sem, reduceIte, Nat.reduceEqDiff, h13, dn]; rfl) ?_))
   refine ww_false sS (ww_exit ?_)
   rw [if_pos rfl]
   obtain ⟨de1, de2⟩ := div_end (va := vl B a) (vb := vl B b) (up := up) (lb := b.length) (la := a.length) D
   obtain ⟨w, e, hbk, hse, dde, vee, lee⟩ := back_runs (c := a.length + 1) rl D.dg (by omega) hup
   rw [hLl] at hbk
   obtain ⟨r, hr, f, ⟨⟨s2, rfl, hs2⟩, df, cf, hf0⟩, ht⟩ := made_spec hse dde (by omega) false s.hp
   refine ww_seq (ww_call (hbk.and hr) (fun n hn k => by simp -implicitDefEqProofs (disch := omega) only [go_sem, reduceIte, Nat.reduceEqDiff, g9, g10, g11, clc2 hn.1 (Ex1.glob _ _ _ _ _ _) (Ex1.int _ _), clc2 hn.2 hse.ex (Ex1.bool _), fld26]; rfl) ?_)
   refine ww_ret (hQ _ _ (fin_arr_two (d := 78) (li := some a.length) (g := 1) (k := .u32) (l := O) sS hOl.symm (by simp -implicitDefEqProofs (disch := omega) only [go_sem, reduceIte, Nat.reduceEqDiff, row]) sS hs2.ex hs2.noRefs dg) ⟨_, _, O, f, rfl, .inl ⟨false, rfl⟩, hs2, D.odg, df, cf, ?_, ?_, hOl⟩)
   ·rw [ht.vl, vee]; exact de1
   ·rw [ht.vl, vee]; exact de2
  | succ i =>
   have h13' : gt s.tm 13 = .int .i64 (.ofNat i) := h13
   have hi : i + b.length ≤ a.length := by omega
   have e1 : i + (b.length - 1) + 1 = i + b.length := by omega
   have e2 : i + (b.length - 1) + 2 - i = b.length + 1 := by omega
   have x1 : L.getD (i + b.length) 0 < 4294967296 := D.dg.get (by decide) _
   have x2 : L.getD (i + (b.length - 1)) 0 < 4294967296 := D.dg.get (by decide) _
   have x3 : Lb.getD (b.length - 1) 0 < 4294967296 := dLb.get (by decide) _
   have x4 := hN.top
   refine ww_seq (ww_seq (ww_reg (fun n k => by simp -implicitDefEqProofs (disch := omega) only [go_sem, reduceIte, Nat.reduceEqDiff, h13', d_true]; rfl) ?_))
   refine ww_true sS (ww_skip ?_)
   refine ww_seq (ww_block ?_)
   refine ww_seq (ww_reg (fun n k => by simp -implicitDefEqProofs (disch := omega) only [go_sem, reduceIte, Nat.reduceEqDiff, h13', g10, g12, e1, nth_rows rl, ldg_nl L86, dv78_7, dv78_15, Nat.reducePow, or_shl]; exact finD_ok (by kernel_rfl)) ?_)
   have lLb' := hN.len
   have hw : F.wrapI .u64 (.ofNat ((L.getD (i + b.length) 0 * 4294967296 + L.getD (i + (b.length - 1)) 0) / Lb.getD (b.length - 1) 0)) = .ofNat ((L.getD (i + b.length) 0 * 4294967296 + L.getD (i + (b.length - 1)) 0) / Lb.getD (b.length - 1) 0) := wrap_u64 (Nat.lt_of_le_of_lt (Nat.div_le_self _ _) (by omega))
   refine ww_seq (ww_reg (fun n k => by simp -implicitDefEqProofs (disch := omega) only [go_sem, reduceIte, Nat.reduceEqDiff, g1, g12, nth_rows rb, ldg_nl L86, hw, mn_n]; rfl) ?_)
   have hlt := D.lt hi
   have hgs := guess_ok hN.top (D.two hlB hi hb0) hN.lead hlt
   refine ww_join (M := fun s1 => ∃ q c, gt s1.tm 15 = .int .u64 (.ofNat q) ∧ q < 4294967296 ∧ gt s1.tm 13 = .int .i64 (.ofNat i) ∧ gt s1.tm 0 = va ∧ gt s1.tm 1 = .arr (.glob h.rows.length) 0 b.length (some (b.length + 1)) 1 false ∧ gt s1.tm 9 = .int .u64 (.ofNat up) ∧ gt s1.tm 10 = .arr (.glob (h.rows.length + 1)) 0 (a.length + 1) (some (a.length + 1)) 1 false ∧ gt s1.tm 11 = .arr (.loc 78 1) 0 a.length (some a.length) 1 false ∧ gt s1.tm 12 = .int .i64 (.ofNat (b.length - 1)) ∧ lg s1.loc 78 = (1, .cells false (nl .u32 O)) ∧ s1.hp.rows[h.rows.length]? = some (.cells false (nl .u32 Lb)) ∧ s1.hp.rows[h.rows.length + 1]? = some (.cells false (nl .u32 (put L i c))) ∧ DG h.rows.length s1.hp ∧ Div (vl B a * 2 ^ up) (vl B b * 2 ^ up) b.length a.length i (put L i c) (O.set i q)) ?_ ?_
   ·refine ww_for (fun m s1 => gt s1.tm 15 = .int .u64 (.ofNat m) ∧ m < 4294967296 ∧ vl B (L.drop i) < vl B b * 2 ^ up * (m + 1) ∧ gt s1.tm 13 = .int .i64 (.ofNat i) ∧ I78 va a b Lb up h.rows.length s1 (i + 1) L O) _ ⟨sS, Nat.lt_of_le_of_lt (Nat.min_le_right _ _) (by decide), hgs, (sS1 h13'), ⟨(sS1 g0), (sS1 g1), (sS1 g9), (sS1 g10), (sS1 g11), (sS1 g12), (by simp -implicitDefEqProofs (disch := omega) only [go_sem, reduceIte, Nat.reduceEqDiff, row]), rb, rl, dg, D⟩⟩ ?_
    intro q s1 ⟨j15, hq, hrv, j13, ⟨i0, i1, i9, i10, i11, i12, irow, irb, irl, idg, _⟩⟩
    have hpt := D.part hlB hi
    obtain ⟨ok, hq', htk, tdg, tlen, tsame, tno, tyes⟩ := takes_runs (n := h.rows.length) (r0 := h.rows.length + 1) (r1 := h.rows.length) (i := i) (m := b.length + 1) (q := q) (lb := b.length) (li := some (a.length + 1 - i)) (lj := some (b.length + 1)) irl irb D.dg dLb (by omega) (by omega) (by omega) (by omega) hb0 (by omega) (by omega) hq idg (Nat.le_succ _)
    rw [hpt, hN.v] at tno tyes
    have hNr : h.rows.length < s1.hp.rows.length := by
     rcases Nat.lt_or_ge h.rows.length s1.hp.rows.length with h1 | h1
     ·exact h1
     ·rw [List.getElem?_eq_none h1] at irb; simp at irb
    cases ok with
    | true =>
     obtain ⟨c, lc, dc, vc, rc⟩ := tyes rfl
     refine ww_seq (ww_seq (ww_call (htk) (fun n hn k => by simp -implicitDefEqProofs (disch := omega) only [go_sem, reduceIte, Nat.reduceEqDiff, i1, i10, i12, j13, j15, e2, slc_cut E24 L86, clc3 hn (Ex1.glob _ _ _ _ _ _) (Ex1.glob _ _ _ _ _ _) (Ex1.int _ _)]; rfl) ?_))
     refine ww_false sS (ww_exit ?_)
     rw [if_pos rfl]
     refine ⟨q, c, (sS1 j15), hq, (sS1 j13), (sS1 i0), (sS1 i1), (sS1 i9), (sS1 i10), (sS1 i11), (sS1 i12), (by simp -implicitDefEqProofs (disch := omega) only [go_sem, reduceIte, Nat.reduceEqDiff, irow]), by rw [tsame _ hNr (by omega)]; exact irb, rc, tdg, D.next hlB hi hb0 lc dc vc ?_ hq⟩
     rw [Nat.mul_add, Nat.mul_one] at hrv
     omega
    | false =>
     obtain ⟨tlt, rfl⟩ := tno rfl
     have hq0 : 0 < q := by
      rcases Nat.eq_zero_or_pos q with e | e
      ·subst e; simp at tlt
      ·exact e
     refine ww_seq (ww_seq (ww_call (htk) (fun n hn k => by simp -implicitDefEqProofs (disch := omega) only [go_sem, reduceIte, Nat.reduceEqDiff, i1, i10, i12, j13, j15, e2, slc_cut E24 L86, clc3 hn (Ex1.glob _ _ _ _ _ _) (Ex1.glob _ _ _ _ _ _) (Ex1.int _ _)]; rfl) ?_))
     refine ww_true sS (ww_skip (ww_block ?_))
     refine ww_reg (fun n k => by simp -implicitDefEqProofs (disch := omega) only [go_sem, reduceIte, Nat.reduceEqDiff, j15, wrap_u64]; rfl) ?_
     exact ⟨q - 1, by omega, sS, by omega, by rw [Nat.sub_add_cancel hq0]; exact tlt, (sS1 j13), ⟨(sS1 i0), (sS1 i1), (sS1 i9), (sS1 i10), (sS1 i11), (sS1 i12), (by simp -implicitDefEqProofs (disch := omega) only [go_sem, reduceIte, Nat.reduceEqDiff, irow]), irb, irl, idg, D⟩⟩
   ·intro s1 ⟨q, c, j15, hq, j13, i0, i1, i9, i10, i11, i12, irow, irb, irl, idg, iD⟩
    refine ww_reg (fun n k => by simp -implicitDefEqProofs (disch := omega) only [go_sem, reduceIte, Nat.reduceEqDiff, j13, j15, i11, irow, wrap_u32]; rfl) ?_
    refine ww_reg (fun n k => by simp -implicitDefEqProofs (disch := omega) only [go_sem, reduceIte, Nat.reduceEqDiff, j13, i_dec]; rfl) ?_
    exact ⟨i, by omega, put L i c, O.set i q, by omega, sS, ⟨(sS1 i0), (sS1 i1), (sS1 i9), (sS1 i10), (sS1 i11), (sS1 i12), sS, irb, irl, idg, iD⟩⟩
end Go.AM.S
end
section
namespace Go.AM.S
open Go Go.AM Go.Proofs NumL
open _root_.Go.AM.G (R)
set_option maxRecDepth 100000
end Go.AM.S
end
section
namespace Go.AM.S
open Go Go.AM Go.Proofs NumL
open _root_.Go.AM.G (R)
set_option maxRecDepth 100000
end Go.AM.S
end
section
namespace Go.AM.S
open Go Go.AM Go.Proofs NumL
open _root_.Go.AM.G (R)
set_option maxRecDepth 100000
section
variable {C : Cfg} {P : Program} {call : CallF} {gl : Nat → Bool} {o : Oper} {t' tm : Tm} {loc : Lo} {hp : Hp}
end
end Go.AM.S
end
section
namespace Go.AM.S
open Go Go.AM Go.Proofs NumL
open _root_.Go.AM.G (R)
section
variable {P : Program} {C : Cfg} {call : CallF} {gl : Nat → Bool} {o : Oper} {loc : Lo} {hp : Hp}
end
end Go.AM.S
end
section
namespace Go.AM.S
open Go Go.AM Go.Proofs NumL
open _root_.Go.AM.G (R)
set_option maxRecDepth 100000
theorem fin_cells2 {h : Hp} {a t d g a2 t2 d2 g2 : Nat} {f f2 : Bool} {s : St} {x y x2 y2 : V} (hl : layE Pg t = some (2, true)) (hl2 : layE Pg t2 = some (2, true)) (hv : gt s.tm a = .ptr (.loc d g) 0) (hv2 : gt s.tm a2 = .ptr (.loc d2 g2) 0) (hr : lg s.loc d = (g, .cells f [x, y])) (hr2 : lg s.loc d2 = (g2, .cells f2 [x2, y2])) (hx : Pl x) (hy : Pl y) (hx2 : Pl x2) (hy2 : Pl y2) (hc : DG h.rows.length s.hp) :
  fin Pg h [.cell a t, .cell a2 t2] s = some (.val (.tuple [.agg [x, y], .agg [x2, y2]]) h) := by
 unfold fin
 have e1 : resV Pg s [.cell a t, .cell a2 t2] = some [.agg [x, y], .agg [x2, y2]] := by
  simp only [resV, rho_gt, hv, hv2, getRow_loc hr, getRow_loc hr2, partV, hl, hl2, Option.map_some]
  rfl
 rw [e1]
 have e2 := exps_ex [.agg [x, y], .agg [x2, y2]] s ⟨exp_agg (cs := [x, y]) (by intro v hv; simp at hv; rcases hv with rfl | rfl <;> assumption), exp_agg (cs := [x2, y2]) (by intro v hv; simp at hv; rcases hv with rfl | rfl <;> assumption), trivial⟩
 simp only [e2]
 unfold backHp
 rw [clean_dg hc]
 simp only [V.noRefsL, V.noRefs, hx.refs, hy.refs, hx2.refs, hy2.refs, Bool.and_self, cond_true]
end Go.AM.S
end
section
namespace Go.AM.S
open Go Go.AM Go.Proofs NumL
open _root_.Go.AM.G (R)
set_option maxRecDepth 100000
end Go.AM.S
end
section
namespace Go.AM.S
open Go Go.AM Go.Proofs NumL
open _root_.Go.AM.G (R)
set_option maxRecDepth 100000
section
variable {C : Cfg} {P : Program} {call : CallF} {gl : Nat → Bool} {o : Oper} {t' tm : Tm} {loc : Lo} {hp : Hp}
theorem genD_pure {d : Nat} {v : V} {J : JD} {X : XD} {t : TypeId} {l : Array (Nat × Operand)} (hd : o.dst = some d) (ho : o.op = .build t l) (hp1 : locV P C gl (⟨t', loc, hp⟩ : St).ρ (⟨t', loc, hp⟩ : St).lc o = some (v, none)) :
  genD P C call gl o t' loc hp J X = J v ⟨[], [], false, false, false, false⟩ loc hp := by
 have hf : footV P C gl (⟨t', loc, hp⟩ : St).ρ (⟨t', loc, hp⟩ : St).lc o = some ⟨[], [], false, false, false, false⟩ := by
  unfold footV
  rw [hp1]
  simp only [ho]
 have hs : stepV P C gl ⟨t', loc, hp⟩ o = some (.val v ⟨t', loc, hp⟩) := by
  unfold stepV
  rw [hp1]; rfl
 unfold genD
 rw [F.e_footV, F.e_oneV, F.e_rho, F.e_lcf, hf]
 show G.onSome (oneV P C call gl ⟨t', loc, hp⟩ o) _ none = _
 unfold oneV
 rw [hs]
 have e1 : F.settle hp hp ⟨[], [], false, false, false, false⟩ = ⟨[], [], false, false, false, false⟩ := by
  unfold F.settle
  rw [Nat.beq_refl, Nat.beq_refl]; rfl
 simp only [putV, hd]
 show J (gt (aset t' d v) d) (F.settle hp hp ⟨[], [], false, false, false, false⟩) loc hp = _
 rw [gt_eq, aget_aset, if_pos rfl, e1]
end
theorem db37_2_0 (c : CallF) (t : Tm) (l : Lo) (h : Hp) (J : JD) (X : XD) : gD Try.f37 37 2 0 c t l h J X = J (.agg [.nils, .bool false]) ⟨[], [], false, false, false, false⟩ l h :=
 genD_pure (C := Cg) (gl := Cg.glob 37) (call := c) (o := opA Try.f37 2 0) (d := 15) (t := 26) (l := #[]) (by kernel_rfl) (by kernel_rfl) (by kernel_rfl)
theorem IsI.shrink {k l : Nat} {v : V} {z : Int} (h : IsI k v z) (hz : z.natAbs < B ^ l) : IsI l v z := by
 obtain ⟨d, b, ⟨hv, dd, cd, h0⟩, rfl, hl⟩ := h
 refine ⟨d, b, ⟨hv, dd, cd, h0⟩, rfl, ?_⟩
 rcases Nat.lt_or_ge l d.length with h1 | h1
 ·exfalso
  have h2 := vl_ge (B := B) cd (by intro e; subst e; simp at h1)
  have h3 : (zv d b).natAbs = vl B d := by unfold zv; cases b <;> simp
  rw [h3] at hz
  have h4 : B ^ l ≤ B ^ (d.length - 1) := Nat.pow_le_pow_right (by decide) (by omega)
  omega
 ·exact h1
theorem IsI.abs_lt {k : Nat} {v : V} {z : Int} (h : IsI k v z) : z.natAbs < B ^ k := by
 obtain ⟨d, b, ⟨hv, dd, cd, h0⟩, rfl, hl⟩ := h
 have h3 : (zv d b).natAbs = vl B d := by unfold zv; cases b <;> simp
 rw [h3]
 exact vl_lt_of (by decide) dd hl
theorem div_pos' {d e q r : Nat} (h : q * e + r = d) (hr : r < e) : (d : Int) / (e : Int) = q ∧ (d : Int) % (e : Int) = r := by
 rw [Int.ediv_emod_unique (by omega)]
 refine ⟨?_, by omega, by omega⟩
 rw [← h, Int.natCast_add, Int.natCast_mul, Int.mul_comm, Int.add_comm]
theorem div_neg0 {d e q : Nat} (h : q * e = d) (he : 0 < e) : -(d : Int) / (e : Int) = -q ∧ -(d : Int) % (e : Int) = 0 := by
 rw [Int.ediv_emod_unique (by omega)]
 refine ⟨?_, by omega, by omega⟩
 rw [← h, Int.natCast_mul, Int.mul_comm, Int.neg_mul, Int.zero_add]
theorem div_neg1 {d e q r : Nat} (h : q * e + r = d) (hr : r < e) (h0 : 0 < r) : -(d : Int) / (e : Int) = -q - 1 ∧ -(d : Int) % (e : Int) = (e : Int) - r := by
 rw [Int.ediv_emod_unique (by omega)]
 refine ⟨?_, by omega, by omega⟩
 rw [← h, Int.natCast_add, Int.natCast_mul, Int.mul_sub, Int.mul_neg, Int.mul_one, Int.mul_comm (e : Int)]
 omega
theorem quo_law {d e q r : Nat} (b c : Bool) (h : q * e + r = d) (hr : r < e) :
  ((bif b then -(d : Int) else d) / (bif c then -(e : Int) else e) = (bif b then (bif c then (q : Int) + (bif decide (0 < r) then 1 else 0) else -(q : Int) - (bif decide (0 < r) then 1 else 0)) else (bif c then -(q : Int) else q))) ∧
  ((bif b then -(d : Int) else d) % (bif c then -(e : Int) else e) = bif b && decide (0 < r) then (e : Int) - r else r) := by
 cases b with
 | false =>
  obtain ⟨h1, h2⟩ := div_pos' h hr
  cases c with
  | false => exact ⟨h1, h2⟩
  | true =>
   simp only [cond_false, cond_true, Bool.false_and, Int.ediv_neg, Int.emod_neg, h1, h2, and_self]
 | true =>
  rcases Nat.eq_zero_or_pos r with h0 | h0
  ·subst h0
   obtain ⟨h1, h2⟩ := div_neg0 (q := q) (by omega) hr
   cases c with
   | false => simp only [cond_false, cond_true, h1, h2]; simp
   | true => simp only [cond_false, cond_true, Int.ediv_neg, Int.emod_neg, h1, h2]; simp
  ·obtain ⟨h1, h2⟩ := div_neg1 h hr h0
   have hd : decide (0 < r) = true := decide_eq_true h0
   cases c with
   | false => simp only [cond_false, cond_true, h1, h2, hd, Bool.true_and, and_self]
   | true =>
    simp only [cond_false, cond_true, Int.ediv_neg, Int.emod_neg, h1, h2, hd, Bool.true_and, and_true]
    omega
end Go.AM.S
end
section
namespace Go.AM.S
open Go Go.AM Go.Proofs NumL
open _root_.Go.AM.G (R)
set_option maxRecDepth 100000
theorem tbl37 : tbl 37 = some ⟨rc37, [.cell 4 26, .cell 5 26]⟩ := by kernel_rfl
structure I37 (s u : V) (b c : Bool) (h : Hp) (st : St) : Prop where
 h2 : gt st.tm 2 = .ptr (.loc 2 1) 0
 h3 : gt st.tm 3 = .ptr (.loc 3 1) 0
 h4 : gt st.tm 4 = .ptr (.loc 4 1) 0
 h5 : gt st.tm 5 = .ptr (.loc 5 1) 0
 h6 : gt st.tm 6 = .ptr (.loc 6 1) 0
 h7 : gt st.tm 7 = .ptr (.loc 7 1) 0
 l2 : lg st.loc 2 = (1, .cells false [s, .bool b])
 l3 : lg st.loc 3 = (1, .cells false [u, .bool c])
 l4 : lg st.loc 4 = (1, .cells false [.nils, .bool false])
 l5 : lg st.loc 5 = (1, .cells false [.nils, .bool false])
 hp : st.hp = h
theorem IsI.nn {k : Nat} {s : V} {b : Bool} {z : Int} (h : IsI k (.agg [s, .bool b]) z) : Pl s ∧ Ex1 (.agg [s, .bool b]) ∧ AM.quiet (.agg [s, .bool b]) = true := by
 obtain ⟨s', b', e, p, x, q⟩ := h.form
 have e' : s = s' ∧ b = b' := by simpa using e
 obtain ⟨rfl, rfl⟩ := e'
 exact ⟨p, x, q⟩
theorem quo_spec {k l : Nat} {va vb : V} {x y : Int} (ha : IsI k va x) (hb : IsI l vb y) (hk : k ≤ 300000) (hl : l ≤ 300000) : Gives 37 [va, vb] fun r => ∃ v w, r = .tuple [v, w] ∧ IsI k v (x / y) ∧ IsI (if y = 0 then k else l) w (x % y) := by
 have ha0 := ha
 have hb0 := hb
 obtain ⟨d, b, ⟨⟨s, rfl, hs⟩, dd, cd, h0⟩, hx, hdl⟩ := ha
 obtain ⟨e, c, ⟨⟨u, rfl, hu⟩, de, ce, he0⟩, hy, hel⟩ := hb
 refine gives_of tbl37 fun h Q hQ => ?_
 unfold rc37
 refine sRG ?_
 have fin : ∀ (st : St) (v0 v1 w0 w1 : V) , IsI k (.agg [v0, v1]) (x / y) → IsI (if y = 0 then k else l) (.agg [w0, w1]) (x % y) → gt st.tm 4 = .ptr (.loc 4 1) 0 → gt st.tm 5 = .ptr (.loc 5 1) 0 → lg st.loc 4 = (1, .cells false [v0, v1]) → lg st.loc 5 = (1, .cells false [w0, w1]) → st.hp = ⟨h.rows, none, h.mods⟩ → Q st := by
  intro st v0 v1 w0 w1 hv hw h4 h5 l4 l5 hh
  obtain ⟨sv, bv, e1, pv, _, _⟩ := hv.form
  obtain ⟨sw, bw, e2, pw, _, _⟩ := hw.form
  obtain ⟨rfl, rfl⟩ : v0 = sv ∧ v1 = .bool bv := by simpa using e1
  obtain ⟨rfl, rfl⟩ : w0 = sw ∧ w1 = .bool bw := by simpa using e2
  exact hQ _ _ (fin_cells2 (x := v0) (y := .bool bv) (x2 := w0) (y2 := .bool bw) (d := 4) (g := 1) (d2 := 5) (g2 := 1) (f := false) (f2 := false) (by kernel_rfl) (by kernel_rfl) h4 h5 l4 l5 pv (Pl.bool _) pw (Pl.bool _) (by rw [hh]; exact fun x hx => by cases hx)) ⟨_, _, rfl, hv, hw⟩
 rcases Nat.eq_zero_or_pos e.length with ee | ee
 ·
  have e0 : e = [] := List.length_eq_zero_iff.1 ee
  have hy0 : y = 0 := by rw [hy, e0, he0 e0]; rfl
  refine ww_seq (ww_seq (ww_reg (fun n k => by simp -implicitDefEqProofs (disch := omega) only [go_sem, reduceIte, Nat.reduceEqDiff, gt_start, List.getD_cons_zero, List.getD_cons_succ, ldc_fst L24, len_sl hu, ee, d_true]; rfl) ?_))
  refine ww_true sS ?_
  refine ww_seq (ww_reg (fun n k => by simp -implicitDefEqProofs (disch := omega) only [go_sem, reduceIte, Nat.reduceEqDiff, gt_start, List.getD_cons_zero, List.getD_cons_succ, db37_2_0, ldc_two L26, stc_two N26 1 .nils (.bool false) .nils (.bool false) _ rfl rfl, stc_two N26 1 s (.bool b) .nils (.bool false) _ hs.pl.ok rfl]; exact finD_ok (by kernel_rfl)) ?_)
  refine ww_ret (fin _ .nils (.bool false) s (.bool b) ?_ ?_ sS sS sS sS rfl)
  ·rw [hy0, Int.ediv_zero]; exact zeroI.mono (Nat.zero_le _)
  ·rw [hy0, Int.emod_zero, if_pos rfl]; exact ha0
 have hne : e ≠ [] := fun q => by subst q; simp at ee
 have hE : 0 < vl B e := Nat.pos_of_ne_zero fun q => hne ((vl_zero ce).1 q)
 have hyn : y ≠ 0 := by rw [hy]; unfold zv; cases c <;> simp <;> omega
 refine ww_seq (ww_seq (ww_reg (fun n k => by simp -implicitDefEqProofs (disch := omega) only [go_sem, reduceIte, Nat.reduceEqDiff, gt_start, List.getD_cons_zero, List.getD_cons_succ, ldc_fst L24, len_sl hu, d_false]; rfl) ?_))
 refine ww_false sS (ww_skip ?_)
 obtain ⟨r1, hr1, f1, ⟨⟨s1, rfl, hs1⟩, df1, cf1, hf1⟩, ht1⟩ := made_spec hs dd (by omega) false ⟨h.rows, none, h.mods⟩
 refine ww_seq (ww_call (hr1) (fun n hn k => by simp -implicitDefEqProofs (disch := omega) only [go_sem, reduceIte, Nat.reduceEqDiff, gt_start, List.getD_cons_zero, List.getD_cons_succ, ldc_fst L24, clc2 hn hs.ex (Ex1.bool _), stc_two N26 1 .nils (.bool false) .nils (.bool false) _ rfl rfl, stc_two N26 1 s1 (.bool (false && !f1.isEmpty)) .nils (.bool false) _ hs1.pl.ok rfl]; rfl) ?_)
 have hbc : ∀ q : Nat, ∀ f : List Nat, vl B f = q → zv f ((!(b == c)) && !f.isEmpty) = bif b == c then (q : Int) else -(q : Int) := by
  intro q f hf
  subst hf
  cases b == c with
  | true => simp [zv]
  | false =>
   cases f with
   | nil => rfl
   | cons x0 l0 => rfl
 refine ww_join (M := fun st => I37 s u b c ⟨h.rows, none, h.mods⟩ st ∧ ∃ (sq : V) (bq : Bool) (q : Nat) (sr : V) (g : List Nat), lg st.loc 6 = (1, .cells false [sq, .bool bq]) ∧ lg st.loc 7 = (1, .cells false [sr, .bool false]) ∧ IsI k (.agg [sq, .bool bq]) (bif b == c then (q : Int) else -(q : Int)) ∧ Sl .u32 sr g ∧ Dg B g ∧ Cn g ∧ q * vl B e + vl B g = vl B d ∧ vl B g < vl B e) ?_ ?_
 ·obtain ⟨_, hcm, rfl⟩ := compare_spec hs hu dd de cd ce (by omega) (by omega) ⟨h.rows, none, h.mods⟩
  rcases Nat.lt_or_ge (vl B d) (vl B e) with hlt | hge
  ·have hc : cmpI (vl B d) (vl B e) = .negSucc 0 := by unfold cmpI; rw [if_pos hlt]
   rw [hc] at hcm
   refine ww_seq (ww_call (hcm) (fun n hn k => by simp -implicitDefEqProofs (disch := omega) only [go_sem, reduceIte, Nat.reduceEqDiff, ldc_fst L24, clc2 hn hs.ex hu.ex]; rfl) ?_)
   refine ww_false sS (ww_skip ?_)
   refine ⟨⟨sSG, sSG, sS, sS, sS, sS, sS, sS, sS, sS, rfl⟩, .nils, false, 0, s1, f1, sS, (by simp -implicitDefEqProofs (disch := omega) only [go_sem, reduceIte, Nat.reduceEqDiff, Bool.false_and]), by cases b == c <;> exact zeroI.mono (Nat.zero_le _), hs1, df1, cf1, by rw [ht1.vl]; omega, by rw [ht1.vl]; exact hlt⟩
  ·have hc : ∃ z, cmpI (vl B d) (vl B e) = .ofNat z := by
    unfold cmpI
    rw [if_neg (by omega)]
    split
    ·exact ⟨1, rfl⟩
    ·exact ⟨0, rfl⟩
   obtain ⟨z, hz⟩ := hc
   rw [hz] at hcm
   refine ww_seq (ww_call (hcm) (fun n hn k => by simp -implicitDefEqProofs (disch := omega) only [go_sem, reduceIte, Nat.reduceEqDiff, ldc_fst L24, clc2 hn hs.ex hu.ex, d_true]; rfl) ?_)
   refine ww_true sS ?_
   obtain ⟨_, hdv, so, st, O, T, rfl, hso, hst, dO, dT, cT, hv, hlt, lO⟩ := divided_spec hs hu dd de ce hne (len_le (by decide) dd ce hge) (by omega) ⟨h.rows, none, h.mods⟩
   refine ww_seq (ww_call (hdv) (fun n hn k => by simp -implicitDefEqProofs (disch := omega) only [go_sem, reduceIte, Nat.reduceEqDiff, ldc_fst L24, clc2 hn hs.ex hu.ex, ext_tuple]; rfl) ?_)
   obtain ⟨r2, hr2, f2, hf2, ht2⟩ := made_spec hso dO (by omega) (!(b == c)) ⟨h.rows, none, h.mods⟩
   obtain ⟨r3, hr3, f3, ⟨⟨s3, rfl, hs3⟩, df3, cf3, hf3⟩, ht3⟩ := made_spec hst dT (by have := len_le (B := B) (by decide) de cT (by omega); omega) false ⟨h.rows, none, h.mods⟩
   have hf2' := hf2
   obtain ⟨⟨s2, rfl, hs2⟩, df2, cf2, hf20⟩ := hf2
   have l2 := ht2.len
   refine ww_call (hr2.and hr3) (fun n hn k => by simp -implicitDefEqProofs (disch := omega) only [go_sem, reduceIte, Nat.reduceEqDiff, ldc_snd L4, bin_neb 4 false b c U4, clc2 hn.1 hso.ex (Ex1.bool _), clc2 hn.2 hst.ex (Ex1.bool _), stc_two N26 1 s2 (.bool (!(b == c) && !f2.isEmpty)) .nils (.bool false) _ hs2.pl.ok rfl, stc_two N26 1 s3 (.bool (false && !f3.isEmpty)) s1 (.bool (false && !f1.isEmpty)) _ hs3.pl.ok rfl]; rfl) ?_
   exact ⟨⟨sSG, sSG, sS, sS, sS, sS, sS, sS, sS, sS, rfl⟩, s2, _, vl B O, s3, f3, sS, (by simp -implicitDefEqProofs (disch := omega) only [go_sem, reduceIte, Nat.reduceEqDiff, Bool.false_and]), ⟨f2, _, hf2', (hbc _ _ (ht2.vl B)).symm, by omega⟩, hs3, df3, cf3, by rw [ht3.vl]; exact hv, by rw [ht3.vl]; exact hlt⟩
 intro st ⟨⟨h2, h3, h4, h5, h6, h7, l2, l3, l4, l5, hhp⟩, sq, bq, q, sr, g, l6, l7, hq, hsr, dg, cg, hv, hlt⟩
 obtain ⟨ql, qr⟩ := quo_law b c hv hlt
 have ex : x = bif b then -(vl B d : Int) else (vl B d : Int) := hx
 have ey : y = bif c then -(vl B e : Int) else (vl B e : Int) := hy
 rw [← ex, ← ey] at ql qr
 have hgz : (0 < g.length) ↔ 0 < vl B g := by
  constructor
  ·intro h1
   exact Nat.pos_of_ne_zero fun q => by have := (vl_zero cg).1 q; subst this; simp at h1
  ·intro h1
   rcases Nat.eq_zero_or_pos g.length with q | q
   ·have : g = [] := List.length_eq_zero_iff.1 q
    subst this; simp [vl] at h1
   ·exact q
 have hgl : g.length ≤ l := by have := len_le (B := B) (by decide) de cg (by omega); omega
 have hgI : IsI l (.agg [sr, .bool false]) ((vl B g : Nat) : Int) := ⟨g, false, ⟨⟨sr, rfl, hsr⟩, dg, cg, fun _ => rfl⟩, rfl, hgl⟩
 have hlast : ∀ (s2 : St) (v0 v1 w0 w1 : V), IsI k (.agg [v0, v1]) (x / y) → IsI l (.agg [w0, w1]) (x % y) → I37 s u b c ⟨h.rows, none, h.mods⟩ s2 → lg s2.loc 6 = (1, .cells false [v0, v1]) → lg s2.loc 7 = (1, .cells false [w0, w1]) → WW Pg kn0 tbl (.seq (.reg fun c t l h k => bO (ld Pg 26 (g6 t) l h) fun v0 => bO (ld Pg 26 (g7 t) l h) fun v1 => jE ((65, v1) :: (64, v0) :: []) fun e2 => jF ((ldF (g7 t)) :: (ldF (g6 t)) :: []) fun q2 => gD Try.f37 37 13 2 c (p64 (p4 t (g4 t)) v0) l h (fun v2 f2 l2 h2 => jF (f2 :: q2) fun q3 => gD Try.f37 37 13 3 c (p65 (p5 t (g5 t)) v1) l2 h2 (fun v3 f3 l3 h3 => finD (rgA Try.f37 13).toList [(1, 2)] [(1, 2)] (f3 :: q3) (k t l3 h3)) (sD Try.f37 37 13 c 3 none e2 q3 t l2 h2)) (sD Try.f37 37 13 c 2 none e2 q2 t l h)) .ret) s2 (fun _ => False) (fun _ _ => False) Q := by
  intro s2 v0 v1 w0 w1 hv hw ⟨k2, k3, k4, k5, k6, k7, m2, m3, m4, m5, mh⟩ m6 m7
  obtain ⟨sv, bv, e1, pv, _, _⟩ := hv.form
  obtain ⟨sw, bw, e2, pw, _, _⟩ := hw.form
  obtain ⟨rfl, rfl⟩ : v0 = sv ∧ v1 = .bool bv := by simpa using e1
  obtain ⟨rfl, rfl⟩ : w0 = sw ∧ w1 = .bool bw := by simpa using e2
  refine ww_seq (ww_reg (fun n k => by simp -implicitDefEqProofs (disch := omega) only [go_sem, reduceIte, Nat.reduceEqDiff, k4, k5, k6, k7, m4, m5, m6, m7, ldc_two L26, stc_two N26 1 v0 (.bool bv) .nils (.bool false) _ pv.ok rfl, stc_two N26 1 w0 (.bool bw) .nils (.bool false) _ pw.ok rfl]; exact finD_ok (by kernel_rfl)) ?_)
  exact ww_ret (fin _ _ _ _ _ hv (by rw [if_neg hyn]; exact hw) (sS1 k4) (sS1 k5) sS sS mh)
 have hb01 : b = true ∧ 0 < vl B g ∨ (b && decide (0 < vl B g)) = false := by
  cases b with
  | false => exact .inr rfl
  | true =>
   rcases Nat.eq_zero_or_pos (vl B g) with q | q
   ·exact .inr (by rw [q]; rfl)
   ·exact .inl ⟨rfl, q⟩
 rcases hb01 with ⟨rfl, hg0⟩ | hbf
 ·rw [decide_eq_true hg0, Bool.true_and, cond_true] at qr
  rw [decide_eq_true hg0] at ql
  simp only [cond_true] at ql
  have hgl0 := hgz.2 hg0
  refine ww_join (M := fun s2 => ∃ v0 v1 w0 w1, IsI k (.agg [v0, v1]) (x / y) ∧ IsI l (.agg [w0, w1]) (x % y) ∧ I37 s u true c ⟨h.rows, none, h.mods⟩ s2 ∧ lg s2.loc 6 = (1, .cells false [v0, v1]) ∧ lg s2.loc 7 = (1, .cells false [w0, w1])) ?_ (fun s2 ⟨v0, v1, w0, w1, a1, a2, a3, a4, a5⟩ => hlast s2 v0 v1 w0 w1 a1 a2 a3 a4 a5)
  refine ww_seq (ww_reg (fun n k => by simp -implicitDefEqProofs (disch := omega) only [go_sem, reduceIte, Nat.reduceEqDiff, h2, h7, l2, l7, ldc_snd L4, ldc_fst L24, len_sl hsr, decide_eq_true hgl0]; rfl) ?_)
  refine ww_true sS ?_
  obtain ⟨r4, hr4, f4, hf4, ht4⟩ := made_spec hu de (by omega) false ⟨h.rows, none, h.mods⟩
  have hI4 : IsI l r4 ((vl B e : Nat) : Int) := ⟨f4, _, hf4, by rw [Bool.false_and]; show ((vl B e : Nat) : Int) = ((vl B f4 : Nat) : Int); rw [ht4.vl], by have := ht4.len; omega⟩
  obtain ⟨r5, hr5, hI5⟩ := sub_spec hI4 hgI (by omega) (by omega) ⟨h.rows, none, h.mods⟩
  have hEl : vl B e < B ^ l := vl_lt_of (by decide) de hel
  have hI5' : IsI l r5 (x % y) := by rw [qr]; exact hI5.shrink (by omega)
  obtain ⟨s5, b5, rfl, p5, x5, q5⟩ := hI5'.form
  obtain ⟨s4, b4, rfl, p4, x4, q4⟩ := hI4.form
  obtain ⟨p7, x7, q7⟩ := hgI.nn
  refine ww_seq (ww_call (hr4.and hr5) (fun n hn k => by simp -implicitDefEqProofs (disch := omega) only [go_sem, reduceIte, Nat.reduceEqDiff, h3, h7, hhp, l3, l7, ldc_fst L24, ldc_two L26, cld2 hn.1 hu.ex (Ex1.bool _) hu.quiet rfl, cld2 hn.2 x4 x7 q4 q7, stc_two N26 1 s5 (.bool b5) sr (.bool false) _ p5.ok rfl]; exact finD_ok (by kernel_rfl)) ?_)
  obtain ⟨r8, hr8, hI8⟩ := of_spec (z := 1) (by decide) (by decide) ⟨h.rows, none, h.mods⟩
  obtain ⟨r9, hr9, hI9⟩ := of_spec (z := -1) (by decide) (by decide) ⟨h.rows, none, h.mods⟩
  obtain ⟨s8, b8, rfl, p8, x8, q8⟩ := hI8.form
  obtain ⟨s9, b9, rfl, p9, x9, q9⟩ := hI9.form
  have hr8' : Runs Pg kn0 tbl 21 [.int .i64 (.ofNat 1)] ⟨h.rows, none, h.mods⟩ (.val (.agg [s8, .bool b8]) ⟨h.rows, none, h.mods⟩) := hr8
  have hr9' : Runs Pg kn0 tbl 21 [.int .i64 (.negSucc 0)] ⟨h.rows, none, h.mods⟩ (.val (.agg [s9, .bool b9]) ⟨h.rows, none, h.mods⟩) := hr9
  refine ww_seq (ww_call (hr8') (fun n hn k => by simp -implicitDefEqProofs (disch := omega) only [go_sem, reduceIte, Nat.reduceEqDiff, hhp, clc1 hn (Ex1.int _ _), stc_two N26 ((lg st.loc 10).1 + 1) s8 (.bool b8) .nils (.bool false) _ p8.ok rfl]; rfl) ?_)
  obtain ⟨pq, xq, qq⟩ := hq.nn
  have hone : ∀ (s10 : V) (b10 : Bool) (st2 : St), IsI 2 (.agg [s10, .bool b10]) (bif c then -1 else 1) → I37 s u true c ⟨h.rows, none, h.mods⟩ st2 → gt st2.tm 10 = .ptr (.loc 10 ((lg st.loc 10).1 + 1)) 0 → lg st2.loc 10 = ((lg st.loc 10).1 + 1, .cells false [s10, .bool b10]) → lg st2.loc 6 = (1, .cells false [sq, .bool bq]) → lg st2.loc 7 = (1, .cells false [s5, .bool b5]) →
    WW Pg kn0 tbl (.reg fun c t l h k => bO (ld Pg 26 (g6 t) l h) fun v0 => bO (ld Pg 26 (g10 t) l h) fun v1 => cl c 27 [v0, v1] t l h fun v2 l2 h2 => jn (fun v3 l3 h3 => k t l3 h3) fun j3 => sto 26 (g6 t) v2 l2 h2 j3 (gn Try.f37 37 12 3 c (p63 (p6 t (g6 t)) v2) t l2 h2 j3)) st2 (fun s2 => ∃ v0 v1 w0 w1, IsI k (.agg [v0, v1]) (x / y) ∧ IsI l (.agg [w0, w1]) (x % y) ∧ I37 s u true c ⟨h.rows, none, h.mods⟩ s2 ∧ lg s2.loc 6 = (1, .cells false [v0, v1]) ∧ lg s2.loc 7 = (1, .cells false [w0, w1])) (fun _ _ => False) (fun _ => False) := by
   intro s10 b10 st2 hI10 ⟨k2, k3, k4, k5, k6, k7, m2, m3, m4, m5, mh⟩ m10 k10 n6 n7
   obtain ⟨r11, hr11, hI11⟩ := sub_spec hq hI10 (by omega) (by omega) ⟨h.rows, none, h.mods⟩
   have hval : (bif true == c then (q : Int) else -(q : Int)) - (bif c then -1 else 1) = x / y := by
    rw [ql]
    cases c with
    | false => rfl
    | true => show (q : Int) - (-1) = q + 1; omega
   rw [hval] at hI11
   have hI12 := hI11.shrink (l := k) (Nat.lt_of_le_of_lt (Int.natAbs_ediv_le_natAbs x y) ha0.abs_lt)
   obtain ⟨s11, b11, rfl, p11, x11, q11⟩ := hI12.form
   obtain ⟨_, x10, _⟩ := hI10.nn
   refine ww_call (hr11) (fun n hn k => by simp -implicitDefEqProofs (disch := omega) only [go_sem, reduceIte, Nat.reduceEqDiff, k6, n6, m10, k10, mh, ldc_two L26, clc2 hn xq x10, stc_two N26 1 s11 (.bool b11) sq (.bool bq) _ p11.ok rfl]; rfl) ?_
   exact ⟨s11, .bool b11, s5, .bool b5, hI12, hI5', ⟨(sS1 k2), (sS1 k3), (sS1 k4), (sS1 k5), (sS1 k6), (sS1 k7), (sS1 m2), (sS1 m3), (sS1 m4), (sS1 m5), rfl⟩, sS, (sS1 n7)⟩
  cases c with
  | false =>
   refine ww_seq (ww_seq (ww_reg (fun n k => by simp -implicitDefEqProofs (disch := omega) only [go_sem, reduceIte, Nat.reduceEqDiff, h3, l3, ldc_snd L4]; rfl) ?_))
   refine ww_false sS (ww_skip ?_)
   exact hone s8 b8 _ hI8 ⟨(sS1 h2), (sS1 h3), (sS1 h4), (sS1 h5), (sS1 h6), (sS1 h7), (sS1 l2), (sS1 l3), (sS1 l4), (sS1 l5), rfl⟩ sS sS (sS1 l6) sS
  | true =>
   refine ww_seq (ww_seq (ww_reg (fun n k => by simp -implicitDefEqProofs (disch := omega) only [go_sem, reduceIte, Nat.reduceEqDiff, h3, l3, ldc_snd L4]; rfl) ?_))
   refine ww_true sS ?_
   refine ww_call (hr9') (fun n hn k => by simp -implicitDefEqProofs (disch := omega) only [go_sem, reduceIte, Nat.reduceEqDiff, clc1 hn (Ex1.int _ _), stc_two N26 ((lg st.loc 10).1 + 1) s9 (.bool b9) s8 (.bool b8) _ p9.ok rfl]; rfl) ?_
   exact hone s9 b9 _ hI9 ⟨(sS1 h2), (sS1 h3), (sS1 h4), (sS1 h5), (sS1 h6), (sS1 h7), (sS1 l2), (sS1 l3), (sS1 l4), (sS1 l5), rfl⟩ sS sS (sS1 l6) sS
 ·rw [hbf, cond_false] at qr
  have qf : x / y = bif b == c then (q : Int) else -(q : Int) := by
   rw [ql]
   cases b with
   | false => cases c <;> rfl
   | true =>
    rw [Bool.true_and] at hbf
    rw [hbf]
    cases c <;> simp
  refine ww_join (M := fun s2 => s2.loc = st.loc ∧ I37 s u b c ⟨h.rows, none, h.mods⟩ s2) ?_ (fun s2 ⟨hloc, hI⟩ => hlast s2 sq (.bool bq) sr (.bool false) (by rw [qf]; exact hq) (by rw [qr]; exact hgI) hI (by rw [hloc]; exact l6) (by rw [hloc]; exact l7))
  cases b with
  | false =>
   refine ww_seq (ww_reg (fun n k => by simp -implicitDefEqProofs (disch := omega) only [go_sem, reduceIte, Nat.reduceEqDiff, h2, l2, ldc_snd L4]; rfl) ?_)
   exact ww_false sS (ww_skip ⟨rfl, ⟨(sS1 h2), (sS1 h3), (sS1 h4), (sS1 h5), (sS1 h6), (sS1 h7), l2, l3, l4, l5, hhp⟩⟩)
  | true =>
   rw [Bool.true_and, decide_eq_false_iff_not, ← hgz] at hbf
   refine ww_seq (ww_reg (fun n k => by simp -implicitDefEqProofs (disch := omega) only [go_sem, reduceIte, Nat.reduceEqDiff, h2, h7, l2, l7, ldc_snd L4, ldc_fst L24, len_sl hsr, decide_eq_false hbf]; rfl) ?_)
   exact ww_false sS (ww_skip ⟨rfl, ⟨(sS1 h2), (sS1 h3), (sS1 h4), (sS1 h5), (sS1 h6), (sS1 h7), l2, l3, l4, l5, hhp⟩⟩)
end Go.AM.S
end
section
namespace Go.AM.S
open Go Go.AM Go.Proofs NumL
open _root_.Go.AM.G (R)
set_option maxRecDepth 100000
end Go.AM.S
end
section
namespace Go.AM.S
open Go Go.AM Go.Proofs NumL
open _root_.Go.AM.G (R)
set_option maxRecDepth 100000
theorem ne_str (t : TypeId) (cn : Bool) {a b : List Nat} (ha : Dg 256 a) (hb : Dg 256 b) : bin Pg .neq t cn (.str (sl a)) (.str (sl b)) = some (.bool (!decide (a = b))) := by
 show some (V.bool (!(sl a).same (sl b))) = _
 rw [sl_same ha hb]
theorem iZ_eql (k : IntKind) (x : Int) : G.int2 .eql k x x = some (.bool true) := by
 show some (V.bool (F.eqI x x)) = _
 rw [F.eqI_eq]
 simp
end Go.AM.S
end
section
namespace Go.AM.S
open Go Go.AM Go.Proofs NumL
open _root_.Go.AM.G (R)
set_option maxRecDepth 100000
end Go.AM.S
end
section
namespace Go.AM.S
open Go Go.AM Go.Proofs NumL
open _root_.Go.AM.G (R)
set_option maxRecDepth 100000
theorem cmpZ_self (x : Int) : cmpZ x x = .ofNat 0 := by unfold cmpZ; rw [if_neg (by omega), if_neg (by omega)]
theorem cmpZ_eq {x y : Int} (h : x = y) : cmpZ x y = .ofNat 0 := by rw [h]; exact cmpZ_self y
theorem sgn_zero {x : Int} (h : x = 0) : sgn x = .ofNat 0 := by rw [h]; rfl
end Go.AM.S
end
section
namespace Go.AM.S
open Go Go.AM Go.Proofs NumL
open _root_.Go.AM.G (R)
set_option maxRecDepth 100000
section
variable {C : Cfg} {P : Program} {call : CallF} {gl : Nat → Bool} {o : Oper} {t' tm : Tm} {loc : Lo} {hp : Hp}
end
end Go.AM.S
end
section
namespace Go.AM.S
open Go Go.AM Go.Proofs NumL
open _root_.Go.AM.G (R)
set_option maxRecDepth 100000
theorem tbl5 : tbl 5 = some ⟨rc5, [.tmp 4]⟩ := by kernel_rfl
theorem dv5_26 (k : IntKind) (n : Int) (c : CallF) (t : Tm) (l : Lo) (h : Hp) (J : JD) (X : XD) : gD Try.f5 5 26 6 c (pt t 82 (.int k n)) l h J X = J (.int .i64 (F.wrapI .i64 n)) ⟨[], [], false, false, false, false⟩ l h :=
 genD_cv (C := Cg) (gl := Cg.glob 5) (call := c) (o := opA Try.f5 26 6) (d := 83) (x := 82) (s := 5) (t := 2) (by kernel_rfl) (by kernel_rfl) U5 U2 (by rw [gt_pt, if_pos rfl])
theorem digit_text {d : Nat} (hd : d < 10) (k k' : IntKind) : slc Pg 9 (.str ⟨10, 270211885617516653982000⟩) (some (.int k (.ofNat d))) (some (.int k' (.ofNat (d + 1)))) none = some (.str (sl [48 + d])) := by
 have h : d = 0 ∨ d = 1 ∨ d = 2 ∨ d = 3 ∨ d = 4 ∨ d = 5 ∨ d = 6 ∨ d = 7 ∨ d = 8 ∨ d = 9 := by omega
 rcases h with rfl | rfl | rfl | rfl | rfl | rfl | rfl | rfl | rfl | rfl <;> (show _ = _; kernel_rfl)
def dgv (l : List Nat) : Nat := l.foldl (fun n b => 10 * n + b % 10) 0
theorem dgv_next (l : List Nat) (i : Nat) (h : i < l.length) : dgv (l.take (i + 1)) = 10 * dgv (l.take i) + l.getD i 0 % 10 := by
 rw [take_snoc l i h]
 simp [dgv]
theorem dgv_lt (l : List Nat) : ∀ i, i ≤ l.length → dgv (l.take i) < 10 ^ i := by
 intro i
 induction i with
 | zero => intro _; simp [dgv]
 | succ i ih =>
  intro h
  rw [dgv_next l i (by omega), Nat.pow_succ]
  have := ih (by omega)
  omega
theorem ten_B (i : Nat) (h : i ≤ 200) : 10 ^ i < B ^ 203 := by
 calc 10 ^ i ≤ B ^ i := Nat.pow_le_pow_left (by decide) i
  _ < B ^ 203 := Nat.pow_lt_pow_right (by decide) (by omega)
theorem good_text {T : List Nat} (b : Bool) (hd : Dec T) (hne : 0 < T.length) (h0 : T.getD 0 0 ≠ 48) : goodB (bif b then 45 :: T else T) = true ∧ zOf (bif b then 45 :: T else T) = bif b then -(dv T : Int) else (dv T : Int) := by
 have hl : T.reverse.getD (T.reverse.length - 1) 0 = T.getD 0 0 := by
  have := rev_head T.reverse (by simpa using hne)
  rw [List.reverse_reverse] at this
  exact this.symm
 have h := good_of (out := T.reverse) b hd.rev (by simpa using hne) (by rw [hl]; exact h0)
 have e : (T.reverse ++ bif b then [45] else []).reverse = bif b then 45 :: T else T := by cases b <;> simp
 rw [e] at h
 have e2 : lv T.reverse = dv T := by rw [← dv_rev, List.reverse_reverse]
 rw [e2] at h
 exact h
structure I5 (va : V) (ng : Bool) (N : Nat) (sN s10 : V) (bN b10 : Bool) (T : List Nat) (st : St) : Prop where
 h0 : gt st.tm 0 = va
 h1 : gt st.tm 1 = .bool ng
 h5 : gt st.tm 5 = .ptr (.loc 5 1) 0
 h6 : gt st.tm 6 = .ptr (.loc 6 1) 0
 h7 : gt st.tm 7 = .str (sl T)
 l5 : lg st.loc 5 = (1, .cells false [sN, .bool bN])
 l6 : lg st.loc 6 = (1, .cells false [s10, .bool b10])
 hp : st.hp = noHp
theorem law5 {va : V} {ds : List Nat} (hva : Sl .u8 va ds) (hds : Dg 256 ds) (ng : Bool) : Runs Pg kn0 tbl 5 [va, .bool ng] noHp (.val (.bool true) noHp) := by
 suffices hw : WW Pg kn0 tbl rc5 ⟨startTm [va, .bool ng], .lf, ⟨noHp.rows, none, noHp.mods⟩⟩ (fun _ => False) (fun _ _ => False) (fun s => ∃ o, fin Pg noHp [.tmp 4] s = some o ∧ o = .val (.bool true) noHp) by
  obtain ⟨o, h1, h2⟩ := runs_ex (kn := kn0) (h := noHp) rfl tbl5 (ww_mono hw (fun s hs => hs.elim) (fun _ _ h => h) (fun s h => h))
  subst h2
  exact h1
 have done : ∀ (st : St), gt st.tm 4 = .bool true → st.hp = noHp → ∃ o, fin Pg noHp [.tmp 4] st = some o ∧ o = .val (.bool true) noHp := by
  intro st h4 hh
  exact ⟨_, fin_tmpD h4 (Ex1.bool _) (by rw [hh]; exact fun x hx => by cases hx) rfl, rfl⟩
 have ehp : (⟨noHp.rows, none, noHp.mods⟩ : Hp) = noHp := rfl
 rw [ehp]
 unfold rc5
 refine sR ?_
 refine ww_seq (ww_seq (ww_call (known_runs) (fun n hn k => by simp -implicitDefEqProofs (disch := omega) only [go_sem, reduceIte, Nat.reduceEqDiff, clc0 hn]; rfl) ?_))
 refine ww_false sS (ww_skip ?_)
 by_cases hlen : 200 < ds.length
 ·refine ww_seq (ww_seq (ww_reg (fun n k => by simp -implicitDefEqProofs (disch := omega) only [go_sem, reduceIte, Nat.reduceEqDiff, gt_start, List.getD_cons_zero, List.getD_cons_succ, len_sl hva, decide_eq_true hlen]; rfl) ?_))
  refine ww_true sS ?_
  refine sR ?_
  exact ww_ret (done _ sS rfl)
 refine ww_seq (ww_seq (ww_reg (fun n k => by simp -implicitDefEqProofs (disch := omega) only [go_sem, reduceIte, Nat.reduceEqDiff, gt_start, List.getD_cons_zero, List.getD_cons_succ, len_sl hva, decide_eq_false hlen]; rfl) ?_))
 refine ww_false sS (ww_skip ?_)
 obtain ⟨_, P0, I0⟩ := of_spec (z := .ofNat 0) (by decide) (by decide) noHp
 obtain ⟨_, P10, I10⟩ := of_spec (z := .ofNat 10) (by decide) (by decide) noHp
 obtain ⟨s0, b0, rfl, p0', x0, _⟩ := I0.form
 obtain ⟨s10, b10, rfl, p10, x10, q10⟩ := I10.form
 refine ww_seq (ww_call (P0.and P10) (fun n hn k => by simp -implicitDefEqProofs (disch := omega) only [go_sem, reduceIte, Nat.reduceEqDiff, clc1 hn.1 (Ex1.int _ _), clc1 hn.2 (Ex1.int _ _), stc_two N26 1 s0 (.bool b0) .nils (.bool false) _ p0'.ok rfl, stc_two N26 1 s10 (.bool b10) .nils (.bool false) _ p10.ok rfl]; rfl) ?_)
 refine sR ?_
 refine ww_join (M := fun st => ∃ sN bN T, I5 va ng (dgv ds) sN s10 bN b10 T st ∧ IsI 203 (.agg [sN, .bool bN]) ((dgv ds : Nat) : Int) ∧ Dec T ∧ dv T = dgv ds ∧ (T ≠ [] → T.getD 0 0 ≠ 48) ∧ T.length ≤ 200) ?_ ?_
 ·refine sR ?_
  refine ww_for (fun m st => ∃ i sN bN T, m + i = ds.length ∧ I5 va ng (dgv (ds.take i)) sN s10 bN b10 T st ∧ gt st.tm 8 = .int .i64 (.ofNat i) ∧ IsI 203 (.agg [sN, .bool bN]) ((dgv (ds.take i) : Nat) : Int) ∧ Dec T ∧ dv T = dgv (ds.take i) ∧ (T ≠ [] → T.getD 0 0 ≠ 48) ∧ T.length ≤ i) ds.length ⟨0, s0, b0, [], rfl, ⟨sSG, sSG, sS, sS, (by simp -implicitDefEqProofs (disch := omega) only [go_sem, reduceIte, Nat.reduceEqDiff]; rfl), sS, sS, rfl⟩, sS, I0.mono (by decide), (fun b hb => by simp at hb), rfl, (fun e => absurd rfl e), by simp⟩ ?_
  intro m st ⟨i, sN, bN, T, hm, ⟨h0, h1, h5, h6, h7, l5, l6, hhp⟩, h8, hI, hT, hdv, hT0, hTl⟩
  refine ww_seq (ww_seq (ww_reg (fun n k => by simp -implicitDefEqProofs (disch := omega) only [go_sem, reduceIte, Nat.reduceEqDiff, h0, h8, len_sl hva]; rfl) ?_))
  refine ww_if (by simp only [gt_pt, reduceIte]; rfl) (fun hi => ww_skip ?_) (fun hi => ww_exit ?_)
  ·have hx : ds.getD i 0 < 256 := hds.get (by decide) i
   have hd10 : ds.getD i 0 % 10 < 10 := Nat.mod_lt _ (by decide)
   obtain ⟨sN', bN', e, pN, xN, _⟩ := hI.form
   obtain ⟨rfl, rfl⟩ : sN = sN' ∧ bN = bN' := by simpa using e
   obtain ⟨r1, A1, I1⟩ := mul_spec hI I10 (by omega) (by omega) noHp
   obtain ⟨r2, A2, I2⟩ := of_spec (z := .ofNat (ds.getD i 0 % 10)) (by show -9223372036854775808 ≤ ((ds.getD i 0 % 10 : Nat) : Int); omega) (by show ((ds.getD i 0 % 10 : Nat) : Int) ≤ 9223372036854775807; omega) noHp
   obtain ⟨r3, A3, I3⟩ := add_spec I1 I2 (by omega) (by omega) noHp
   have hnx := dgv_next ds i hi
   have hval : ((dgv (ds.take i) : Nat) : Int) * (.ofNat 10) + (.ofNat (ds.getD i 0 % 10)) = ((dgv (ds.take (i + 1)) : Nat) : Int) := by
    rw [hnx]
    show ((dgv (ds.take i) : Nat) : Int) * 10 + ((ds.getD i 0 % 10 : Nat) : Int) = _
    omega
   rw [hval] at I3
   have hlt := Nat.lt_of_lt_of_le (dgv_lt ds (i + 1) (by omega)) (Nat.le_of_lt (ten_B (i + 1) (by omega)))
   have I3' : IsI 203 r3 ((dgv (ds.take (i + 1)) : Nat) : Int) := I3.shrink (by simpa using hlt)
   obtain ⟨s3, b3, rfl, p3, x3, _⟩ := I3'.form
   refine ww_join (M := fun st2 => ∃ T2, I5 va ng (dgv (ds.take (i + 1))) s3 s10 b3 b10 T2 st2 ∧ gt st2.tm 8 = .int .i64 (.ofNat i) ∧ Dec T2 ∧ dv T2 = dgv (ds.take (i + 1)) ∧ (T2 ≠ [] → T2.getD 0 0 ≠ 48) ∧ T2.length ≤ i + 1) ?_ (fun st2 ⟨T2, ⟨i0, i1, i5, i6, i7, j5, j6, ihp⟩, i8, jT, jdv, jT0, jTl⟩ => by
    refine sE1 i8 ?_
    exact ⟨m - 1, by omega, i + 1, s3, b3, T2, by omega, ⟨(sS1 i0), (sS1 i1), (sS1 i5), (sS1 i6), (sS1 i7), (sS1 j5), (sS1 j6), ihp⟩, sS, I3', jT, jdv, jT0, jTl⟩)
   refine ww_block ?_
   refine ww_seq (ww_reg (fun n k => by simp -implicitDefEqProofs (disch := omega) only [go_sem, reduceIte, Nat.reduceEqDiff, h0, h8, ia51 hva]; rfl) ?_)
   refine ww_seq (ww_call ((A1.and A2).and A3) (fun n hn k => by simp -implicitDefEqProofs (disch := omega) only [go_sem, reduceIte, Nat.reduceEqDiff, h5, h6, l5, l6, hhp, ldc_two L26, clc2 hn.1.1 xN x10, clc1 hn.1.2 (Ex1.int _ _), clc2 hn.2 I1.ex I2.ex, stc_two N26 1 s3 (.bool b3) sN (.bool bN) _ p3.ok rfl]; rfl) ?_)
   have hnb : bin Pg .neq 9 true (.str (sl T)) (.str ⟨0, 0⟩) = some (.bool (!decide (T = []))) := ne_str 9 true hT.dg (b := []) (Dg.nil 256)
   have hadd : bin Pg .add 9 false (.str (sl T)) (.str (sl [48 + ds.getD i 0 % 10])) = some (.str (sl (T ++ [48 + ds.getD i 0 % 10]))) := add_str 9 false hT.dg (by simp; omega)
   have h13 : ∀ (tm : Tm) (loc : Lo), (T ≠ [] ∨ 0 < ds.getD i 0 % 10) → gt tm 0 = va → gt tm 1 = .bool ng → gt tm 5 = .ptr (.loc 5 1) 0 → gt tm 6 = .ptr (.loc 6 1) 0 → gt tm 7 = .str (sl T) → gt tm 8 = .int .i64 (.ofNat i) → gt tm 9 = .int .u8 (.ofNat (ds.getD i 0 % 10)) → lg loc 5 = (1, .cells false [s3, .bool b3]) → lg loc 6 = (1, .cells false [s10, .bool b10]) →
     WW Pg kn0 tbl (.reg fun c t l h k => bO (bin Pg .add 5 true (g9 t) (.int .u8 (.ofNat 1))) fun v0 => bO (slc Pg 9 (.str ⟨10, 270211885617516653982000⟩) (some (g9 t)) (some v0) none) fun v1 => bO (bin Pg .add 9 false (g7 t) v1) fun v2 => k (p7 t v2) l h) ⟨tm, loc, noHp⟩ (fun st2 => ∃ T2, I5 va ng (dgv (ds.take (i + 1))) s3 s10 b3 b10 T2 st2 ∧ gt st2.tm 8 = .int .i64 (.ofNat i) ∧ Dec T2 ∧ dv T2 = dgv (ds.take (i + 1)) ∧ (T2 ≠ [] → T2.getD 0 0 ≠ 48) ∧ T2.length ≤ i + 1) (fun i_1 s => if i_1 = 1 then (∃ T2, I5 va ng (dgv (ds.take (i + 1))) s3 s10 b3 b10 T2 s ∧ gt s.tm 8 = .int .i64 (.ofNat i) ∧ Dec T2 ∧ dv T2 = dgv (ds.take (i + 1)) ∧ (T2 ≠ [] → T2.getD 0 0 ≠ 48) ∧ T2.length ≤ i + 1) else False) (fun _ => False) := by
    intro tm loc hc q0 q1 q5 q6 q7 q8 q9 m5 m6
    refine ww_reg (fun n k => by simp -implicitDefEqProofs (disch := omega) only [go_sem, reduceIte, Nat.reduceEqDiff, q9, q7, wrap_u8, digit_text hd10, hadd]; rfl) ?_
    refine ⟨T ++ [48 + ds.getD i 0 % 10], ⟨(sS1 q0), (sS1 q1), (sS1 q5), (sS1 q6), sS, m5, m6, rfl⟩, (sS1 q8), hT.snoc (by omega) (by omega), ?_, ?_, by simp; omega⟩
    ·rw [dv_snoc, hdv, hnx]; omega
    ·intro _
     cases T with
     | nil =>
      rcases hc with e | e
      ·exact absurd rfl e
      ·show 48 + ds.getD i 0 % 10 ≠ 48
       omega
     | cons t0 T => exact hT0 (by simp)
   by_cases hTe : T = []
   ·have hf : (!decide (T = [])) = false := by rw [decide_eq_true hTe]; rfl
    rw [hf] at hnb
    refine sR2 h7 hnb ?_
    refine ww_if (by simp only [gt_pt, reduceIte]; rfl) (fun hd0 => ?_) (fun hd0 => ww_skip ?_)
    ·exact h13 _ _ (.inr hd0) (sS1 h0) (sS1 h1) (sS1 h5) (sS1 h6) (sS1 h7) (sS1 h8) sS sS (sS1 l6)
    ·subst hTe
     refine ⟨[], ⟨(sS1 h0), (sS1 h1), (sS1 h5), (sS1 h6), (sS1 h7), sS, (sS1 l6), rfl⟩, (sS1 h8), hT, ?_, fun e => absurd rfl e, by simp⟩
     have e0 : dv [] = 0 := rfl
     rw [e0] at hdv ⊢
     rw [hnx]; omega
   ·have hf : (!decide (T = [])) = true := by rw [decide_eq_false hTe]; rfl
    rw [hf] at hnb
    refine sR2 h7 hnb ?_
    refine ww_true sS ?_
    exact h13 _ _ (.inl hTe) (sS1 h0) (sS1 h1) (sS1 h5) (sS1 h6) (sS1 h7) (sS1 h8) sS sS (sS1 l6)
  ·rw [if_pos rfl]
   have ei : i = ds.length := by omega
   subst ei
   rw [List.take_length] at hdv hI
   exact ⟨sN, bN, T, ⟨(sS1 h0), (sS1 h1), (sS1 h5), (sS1 h6), (sS1 h7), l5, l6, hhp⟩, hI, hT, hdv, hT0, by omega⟩
 ·intro st ⟨sN, bN, T, ⟨h0, h1, h5, h6, h7, l5, l6, hhp⟩, hI, hT, hdv, hT0, hTl⟩
  have hN : IsI 203 (.agg [sN, .bool bN]) ((dgv ds : Nat) : Int) := hI
  obtain ⟨_, xN, _⟩ := hI.nn
  obtain ⟨rn, An, In⟩ := neg_spec hI (by omega) noHp
  obtain ⟨sn, bn, rfl, pn, xn, _⟩ := In.form
  have hz : IsI 203 (.agg [sn, .bool bn]) (-((dgv ds : Nat) : Int)) := In
  refine ww_join (M := fun st => ∃ T2 sZ bZ, I5 va ng 0 sZ s10 bZ b10 T2 st ∧ IsI 203 (.agg [sZ, .bool bZ]) (bif ng then -((dgv ds : Nat) : Int) else ((dgv ds : Nat) : Int)) ∧ goodB T2 = true ∧ zOf T2 = (bif ng then -((dgv ds : Nat) : Int) else ((dgv ds : Nat) : Int)) ∧ Dg 256 T2) ?_ ?_
  ·by_cases hTe : T = []
   ·have hb0 : bin Pg .eql 9 true (.str (sl T)) (.str ⟨0, 0⟩) = some (.bool true) := by rw [eq_nil 9 true hT.dg, decide_eq_true hTe]
    have hN0 : dgv ds = 0 := by rw [← hdv, hTe]; rfl
    refine sR2 h7 hb0 ?_
    refine ww_true sS ?_
    refine sE ?_
    refine ⟨[48], sN, bN, ⟨(sS1 h0), (sS1 h1), (sS1 h5), (sS1 h6), (by simp -implicitDefEqProofs (disch := omega) only [go_sem, reduceIte, Nat.reduceEqDiff]; rfl), l5, l6, hhp⟩, ?_, by decide, ?_, by intro x hx; rw [List.mem_singleton.1 hx]; decide⟩
    ·rw [hN0] at hN ⊢
     cases ng <;> exact hN
    ·rw [hN0]
     cases ng <;> decide
   ·have hb0 : bin Pg .eql 9 true (.str (sl T)) (.str ⟨0, 0⟩) = some (.bool false) := by rw [eq_nil 9 true hT.dg, decide_eq_false hTe]
    obtain ⟨g1', g2'⟩ := good_text ng hT (List.length_pos_iff.2 hTe) (hT0 hTe)
    rw [hdv] at g2'
    refine sR2 h7 hb0 ?_
    refine ww_false sS ?_
    refine sR1 h1 ?_
    cases ng with
    | false =>
     refine ww_false sS (ww_skip ?_)
     exact ⟨T, sN, bN, ⟨(sS1 h0), (sS1 h1), (sS1 h5), (sS1 h6), (sS1 h7), l5, l6, hhp⟩, hN, g1', g2', hT.dg⟩
    | true =>
     have hadd : bin Pg .add 9 true (.str ⟨1, 45⟩) (.str (sl T)) = some (.str (sl (45 :: T))) := add_str 9 true (a := [45]) (b := T) (by intro x hx; rw [List.mem_singleton.1 hx]; decide) (by simp; omega)
     refine ww_true sS ?_
     refine ww_call (An) (fun n hn k => by simp -implicitDefEqProofs (disch := omega) only [go_sem, reduceIte, Nat.reduceEqDiff, h5, h7, l5, hhp, ldc_two L26, clc1 hn xN, hadd, stc_two N26 1 sn (.bool bn) sN (.bool bN) _ pn.ok rfl]; rfl) ?_
     exact ⟨45 :: T, sn, bn, ⟨(sS1 h0), (sS1 h1), (sS1 h5), (sS1 h6), sS, sS, (sS1 l6), rfl⟩, hz, g1', g2', by intro x hx; rcases List.mem_cons.1 hx with rfl | e; decide; exact hT.dg x e⟩
  ·intro st ⟨T2, sZ, bZ, ⟨h0, h1, h5, h6, h7, l5, l6, hhp⟩, hZ, hg, hzo, dT2⟩
   obtain ⟨_, Pst, t, rfl, dt, gt', zt, _⟩ := string_spec hZ (by decide) noHp
   have et : t = T2 := zOf_inj gt' hg (by rw [zt, hzo])
   subst et
   obtain ⟨pZ, xZ, _⟩ := hZ.nn
   have ns : bin Pg .neq 9 false (.str (sl t)) (.str (sl t)) = some (.bool false) := by rw [ne_str 9 false dt dt, decide_eq_true rfl]; rfl
   refine ww_seq (ww_seq (ww_call (Pst) (fun n hn k => by simp -implicitDefEqProofs (disch := omega) only [go_sem, reduceIte, Nat.reduceEqDiff, h5, h7, l5, hhp, ldc_two L26, clc1 hn xZ, ns]; rfl) ?_))
   refine ww_false sS (ww_skip ?_)
   refine ww_join (M := fun st => ∃ sM bM, I5 va ng 0 sM s10 bM b10 t st ∧ IsI 203 (.agg [sM, .bool bM]) ((dgv ds : Nat) : Int)) ?_ ?_
   ·refine sR1 h1 ?_
    cases ng with
    | false =>
     refine ww_false sS (ww_skip ?_)
     exact ⟨sZ, bZ, ⟨(sS1 h0), (sS1 h1), (sS1 h5), (sS1 h6), (sS1 h7), l5, l6, rfl⟩, hZ⟩
    | true =>
     obtain ⟨rm, Am, Im⟩ := neg_spec hZ (by omega) noHp
     rw [cond_true, Int.neg_neg] at Im
     obtain ⟨sm, bm, rfl, pm, xm, _⟩ := Im.form
     refine ww_true sS ?_
     refine ww_call (Am) (fun n hn k => by simp -implicitDefEqProofs (disch := omega) only [go_sem, reduceIte, Nat.reduceEqDiff, h5, l5, ldc_two L26, clc1 hn xZ, stc_two N26 1 sm (.bool bm) sZ (.bool bZ) _ pm.ok rfl]; rfl) ?_
     exact ⟨sm, bm, ⟨(sS1 h0), (sS1 h1), (sS1 h5), (sS1 h6), (sS1 h7), sS, (sS1 l6), rfl⟩, Im⟩
   ·intro st ⟨sM, bM, ⟨h0, h1, h5, h6, h7, l5, l6, hhp⟩, hM⟩
    refine ww_seq (ww_seq (ww_reg (fun n k => by simp -implicitDefEqProofs (disch := omega) only [go_sem, reduceIte, Nat.reduceEqDiff, h0, len_sl hva, i_dec]; rfl) ?_))
    refine ww_for (fun m st => ∃ sM bM, m ≤ ds.length ∧ I5 va ng 0 sM s10 bM b10 t st ∧ gt st.tm 10 = .int .i64 (dn m) ∧ IsI 203 (.agg [sM, .bool bM]) ((dgv (ds.take m) : Nat) : Int)) ds.length ⟨sM, bM, Nat.le_refl _, ⟨(sS1 h0), (sS1 h1), (sS1 h5), (sS1 h6), (sS1 h7), l5, l6, hhp⟩, sS, by rw [List.take_length]; exact hM⟩ ?_
    intro m st ⟨sM, bM, hm, ⟨h0, h1, h5, h6, h7, l5, l6, hhp⟩, h10, hM⟩
    obtain ⟨pM, xM, qM⟩ := hM.nn
    cases m with
    | zero =>
     refine ww_seq (ww_seq (ww_reg (fun n k => by simp -implicitDefEqProofs (disch := omega) only [go_sem, reduceIte, Nat.reduceEqDiff, h10, dn]; rfl) ?_))
     refine ww_false sS (ww_exit ?_)
     rw [if_pos rfl]
     obtain ⟨_, Ps, rfl⟩ := sign_spec hM (by omega) noHp
     rw [sgn_zero (show ((dgv (ds.take 0) : Nat) : Int) = 0 from rfl)] at Ps
     refine ww_seq (ww_call (Ps) (fun n hn k => by simp -implicitDefEqProofs (disch := omega) only [go_sem, reduceIte, Nat.reduceEqDiff, h5, l5, hhp, ldc_two L26, clc1 hn xM, iZ_eql]; rfl) ?_)
     exact ww_ret (done _ sS rfl)
    | succ i =>
     have h10' : gt st.tm 10 = .int .i64 (.ofNat i) := h10
     have hx : ds.getD i 0 < 256 := hds.get (by decide) i
     have hd10 : ds.getD i 0 % 10 < 10 := Nat.mod_lt _ (by decide)
     have hnx := dgv_next ds i (by omega)
     obtain ⟨_, Pq, v, w, rfl, Iv, Iw⟩ := quo_spec hM I10 (by omega) (by omega) noHp
     have ev : ((dgv (ds.take (i + 1)) : Nat) : Int) / (.ofNat 10) = ((dgv (ds.take i) : Nat) : Int) := by
      rw [hnx]; show ((10 * dgv (ds.take i) + ds.getD i 0 % 10 : Nat) : Int) / 10 = _; omega
     have ew : ((dgv (ds.take (i + 1)) : Nat) : Int) % (.ofNat 10) = ((ds.getD i 0 % 10 : Nat) : Int) := by
      rw [hnx]; show ((10 * dgv (ds.take i) + ds.getD i 0 % 10 : Nat) : Int) % 10 = _; omega
     rw [ev] at Iv
     have Iw' : IsI 203 w ((ds.getD i 0 % 10 : Nat) : Int) := by
      rw [ew] at Iw
      exact Iw.mono (by split <;> omega)
     obtain ⟨sv, bv, rfl, pv, xv, _⟩ := Iv.form
     obtain ⟨sw, bw, rfl, pw, xw, qw⟩ := Iw'.form
     obtain ⟨r2, A2, I2⟩ := of_spec (z := .ofNat (ds.getD i 0 % 10)) (by show -9223372036854775808 ≤ ((ds.getD i 0 % 10 : Nat) : Int); omega) (by show ((ds.getD i 0 % 10 : Nat) : Int) ≤ 9223372036854775807; omega) noHp
     obtain ⟨_, Ac, rfl⟩ := cmp_spec Iw' I2 (by omega) (by omega) noHp
     rw [cmpZ_eq (show ((ds.getD i 0 % 10 : Nat) : Int) = .ofNat (ds.getD i 0 % 10) from rfl)] at Ac
     refine ww_seq (ww_seq (ww_reg (fun n k => by simp -implicitDefEqProofs (disch := omega) only [go_sem, reduceIte, Nat.reduceEqDiff, h10', d_true]; rfl) ?_))
     refine ww_true sS (ww_skip ?_)
     refine ww_seq (ww_block ?_)
     refine ww_seq (ww_call (Pq) (fun n hn k => by simp -implicitDefEqProofs (disch := omega) only [go_sem, reduceIte, Nat.reduceEqDiff, h5, h6, l5, l6, hhp, ldc_two L26, clc2 hn xM x10, ext_tuple, stc_two N26 ((lg st.loc 11).1 + 1) sv (.bool bv) .nils (.bool false) _ pv.ok rfl, stc_two N26 ((lg st.loc 12).1 + 1) sw (.bool bw) .nils (.bool false) _ pw.ok rfl]; rfl) ?_)
     refine ww_seq (ww_seq (ww_call (A2.and Ac) (fun n hn k => by
      simp -implicitDefEqProofs (disch := omega) only [go_sem, reduceIte, Nat.reduceEqDiff, h0, h10', ia51 hva, dv5_26, ldc_two L26, cld1 hn.1 (Ex1.int _ _) rfl, cld2 hn.2 xw I2.ex qw I2.quiet, i_neq, d_false]
      exact finD_ok (by kernel_rfl)) ?_))
     refine ww_false sS (ww_skip ?_)
     refine ww_reg (fun n k => by simp -implicitDefEqProofs (disch := omega) only [go_sem, reduceIte, Nat.reduceEqDiff, h5, l5, ldc_two L26, stc_two N26 1 sv (.bool bv) sM (.bool bM) _ pv.ok rfl]; rfl) ?_
     refine ww_reg (fun n k => by simp -implicitDefEqProofs (disch := omega) only [go_sem, reduceIte, Nat.reduceEqDiff, h10', i_dec]; rfl) ?_
     exact ⟨i, by omega, sv, bv, by omega, ⟨(sS1 h0), (sS1 h1), (sS1 h5), (sS1 h6), (sS1 h7), sS, (sS1 l6), rfl⟩, sS, Iv⟩
end Go.AM.S
end
section
namespace Go.AM.S
open Go Go.AM Go.Proofs
set_option maxRecDepth 100000
theorem ok5 : FOk Pg Cg 5 ⟨rc5, Try.f5.results.toList⟩ := fok (kp := kp5) rfl Try.func5 (by kernel_rfl) (by kernel_rfl) (by kernel_rfl)
theorem ok21 : FOk Pg Cg 21 ⟨rc21, Try.f21.results.toList⟩ := fok (kp := kp21) rfl Try.func21 (by kernel_rfl) (by kernel_rfl) (by kernel_rfl)
theorem ok31 : FOk Pg Cg 31 ⟨rc31, Try.f31.results.toList⟩ := fok (kp := kp31) rfl Try.func31 (by kernel_rfl) (by kernel_rfl) (by kernel_rfl)
theorem ok64 : FOk Pg Cg 64 ⟨rc64, Try.f64.results.toList⟩ := fok (kp := kp64) rfl Try.func64 (by kernel_rfl) (by kernel_rfl) (by kernel_rfl)
theorem ok71 : FOk Pg Cg 71 ⟨rc71, Try.f71.results.toList⟩ := fok (kp := kp71) rfl Try.func71 (by kernel_rfl) (by kernel_rfl) (by kernel_rfl)
theorem ok78 : FOk Pg Cg 78 ⟨rc78, Try.f78.results.toList⟩ := fok (kp := kp78) rfl Try.func78 (by kernel_rfl) (by kernel_rfl) (by kernel_rfl)
theorem ok86 : FOk Pg Cg 86 ⟨rc86, Try.f86.results.toList⟩ := fok (kp := kp86) rfl Try.func86 (by kernel_rfl) (by kernel_rfl) (by kernel_rfl)
end Go.AM.S
end
section
namespace Go.AM.S
open Go Go.AM Go.Proofs
set_option maxRecDepth 100000
theorem ok13 : FOk Pg Cg 13 ⟨rc13, Try.f13.results.toList⟩ := fok (kp := kp13) rfl Try.func13 (by kernel_rfl) (by kernel_rfl) (by kernel_rfl)
theorem ok25 : FOk Pg Cg 25 ⟨rc25, Try.f25.results.toList⟩ := fok (kp := kp25) rfl Try.func25 (by kernel_rfl) (by kernel_rfl) (by kernel_rfl)
theorem ok33 : FOk Pg Cg 33 ⟨rc33, Try.f33.results.toList⟩ := fok (kp := kp33) rfl Try.func33 (by kernel_rfl) (by kernel_rfl) (by kernel_rfl)
theorem ok65 : FOk Pg Cg 65 ⟨rc65, Try.f65.results.toList⟩ := fok (kp := kp65) rfl Try.func65 (by kernel_rfl) (by kernel_rfl) (by kernel_rfl)
theorem ok72 : FOk Pg Cg 72 ⟨rc72, Try.f72.results.toList⟩ := fok (kp := kp72) rfl Try.func72 (by kernel_rfl) (by kernel_rfl) (by kernel_rfl)
theorem ok83 : FOk Pg Cg 83 ⟨rc83, Try.f83.results.toList⟩ := fok (kp := kp83) rfl Try.func83 (by kernel_rfl) (by kernel_rfl) (by kernel_rfl)
theorem ok87 : FOk Pg Cg 87 ⟨rc87, Try.f87.results.toList⟩ := fok (kp := kp87) rfl Try.func87 (by kernel_rfl) (by kernel_rfl) (by kernel_rfl)
end Go.AM.S
end
section
namespace Go.AM.S
open Go Go.AM Go.Proofs
set_option maxRecDepth 100000
theorem ok15 : FOk Pg Cg 15 ⟨rc15, Try.f15.results.toList⟩ := fok (kp := kp15) rfl Try.func15 (by kernel_rfl) (by kernel_rfl) (by kernel_rfl)
theorem ok27 : FOk Pg Cg 27 ⟨rc27, Try.f27.results.toList⟩ := fok (kp := kp27) rfl Try.func27 (by kernel_rfl) (by kernel_rfl) (by kernel_rfl)
theorem ok35 : FOk Pg Cg 35 ⟨rc35, Try.f35.results.toList⟩ := fok (kp := kp35) rfl Try.func35 (by kernel_rfl) (by kernel_rfl) (by kernel_rfl)
theorem ok68 : FOk Pg Cg 68 ⟨rc68, Try.f68.results.toList⟩ := fok (kp := kp68) rfl Try.func68 (by kernel_rfl) (by kernel_rfl) (by kernel_rfl)
theorem ok73 : FOk Pg Cg 73 ⟨rc73, Try.f73.results.toList⟩ := fok (kp := kp73) rfl Try.func73 (by kernel_rfl) (by kernel_rfl) (by kernel_rfl)
theorem ok84 : FOk Pg Cg 84 ⟨rc84, Try.f84.results.toList⟩ := fok (kp := kp84) rfl Try.func84 (by kernel_rfl) (by kernel_rfl) (by kernel_rfl)
theorem ok89 : FOk Pg Cg 89 ⟨rc89, Try.f89.results.toList⟩ := fok (kp := kp89) rfl Try.func89 (by kernel_rfl) (by kernel_rfl) (by kernel_rfl)
end Go.AM.S
end
section
namespace Go.AM.S
open Go Go.AM Go.Proofs
set_option maxRecDepth 100000
theorem ok18 : FOk Pg Cg 18 ⟨rc18, Try.f18.results.toList⟩ := fok (kp := kp18) rfl Try.func18 (by kernel_rfl) (by kernel_rfl) (by kernel_rfl)
theorem ok29 : FOk Pg Cg 29 ⟨rc29, Try.f29.results.toList⟩ := fok (kp := kp29) rfl Try.func29 (by kernel_rfl) (by kernel_rfl) (by kernel_rfl)
theorem ok37 : FOk Pg Cg 37 ⟨rc37, Try.f37.results.toList⟩ := fok (kp := kp37) rfl Try.func37 (by kernel_rfl) (by kernel_rfl) (by kernel_rfl)
theorem ok69 : FOk Pg Cg 69 ⟨rc69, Try.f69.results.toList⟩ := fok (kp := kp69) rfl Try.func69 (by kernel_rfl) (by kernel_rfl) (by kernel_rfl)
theorem ok77 : FOk Pg Cg 77 ⟨rc77, Try.f77.results.toList⟩ := fok (kp := kp77) rfl Try.func77 (by kernel_rfl) (by kernel_rfl) (by kernel_rfl)
theorem ok85 : FOk Pg Cg 85 ⟨rc85, Try.f85.results.toList⟩ := fok (kp := kp85) rfl Try.func85 (by kernel_rfl) (by kernel_rfl) (by kernel_rfl)
end Go.AM.S
end
section
namespace Go.AM.S
open Go Go.AM Go.Proofs
set_option maxRecDepth 100000
theorem tbl_ok : ∀ p ∈ tblL, FOk Pg Cg p.1 p.2 := by
 unfold tblL
 simp only [List.forall_mem_cons, List.not_mem_nil, false_imp_iff, implies_true, and_true]
 exact ⟨ok5, ok13, ok15, ok18, ok21, ok25, ok27, ok29, ok31, ok33, ok35, ok37, ok64, ok65, ok68, ok69, ok71, ok72, ok73, ok77, ok78, ok83, ok84, ok85, ok86, ok87, ok89⟩
theorem use_ok : tblL.map (·.1) = cUse := rfl
theorem seat_eq (kn : Kn) (n : Nat) : S.fn Pg kn tbl n = fnV Pg Cg kn n := by
 refine fn_eq (fun f fc h => ⟨?_, ?_⟩) (fun f h => ?_) n
 ·have := lkL_mem h
  show cUse.contains f = true
  rw [← use_ok, List.contains_iff_mem]
  exact List.mem_map.2 ⟨(f, fc), this, rfl⟩
 ·exact tbl_ok _ (lkL_mem h)
 ·have := lkL_none h
  show cUse.contains f = false
  rw [← use_ok]
  cases hb : (tblL.map (·.1)).contains f with
  | false => rfl
  | true => exact absurd (List.contains_iff_mem.1 hb) this
end Go.AM.S
end
section
namespace Go.AM.S
open Go Go.AM Go.Proofs
set_option maxRecDepth 100000
theorem prog_ok : progOk Pg Cg = true := by kernel_rfl
end Go.AM.S
end
