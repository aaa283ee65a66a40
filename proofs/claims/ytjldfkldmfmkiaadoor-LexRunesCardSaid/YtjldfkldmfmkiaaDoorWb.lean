/- Part Wb of the proof: what it says stands at its theorems. -/
import Derived.Test.YtjldfkldmfmkiaaDoorWa
set_option linter.unusedVariables false
set_option linter.unusedSimpArgs false
set_option linter.unusedSectionVars false
section
namespace Go.AM.S
open Go Go.AM Go.Proofs NumL
open _root_.Go.AM.G (R)
set_option maxRecDepth 100000
open Go.Proofs.YtjldfkldmfmkiaaDoor
variable {L : List (Nat × Int × Int)}
theorem tbl16 : tbl 16 = some ⟨rc16, [.tmp 2]⟩ := by kernel_rfl
theorem kn16 : kn L 16 = none := by kernel_rfl
theorem cmt_ok : ∀ (f : Nat) (b : Bool) (p : Nat) (W : List Nat) (e : Nat), cmt f b p W = (0, e) → p < e ∧ e ≤ p + W.length := by
 intro f
 induction f with
 | zero => intro b p W e h; cases h
 | succ f ih =>
  intro b p W e h
  have h : (if W = [] then (2, 0) else if kh W = 5 then (1, p) else if b && decide ((hr W).1 = 41) then (0, p + 1) else cmt f (decide ((hr W).1 = 42)) (p + (hr W).2) (W.drop (hr W).2)) = (0, e) := h
  by_cases h1 : W = []
  ·rw [if_pos h1] at h; cases h
  ·rw [if_neg h1] at h
   by_cases h2 : kh W = 5
   ·rw [if_pos h2] at h; cases h
   ·rw [if_neg h2] at h
    cases h3 : b && decide ((hr W).1 = 41) with
    | true => rw [h3, if_pos rfl] at h; cases h; have := List.length_pos_iff.2 h1; omega
    | false =>
     rw [h3, if_neg Bool.false_ne_true] at h
     have q := ih _ _ _ _ h
     have e1 := hr_le (l := W)
     rw [List.length_drop] at q
     omega
theorem cmtO_ok {l : List Nat} {i j : Nat} (h : cmtO l i = (j, none)) (hi : i + 2 ≤ l.length) : i < j ∧ j ≤ l.length := by
 unfold cmtO at h
 obtain ⟨a, e⟩ : ∃ a, cmt (l.drop (i + 2)).length.succ false 0 (l.drop (i + 2)) = a := ⟨_, rfl⟩
 rw [e] at h
 obtain ⟨a1, a2⟩ := a
 match a1, e, h with
 | 0, e, h =>
  have q := cmt_ok _ _ _ _ _ e
  rw [List.length_drop] at q
  cases h; omega
 | 1, e, h => cases h
 | n + 2, e, h => cases h
theorem beg_len {p l : List Nat} (h : beg p l = true) : p.length ≤ l.length := (of_decide_eq_true h).1
def blk : Nat → List Nat → Nat → Nat × Option (Nat × Nat)
 | 0, _, i => (i, none)
 | f + 1, l, i => if i < l.length then (if beg [40, 42] (l.drop i) = true then (match cmtO l i with
  | (j, none) => blk f l j
  | (j, some e) => (j, some e)) else if kh (l.drop i) = 1 then blk f l (i + 1) else (i, none)) else (i, none)
theorem blanks16 {l : List Nat} (hd : Dg 256 l) (hl : l.length ≤ 1000000000000000000) {i0 : Nat} (hi0 : i0 ≤ l.length) {h : Hp} {r : Nat} (hrw : h.rows[r]? = some (LxR l i0)) :
  ∃ h', LH h r l (blk (l.length + 1) l i0) h' ∧ Runs Pg (kn L) tbl 16 [.ptr (.glob r) 0] h (.val (errE h.rows.length (blk (l.length + 1) l i0).2) h') := by
 have hlt := row_lt hrw
 refine runs_lx hlt kn16 tbl16 ?_
 unfold rc16
 refine sR ?_
 refine ww_joinX (fun s => LH ⟨h.rows, none, h.mods⟩ r l (blk (l.length + 1) l i0) s.hp ∧ (blk (l.length + 1) l i0).2 = none) ?_ (fun s ⟨hh, he⟩ => ?_)
 ·refine ww_for (fun m s => ∃ i f, m + i = l.length ∧ m ≤ f ∧ gt s.tm 0 = .ptr (.glob r) 0 ∧ LH ⟨h.rows, none, h.mods⟩ r l (i, none) s.hp ∧ blk (l.length + 1) l i0 = blk (f + 1) l i) (l.length - i0)
   ⟨i0, l.length, by omega, by omega, sSG, lh_refl hrw, rfl⟩ ?_
  intro m s ⟨i, f, hm, hf, h0, hh, he⟩
  obtain ⟨tm, loc, hp⟩ := s
  have h0 : gt tm 0 = .ptr (.glob r) 0 := h0
  obtain ⟨hrow, hlen⟩ := lh_at (h := ⟨h.rows, none, h.mods⟩) hlt hh
  have hrow : hp.rows[r]? = some (LxR l i) := hrow
  have hlen : hp.rows.length = h.rows.length := hlen
  have hrow' : F.nthR hp.rows r = some (.cells false [.str (sl l), .int .i64 (.ofNat i)]) := by rw [F.nthR_eq]; exact hrow
  have hb : blk (f + 1) l i = if i < l.length then (if beg [40, 42] (l.drop i) = true then (match cmtO l i with
   | (j, none) => blk f l j
   | (j, some e) => (j, some e)) else if kh (l.drop i) = 1 then blk f l (i + 1) else (i, none)) else (i, none) := rfl
  refine ww_seq (ww_seq (ww_reg (fun n k => by simp -implicitDefEqProofs (disch := omega) only [go_sem, reduceIte, Nat.reduceEqDiff, h0, nilC_ptr, hrow']; rfl) ?_))
  refine ww_if (by simp only [gt_pt, reduceIte]; rfl) (fun hi => ww_skip ?_) (fun hi => ww_exit ?_)
  ·rw [if_pos hi] at hb
   obtain ⟨f', rfl⟩ : ∃ f', f = f' + 1 := ⟨f - 1, by omega⟩
   refine ww_block (ww_block ?_)
   have hpre : Runs Pg (kn L) tbl 21 [.str (sl (l.drop i)), .str ⟨2, 10792⟩] hp (.val (.bool (beg [40, 42] (l.drop i))) hp) := pre21 (L := L) (hd.drop i) (show Dg 256 [40, 42] from by intro x hx; simp at hx; omega) hp
   refine ww_seq (ww_call (hpre) (fun n hn k => by simp -implicitDefEqProofs (disch := omega) only [go_sem, reduceIte, Nat.reduceEqDiff, h0, nilC_ptr, hrow', slc_str hd .i64 i (by omega), cld2 hn (Ex1.str _) (Ex1.str _) rfl rfl]; exact finD_ok (by kernel_rfl)) ?_)
   cases hbg : beg [40, 42] (l.drop i) with
   | true =>
    rw [hbg, if_pos rfl] at hb
    have hb2 := beg_len hbg
    rw [List.length_drop] at hb2
    have hb2 : 2 ≤ l.length - i := hb2
    obtain ⟨h', c1, c2⟩ := comment22 (L := L) hd hl (i := i) (by omega) (h := hp) hrow
    obtain ⟨x, ex⟩ : ∃ x, cmtO l i = x := ⟨_, rfl⟩
    rw [ex] at c1 c2
    refine ww_true (sS1 hbg) ?_
    obtain ⟨j, e⟩ := x
    have c3 := lh_trans (h0 := ⟨h.rows, none, h.mods⟩) hlt hh c1
    rw [ex] at hb
    cases e with
    | none =>
     have hj := cmtO_ok ex (by omega)
     refine ww_seq (ww_call (c2) (fun n hn k => by simp -implicitDefEqProofs (disch := omega) only [go_sem, reduceIte, Nat.reduceEqDiff, h0, clc1 hn (fun _ => rfl), errE]; rfl) ?_)
     have en : bin Pg .neq 26 true .nili .nili = some (.bool false) := by kernel_rfl
     refine ww_seq (ww_reg (fun n k => by simp -implicitDefEqProofs (disch := omega) only [go_sem, reduceIte, Nat.reduceEqDiff, en]; rfl) ?_)
     refine ww_false sS (ww_skip ?_)
     exact ⟨l.length - j, by omega, j, f', by omega, by omega, (sS1 h0), c3, by rw [he, hb]⟩
    | some e =>
     refine ww_seq (ww_call (c2) (fun n hn k => by simp -implicitDefEqProofs (disch := omega) only [go_sem, reduceIte, Nat.reduceEqDiff, h0, clc1 hn (fun _ => rfl), errE]; rfl) ?_)
     have en : bin Pg .neq 26 true (FtV hp.rows.length) .nili = some (.bool true) := by rfl
     refine ww_seq (ww_reg (fun n k => by simp -implicitDefEqProofs (disch := omega) only [go_sem, reduceIte, Nat.reduceEqDiff, en]; rfl) ?_)
     refine ww_true sS ?_
     refine sR ?_
     rw [he, hb]
     exact ww_ret ⟨by rw [← hlen]; exact show gt _ 2 = FtV hp.rows.length from sS, c3⟩
   | false =>
    rw [hbg, if_neg Bool.false_ne_true] at hb
    refine ww_false (sS1 hbg) ?_
    refine ww_seq (ww_call (first23 (L := L) hd (by omega) hrow) (fun n hn k => by simp -implicitDefEqProofs (disch := omega) only [go_sem, reduceIte, Nat.reduceEqDiff, h0, clc1 hn (fun _ => rfl)]; rfl) ?_)
    refine ww_if (by simp only [gt_pt, reduceIte]; rfl) (fun hk => ?_) (fun hk => ?_)
    ·rw [if_pos hk] at hb
     refine ww_reg (fun n k => by simp -implicitDefEqProofs (disch := omega) only [go_sem, reduceIte, Nat.reduceEqDiff, h0, nilC_ptr, hrow', st16 hrow]; rfl) ?_
     exact ⟨l.length - (i + 1), by omega, i + 1, f', by omega, by omega, (sS1 h0), lh_trans (h0 := ⟨h.rows, none, h.mods⟩) hlt hh (lh_set (i + 1)), by rw [he, hb]⟩
    ·rw [if_neg hk] at hb
     refine sR ?_
     rw [he, hb]
     exact ww_ret ⟨show gt _ 2 = V.nili from sS, hh⟩
  ·rw [if_neg hi] at hb
   rw [if_pos rfl]
   rw [he, hb]
   exact ⟨hh, rfl⟩
 ·refine sR ?_
  rw [he]
  exact ww_ret ⟨show gt _ 2 = V.nili from sS, hh⟩
end Go.AM.S
end

section
namespace Go.AM.S
open Go Go.AM Go.Proofs NumL
open _root_.Go.AM.G (R)
set_option maxRecDepth 100000
open Go.Proofs.YtjldfkldmfmkiaaDoor
variable {L : List (Nat × Int × Int)}
def wds : List Str := [⟨3, 7628140⟩, ⟨3, 6514034⟩, ⟨3, 6710642⟩, ⟨2, 28265⟩, ⟨2, 29545⟩, ⟨2, 26217⟩, ⟨4, 1852139636⟩, ⟨4, 1702063205⟩, ⟨3, 7959156⟩, ⟨4, 1752459639⟩, ⟨5, 435727982962⟩, ⟨6, 128034677158753⟩, ⟨3, 6581359⟩, ⟨8, 8315178084276987250⟩, ⟨7, 32481164592901733⟩, ⟨9, 2128685862185089590628⟩, ⟨3, 7630441⟩, ⟨4, 1819242338⟩, ⟨4, 1953066613⟩, ⟨4, 1702195828⟩, ⟨5, 435728179558⟩, ⟨3, 7630702⟩, ⟨4, 1701999952⟩, ⟨5, 435744240723⟩, ⟨3, 7239749⟩, ⟨3, 7105601⟩, ⟨3, 7760196⟩]
def wds9 : List Str := [⟨3, 7628140⟩, ⟨3, 6514034⟩, ⟨3, 6710642⟩, ⟨2, 29545⟩, ⟨2, 28265⟩, ⟨2, 26217⟩, ⟨4, 1852139636⟩, ⟨4, 1702063205⟩, ⟨3, 7959156⟩, ⟨4, 1752459639⟩, ⟨5, 435727982962⟩, ⟨6, 128034677158753⟩, ⟨3, 6581359⟩, ⟨8, 8315178084276987250⟩, ⟨7, 32481164592901733⟩, ⟨9, 2128685862185089590628⟩, ⟨3, 7630441⟩, ⟨4, 1819242338⟩, ⟨4, 1953066613⟩, ⟨4, 1702195828⟩, ⟨5, 435728179558⟩, ⟨3, 7630702⟩, ⟨4, 1701999952⟩, ⟨5, 435744240723⟩, ⟨3, 7239749⟩, ⟨3, 7105601⟩, ⟨3, 7760196⟩]
theorem wds_all : ∀ w ∈ wds9, w ∈ wds := by simp [wds, wds9]
theorem tbl9 : tbl 9 = some ⟨rc9, [.tmp 2]⟩ := by kernel_rfl
theorem kn9 : kn L 9 = none := by kernel_rfl
theorem word9_no {s : Str} (hs : ∀ w ∈ wds, s.same w = false) (h : Hp) : Runs Pg (kn L) tbl 9 [.str s] h (.val (.bool false) h) := by
 refine runs_of_ww kn9 tbl9 ?_
 unfold rc9
 refine sR ?_
 refine sQG ?_
 have e0 : s.same ⟨3, 7628140⟩ = false := hs _ (by simp [wds])
 have e1 : s.same ⟨3, 6514034⟩ = false := hs _ (by simp [wds])
 have e2 : s.same ⟨3, 6710642⟩ = false := hs _ (by simp [wds])
 have e3 : s.same ⟨2, 29545⟩ = false := hs _ (by simp [wds])
 have e4 : s.same ⟨2, 28265⟩ = false := hs _ (by simp [wds])
 have e5 : s.same ⟨2, 26217⟩ = false := hs _ (by simp [wds])
 have e6 : s.same ⟨4, 1852139636⟩ = false := hs _ (by simp [wds])
 have e7 : s.same ⟨4, 1702063205⟩ = false := hs _ (by simp [wds])
 have e8 : s.same ⟨3, 7959156⟩ = false := hs _ (by simp [wds])
 have e9 : s.same ⟨4, 1752459639⟩ = false := hs _ (by simp [wds])
 have e10 : s.same ⟨5, 435727982962⟩ = false := hs _ (by simp [wds])
 have e11 : s.same ⟨6, 128034677158753⟩ = false := hs _ (by simp [wds])
 have e12 : s.same ⟨3, 6581359⟩ = false := hs _ (by simp [wds])
 have e13 : s.same ⟨8, 8315178084276987250⟩ = false := hs _ (by simp [wds])
 have e14 : s.same ⟨7, 32481164592901733⟩ = false := hs _ (by simp [wds])
 have e15 : s.same ⟨9, 2128685862185089590628⟩ = false := hs _ (by simp [wds])
 have e16 : s.same ⟨3, 7630441⟩ = false := hs _ (by simp [wds])
 have e17 : s.same ⟨4, 1819242338⟩ = false := hs _ (by simp [wds])
 have e18 : s.same ⟨4, 1953066613⟩ = false := hs _ (by simp [wds])
 have e19 : s.same ⟨4, 1702195828⟩ = false := hs _ (by simp [wds])
 have e20 : s.same ⟨5, 435728179558⟩ = false := hs _ (by simp [wds])
 have e21 : s.same ⟨3, 7630702⟩ = false := hs _ (by simp [wds])
 have e22 : s.same ⟨4, 1701999952⟩ = false := hs _ (by simp [wds])
 have e23 : s.same ⟨5, 435744240723⟩ = false := hs _ (by simp [wds])
 have e24 : s.same ⟨3, 7239749⟩ = false := hs _ (by simp [wds])
 have e25 : s.same ⟨3, 7105601⟩ = false := hs _ (by simp [wds])
 have e26 : s.same ⟨3, 7760196⟩ = false := hs _ (by simp [wds])
 refine ww_block ?_
 refine ww_seq (ww_seq (ww_reg (fun n k => by simp -implicitDefEqProofs (disch := omega) only [go_sem, reduceIte, Nat.reduceEqDiff, gt_start, List.getD_cons_zero, List.getD_cons_succ, bin_str, e0]; rfl) ?_))
 refine ww_false sS ?_
 refine ww_seq (ww_reg (fun n k => by simp -implicitDefEqProofs (disch := omega) only [go_sem, reduceIte, Nat.reduceEqDiff, gt_start, List.getD_cons_zero, List.getD_cons_succ, bin_str, e1]; rfl) ?_)
 refine ww_false sS ?_
 refine ww_seq (ww_reg (fun n k => by simp -implicitDefEqProofs (disch := omega) only [go_sem, reduceIte, Nat.reduceEqDiff, gt_start, List.getD_cons_zero, List.getD_cons_succ, bin_str, e2]; rfl) ?_)
 refine ww_false sS ?_
 refine ww_seq (ww_reg (fun n k => by simp -implicitDefEqProofs (disch := omega) only [go_sem, reduceIte, Nat.reduceEqDiff, gt_start, List.getD_cons_zero, List.getD_cons_succ, bin_str, e3]; rfl) ?_)
 refine ww_false sS ?_
 refine ww_seq (ww_reg (fun n k => by simp -implicitDefEqProofs (disch := omega) only [go_sem, reduceIte, Nat.reduceEqDiff, gt_start, List.getD_cons_zero, List.getD_cons_succ, bin_str, e4]; rfl) ?_)
 refine ww_false sS ?_
 refine ww_seq (ww_reg (fun n k => by simp -implicitDefEqProofs (disch := omega) only [go_sem, reduceIte, Nat.reduceEqDiff, gt_start, List.getD_cons_zero, List.getD_cons_succ, bin_str, e5]; rfl) ?_)
 refine ww_false sS ?_
 refine ww_seq (ww_reg (fun n k => by simp -implicitDefEqProofs (disch := omega) only [go_sem, reduceIte, Nat.reduceEqDiff, gt_start, List.getD_cons_zero, List.getD_cons_succ, bin_str, e6]; rfl) ?_)
 refine ww_false sS ?_
 refine ww_seq (ww_reg (fun n k => by simp -implicitDefEqProofs (disch := omega) only [go_sem, reduceIte, Nat.reduceEqDiff, gt_start, List.getD_cons_zero, List.getD_cons_succ, bin_str, e7]; rfl) ?_)
 refine ww_false sS ?_
 refine ww_seq (ww_reg (fun n k => by simp -implicitDefEqProofs (disch := omega) only [go_sem, reduceIte, Nat.reduceEqDiff, gt_start, List.getD_cons_zero, List.getD_cons_succ, bin_str, e8]; rfl) ?_)
 refine ww_false sS ?_
 refine ww_seq (ww_reg (fun n k => by simp -implicitDefEqProofs (disch := omega) only [go_sem, reduceIte, Nat.reduceEqDiff, gt_start, List.getD_cons_zero, List.getD_cons_succ, bin_str, e9]; rfl) ?_)
 refine ww_false sS ?_
 refine ww_seq (ww_reg (fun n k => by simp -implicitDefEqProofs (disch := omega) only [go_sem, reduceIte, Nat.reduceEqDiff, gt_start, List.getD_cons_zero, List.getD_cons_succ, bin_str, e10]; rfl) ?_)
 refine ww_false sS ?_
 refine ww_seq (ww_reg (fun n k => by simp -implicitDefEqProofs (disch := omega) only [go_sem, reduceIte, Nat.reduceEqDiff, gt_start, List.getD_cons_zero, List.getD_cons_succ, bin_str, e11]; rfl) ?_)
 refine ww_false sS ?_
 refine ww_seq (ww_reg (fun n k => by simp -implicitDefEqProofs (disch := omega) only [go_sem, reduceIte, Nat.reduceEqDiff, gt_start, List.getD_cons_zero, List.getD_cons_succ, bin_str, e12]; rfl) ?_)
 refine ww_false sS ?_
 refine ww_seq (ww_reg (fun n k => by simp -implicitDefEqProofs (disch := omega) only [go_sem, reduceIte, Nat.reduceEqDiff, gt_start, List.getD_cons_zero, List.getD_cons_succ, bin_str, e13]; rfl) ?_)
 refine ww_false sS ?_
 refine ww_seq (ww_reg (fun n k => by simp -implicitDefEqProofs (disch := omega) only [go_sem, reduceIte, Nat.reduceEqDiff, gt_start, List.getD_cons_zero, List.getD_cons_succ, bin_str, e14]; rfl) ?_)
 refine ww_false sS ?_
 refine ww_seq (ww_reg (fun n k => by simp -implicitDefEqProofs (disch := omega) only [go_sem, reduceIte, Nat.reduceEqDiff, gt_start, List.getD_cons_zero, List.getD_cons_succ, bin_str, e15]; rfl) ?_)
 refine ww_false sS ?_
 refine ww_seq (ww_reg (fun n k => by simp -implicitDefEqProofs (disch := omega) only [go_sem, reduceIte, Nat.reduceEqDiff, gt_start, List.getD_cons_zero, List.getD_cons_succ, bin_str, e16]; rfl) ?_)
 refine ww_false sS ?_
 refine ww_seq (ww_reg (fun n k => by simp -implicitDefEqProofs (disch := omega) only [go_sem, reduceIte, Nat.reduceEqDiff, gt_start, List.getD_cons_zero, List.getD_cons_succ, bin_str, e17]; rfl) ?_)
 refine ww_false sS ?_
 refine ww_seq (ww_reg (fun n k => by simp -implicitDefEqProofs (disch := omega) only [go_sem, reduceIte, Nat.reduceEqDiff, gt_start, List.getD_cons_zero, List.getD_cons_succ, bin_str, e18]; rfl) ?_)
 refine ww_false sS ?_
 refine ww_seq (ww_reg (fun n k => by simp -implicitDefEqProofs (disch := omega) only [go_sem, reduceIte, Nat.reduceEqDiff, gt_start, List.getD_cons_zero, List.getD_cons_succ, bin_str, e19]; rfl) ?_)
 refine ww_false sS ?_
 refine ww_seq (ww_reg (fun n k => by simp -implicitDefEqProofs (disch := omega) only [go_sem, reduceIte, Nat.reduceEqDiff, gt_start, List.getD_cons_zero, List.getD_cons_succ, bin_str, e20]; rfl) ?_)
 refine ww_false sS ?_
 refine ww_seq (ww_reg (fun n k => by simp -implicitDefEqProofs (disch := omega) only [go_sem, reduceIte, Nat.reduceEqDiff, gt_start, List.getD_cons_zero, List.getD_cons_succ, bin_str, e21]; rfl) ?_)
 refine ww_false sS ?_
 refine ww_seq (ww_reg (fun n k => by simp -implicitDefEqProofs (disch := omega) only [go_sem, reduceIte, Nat.reduceEqDiff, gt_start, List.getD_cons_zero, List.getD_cons_succ, bin_str, e22]; rfl) ?_)
 refine ww_false sS ?_
 refine ww_seq (ww_reg (fun n k => by simp -implicitDefEqProofs (disch := omega) only [go_sem, reduceIte, Nat.reduceEqDiff, gt_start, List.getD_cons_zero, List.getD_cons_succ, bin_str, e23]; rfl) ?_)
 refine ww_false sS ?_
 refine ww_seq (ww_reg (fun n k => by simp -implicitDefEqProofs (disch := omega) only [go_sem, reduceIte, Nat.reduceEqDiff, gt_start, List.getD_cons_zero, List.getD_cons_succ, bin_str, e24]; rfl) ?_)
 refine ww_false sS ?_
 refine ww_seq (ww_reg (fun n k => by simp -implicitDefEqProofs (disch := omega) only [go_sem, reduceIte, Nat.reduceEqDiff, gt_start, List.getD_cons_zero, List.getD_cons_succ, bin_str, e25]; rfl) ?_)
 refine ww_false sS ?_
 refine ww_reg (fun n k => by simp -implicitDefEqProofs (disch := omega) only [go_sem, reduceIte, Nat.reduceEqDiff, gt_start, List.getD_cons_zero, List.getD_cons_succ, bin_str, e26]; rfl) ?_
 refine ww_false sS (ww_skip ?_)
 refine sR ?_
 exact ww_ret (fin_tmp (v := .bool false) sS rfl rfl rfl)
theorem same_comm (a b : Str) : a.same b = b.same a := by
 rw [Bool.eq_iff_iff, Str.same_spec, Str.same_spec]; exact eq_comm
theorem word9_yes (n : Nat) (h : Hp) : ∀ w ∈ wds, fn Pg (kn L) tbl (n + 40) 9 [.str w] h = some (.val (.bool true) h) := by
 simp only [wds, List.forall_mem_cons, List.not_mem_nil, false_imp_iff, implies_true, and_true]
 refine ⟨?_, ?_, ?_, ?_, ?_, ?_, ?_, ?_, ?_, ?_, ?_, ?_, ?_, ?_, ?_, ?_, ?_, ?_, ?_, ?_, ?_, ?_, ?_, ?_, ?_, ?_, ?_⟩ <;> kernel_rfl
def isW (s : Str) : Bool := wds.any fun w => s.same w
def byW (w : Str) : List Nat := (List.range w.n).map (fun i => w.v / 256 ^ i % 256)
theorem byW_sl : ∀ w ∈ wds, sl (byW w) = w := by decide
theorem byW_dg (w : Str) : Dg 256 (byW w) := by
 intro x hx
 unfold byW at hx
 rw [List.mem_map] at hx
 obtain ⟨i, _, rfl⟩ := hx
 exact Nat.mod_lt _ (by decide)
theorem isW_mem {l : List Nat} (hd : Dg 256 l) (h : isW (sl l) = true) : sl l ∈ wds := by
 unfold isW at h
 rw [List.any_eq_true] at h
 obtain ⟨w, hw, hs⟩ := h
 rw [← byW_sl w hw, sl_same hd (byW_dg w)] at hs
 rw [of_decide_eq_true hs, byW_sl w hw]
 exact hw
theorem word9 {l : List Nat} (hd : Dg 256 l) (h : Hp) : Runs Pg (kn L) tbl 9 [.str (sl l)] h (.val (.bool (isW (sl l))) h) := by
 cases e : isW (sl l) with
 | false =>
  refine word9_no (fun w hw => ?_) h
  unfold isW at e
  rw [List.any_eq_false] at e
  exact Bool.eq_false_iff.2 (e w hw)
 | true => exact runs_any (fun n => word9_yes n h _ (isW_mem hd e))
end Go.AM.S
end

section
namespace Go.AM.S
open Go Go.AM Go.Proofs NumL
open _root_.Go.AM.G (R)
set_option maxRecDepth 100000
open Go.Proofs.YtjldfkldmfmkiaaDoor
variable {L : List (Nat × Int × Int)}
section
variable {C : Cfg} {P : Program} {call : CallF} {gl : Nat → Bool} {o : Oper} {t' tm : Tm} {loc : Lo} {hp : Hp}
theorem genD_alloc {d n : Nat} {t : TypeId} {z : V} {J : JD} {X : XD} (hd : o.dst = some d) (ho : o.op = .alloc t) (hg : gl d = false) (hz : zeroV P t = some z) (hn : szOf P t = some n) (hl : z.live = true) (hc : z.cells.length = n) :
  genD P C call gl o t' loc hp J X = J (.ptr (.loc d ((lg loc d).1 + 1)) 0) ⟨[d], [d], false, false, false, false⟩ (lp loc d ((lg loc d).1 + 1, .cells false z.cells)) hp := by
 have hp1 : locV P C gl (⟨t', loc, hp⟩ : St).ρ (⟨t', loc, hp⟩ : St).lc o = some (.ptr (.loc d ((lg loc d).1 + 1)) 0, some (d, (lg loc d).1 + 1, .cells false z.cells)) := by
  unfold locV
  simp only [ho, hd, hg, cond_false, hz, hn, hl, hc, Nat.beq_refl, Bool.and_self, cond_true, lc_lg]
 have hf : footV P C gl (⟨t', loc, hp⟩ : St).ρ (⟨t', loc, hp⟩ : St).lc o = some ⟨[d], [d], false, false, false, false⟩ := by
  unfold footV
  rw [hp1]
 have hs : stepV P C gl ⟨t', loc, hp⟩ o = some (.val (.ptr (.loc d ((lg loc d).1 + 1)) 0) ⟨t', lp loc d ((lg loc d).1 + 1, .cells false z.cells), hp⟩) := by
  unfold stepV
  rw [hp1]
  simp only [applyL, aset_lp]
 unfold genD
 rw [F.e_footV, F.e_oneV, F.e_rho, F.e_lcf, hf]
 show G.onSome (oneV P C call gl ⟨t', loc, hp⟩ o) _ none = _
 unfold oneV
 rw [hs]
 have e1 : F.settle hp hp ⟨[d], [d], false, false, false, false⟩ = ⟨[d], [d], false, false, false, false⟩ := by
  unfold F.settle
  rw [Nat.beq_refl, Nat.beq_refl]; rfl
 simp only [putV, hd]
 show J (gt (aset t' d (.ptr (.loc d ((lg loc d).1 + 1)) 0)) d) (F.settle hp hp ⟨[d], [d], false, false, false, false⟩) (lp loc d ((lg loc d).1 + 1, .cells false z.cells)) hp = _
 rw [gt_eq, aget_aset, if_pos rfl, e1]
theorem genD_pure {d : Nat} {v : V} {J : JD} {X : XD} {t : TypeId} {l : Array (Nat × Operand)} (hd : o.dst = some d) (ho : o.op = .build t l) (hp1 : locV P C gl (⟨t', loc, hp⟩ : St).ρ (⟨t', loc, hp⟩ : St).lc o = some (v, none)) :
  genD P C call gl o t' loc hp J X = J v ⟨[], [], false, false, false, false⟩ loc hp := by
 have hf : footV P C gl (⟨t', loc, hp⟩ : St).ρ (⟨t', loc, hp⟩ : St).lc o = some ⟨[], [], false, false, false, false⟩ := by
  unfold footV
  rw [hp1]
  simp only [ho]
 have hs : stepV P C gl ⟨t', loc, hp⟩ o = some (.val v ⟨t', loc, hp⟩) := by
  unfold stepV
  rw [hp1]; rfl
 unfold genD
 rw [F.e_footV, F.e_oneV, F.e_rho, F.e_lcf, hf]
 show G.onSome (oneV P C call gl ⟨t', loc, hp⟩ o) _ none = _
 unfold oneV
 rw [hs]
 have e1 : F.settle hp hp ⟨[], [], false, false, false, false⟩ = ⟨[], [], false, false, false, false⟩ := by
  unfold F.settle
  rw [Nat.beq_refl, Nat.beq_refl]; rfl
 simp only [putV, hd]
 show J (gt (aset t' d v) d) (F.settle hp hp ⟨[], [], false, false, false, false⟩) loc hp = _
 rw [gt_eq, aget_aset, if_pos rfl, e1]
theorem stc_three {t : TypeId} (hl : F.lenIs P t 3 = true) (g : Nat) (a b c x y z : V) (f : Nat × Row → R) (ha : a.cellOk = true) (hb : b.cellOk = true) (hc : c.cellOk = true) :
  stc P t g 0 (.agg [a, b, c]) (g, .cells false [x, y, z]) f = f (g, .cells false [a, b, c]) := by
 show (bif Nat.beq g g && F.allR V.cellOk [a, b, c] && F.lenIs P t 3 then G.onSome (F.setAt [x, y, z] 0 [a, b, c]) _ none else none) = _
 rw [Nat.beq_refl, show F.allR V.cellOk [a, b, c] = true from by rw [F.allR_eq]; simp [ha, hb, hc], hl, F.e_setAt]
 rfl
theorem ldc_three {t : TypeId} (hl : F.layE P t = some (3, true)) (g : Nat) (frz : Bool) (a b c : V) : ldc P t g 0 (g, .cells frz [a, b, c]) = some (.agg [a, b, c]) := by
 show (bif Nat.beq g g then G.part (F.layE P t) [a, b, c] 0 else none) = _
 rw [Nat.beq_refl, hl]; rfl
theorem ldc_thd {t : TypeId} (hl : F.layE P t = some (1, false)) (g : Nat) (frz : Bool) (a b c : V) (l : List V) : ldc P t g 2 (g, .cells frz (a :: b :: c :: l)) = some c := by
 rw [ldc_cells hl]; rfl
end
theorem cldF {p q : Nat} {loc : Lo} {hp : Hp} {j : JD} {x : XD} {call : CallF} (hc : call 15 [.int .i64 (.ofNat p), .int .i64 (.ofNat q)] hp = some (.val (FtV hp.rows.length) (hadd1 hp p q))) :
  clD call 15 [.int .i64 (.ofNat p), .int .i64 (.ofNat q)] loc hp j x = j (FtV hp.rows.length) ⟨[], [], true, true, false, true⟩ loc (hadd1 hp p q) := by
 have e : F.settle hp (hadd1 hp p q) ⟨[], [], true, true, false, false⟩ = ⟨[], [], true, true, false, true⟩ := by
  unfold F.settle
  have h1 : Nat.beq (hadd1 hp p q).mods hp.mods = true := Nat.beq_refl _
  have h2 : Nat.beq (F.lenR (hadd1 hp p q).rows) (F.lenR hp.rows) = false := by
   rw [F.lenR_eq, F.lenR_eq, ← Bool.not_eq_true, Nat.beq_eq]
   show ¬ (hp.rows ++ [FtR p q]).length = hp.rows.length
   simp
  rw [h1, h2]; rfl
 unfold clD
 rw [F.allR_eq, show List.all [V.int .i64 (.ofNat p), V.int .i64 (.ofNat q)] quiet = true from rfl, F.e_exps]
 rw [exps_ex [V.int .i64 (.ofNat p), V.int .i64 (.ofNat q)] ⟨.lf, loc, hp⟩ ⟨Ex1.int _ _, Ex1.int _ _, trivial⟩]
 show G.onSome (call 15 _ hp) _ none = _
 rw [hc]
 show j _ (F.settle hp (hadd1 hp p q) ⟨[], [], true, true, false, false⟩) loc _ = _
 rw [e]
def TokV (k : Nat) (w : List Nat) (i : Nat) : V := .agg [.int .i64 (.ofNat k), .str (sl w), .int .i64 (.ofNat i)]
def TokC (k : Nat) (w : List Nat) (i : Nat) : List V := [.int .i64 (.ofNat k), .str (sl w), .int .i64 (.ofNat i)]
theorem back_tok (h s : Hp) (cs : List V) (hc : V.noRefsL cs = true) (v : V) : backHp h s [.agg cs, v] = backHp h s [v] := by
 unfold backHp
 have : V.noRefsL [.agg cs, v] = V.noRefsL [v] := by
  simp only [V.noRefsL, V.noRefs, hc, Bool.true_and]
 rw [this]
theorem runs_tk {f : FuncId} {rc : RC} {args : List V} {h : Hp} {r : Nat} {l : List Nat} {x : Nat × Option (Nat × Nat)} {k : Nat} {w : List Nat} {i : Nat} (hr : r < h.rows.length) (hk : kn L f = none) (ht : tbl f = some ⟨rc, [.cell 2 30, .tmp 3]⟩)
  (hw : WW Pg (kn L) tbl rc ⟨startTm args, .lf, ⟨h.rows, none, h.mods⟩⟩ (fun _ => False) (fun _ _ => False) (fun s => gt s.tm 2 = .ptr (.loc 2 1) 0 ∧ lg s.loc 2 = (1, .cells false (TokC k w i)) ∧ gt s.tm 3 = errE h.rows.length x.2 ∧ LH ⟨h.rows, none, h.mods⟩ r l x s.hp)) :
  ∃ h', LH h r l x h' ∧ Runs Pg (kn L) tbl f args h (.val (.tuple [TokV k w i, errE h.rows.length x.2]) h') := by
 obtain ⟨o, h1, h2⟩ := runs_ex (Post := fun o => ∃ h', LH h r l x h' ∧ o = .val (.tuple [TokV k w i, errE h.rows.length x.2]) h') hk ht (ww_mono hw (fun s hs => hs.elim) (fun _ _ h => h) (fun s ⟨s2, sl2, s3, sh⟩ => by
  refine ⟨.val (.tuple [TokV k w i, errE h.rows.length x.2]) (backHp h s.hp [errE h.rows.length x.2]), ?_, _, lh_back hr sh _, rfl⟩
  have ex : Ex1 (errE h.rows.length x.2) := by
   cases x.2 with
   | none => exact fun _ => rfl
   | some e => exact fun _ => rfl
  unfold fin
  have e1 : resV Pg s [.cell 2 30, .tmp 3] = some [TokV k w i, errE h.rows.length x.2] := by
   simp only [resV, rho_gt, s2, s3, getRow_loc sl2, partV, (show layE Pg 30 = some (3, true) from by kernel_rfl), Option.map_some]
   rfl
  rw [e1]
  have e2 := exps_ex [TokV k w i, errE h.rows.length x.2] s ⟨exp_agg (cs := TokC k w i) (by intro v hv; unfold TokC at hv; simp at hv; rcases hv with rfl | rfl | rfl; exact Pl.int _ _; exact Pl.str _; exact Pl.int _ _), ex, trivial⟩
  simp only [e2]
  unfold TokV
  rw [back_tok _ _ _ rfl]))
 obtain ⟨h', h3, h4⟩ := h2
 exact ⟨h', h3, h4 ▸ h1⟩
end Go.AM.S
end

section
namespace Go.AM.S
open Go Go.AM Go.Proofs NumL
open _root_.Go.AM.G (R)
set_option maxRecDepth 100000
open Go.Proofs.YtjldfkldmfmkiaaDoor
variable {L : List (Nat × Int × Int)}
theorem tbl24 : tbl 24 = some ⟨rc24, [.cell 2 30, .tmp 3]⟩ := by kernel_rfl
theorem kn24 : kn L 24 = none := by kernel_rfl
theorem tbl25 : tbl 25 = some ⟨rc25, [.cell 2 30, .tmp 3]⟩ := by kernel_rfl
theorem kn25 : kn L 25 = none := by kernel_rfl
theorem slc_mid {P : Program} {t : TypeId} (hu : P.underlying t = some .string) {l : List Nat} (h : Dg 256 l) (k k' : IntKind) (i j : Nat) (hij : i ≤ j) (hj : j ≤ l.length) : slc P t (.str (sl l)) (some (.int k (.ofNat i))) (some (.int k' (.ofNat j))) none = some (.str (sl ((l.take j).drop i))) := by
 have e0 : slc P t (.str (sl l)) (some (.int k (.ofNat i))) (some (.int k' (.ofNat j))) none = F.sliceV P t (.str (sl l)) (some (.ofNat i)) (some (.ofNat j)) none := rfl
 rw [e0]
 unfold F.sliceV
 simp only [hu]
 unfold F.sliceStr
 simp only [Option.getD_none, Option.getD_some, F.toNatLe, sl_n]
 have e2 : Nat.ble j l.length = true := by rw [Nat.ble_eq]; exact hj
 have e3 : Nat.ble i j = true := by rw [Nat.ble_eq]; exact hij
 show (match (bif Nat.ble j l.length then some j else none) with
  | none => none
  | some h => match (bif Nat.ble i h then some i else none) with
   | none => none
   | some k => some (V.str ((sl l).cut k h))) = _
 rw [e2]
 simp only [cond_true, e3]
 rw [sl_cut h i j hij hj]
theorem runN_le : ∀ (b : Bool) (f : Nat) (l : List Nat), runN b f l ≤ l.length := by
 intro b f
 induction f with
 | zero => intro l; exact Nat.zero_le _
 | succ f ih =>
  intro l
  show (if l = [] then 0 else if okK b (kh l) = true then (hr l).2 + runN b f (l.drop (hr l).2) else 0) ≤ _
  split
  ·exact Nat.zero_le _
  ·split
   ·have := ih (l.drop (hr l).2)
    have := hr_le (l := l)
    rw [List.length_drop] at *
    omega
   ·exact Nat.zero_le _
theorem stc_fst {P : Program} {t : TypeId} (hl : F.lenIs P t 1 = true) (g : Nat) (k : IntKind) (n : Int) (x : V) (l : List V) (f : Nat × Row → R) :
  stc P t g 0 (.int k n) (g, .cells false (x :: l)) f = f (g, .cells false (.int k n :: l)) := by
 show (bif Nat.beq g g && F.allR V.cellOk [.int k n] && F.lenIs P t 1 then G.onSome (F.setAt (x :: l) 0 [.int k n]) _ none else none) = _
 rw [Nat.beq_refl, show F.allR V.cellOk [.int k n] = true from by rw [F.allR_eq]; rfl, hl, F.e_setAt]
 rfl
theorem d24_20 (r i : Nat) (u : Str) (c : CallF) (l : Lo) (h : Hp) (J : JD) (X : XD) : gD Tryd.f24 24 1 20 c (pt (pt (pt (pt (startTm [.ptr (.glob r) 0]) 2 (.ptr (.loc 2 1) 0)) 3 .nili) 20 (.str u)) 24 (.int .i64 (.ofNat i))) l h J X = J (.agg [.int .i64 (.ofNat 1), .str u, .int .i64 (.ofNat i)]) ⟨[], [], false, false, false, false⟩ l h :=
 genD_pure (C := Cg) (gl := Cg.glob 24) (call := c) (o := opA Tryd.f24 1 20) (d := 25) (t := 30) (l := #[(0, .const (.int .i64 (.ofNat 1))), (1, .tmp 20), (2, .tmp 24)]) (by kernel_rfl) (by kernel_rfl) (by kernel_rfl)
theorem da24_21 (c : CallF) (t : Tm) (l : Lo) (h : Hp) (J : JD) (X : XD) : gD Tryd.f24 24 1 21 c t l h J X = J (.ptr (.loc 4 ((lg l 4).1 + 1)) 0) ⟨[4], [4], false, false, false, false⟩ (lp l 4 ((lg l 4).1 + 1, .cells false [.int .i64 (.ofNat 0), .str ⟨0, 0⟩, .int .i64 (.ofNat 0)])) h :=
 genD_alloc (C := Cg) (gl := Cg.glob 24) (call := c) (o := opA Tryd.f24 1 21) (d := 4) (t := 30) (n := 3) (z := .agg [.int .i64 (.ofNat 0), .str ⟨0, 0⟩, .int .i64 (.ofNat 0)]) (by kernel_rfl) (by kernel_rfl) (by kernel_rfl) (by kernel_rfl) (by kernel_rfl) rfl rfl
def nmW (b : Bool) (l : List Nat) (i : Nat) : List Nat := (l.take (i + runL b (l.drop i))).drop i
def nmK (w : List Nat) : Nat := if isW (sl w) = true then 2 else 1
def nmX (w : List Nat) (i : Nat) : Nat × Option (Nat × Nat) := (i, if isW (sl w) = false ∧ 40 < w.length then some (i, 141) else none)
theorem name24 {l : List Nat} (hd : Dg 256 l) (hl : l.length ≤ 1000000000000000000) {i : Nat} (hi : i ≤ l.length) {h : Hp} {r : Nat} (hrw : h.rows[r]? = some (LxR l i)) :
  ∃ h', LH h r l (nmX (nmW true l i) i) h' ∧ Runs Pg (kn L) tbl 24 [.ptr (.glob r) 0] h (.val (.tuple [TokV (nmK (nmW true l i)) (nmW true l i) i, errE h.rows.length (nmX (nmW true l i) i).2]) h') := by
 have hr' : F.nthR h.rows r = some (.cells false [.str (sl l), .int .i64 (.ofNat i)]) := by rw [F.nthR_eq]; exact hrw
 have hn34 := runN_le true (l.drop i).length (l.drop i)
 rw [List.length_drop] at hn34
 have hn34 : runL true (l.drop i) ≤ l.length - i := by unfold runL; rw [List.length_drop]; exact hn34
 obtain ⟨w, ew⟩ : ∃ w, nmW true l i = w := ⟨_, rfl⟩
 have hw : Dg 256 w := by rw [← ew]; exact (hd.take _).drop _
 rw [ew]
 refine runs_tk (row_lt hrw) kn24 tbl24 ?_
 unfold rc24
 refine sR ?_
 refine ww_joinX (fun s => gt s.tm 0 = .ptr (.glob r) 0 ∧ gt s.tm 2 = .ptr (.loc 2 1) 0 ∧ gt s.tm 4 = .ptr (.loc 4 1) 0 ∧ lg s.loc 2 = (1, .cells false (TokC 0 [] 0)) ∧ lg s.loc 4 = (1, .cells false (TokC 1 w i)) ∧ s.hp = ⟨h.rows, none, h.mods⟩) ?_ (fun s ⟨k0, k2, k4, l2, l4, kh'⟩ => ?_)
 ·have hrun := run34 (L := L) true hd hl hi (h := ⟨h.rows, none, h.mods⟩) hrw
  have hmid := slc_mid (P := Pg) (t := 9) U9 hd .i64 .i64 i (i + runL true (l.drop i)) (by omega) (by omega)
  rw [show (l.take (i + runL true (l.drop i))).drop i = w from ew] at hmid
  refine ww_call hrun (fun n hn k => by simp -implicitDefEqProofs (disch := omega) only [go_sem, reduceIte, Nat.reduceEqDiff, gt_start, List.getD_cons_zero, List.getD_cons_succ, nilC_ptr, hr', cld2 hn (fun _ => rfl) (Ex1.bool _) rfl rfl, hmid, d24_20, da24_21, stc_three N30 1 (.int .i64 (.ofNat 1)) (.str (sl w)) (.int .i64 (.ofNat i)) _ _ _ _ rfl rfl rfl]; exact finD_ok (by kernel_rfl)) ?_
  exact ⟨sSG, sS, sS, show lg _ 2 = (1, .cells false [.int .i64 (.ofNat 0), .str ⟨0, 0⟩, .int .i64 (.ofNat 0)]) from sS, show lg _ 4 = (1, .cells false [.int .i64 (.ofNat 1), .str (sl w), .int .i64 (.ofNat i)]) from sS, rfl⟩
 obtain ⟨tm, loc, hp⟩ := s
 have kh2 : hp = ⟨h.rows, none, h.mods⟩ := kh'
 subst kh2
 have k2 : gt tm 2 = .ptr (.loc 2 1) 0 := k2
 have k4 : gt tm 4 = .ptr (.loc 4 1) 0 := k4
 have l2 : lg loc 2 = (1, .cells false [.int .i64 (.ofNat 0), .str ⟨0, 0⟩, .int .i64 (.ofNat 0)]) := l2
 have l4 : lg loc 4 = (1, .cells false [.int .i64 (.ofNat 1), .str (sl w), .int .i64 (.ofNat i)]) := l4
 refine ww_joinX (fun s => gt s.tm 2 = .ptr (.loc 2 1) 0 ∧ gt s.tm 4 = .ptr (.loc 4 1) 0 ∧ lg s.loc 2 = (1, .cells false [.int .i64 (.ofNat 0), .str ⟨0, 0⟩, .int .i64 (.ofNat 0)]) ∧ lg s.loc 4 = (1, .cells false [.int .i64 (.ofNat (nmK w)), .str (sl w), .int .i64 (.ofNat i)]) ∧ s.hp = ⟨h.rows, none, h.mods⟩ ∧ nmX w i = (i, none)) ?_ (fun s ⟨q2, q4, ql2, ql4, qh, qx⟩ => ?_)
 ·refine ww_seq (ww_call (word9 (L := L) hw ⟨h.rows, none, h.mods⟩) (fun n hn k => by simp -implicitDefEqProofs (disch := omega) only [go_sem, reduceIte, Nat.reduceEqDiff, k4, l4, ldc_snd L9, clc1 hn (Ex1.str _)]; rfl) ?_)
  cases e : isW (sl w) with
  | true =>
   have eK : nmK w = 2 := by unfold nmK; rw [if_pos e]
   rw [eK]
   refine ww_true (by simp -implicitDefEqProofs (disch := omega) only [go_sem, reduceIte, Nat.reduceEqDiff, e]) ?_
   refine ww_reg (fun n k => by simp -implicitDefEqProofs (disch := omega) only [go_sem, reduceIte, Nat.reduceEqDiff, k4, l4, stc_fst N3]; rfl) ?_
   exact ⟨(sS1 k2), (sS1 k4), (sS1 l2), sS, rfl, by unfold nmX; rw [if_neg (by rw [e]; simp)]⟩
  | false =>
   have eK : nmK w = 1 := by unfold nmK; rw [if_neg (by rw [e]; exact Bool.false_ne_true)]
   refine ww_false (by simp -implicitDefEqProofs (disch := omega) only [go_sem, reduceIte, Nat.reduceEqDiff, e]) ?_
   refine ww_seq (ww_reg (fun n k => by simp -implicitDefEqProofs (disch := omega) only [go_sem, reduceIte, Nat.reduceEqDiff, k4, l4, ldc_snd L9]; rfl) ?_)
   refine ww_if (by simp only [gt_pt, reduceIte]; rfl) (fun h40 => ?_) (fun h40 => ww_skip ?_)
   ·refine ww_seq (ww_call (fault15 (L := L) i 141 ⟨h.rows, none, h.mods⟩) (fun n hn k => by simp -implicitDefEqProofs (disch := omega) only [go_sem, reduceIte, Nat.reduceEqDiff, k2, k4, l2, l4, ldc_three L30, ldc_thd L3, cldF hn, stc_three N30 1 (.int .i64 (.ofNat 1)) (.str (sl w)) (.int .i64 (.ofNat i)) _ _ _ _ rfl rfl rfl]; exact finD_ok (by kernel_rfl)) ?_)
    have eX : nmX w i = (i, some (i, 141)) := by unfold nmX; rw [if_pos ⟨e, h40⟩]
    rw [eX, eK]
    exact ww_ret ⟨(sS1 k2), show lg _ 2 = (1, .cells false [.int .i64 (.ofNat 1), .str (sl w), .int .i64 (.ofNat i)]) from sS, show gt _ 3 = FtV h.rows.length from sS, lh_fault (h := ⟨h.rows, none, h.mods⟩) hrw _ _⟩
   ·rw [eK]
    exact ⟨(sS1 k2), (sS1 k4), (sS1 l2), (sS1 l4), rfl, by unfold nmX; rw [if_neg (fun q => h40 q.2)]⟩
 ·refine ww_seq (ww_reg (fun n k => by simp -implicitDefEqProofs (disch := omega) only [go_sem, reduceIte, Nat.reduceEqDiff, q2, q4, ql2, ql4, ldc_three L30, stc_three N30 1 (.int .i64 (.ofNat (nmK w))) (.str (sl w)) (.int .i64 (.ofNat i)) _ _ _ _ rfl rfl rfl]; rfl) ?_)
  rw [qx]
  exact ww_ret ⟨(sS1 q2), show lg _ 2 = (1, .cells false [.int .i64 (.ofNat (nmK w)), .str (sl w), .int .i64 (.ofNat i)]) from sS, show gt _ 3 = V.nili from sS, by rw [qh]; exact lh_refl hrw⟩
end Go.AM.S
end

section
namespace Go.AM.S
open Go Go.AM Go.Proofs NumL
open _root_.Go.AM.G (R)
set_option maxRecDepth 100000
open Go.Proofs.YtjldfkldmfmkiaaDoor
variable {L : List (Nat × Int × Int)}
theorem d25_20 (r i : Nat) (u : Str) (c : CallF) (l : Lo) (h : Hp) (J : JD) (X : XD) : gD Tryd.f25 25 1 20 c (pt (pt (pt (pt (startTm [.ptr (.glob r) 0]) 2 (.ptr (.loc 2 1) 0)) 3 .nili) 20 (.str u)) 24 (.int .i64 (.ofNat i))) l h J X = J (.agg [.int .i64 (.ofNat 3), .str u, .int .i64 (.ofNat i)]) ⟨[], [], false, false, false, false⟩ l h :=
 genD_pure (C := Cg) (gl := Cg.glob 25) (call := c) (o := opA Tryd.f25 1 20) (d := 25) (t := 30) (l := #[(0, .const (.int .i64 (.ofNat 3))), (1, .tmp 20), (2, .tmp 24)]) (by kernel_rfl) (by kernel_rfl) (by kernel_rfl)
theorem da25_21 (c : CallF) (t : Tm) (l : Lo) (h : Hp) (J : JD) (X : XD) : gD Tryd.f25 25 1 21 c t l h J X = J (.ptr (.loc 4 ((lg l 4).1 + 1)) 0) ⟨[4], [4], false, false, false, false⟩ (lp l 4 ((lg l 4).1 + 1, .cells false [.int .i64 (.ofNat 0), .str ⟨0, 0⟩, .int .i64 (.ofNat 0)])) h :=
 genD_alloc (C := Cg) (gl := Cg.glob 25) (call := c) (o := opA Tryd.f25 1 21) (d := 4) (t := 30) (n := 3) (z := .agg [.int .i64 (.ofNat 0), .str ⟨0, 0⟩, .int .i64 (.ofNat 0)]) (by kernel_rfl) (by kernel_rfl) (by kernel_rfl) (by kernel_rfl) (by kernel_rfl) rfl rfl
def nuX (w : List Nat) (i : Nat) : Nat × Option (Nat × Nat) := (i, if 1 < w.length ∧ w.getD 0 0 = 48 then some (i, 140) else if 400 < w.length then some (i, 141) else none)
theorem number25 {l : List Nat} (hd : Dg 256 l) (hl : l.length ≤ 1000000000000000000) {i : Nat} (hi : i ≤ l.length) {h : Hp} {r : Nat} (hrw : h.rows[r]? = some (LxR l i)) :
  ∃ h', LH h r l (nuX (nmW false l i) i) h' ∧ Runs Pg (kn L) tbl 25 [.ptr (.glob r) 0] h (.val (.tuple [TokV 3 (nmW false l i) i, errE h.rows.length (nuX (nmW false l i) i).2]) h') := by
 have hr' : F.nthR h.rows r = some (.cells false [.str (sl l), .int .i64 (.ofNat i)]) := by rw [F.nthR_eq]; exact hrw
 have hn34 := runN_le false (l.drop i).length (l.drop i)
 rw [List.length_drop] at hn34
 have hn34 : runL false (l.drop i) ≤ l.length - i := by unfold runL; rw [List.length_drop]; exact hn34
 obtain ⟨w, ew⟩ : ∃ w, nmW false l i = w := ⟨_, rfl⟩
 have hw : Dg 256 w := by rw [← ew]; exact (hd.take _).drop _
 rw [ew]
 refine runs_tk (row_lt hrw) kn25 tbl25 ?_
 unfold rc25
 refine sR ?_
 refine ww_joinX (fun s => gt s.tm 0 = .ptr (.glob r) 0 ∧ gt s.tm 2 = .ptr (.loc 2 1) 0 ∧ gt s.tm 4 = .ptr (.loc 4 1) 0 ∧ lg s.loc 2 = (1, .cells false (TokC 0 [] 0)) ∧ lg s.loc 4 = (1, .cells false (TokC 3 w i)) ∧ s.hp = ⟨h.rows, none, h.mods⟩) ?_ (fun s ⟨k0, k2, k4, l2, l4, kh'⟩ => ?_)
 ·have hrun := run34 (L := L) false hd hl hi (h := ⟨h.rows, none, h.mods⟩) hrw
  have hmid := slc_mid (P := Pg) (t := 9) U9 hd .i64 .i64 i (i + runL false (l.drop i)) (by omega) (by omega)
  rw [show (l.take (i + runL false (l.drop i))).drop i = w from ew] at hmid
  refine ww_call hrun (fun n hn k => by simp -implicitDefEqProofs (disch := omega) only [go_sem, reduceIte, Nat.reduceEqDiff, gt_start, List.getD_cons_zero, List.getD_cons_succ, nilC_ptr, hr', cld2 hn (fun _ => rfl) (Ex1.bool _) rfl rfl, hmid, d25_20, da25_21, stc_three N30 1 (.int .i64 (.ofNat 3)) (.str (sl w)) (.int .i64 (.ofNat i)) _ _ _ _ rfl rfl rfl]; exact finD_ok (by kernel_rfl)) ?_
  exact ⟨sSG, sS, sS, show lg _ 2 = (1, .cells false [.int .i64 (.ofNat 0), .str ⟨0, 0⟩, .int .i64 (.ofNat 0)]) from sS, show lg _ 4 = (1, .cells false [.int .i64 (.ofNat 3), .str (sl w), .int .i64 (.ofNat i)]) from sS, rfl⟩
 obtain ⟨tm, loc, hp⟩ := s
 have kh2 : hp = ⟨h.rows, none, h.mods⟩ := kh'
 subst kh2
 have k2 : gt tm 2 = .ptr (.loc 2 1) 0 := k2
 have k4 : gt tm 4 = .ptr (.loc 4 1) 0 := k4
 have l2 : lg loc 2 = (1, .cells false [.int .i64 (.ofNat 0), .str ⟨0, 0⟩, .int .i64 (.ofNat 0)]) := l2
 have l4 : lg loc 4 = (1, .cells false [.int .i64 (.ofNat 3), .str (sl w), .int .i64 (.ofNat i)]) := l4
 refine ww_joinX (fun s => gt s.tm 2 = .ptr (.loc 2 1) 0 ∧ gt s.tm 4 = .ptr (.loc 4 1) 0 ∧ lg s.loc 2 = (1, .cells false [.int .i64 (.ofNat 0), .str ⟨0, 0⟩, .int .i64 (.ofNat 0)]) ∧ lg s.loc 4 = (1, .cells false [.int .i64 (.ofNat 3), .str (sl w), .int .i64 (.ofNat i)]) ∧ s.hp = ⟨h.rows, none, h.mods⟩ ∧ nuX w i = (i, none)) ?_ (fun s ⟨q2, q4, ql2, ql4, qh, qx⟩ => ?_)
 ·refine ww_block ?_
  refine ww_joinX (fun s => gt s.tm 26 = .bool (decide (1 < w.length ∧ w.getD 0 0 = 48)) ∧ gt s.tm 2 = .ptr (.loc 2 1) 0 ∧ gt s.tm 4 = .ptr (.loc 4 1) 0 ∧ s.loc = loc ∧ s.hp = ⟨h.rows, none, h.mods⟩) ?_ (fun s ⟨j26, j2, j4, jl, jh⟩ => ?_)
  ·by_cases h1 : 1 < w.length
   ·have d1 : decide (1 < w.length) = true := decide_eq_true h1
    obtain ⟨q, eq⟩ : ∃ q, decide (w.getD 0 0 = 48) = q := ⟨_, rfl⟩
    have e : decide (1 < w.length ∧ w.getD 0 0 = 48) = q := by rw [Bool.decide_and, d1, eq, Bool.true_and]
    rw [e]
    refine ww_reg (fun n k => by simp -implicitDefEqProofs (disch := omega) only [go_sem, reduceIte, Nat.reduceEqDiff, k4, l4, ldc_snd L9, d1, idx_sl hw .i64 0 (by omega), eq]; rfl) ?_
    exact ⟨sS, (sS1 k2), (sS1 k4), rfl, rfl⟩
   ·have d1 : decide (1 < w.length) = false := decide_eq_false h1
    have e : decide (1 < w.length ∧ w.getD 0 0 = 48) = false := decide_eq_false (fun q => h1 q.1)
    rw [e]
    refine ww_reg (fun n k => by simp -implicitDefEqProofs (disch := omega) only [go_sem, reduceIte, Nat.reduceEqDiff, k4, l4, ldc_snd L9, d1]; rfl) ?_
    exact ⟨sS, (sS1 k2), (sS1 k4), rfl, rfl⟩
  obtain ⟨tm3, loc3, hp3⟩ := s
  have jl : loc3 = loc := jl
  have jh : hp3 = ⟨h.rows, none, h.mods⟩ := jh
  subst jl; subst jh
  have j2 : gt tm3 2 = .ptr (.loc 2 1) 0 := j2
  have j4 : gt tm3 4 = .ptr (.loc 4 1) 0 := j4
  refine ww_if j26 (fun hc => ?_) (fun hc => ?_)
  ·refine ww_seq (ww_call (fault15 (L := L) i 140 ⟨h.rows, none, h.mods⟩) (fun n hn k => by simp -implicitDefEqProofs (disch := omega) only [go_sem, reduceIte, Nat.reduceEqDiff, j2, j4, l2, l4, ldc_three L30, ldc_thd L3, cldF hn, stc_three N30 1 (.int .i64 (.ofNat 3)) (.str (sl w)) (.int .i64 (.ofNat i)) _ _ _ _ rfl rfl rfl]; exact finD_ok (by kernel_rfl)) ?_)
   have eX : nuX w i = (i, some (i, 140)) := by unfold nuX; rw [if_pos hc]
   rw [eX]
   exact ww_ret ⟨(sS1 j2), show lg _ 2 = (1, .cells false [.int .i64 (.ofNat 3), .str (sl w), .int .i64 (.ofNat i)]) from sS, show gt _ 3 = FtV h.rows.length from sS, lh_fault (h := ⟨h.rows, none, h.mods⟩) hrw _ _⟩
  ·refine ww_seq (ww_reg (fun n k => by simp -implicitDefEqProofs (disch := omega) only [go_sem, reduceIte, Nat.reduceEqDiff, j4, l4, ldc_snd L9]; rfl) ?_)
   refine ww_if (by simp only [gt_pt, reduceIte]; rfl) (fun h40 => ?_) (fun h40 => ww_skip ?_)
   ·refine ww_seq (ww_call (fault15 (L := L) i 141 ⟨h.rows, none, h.mods⟩) (fun n hn k => by simp -implicitDefEqProofs (disch := omega) only [go_sem, reduceIte, Nat.reduceEqDiff, j2, j4, l2, l4, ldc_three L30, ldc_thd L3, cldF hn, stc_three N30 1 (.int .i64 (.ofNat 3)) (.str (sl w)) (.int .i64 (.ofNat i)) _ _ _ _ rfl rfl rfl]; exact finD_ok (by kernel_rfl)) ?_)
    have eX : nuX w i = (i, some (i, 141)) := by unfold nuX; rw [if_neg hc, if_pos h40]
    rw [eX]
    exact ww_ret ⟨(sS1 j2), show lg _ 2 = (1, .cells false [.int .i64 (.ofNat 3), .str (sl w), .int .i64 (.ofNat i)]) from sS, show gt _ 3 = FtV h.rows.length from sS, lh_fault (h := ⟨h.rows, none, h.mods⟩) hrw _ _⟩
   ·exact ⟨(sS1 j2), (sS1 j4), (sS1 l2), (sS1 l4), rfl, by unfold nuX; rw [if_neg hc, if_neg h40]⟩
 ·refine ww_seq (ww_reg (fun n k => by simp -implicitDefEqProofs (disch := omega) only [go_sem, reduceIte, Nat.reduceEqDiff, q2, q4, ql2, ql4, ldc_three L30, stc_three N30 1 (.int .i64 (.ofNat 3)) (.str (sl w)) (.int .i64 (.ofNat i)) _ _ _ _ rfl rfl rfl]; rfl) ?_)
  rw [qx]
  exact ww_ret ⟨(sS1 q2), show lg _ 2 = (1, .cells false [.int .i64 (.ofNat 3), .str (sl w), .int .i64 (.ofNat i)]) from sS, show gt _ 3 = V.nili from sS, by rw [qh]; exact lh_refl hrw⟩
end Go.AM.S
end

section
namespace Go.AM.S
open Go Go.AM Go.Proofs NumL
open _root_.Go.AM.G (R)
set_option maxRecDepth 100000
open Go.Proofs.YtjldfkldmfmkiaaDoor
variable {L : List (Nat × Int × Int)}
theorem tbl26 : tbl 26 = some ⟨rc26, [.cell 2 30, .tmp 3]⟩ := by kernel_rfl
theorem kn26 : kn L 26 = none := by kernel_rfl
def sgs : List (List Nat) := partsS.map byW
theorem sgs_len : sgs.length = 25 := by decide
theorem sgs_dg (a : List Nat) (h : a ∈ sgs) : Dg 256 a := by
 unfold sgs at h
 rw [List.mem_map] at h
 obtain ⟨s, _, rfl⟩ := h
 exact byW_dg s
theorem parts_eq : partsS.map V.str = sgs.map (fun a => V.str (sl a)) := by kernel_rfl
theorem split35 (h : Hp) : Runs Pg (kn L) tbl 35 [.str ⟨59, 1577910268380582217003107627590277642536730059551060369529154557448275487073279701438647660762007071948632190336410797691709791328250124713277⟩, .str ⟨1, 32⟩] h (.val (.slice none true 1 (sgs.map (fun a => V.str (sl a)))) h) := by
 rw [← parts_eq]
 exact runs_known (k := splitK signsS blankS partsS) (by kernel_rfl) (fun _ => by kernel_rfl)
theorem ia_any {P : Program} {t e : TypeId} {ag : Bool} (he : F.elemT P t = some e) (hl : F.layE P e = some (1, ag)) (tok : Option Ref) (f : Bool) (k' : IntKind) (l : List V) (i : Nat) (v : V) (h : l[i]? = some v) (hc : v.cells = [v]) :
  ia P t (.slice tok f 1 l) (.int k' (.ofNat i)) = some (.iptr [v]) := by
 show G.onSome (F.elemT P t) _ none = _
 rw [he]
 show G.onSome (F.layE P e) _ none = _
 rw [hl]
 show (bif Nat.blt i (F.lenR l) then G.onSome (F.nthR l i) _ none else none) = _
 have hi : i < l.length := by
  rcases Nat.lt_or_ge i l.length with q | q
  ·exact q
  ·rw [List.getElem?_eq_none q] at h; cases h
 rw [F.lenR_eq, show Nat.blt i l.length = true from by rw [Nat.blt_eq]; exact hi, F.nthR_eq, h]
 show some (V.iptr v.cells) = _
 rw [hc]
theorem g26_5 (u : Str) (i : Nat) (c : CallF) (t t0 : Tm) (l : Lo) (h : Hp) (j : V → Lo → Hp → R) : gn Tryd.f26 26 5 5 c (pt (pt t 23 (.str u)) 27 (.int .i64 (.ofNat i))) t0 l h j = j (.agg [.int .i64 (.ofNat 4), .str u, .int .i64 (.ofNat i)]) l h := by
 refine (gen_slots (t2 := pt (pt .lf 23 (.str u)) 27 (.int .i64 (.ofNat i))) (fun x hx => ?_)).trans ?_
 ·have : x = 23 ∨ x = 27 := by
   have e : tmpsOf (opA Tryd.f26 5 5) = [23, 27] := by kernel_rfl
   rw [e] at hx; simpa using hx
  rcases this with rfl | rfl
  ·rw [gt_pt, if_neg (by decide), gt_pt, if_pos rfl, gt_pt, if_neg (by decide), gt_pt, if_pos rfl]
  ·rw [gt_pt, if_pos rfl, gt_pt, if_pos rfl]
 ·kernel_rfl
def sgn (W : List Nat) : Option (List Nat) := sgs.find? (fun s => beg s W)
def sgT (W : List Nat) (i : Nat) : Nat × List Nat × Nat := match sgn W with
 | some s => (4, s, i)
 | none => (0, [], 0)
def sgX (W : List Nat) (i : Nat) : Nat × Option (Nat × Nat) := (i, match sgn W with
 | some _ => none
 | none => some (i, 140))
theorem sign26 {l : List Nat} (hd : Dg 256 l) (hl : l.length ≤ 1000000000000000000) {i : Nat} (hi : i ≤ l.length) {h : Hp} {r : Nat} (hrw : h.rows[r]? = some (LxR l i)) :
  ∃ h', LH h r l (sgX (l.drop i) i) h' ∧ Runs Pg (kn L) tbl 26 [.ptr (.glob r) 0] h (.val (.tuple [TokV (sgT (l.drop i) i).1 (sgT (l.drop i) i).2.1 (sgT (l.drop i) i).2.2, errE h.rows.length (sgX (l.drop i) i).2]) h') := by
 have hr' : F.nthR h.rows r = some (.cells false [.str (sl l), .int .i64 (.ofNat i)]) := by rw [F.nthR_eq]; exact hrw
 refine runs_tk (row_lt hrw) kn26 tbl26 ?_
 unfold rc26
 refine sR ?_
 refine ww_joinX (fun s => gt s.tm 0 = .ptr (.glob r) 0 ∧ gt s.tm 2 = .ptr (.loc 2 1) 0 ∧ lg s.loc 2 = (1, .cells false (TokC 0 [] 0)) ∧ s.hp = ⟨h.rows, none, h.mods⟩ ∧ sgn (l.drop i) = none) ?_ (fun s ⟨h0, h2, l2, hh, hq⟩ => ?_)
 ·refine ww_seq (ww_call (split35 (L := L) ⟨h.rows, none, h.mods⟩) (fun n hn k => by simp -implicitDefEqProofs (disch := omega) only [go_sem, reduceIte, Nat.reduceEqDiff, clc2 hn (Ex1.str _) (Ex1.str _), len_slice, List.length_map, sgs_len]; rfl) ?_)
  refine ww_for (fun m s => ∃ j, m + j = 25 ∧ gt s.tm 0 = .ptr (.glob r) 0 ∧ gt s.tm 2 = .ptr (.loc 2 1) 0 ∧ gt s.tm 6 = .slice none true 1 (sgs.map (fun a => V.str (sl a))) ∧ gt s.tm 7 = .int .i64 (.ofNat 25) ∧ gt s.tm 8 = .int .i64 (.ofNat j) ∧ lg s.loc 2 = (1, .cells false (TokC 0 [] 0)) ∧ s.hp = ⟨h.rows, none, h.mods⟩ ∧ sgn (l.drop i) = (sgs.drop j).find? (fun s => beg s (l.drop i))) 25
   ⟨0, rfl, sSG, sS, sS, sS, sS, show lg _ 2 = (1, .cells false [.int .i64 (.ofNat 0), .str ⟨0, 0⟩, .int .i64 (.ofNat 0)]) from sS, rfl, rfl⟩ ?_
  intro m s ⟨j, hm, h0, h2, h6, h7, h8, l2, hh, he⟩
  obtain ⟨tm, loc, hp⟩ := s
  have hh : hp = ⟨h.rows, none, h.mods⟩ := hh
  subst hh
  have h0 : gt tm 0 = .ptr (.glob r) 0 := h0
  have h2 : gt tm 2 = .ptr (.loc 2 1) 0 := h2
  have h6 : gt tm 6 = .slice none true 1 (sgs.map (fun a => V.str (sl a))) := h6
  have h7 : gt tm 7 = .int .i64 (.ofNat 25) := h7
  have h8 : gt tm 8 = .int .i64 (.ofNat j) := h8
  have l2 : lg loc 2 = (1, .cells false [.int .i64 (.ofNat 0), .str ⟨0, 0⟩, .int .i64 (.ofNat 0)]) := l2
  refine sR2 h7 h8 ?_
  refine ww_seq (ww_if (by simp only [gt_pt, reduceIte]; rfl) (fun hj => ww_skip ?_) (fun hj => ww_exit ?_))
  ·have hjl : j < sgs.length := by rw [sgs_len]; exact hj
   obtain ⟨a, ea⟩ : ∃ a, sgs[j] = a := ⟨_, rfl⟩
   have hx : (sgs.map (fun a => V.str (sl a)))[j]? = some (.str (sl a)) := by simp [hjl, ea]
   have ha : Dg 256 a := sgs_dg a (by rw [← ea]; exact List.getElem_mem _)
   have hdr : sgs.drop j = a :: sgs.drop (j + 1) := by rw [← ea]; exact List.drop_eq_getElem_cons hjl
   rw [hdr, List.find?_cons] at he
   refine ww_seq (ww_block ?_)
   refine ww_seq (ww_reg (fun n k => by simp -implicitDefEqProofs (disch := omega) only [go_sem, reduceIte, Nat.reduceEqDiff, h6, h8, ia_any E31 L9 none true .i64 (sgs.map (fun a => V.str (sl a))) j (.str (sl a)) hx rfl]; rfl) ?_)
   refine ww_seq (ww_call (pre21 (L := L) (hd.drop i) ha ⟨h.rows, none, h.mods⟩) (fun n hn k => by simp -implicitDefEqProofs (disch := omega) only [go_sem, reduceIte, Nat.reduceEqDiff, h0, nilC_ptr, hr', slc_str hd .i64 i hi, cld2 hn (Ex1.str _) (Ex1.str _) rfl rfl]; exact finD_ok (by kernel_rfl)) ?_)
   cases hb : beg a (l.drop i) with
   | true =>
    rw [hb] at he
    have he : sgn (l.drop i) = some a := he
    refine ww_true (sS1 hb) ?_
    refine ww_seq (ww_reg (fun n k => by simp -implicitDefEqProofs (disch := omega) only [go_sem, reduceIte, Nat.reduceEqDiff, h0, h2, l2, nilC_ptr, hr', g26_5, stc_three N30 1 (.int .i64 (.ofNat 4)) (.str (sl a)) (.int .i64 (.ofNat i)) _ _ _ _ rfl rfl rfl]; rfl) ?_)
    have eT : sgT (l.drop i) i = (4, a, i) := by unfold sgT; rw [he]
    have eX : sgX (l.drop i) i = (i, none) := by unfold sgX; rw [he]
    rw [eT, eX]
    exact ww_ret ⟨(sS1 h2), show lg _ 2 = (1, .cells false [.int .i64 (.ofNat 4), .str (sl a), .int .i64 (.ofNat i)]) from sS, show gt _ 3 = V.nili from sS, lh_refl hrw⟩
   | false =>
    rw [hb] at he
    refine ww_false (sS1 hb) (ww_skip ?_)
    refine sE1 h8 ?_
    exact ⟨m - 1, by omega, j + 1, by omega, (sS1 h0), (sS1 h2), (sS1 h6), (sS1 h7), sS, show lg _ 2 = (1, .cells false [.int .i64 (.ofNat 0), .str ⟨0, 0⟩, .int .i64 (.ofNat 0)]) from (sS1 l2), rfl, he⟩
  ·rw [if_pos rfl]
   have : sgs.drop j = [] := List.drop_eq_nil_of_le (by rw [sgs_len]; omega)
   rw [this] at he
   exact ⟨(sS1 h0), (sS1 h2), show lg _ 2 = (1, .cells false [.int .i64 (.ofNat 0), .str ⟨0, 0⟩, .int .i64 (.ofNat 0)]) from (sS1 l2), rfl, he⟩
 ·obtain ⟨tm, loc, hp⟩ := s
  have hh : hp = ⟨h.rows, none, h.mods⟩ := hh
  subst hh
  have h0 : gt tm 0 = .ptr (.glob r) 0 := h0
  have h2 : gt tm 2 = .ptr (.loc 2 1) 0 := h2
  have l2 : lg loc 2 = (1, .cells false [.int .i64 (.ofNat 0), .str ⟨0, 0⟩, .int .i64 (.ofNat 0)]) := l2
  refine ww_seq (ww_call (fault15 (L := L) i 140 ⟨h.rows, none, h.mods⟩) (fun n hn k => by simp -implicitDefEqProofs (disch := omega) only [go_sem, reduceIte, Nat.reduceEqDiff, h0, h2, l2, nilC_ptr, hr', clc2 hn (Ex1.int _ _) (Ex1.int _ _), stc_three N30 1 (.int .i64 (.ofNat 0)) (.str ⟨0, 0⟩) (.int .i64 (.ofNat 0)) _ _ _ _ rfl rfl rfl]; rfl) ?_)
  have eT : sgT (l.drop i) i = (0, [], 0) := by unfold sgT; rw [hq]
  have eX : sgX (l.drop i) i = (i, some (i, 140)) := by unfold sgX; rw [hq]
  rw [eT, eX]
  exact ww_ret ⟨(sS1 h2), show lg _ 2 = (1, .cells false [.int .i64 (.ofNat 0), .str ⟨0, 0⟩, .int .i64 (.ofNat 0)]) from sS, show gt _ 3 = FtV h.rows.length from sS, lh_fault (h := ⟨h.rows, none, h.mods⟩) hrw _ _⟩
end Go.AM.S
end

section
namespace Go.AM.S
open Go Go.AM Go.Proofs NumL
open _root_.Go.AM.G (R)
set_option maxRecDepth 100000
open Go.Proofs.YtjldfkldmfmkiaaDoor
variable {L : List (Nat × Int × Int)}
theorem tbl17 : tbl 17 = some ⟨rc17, [.cell 2 30, .tmp 3]⟩ := by kernel_rfl
theorem kn17 : kn L 17 = none := by kernel_rfl
def tkT (l : List Nat) (i : Nat) : Nat × List Nat × Nat :=
 if kh (l.drop i) = 2 then (nmK (nmW true l i), nmW true l i, i) else if kh (l.drop i) = 3 then (3, nmW false l i, i) else sgT (l.drop i) i
def tkX (l : List Nat) (i : Nat) : Nat × Option (Nat × Nat) :=
 if kh (l.drop i) = 2 then nmX (nmW true l i) i else if kh (l.drop i) = 3 then nuX (nmW false l i) i else sgX (l.drop i) i
theorem errE_ex (n : Nat) (e : Option (Nat × Nat)) : Ex1 (errE n e) := by
 cases e with
 | none => exact fun _ => rfl
 | some e => exact fun _ => rfl
theorem token17 {l : List Nat} (hd : Dg 256 l) (hl : l.length ≤ 1000000000000000000) {i : Nat} (hi : i ≤ l.length) {h : Hp} {r : Nat} (hrw : h.rows[r]? = some (LxR l i)) :
  ∃ h', LH h r l (tkX l i) h' ∧ Runs Pg (kn L) tbl 17 [.ptr (.glob r) 0] h (.val (.tuple [TokV (tkT l i).1 (tkT l i).2.1 (tkT l i).2.2, errE h.rows.length (tkX l i).2]) h') := by
 refine runs_tk (row_lt hrw) kn17 tbl17 ?_
 have hrw0 : (⟨h.rows, none, h.mods⟩ : Hp).rows[r]? = some (LxR l i) := hrw
 unfold rc17
 refine sR ?_
 refine ww_joinX (fun s => gt s.tm 0 = .ptr (.glob r) 0 ∧ gt s.tm 2 = .ptr (.loc 2 1) 0 ∧ lg s.loc 2 = (1, .cells false [.int .i64 (.ofNat 0), .str ⟨0, 0⟩, .int .i64 (.ofNat 0)]) ∧ s.hp = ⟨h.rows, none, h.mods⟩ ∧ tkT l i = sgT (l.drop i) i ∧ tkX l i = sgX (l.drop i) i) ?_ (fun s ⟨h0, h2, l2, hh, q1, q2⟩ => ?_)
 ·refine ww_seq (ww_call (first23 (L := L) hd hi hrw0) (fun n hn k => by simp -implicitDefEqProofs (disch := omega) only [go_sem, reduceIte, Nat.reduceEqDiff, gt_start, List.getD_cons_zero, List.getD_cons_succ, clc1 hn (fun _ => rfl)]; rfl) ?_)
  refine ww_block ?_
  refine sR ?_
  refine ww_if (by simp only [gt_pt, reduceIte]; rfl) (fun hk => ?_) (fun hk => ?_)
  ·have eT : tkT l i = (nmK (nmW true l i), nmW true l i, i) := by unfold tkT; rw [if_pos hk]
   have eX : tkX l i = nmX (nmW true l i) i := by unfold tkX; rw [if_pos hk]
   rw [eT, eX]
   obtain ⟨h', c1, c2⟩ := name24 (L := L) hd hl hi hrw0
   refine ww_seq (ww_call (c2) (fun n hn k => by simp -implicitDefEqProofs (disch := omega) only [go_sem, reduceIte, Nat.reduceEqDiff, gt_start, List.getD_cons_zero, List.getD_cons_succ, clc1 hn (fun _ => rfl), TokV, stc_three N30 1 (.int .i64 (.ofNat (nmK (nmW true l i)))) (.str (sl (nmW true l i))) (.int .i64 (.ofNat i)) _ _ _ _ rfl rfl rfl]; rfl) ?_)
   exact ww_ret ⟨sS, show lg _ 2 = (1, .cells false [.int .i64 (.ofNat (nmK (nmW true l i))), .str (sl (nmW true l i)), .int .i64 (.ofNat i)]) from sS, sS, c1⟩
  ·refine sR ?_
   refine ww_if (by simp only [gt_pt, reduceIte]; rfl) (fun hk3 => ?_) (fun hk3 => ww_skip ?_)
   ·have eT : tkT l i = (3, nmW false l i, i) := by unfold tkT; rw [if_neg hk, if_pos hk3]
    have eX : tkX l i = nuX (nmW false l i) i := by unfold tkX; rw [if_neg hk, if_pos hk3]
    rw [eT, eX]
    obtain ⟨h', c1, c2⟩ := number25 (L := L) hd hl hi hrw0
    refine ww_seq (ww_call (c2) (fun n hn k => by simp -implicitDefEqProofs (disch := omega) only [go_sem, reduceIte, Nat.reduceEqDiff, gt_start, List.getD_cons_zero, List.getD_cons_succ, clc1 hn (fun _ => rfl), TokV, stc_three N30 1 (.int .i64 (.ofNat 3)) (.str (sl (nmW false l i))) (.int .i64 (.ofNat i)) _ _ _ _ rfl rfl rfl]; rfl) ?_)
    exact ww_ret ⟨sS, show lg _ 2 = (1, .cells false [.int .i64 (.ofNat 3), .str (sl (nmW false l i)), .int .i64 (.ofNat i)]) from sS, sS, c1⟩
   ·exact ⟨sSG, sS, sS, rfl, by unfold tkT; rw [if_neg hk, if_neg hk3], by unfold tkX; rw [if_neg hk, if_neg hk3]⟩
 ·obtain ⟨tm, loc, hp⟩ := s
  have hh : hp = ⟨h.rows, none, h.mods⟩ := hh
  subst hh
  have h0 : gt tm 0 = .ptr (.glob r) 0 := h0
  have h2 : gt tm 2 = .ptr (.loc 2 1) 0 := h2
  rw [q1, q2]
  obtain ⟨h', c1, c2⟩ := sign26 (L := L) hd hl hi hrw0
  refine ww_seq (ww_call (c2) (fun n hn k => by simp -implicitDefEqProofs (disch := omega) only [go_sem, reduceIte, Nat.reduceEqDiff, h0, h2, l2, clc1 hn (fun _ => rfl), TokV, stc_three N30 1 (.int .i64 (.ofNat (sgT (l.drop i) i).1)) (.str (sl (sgT (l.drop i) i).2.1)) (.int .i64 (.ofNat (sgT (l.drop i) i).2.2)) _ _ _ _ rfl rfl rfl]; rfl) ?_)
  exact ww_ret ⟨(sS1 h2), show lg _ 2 = (1, .cells false [.int .i64 (.ofNat (sgT (l.drop i) i).1), .str (sl (sgT (l.drop i) i).2.1), .int .i64 (.ofNat (sgT (l.drop i) i).2.2)]) from sS, sS, c1⟩
end Go.AM.S
end

section
namespace Go.AM.S
open Go Go.AM Go.Proofs NumL
open _root_.Go.AM.G (R)
set_option maxRecDepth 100000
open Go.Proofs.YtjldfkldmfmkiaaDoor
variable {L : List (Nat × Int × Int)}
theorem tbl8 : tbl 8 = some ⟨rc8, [.tmp 2, .tmp 3]⟩ := by kernel_rfl
theorem kn8 : kn L 8 = none := by kernel_rfl
def TkA (loc : Lo) (s : Nat) (v : V) (l : List V) : Prop :=
 (l = [] ∧ v = .nils) ∨ (l ≠ [] ∧ ∃ g, v = .slice (some (.loc s g)) false 3 l ∧ lg loc s = (g, .tok))
section
variable {P : Program} {C : Cfg} {gl : Nat → Bool} {o : Oper} {loc : Lo}
theorem gen_pushA {d x y t e b s : Nat} (hi : ApI P o d x y t) (hA : C.isArr t = false) (hg : gl d = false) (he : elemT P t = some e) (hl : layE P e = some (3, true)) (hb : byteE P e = some b) (hxy : x ≠ y)
  {l : List V} {v T : V} {tk : Option Ref} {fu : Bool} (hv : TkA loc s v l) (hT : (Nat.beq T.cells.length 3 && T.cells.all V.cellOk) = true) (hT2 : V.noRefsL [T] = true) (hl2 : V.noRefsL (l ++ [T]) = true) (hn : (l.length + 1) * b ≤ 70368744177664) :
  ∃ v' loc', (∀ (call : CallF) (tm : Tm) (hp : Hp) (j : V → Lo → Hp → R), gen P C call gl o (pt (pt .lf x v) y (.slice tk fu 3 [T])) tm loc hp j = j v' loc' hp) ∧ TkA loc' d v' (l ++ [T]) ∧ ∀ i, i ≠ d → i ≠ s → lg loc' i = lg loc i := by
 obtain ⟨hd, c, ho, hc, ha, hty, hni⟩ := hi
 have hx : gt (pt (pt .lf x v) y (.slice tk fu 3 [T])) x = v := by rw [gt_pt, if_neg (Ne.symm hxy), gt_pt, if_pos rfl]
 have hy : gt (pt (pt .lf x v) y (.slice tk fu 3 [T])) y = .slice tk fu 3 [T] := by rw [gt_pt, if_pos rfl]
 have hp1 : ∀ (tm : Tm) hp, locV P C gl (⟨tm, loc, hp⟩ : St).ρ (⟨tm, loc, hp⟩ : St).lc o = none := by
  intro tm hp
  unfold locV
  simp only [ho, pureV, hc, ha, Option.map_none]
 have hmb : ∀ n, n ≤ 70368744177664 → Nat.ble n maxBytes = true := fun n h => by rw [Nat.ble_eq]; exact h
 have hfit : ([T].all fun v => Nat.beq v.cells.length 3 && v.cells.all V.cellOk) = true := by rw [List.all_cons, List.all_nil, Bool.and_true]; exact hT
 rcases hv with ⟨rfl, rfl⟩ | ⟨hl0, g, rfl, hrow⟩
 ·refine ⟨.slice (some (.loc d ((lg loc d).1 + 1))) false 3 [T], lp loc d ((lg loc d).1 + 1, .tok), fun call tm hp j => gen_val (st := ⟨pt (pt .lf x .nils) y (.slice tk fu 3 [T]), lp loc d ((lg loc d).1 + 1, .tok), hp⟩) hd ?_, .inr ⟨by simp, (lg loc d).1 + 1, by simp, by rw [lg_lp, if_pos rfl]⟩, fun i hi _ => by rw [lg_lp, if_neg (Ne.symm hi)]⟩
  unfold stepV
  rw [hp1]
  unfold stepG
  simp only [ho, callS, hc, hty, hd, opds, ha, List.map_cons, List.map_nil, opd_gt, hx, hy, hni, cond_true, appendV, he, hl, hb, itemsOf, hfit]
  rw [hmb _ (by simpa using hn)]
  simp only [cond_true, hA, cond_false, hT2, growImm, hg, addRow, lc_lg, aset_lp]
 ·have hrow' : ∀ tm hp, getRow ⟨tm, loc, hp⟩ (.loc s g) = some .tok := fun tm hp => getRow_loc hrow
  refine ⟨.slice (some (.loc d ((lg (lp loc s (g, .gone)) d).1 + 1))) false 3 (l ++ [T]), lp (lp loc s (g, .gone)) d ((lg (lp loc s (g, .gone)) d).1 + 1, .tok), fun call tm hp j => gen_val (st := ⟨pt (pt .lf x (.slice (some (.loc s g)) false 3 l)) y (.slice tk fu 3 [T]), lp (lp loc s (g, .gone)) d ((lg (lp loc s (g, .gone)) d).1 + 1, .tok), hp⟩) hd ?_, .inr ⟨by simp, _, rfl, by rw [lg_lp, if_pos rfl]⟩, fun i hi hs => by rw [lg_lp, if_neg (Ne.symm hi), lg_lp, if_neg (Ne.symm hs)]⟩
  unfold stepV
  rw [hp1]
  unfold stepG
  simp only [ho, callS, hc, hty, hd, opds, ha, List.map_cons, List.map_nil, opd_gt, hx, hy, hni, cond_true, appendV, he, hl, hb, itemsOf, hfit, hrow', Nat.beq_refl]
  rw [hmb _ (by simpa using hn)]
  simp only [cond_true, hA, cond_false, hT2, growImm, hg, setRow_loc, addRow, lc_lg, aset_lp]
end
section
variable {C : Cfg} {P : Program} {call : CallF} {gl : Nat → Bool} {o : Oper} {t' tm : Tm} {loc : Lo} {hp : Hp}
theorem genD_store_one {t : TypeId} {a x r off : Nat} {k : IntKind} {n : Int} {cs cs' : List V} {J : JD} {X : XD} (ho : o.op = .store t (.tmp a) (.tmp x)) (hd : o.dst = none) (hl : lenIs P t 1 = true)
    (ha : gt t' a = .ptr (.glob r) off) (hx : gt t' x = .int k n) (hr : hp.rows[r]? = some (.cells false cs)) (hs : setAt cs off [.int k n] = some cs') :
    genD P C call gl o t' loc hp J X = J (.tuple []) ⟨[], [], true, true, false, false⟩ loc (hset hp r (.cells false cs')) := by
  have hp1 : locV P C gl (⟨t', loc, hp⟩ : St).ρ (⟨t', loc, hp⟩ : St).lc o = none := by
    unfold locV
    simp only [ho, opd_gt, ha]
  have hf : footV P C gl (⟨t', loc, hp⟩ : St).ρ (⟨t', loc, hp⟩ : St).lc o = some ⟨[], [], true, true, false, false⟩ := by
    unfold footV
    rw [hp1]
    simp only [ho, opd_gt, ha, hx]
    rfl
  have hs : stepV P C gl ⟨t', loc, hp⟩ o = some (.val (.tuple []) ⟨t', loc, hset hp r (.cells false cs')⟩) := by
    unfold stepV
    rw [hp1]
    unfold stepG
    have he : exp false ⟨t', loc, hp⟩ (.int k n) = some (.int k n, ⟨t', loc, hp⟩) := rfl
    simp only [ho, opd_gt, ha, hx, hr, he, V.cells, List.all_cons, V.cellOk, List.all_nil, Bool.and_self, List.length_cons, List.length_nil, Nat.zero_add, hl, cond_true, hs, setRow_glob]
  unfold genD
  rw [F.e_footV, F.e_oneV, F.e_rho, F.e_lcf, hf]
  show G.onSome (oneV P C call gl ⟨t', loc, hp⟩ o) _ none = _
  unfold oneV
  rw [hs]
  simp only [putV, hd]
  show J (.tuple []) (F.settle hp (hset hp r (.cells false cs')) ⟨[], [], true, true, false, false⟩) loc (hset hp r (.cells false cs')) = _
  have : F.settle hp (hset hp r (.cells false cs')) ⟨[], [], true, true, false, false⟩ = ⟨[], [], true, true, false, false⟩ := by
    unfold F.settle
    have e : Nat.beq (hset hp r (.cells false cs')).mods hp.mods = false := by
      cases hb : Nat.beq (hset hp r (.cells false cs')).mods hp.mods with
      | false => rfl
      | true => have h2 : hp.mods + 1 = hp.mods := Nat.eq_of_beq_eq_true hb
                omega
    rw [e]; rfl
  rw [this]
end
theorem std8 {hp : Hp} {r i : Nat} {l : List Nat} (hr : hp.rows[r]? = some (LxR l i)) (x : Nat) (c : CallF) (t : Tm) (lo : Lo) (J : JD) (X : XD) :
  gD Tryd.f8 8 14 10 c (pt (pt t 55 (.ptr (.glob r) 1)) 53 (.int .i64 (.ofNat x))) lo hp J X = J (.tuple []) ⟨[], [], true, true, false, false⟩ lo (hset hp r (LxR l x)) :=
 genD_store_one (C := Cg) (gl := Cg.glob 8) (call := c) (o := opA Tryd.f8 14 10) (t := 3) (a := 55) (x := 53) (by kernel_rfl) (by kernel_rfl) (by kernel_rfl) (by rw [gt_pt, if_neg (by decide), gt_pt, if_pos rfl]) (by rw [gt_pt, if_pos rfl]) hr rfl
def TV (T : Nat × List Nat × Nat) : V := TokV T.1 T.2.1 T.2.2
theorem tv_refs (ts : List (Nat × List Nat × Nat)) : V.noRefsL (ts.map TV) = true := by
 induction ts with
 | nil => rfl
 | cons a t ih =>
  show (V.noRefs (TV a) && V.noRefsL (t.map TV)) = true
  rw [ih]; rfl
theorem push8 {loc : Lo} {v : V} {ts : List (Nat × List Nat × Nat)} (hv : TkA loc 45 v (ts.map TV)) (T : Nat × List Nat × Nat) (hn : ts.length ≤ 1000000) :
  ∃ v' loc', (∀ (c : CallF) (t : Tm) (h : Hp) (j : V → Lo → Hp → R), go2 Tryd.f8 8 13 3 42 44 v (.slice none true 3 [.agg [.int .i64 (.ofNat T.1), .str (sl T.2.1), .int .i64 (.ofNat T.2.2)]]) c t loc h j = j v' loc' h) ∧ TkA loc' 45 v' ((ts ++ [T]).map TV) ∧ ∀ i, i ≠ 45 → lg loc' i = lg loc i := by
 obtain ⟨v', loc', h1, h2, h3⟩ := gen_pushA (P := Pg) (C := Cg) (gl := Cg.glob 8) (tk := none) (fu := true) i8_13_3 (by kernel_rfl) (by kernel_rfl) E24 L30 (b := 32) (by kernel_rfl) (by decide) (T := TV T) hv rfl rfl (by have := tv_refs (ts ++ [T]); rwa [List.map_append] at this) (by rw [List.length_map]; omega)
 exact ⟨v', loc', h1, by rw [List.map_append]; exact h2, fun i hi => h3 i hi hi⟩
theorem push8e {loc : Lo} {v : V} {ts : List (Nat × List Nat × Nat)} (hv : TkA loc 45 v (ts.map TV)) (m : Nat) (hn : ts.length ≤ 1000000) :
  ∃ v' loc', (∀ (c : CallF) (t : Tm) (h : Hp) (j : V → Lo → Hp → R), go2 Tryd.f8 8 9 5 28 32 v (.slice none true 3 [.agg [.int .i64 (.ofNat 0), .str ⟨0, 0⟩, .int .i64 (.ofNat m)]]) c t loc h j = j v' loc' h) ∧ TkA loc' 33 v' ((ts ++ [(0, [], m)]).map TV) := by
 obtain ⟨v', loc', h1, h2, h3⟩ := gen_pushA (P := Pg) (C := Cg) (gl := Cg.glob 8) (tk := none) (fu := true) i8_9_5 (by kernel_rfl) (by kernel_rfl) E24 L30 (b := 32) (by kernel_rfl) (by decide) (T := TV (0, [], m)) hv rfl rfl (by have := tv_refs (ts ++ [(0, [], m)]); rwa [List.map_append] at this) (by rw [List.length_map]; omega)
 exact ⟨v', loc', h1, by rw [List.map_append]; exact h2⟩
end Go.AM.S
end

section
namespace Go.AM.S
open Go Go.AM Go.Proofs NumL
open _root_.Go.AM.G (R)
set_option maxRecDepth 100000
open Go.Proofs.YtjldfkldmfmkiaaDoor
variable {L : List (Nat × Int × Int)}
theorem blk_ok : ∀ (f : Nat) (l : List Nat) (i j : Nat), i ≤ l.length → blk f l i = (j, none) → i ≤ j ∧ j ≤ l.length := by
 intro f
 induction f with
 | zero => intro l i j hi h; cases h; exact ⟨Nat.le_refl _, hi⟩
 | succ f ih =>
  intro l i j hi h
  have h : (if i < l.length then (if beg [40, 42] (l.drop i) = true then (match cmtO l i with
   | (j, none) => blk f l j
   | (j, some e) => (j, some e)) else if kh (l.drop i) = 1 then blk f l (i + 1) else (i, none)) else (i, none)) = (j, none) := h
  by_cases h1 : i < l.length
  ·rw [if_pos h1] at h
   by_cases h2 : beg [40, 42] (l.drop i) = true
   ·rw [if_pos h2] at h
    have hb := beg_len h2
    rw [List.length_drop] at hb
    have hb : 2 ≤ l.length - i := hb
    obtain ⟨x, ex⟩ : ∃ x, cmtO l i = x := ⟨_, rfl⟩
    rw [ex] at h
    obtain ⟨a, e⟩ := x
    cases e with
    | none =>
     have q := cmtO_ok ex (by omega)
     have q2 := ih l a j q.2 h
     omega
    | some e => cases h
   ·rw [if_neg h2] at h
    by_cases h3 : kh (l.drop i) = 1
    ·rw [if_pos h3] at h
     have q := ih l (i + 1) j (by omega) h
     omega
    ·rw [if_neg h3] at h; cases h; exact ⟨Nat.le_refl _, hi⟩
  ·rw [if_neg h1] at h; cases h; exact ⟨Nat.le_refl _, hi⟩
theorem runL_pos {b : Bool} {W : List Nat} (hW : W ≠ []) (hk : okK b (kh W) = true) : 1 ≤ runL b W := by
 obtain ⟨f, e⟩ : ∃ f, W.length = f + 1 := ⟨W.length - 1, by have := List.length_pos_iff.2 hW; omega⟩
 unfold runL
 rw [e, runN_go hW hk]
 have := hr_pos hW
 omega
theorem nmW_len (b : Bool) {l : List Nat} {i : Nat} (hi : i ≤ l.length) : (nmW b l i).length = runL b (l.drop i) ∧ i + runL b (l.drop i) ≤ l.length := by
 have q := runN_le b (l.drop i).length (l.drop i)
 have q : runL b (l.drop i) ≤ (l.drop i).length := q
 rw [List.length_drop] at q
 unfold nmW
 rw [List.length_drop, List.length_take]
 omega
theorem sgs_pos : ∀ a ∈ sgs, 1 ≤ a.length := by decide
theorem tk_ok {l : List Nat} {j : Nat} (hj : j < l.length) (hx : (tkX l j).2 = none) : (tkX l j).1 = j ∧ 1 ≤ (tkT l j).2.1.length ∧ j + (tkT l j).2.1.length ≤ l.length := by
 have hne : l.drop j ≠ [] := by intro e; have := congrArg List.length e; rw [List.length_drop, List.length_nil] at this; omega
 unfold tkX at hx ⊢
 unfold tkT
 by_cases h2 : kh (l.drop j) = 2
 ·rw [if_pos h2, if_pos h2]
  have q := nmW_len true (Nat.le_of_lt hj)
  have p := runL_pos (b := true) hne (by unfold okK; rw [h2]; rfl)
  exact ⟨rfl, by show 1 ≤ (nmW true l j).length; omega, by show j + (nmW true l j).length ≤ _; omega⟩
 ·rw [if_neg h2, if_neg h2] at *
  by_cases h3 : kh (l.drop j) = 3
  ·rw [if_pos h3, if_pos h3]
   have q := nmW_len false (Nat.le_of_lt hj)
   have p := runL_pos (b := false) hne (by unfold okK; rw [h3]; rfl)
   exact ⟨rfl, by show 1 ≤ (nmW false l j).length; omega, by show j + (nmW false l j).length ≤ _; omega⟩
  ·rw [if_neg h3] at hx ⊢
   rw [if_neg h3]
   refine ⟨rfl, ?_⟩
   unfold sgX at hx
   unfold sgT
   obtain ⟨x, ex⟩ : ∃ x, sgn (l.drop j) = x := ⟨_, rfl⟩
   rw [ex] at hx ⊢
   cases x with
   | none => cases hx
   | some a =>
    have ha := List.mem_of_find?_eq_some ex
    have hb := beg_len (show beg a (l.drop j) = true from List.find?_some (p := fun s => beg s (l.drop j)) ex)
    rw [List.length_drop] at hb
    have hp := sgs_pos a ha
    exact ⟨hp, by show j + a.length ≤ _; omega⟩
def lexA : Nat → List Nat → Nat → List (Nat × List Nat × Nat) → List (Nat × List Nat × Nat) × Option (Nat × Nat)
 | 0, _, _, ts => (ts, none)
 | f + 1, l, i, ts => match blk (l.length + 1) l i with
  | (_, some e) => ([], some e)
  | (j, none) => if j = l.length then (ts ++ [(0, [], l.length)], none) else match (tkX l j).2 with
   | some e => ([], some e)
   | none => lexA f l (j + (tkT l j).2.1.length) (ts ++ [tkT l j])
def lexT (l : List Nat) : List (Nat × List Nat × Nat) × Option (Nat × Nat) := lexA (l.length + 1) l 0 []
def tkOut (h : Hp) (l : List Nat) (o : Out) : Prop := match lexT l with
 | (ts, none) => o = .val (.tuple [.slice none false 3 (ts.map TV), .nili]) h
 | (_, some (p, c)) => ∃ j, o = .val (.tuple [.nils, FtV (h.rows.length + 1)]) ⟨h.rows ++ [LxR l j, FtR p c], h.dirty, h.mods⟩
theorem fin_tok {H : Hp} {s : St} {Ls : List V} {g : Nat} (h2 : gt s.tm 2 = .slice (some (.loc 33 g)) false 3 Ls) (h3 : gt s.tm 3 = .nili) (hL : V.noRefsL Ls = true) (hc : cleanB H s.hp = true) : fin Pg H [.tmp 2, .tmp 3] s = some (.val (.tuple [.slice none false 3 Ls, .nili]) H) := by
 unfold fin
 have e1 : resV Pg s [.tmp 2, .tmp 3] = some [.slice (some (.loc 33 g)) false 3 Ls, .nili] := by simp only [resV, rho_gt, h2, h3, Option.map_some]
 have e2 : exps false s [.slice (some (.loc 33 g)) false 3 Ls, .nili] = some ([.slice none false 3 Ls, .nili], s) := rfl
 have e3 : backHp H s.hp [.slice none false 3 Ls, .nili] = H := by
  unfold backHp
  rw [hc]
  have : V.noRefsL [.slice none false 3 Ls, .nili] = true := by simp only [V.noRefsL, V.noRefs, hL, Bool.and_self, Option.isNone_none]
  rw [this]; rfl
 rw [e1]
 simp only [e2, e3]
theorem fin_bad {H : Hp} {s : St} {n : Nat} (h2 : gt s.tm 2 = .nils) (h3 : gt s.tm 3 = FtV n) (hc : cleanB H s.hp = true) : fin Pg H [.tmp 2, .tmp 3] s = some (.val (.tuple [.nils, FtV n]) ⟨s.hp.rows, H.dirty, H.mods⟩) := by
 unfold fin
 have e1 : resV Pg s [.tmp 2, .tmp 3] = some [.nils, FtV n] := by simp only [resV, rho_gt, h2, h3, Option.map_some]
 have e2 : exps false s [.nils, FtV n] = some ([.nils, FtV n], s) := rfl
 have e3 : backHp H s.hp [.nils, FtV n] = ⟨s.hp.rows, H.dirty, H.mods⟩ := by
  unfold backHp
  rw [hc]; rfl
 rw [e1]
 simp only [e2, e3]
theorem clean_dg' {H h : Hp} {r : Nat} (hr : H.rows.length ≤ r) (hd : DG r h) : cleanB H h = true := by
 unfold cleanB
 cases e : h.dirty with
 | none => rfl
 | some d => show Nat.ble _ _ = true; rw [Nat.ble_eq]; have := hd d e; omega
end Go.AM.S
end

section
namespace Go.AM.S
open Go Go.AM Go.Proofs NumL
open _root_.Go.AM.G (R)
set_option maxRecDepth 100000
open Go.Proofs.YtjldfkldmfmkiaaDoor
variable {L : List (Nat × Int × Int)}
theorem r8_3 (X : Str) (R0 : List Row) (M : Nat) (c : CallF) (t t0 : Tm) (l : Lo) (j : V → Lo → Hp → R) : gn Tryd.f8 8 3 1 c (pt t 13 (.str X)) t0 l ⟨R0, none, M⟩ j = j (.agg [.str X, .int .i64 (.ofNat 0)]) l ⟨R0, none, M⟩ := by
 refine (gen_slots (t2 := pt .lf 13 (.str X)) (fun x hx => ?_)).trans ?_
 ·have : x = 13 := by
   have e : tmpsOf (opA Tryd.f8 3 1) = [13] := by kernel_rfl
   rw [e] at hx; simpa using hx
  subst this
  rw [gt_pt, if_pos rfl, gt_pt, if_pos rfl]
 ·kernel_rfl
theorem r8_3b (X : Str) (R0 : List Row) (M : Nat) (c : CallF) (t t0 : Tm) (l : Lo) (j : V → Lo → Hp → R) : gn Tryd.f8 8 3 2 c (pt t 14 (.agg [.str X, .int .i64 (.ofNat 0)])) t0 l ⟨R0, none, M⟩ j = j (.ptr (.glob R0.length) 0) l ⟨R0 ++ [.cells false [.str X, .int .i64 (.ofNat 0)]], none, M⟩ :=
 gen_boxG (t := 47) (d := 15) (x := 14) (by kernel_rfl) (by kernel_rfl) (by kernel_rfl) (by kernel_rfl) (by rw [gt_pt, if_pos rfl]) (exp_agg (by intro v hv; simp at hv; rcases hv with rfl | rfl; exact Pl.str _; exact Pl.int _ _) _)
theorem r8_9a (m : Nat) (c : CallF) (t t0 : Tm) (l : Lo) (h : Hp) (j : V → Lo → Hp → R) : gn Tryd.f8 8 9 3 c (pt t 30 (.int .i64 (.ofNat m))) t0 l h j = j (.agg [.int .i64 (.ofNat 0), .str ⟨0, 0⟩, .int .i64 (.ofNat m)]) l h := by
 refine (gen_slots (t2 := pt .lf 30 (.int .i64 (.ofNat m))) (fun x hx => ?_)).trans ?_
 ·have : x = 30 := by
   have e : tmpsOf (opA Tryd.f8 9 3) = [30] := by kernel_rfl
   rw [e] at hx; simpa using hx
  subst this
  rw [gt_pt, if_pos rfl, gt_pt, if_pos rfl]
 ·kernel_rfl
theorem bs8_9 (m : Nat) : bs Pg 24 1 [(0, .agg [.int .i64 (.ofNat 0), .str ⟨0, 0⟩, .int .i64 (.ofNat m)])] = some (.slice none true 3 [.agg [.int .i64 (.ofNat 0), .str ⟨0, 0⟩, .int .i64 (.ofNat m)]]) := by kernel_rfl
theorem bs8_13 (a : Nat) (u : Str) (m : Nat) : bs Pg 24 1 [(0, .agg [.int .i64 (.ofNat a), .str u, .int .i64 (.ofNat m)])] = some (.slice none true 3 [.agg [.int .i64 (.ofNat a), .str u, .int .i64 (.ofNat m)]]) := by kernel_rfl
theorem TkA.mov {loc loc' : Lo} {s : Nat} {v : V} {l : List V} (h : TkA loc s v l) (e : lg loc' s = lg loc s) : TkA loc' s v l := by
 rcases h with q | ⟨q1, g, q2, q3⟩
 ·exact .inl q
 ·exact .inr ⟨q1, g, q2, e.trans q3⟩
set_option maxHeartbeats 1000000 in
theorem tokens8 {l : List Nat} (hd : Dg 256 l) (hl : l.length ≤ 65536) (h : Hp) : ∃ o, Runs Pg (kn L) tbl 8 [.str (sl l)] h o ∧ tkOut h l o := by
 have hl2 : l.length ≤ 1000000000000000000 := by omega
 refine runs_ex (fc := ⟨rc8, [.tmp 2, .tmp 3]⟩) kn8 tbl8 ?_
 show WW Pg (kn L) tbl rc8 ⟨startTm [.str (sl l)], .lf, ⟨h.rows, none, h.mods⟩⟩ _ _ _
 unfold rc8
 refine sR ?_
 refine ww_seq (ww_seq (ww_reg (fun n k => by simp -implicitDefEqProofs (disch := omega) only [go_sem, reduceIte, Nat.reduceEqDiff, gt_start, List.getD_cons_zero, List.getD_cons_succ, decide_eq_false (show ¬ 65536 < l.length by omega)]; rfl) ?_))
 refine ww_false sS (ww_skip ?_)
 refine ww_seq (ww_reg (tm' := pt (pt (pt (pt (startTm [.str (sl l)]) 2 .nils) 3 .nili) 11 (.bool false)) 4 (.ptr (.glob h.rows.length) 0)) (loc' := .lf) (hp' := ⟨h.rows ++ [LxR l 0], none, h.mods⟩) (fun n k => by simp -implicitDefEqProofs only [go_sem, reduceIte, Nat.reduceEqDiff, gt_start, List.getD_cons_zero, r8_3, r8_3b]; rfl) ?_)
 obtain ⟨H1, eH⟩ : ∃ H1 : Hp, H1 = ⟨h.rows ++ [LxR l 0], none, h.mods⟩ := ⟨_, rfl⟩
 rw [← eH]
 have hR : H1.rows[h.rows.length]? = some (LxR l 0) := by rw [eH]; simp
 have hlen : H1.rows.length = h.rows.length + 1 := by rw [eH]; simp
 have hlt : h.rows.length < H1.rows.length := by omega
 have hDG : DG h.rows.length H1 := by rw [eH]; intro x hx; cases hx
 refine sR ?_
 refine ww_for (fun m s => ∃ i f ts v, m + i = l.length ∧ m ≤ f ∧ gt s.tm 0 = .str (sl l) ∧ gt s.tm 4 = .ptr (.glob h.rows.length) 0 ∧ gt s.tm 5 = v ∧ TkA s.loc 45 v (ts.map TV) ∧ ts.length ≤ i ∧ LH H1 h.rows.length l (i, none) s.hp ∧ lexT l = lexA (f + 1) l i ts) l.length
  ⟨0, l.length, [], .nils, rfl, Nat.le_refl _, sSG, sS, sS, .inl ⟨rfl, rfl⟩, Nat.le_refl _, lh_refl hR, rfl⟩ ?_
 intro m s ⟨i, f, ts, v, hm, hf, h0, h4, h5, hv, hts, hh, he⟩
 obtain ⟨tm, loc, hp⟩ := s
 have h0 : gt tm 0 = .str (sl l) := h0
 have h4 : gt tm 4 = .ptr (.glob h.rows.length) 0 := h4
 have h5 : gt tm 5 = v := h5
 have hv : TkA loc 45 v (ts.map TV) := hv
 obtain ⟨hrow, hrl⟩ := lh_at hlt hh
 have hrow : hp.rows[h.rows.length]? = some (LxR l i) := hrow
 have hrl : hp.rows.length = h.rows.length + 1 := hrl.trans hlen
 obtain ⟨h', c1, c2⟩ := blanks16 (L := L) hd hl2 (i0 := i) (by omega) hrow
 obtain ⟨x, ex⟩ : ∃ x, blk (l.length + 1) l i = x := ⟨_, rfl⟩
 have hA : lexA (f + 1) l i ts = match blk (l.length + 1) l i with
  | (_, some e) => ([], some e)
  | (j, none) => if j = l.length then (ts ++ [(0, [], l.length)], none) else match (tkX l j).2 with
   | some e => ([], some e)
   | none => lexA f l (j + (tkT l j).2.1.length) (ts ++ [tkT l j]) := rfl
 rw [ex] at c1 c2 hA
 have c3 := lh_trans hlt hh c1
 have rows_of : ∀ {j p c : Nat} {q : Hp}, LH H1 h.rows.length l (j, some (p, c)) q → q.rows = h.rows ++ [LxR l j, FtR p c] := by
  intro j p c q hq
  rw [hq.1, eH]
  show (h.rows ++ [LxR l 0]).set h.rows.length (LxR l j) ++ [FtR p c] = _
  rw [List.set_append_right _ _ (Nat.le_refl _), Nat.sub_self]
  simp
 refine ww_block ?_
 obtain ⟨j, e⟩ := x
 cases e with
 | some e =>
  obtain ⟨p, c⟩ := e
  have eT : lexT l = ([], some (p, c)) := he.trans hA
  refine ww_joinX (fun _ => False) ?_ (fun _ q => q.elim)
  refine ww_seq (ww_call (c2) (fun n hn k => by simp -implicitDefEqProofs (disch := omega) only [go_sem, reduceIte, Nat.reduceEqDiff, h4, clc1 hn (fun _ => rfl), errE, hrl]; rfl) ?_)
  have en : bin Pg .neq 26 true (FtV (h.rows.length + 1)) .nili = some (.bool true) := by rfl
  refine ww_seq (ww_reg (fun n k => by simp -implicitDefEqProofs (disch := omega) only [go_sem, reduceIte, Nat.reduceEqDiff, en]; rfl) ?_)
  refine ww_true sS ?_
  refine sR ?_
  refine ww_ret ⟨_, fin_bad (H := h) (n := h.rows.length + 1) sS sS (clean_dg' (Nat.le_refl _) (c3.2.1 _ (Nat.le_refl _) hDG)), ?_⟩
  unfold tkOut
  rw [eT]
  exact ⟨j, by rw [rows_of c3]⟩
 | none =>
  have hb := blk_ok _ _ _ _ (show i ≤ l.length by omega) ex
  obtain ⟨hrow2, hrl2⟩ := lh_at hlt c3
  have hrl2 : h'.rows.length = h.rows.length + 1 := hrl2.trans hlen
  have hrow2' : F.nthR h'.rows h.rows.length = some (.cells false [.str (sl l), .int .i64 (.ofNat j)]) := by rw [F.nthR_eq]; exact hrow2
  refine ww_seq (ww_seq (ww_call (c2) (fun n hn k => by simp -implicitDefEqProofs (disch := omega) only [go_sem, reduceIte, Nat.reduceEqDiff, h4, clc1 hn (fun _ => rfl), errE]; rfl) ?_))
  have en : bin Pg .neq 26 true .nili .nili = some (.bool false) := by kernel_rfl
  refine ww_seq (ww_reg (fun n k => by simp -implicitDefEqProofs (disch := omega) only [go_sem, reduceIte, Nat.reduceEqDiff, en]; rfl) ?_)
  refine ww_false sS (ww_skip ?_)
  refine ww_seq (ww_seq (ww_reg (fun n k => by simp -implicitDefEqProofs (disch := omega) only [go_sem, reduceIte, Nat.reduceEqDiff, h0, h4, nilC_ptr, hrow2']; rfl) ?_))
  refine ww_if (by simp only [gt_pt, reduceIte]; rfl) (fun hj => ?_) (fun hj => ww_skip ?_)
  ·have hA2 : lexT l = (ts ++ [(0, [], l.length)], none) := by
    rw [he, hA]
    show (if j = l.length then (ts ++ [(0, [], l.length)], none) else _) = _
    rw [if_pos hj]
   obtain ⟨v', loc', p1, p2⟩ := push8e hv l.length (by omega)
   refine ww_seq (ww_reg (fun n k => by simp -implicitDefEqProofs (disch := omega) only [go_sem, reduceIte, Nat.reduceEqDiff, h0, h5, r8_9a, bs8_9, p1]; rfl) ?_)
   rcases p2 with ⟨q, _⟩ | ⟨_, g, rfl, _⟩
   ·simp at q
   ·refine ww_ret ⟨_, fin_tok (H := h) (g := g) (Ls := (ts ++ [(0, [], l.length)]).map TV) sS sS (tv_refs _) (clean_dg' (Nat.le_refl _) (c3.2.1 _ (Nat.le_refl _) hDG)), ?_⟩
    unfold tkOut
    rw [hA2]
  ·have hA2 : lexT l = match (tkX l j).2 with
     | some e => ([], some e)
     | none => lexA f l (j + (tkT l j).2.1.length) (ts ++ [tkT l j]) := by
    rw [he, hA]
    show (if j = l.length then (ts ++ [(0, [], l.length)], none) else _) = _
    rw [if_neg hj]
   obtain ⟨h'', d1, d2⟩ := token17 (L := L) hd hl2 (i := j) hb.2 hrow2
   obtain ⟨T, eT⟩ : ∃ T, tkT l j = T := ⟨_, rfl⟩
   have hok := tk_ok (l := l) (j := j) (by omega)
   rw [eT] at d2 hA2 hok
   obtain ⟨T1, T2, T3⟩ := T
   obtain ⟨y, ey⟩ : ∃ y, tkX l j = y := ⟨_, rfl⟩
   rw [ey] at d1 d2 hA2 hok
   obtain ⟨a, e⟩ := y
   refine ww_seq (ww_call (d2) (fun n hn k => by simp -implicitDefEqProofs (disch := omega) only [go_sem, reduceIte, Nat.reduceEqDiff, h4, clc1 hn (fun _ => rfl), TokV, stc_three N30 ((lg loc 7).1 + 1) (.int .i64 (.ofNat T1)) (.str (sl T2)) (.int .i64 (.ofNat T3)) _ _ _ _ rfl rfl rfl]; rfl) ?_)
   cases e with
   | some e =>
    obtain ⟨p, c⟩ := e
    have hA2 : lexT l = ([], some (p, c)) := hA2
    have en2 : bin Pg .neq 26 true (errE h'.rows.length (some (p, c))) .nili = some (.bool true) := by rfl
    refine sQ1 en2 ?_
    refine ww_true sS ?_
    refine sR ?_
    have d3 := lh_trans hlt c3 d1
    refine ww_ret ⟨_, fin_bad (H := h) (n := h.rows.length + 1) sS (by rw [← hrl2]; exact (by simp -implicitDefEqProofs (disch := omega) only [go_sem, reduceIte, Nat.reduceEqDiff, errE])) (clean_dg' (Nat.le_refl _) (d3.2.1 _ (Nat.le_refl _) hDG)), ?_⟩
    unfold tkOut
    rw [hA2]
    exact ⟨a, by rw [rows_of d3]⟩
   | none =>
    have hA2 : lexT l = lexA f l (j + T2.length) (ts ++ [(T1, T2, T3)]) := hA2
    obtain ⟨ea, hp1, hp2⟩ := hok rfl
    have ea : a = j := ea
    subst ea
    have hp1 : 1 ≤ T2.length := hp1
    have hp2 : a + T2.length ≤ l.length := hp2
    have d3 := lh_trans hlt c3 d1
    have hrow3 := (lh_at hlt d3).1
    have hrow3' : F.nthR h''.rows h.rows.length = some (.cells false [.str (sl l), .int .i64 (.ofNat a)]) := by rw [F.nthR_eq]; exact hrow3
    have en2 : bin Pg .neq 26 true (errE h'.rows.length none) .nili = some (.bool false) := by kernel_rfl
    refine sQ1 en2 ?_
    refine ww_false sS (ww_skip ?_)
    obtain ⟨loc2, eL⟩ : ∃ loc2 : Lo, loc2 = lp (lp loc 7 ((lg loc 7).1 + 1, .cells false [.int .i64 (.ofNat 0), .str ⟨0, 0⟩, .int .i64 (.ofNat 0)])) 7 ((lg loc 7).1 + 1, .cells false [.int .i64 (.ofNat T1), .str (sl T2), .int .i64 (.ofNat T3)]) := ⟨_, rfl⟩
    rw [← eL]
    have m7 : lg loc2 7 = ((lg loc 7).1 + 1, .cells false [.int .i64 (.ofNat T1), .str (sl T2), .int .i64 (.ofNat T3)]) := by rw [eL]; exact sS
    have m45 : lg loc2 45 = lg loc 45 := by rw [eL]; exact sS
    obtain ⟨v', loc', p1, p2, p3⟩ := push8 (hv.mov m45) (T1, T2, T3) (by omega)
    have m7' : lg loc' 7 = ((lg loc 7).1 + 1, .cells false [.int .i64 (.ofNat T1), .str (sl T2), .int .i64 (.ofNat T3)]) := by rw [p3 7 (by decide)]; exact m7
    refine ww_seq (ww_reg (fun n k => by simp -implicitDefEqProofs (disch := omega) only [go_sem, reduceIte, Nat.reduceEqDiff, h5, m7, ldc_three L30, bs8_13, p1]; rfl) ?_)
    refine ww_reg (fun n k => by simp -implicitDefEqProofs (disch := omega) only [go_sem, reduceIte, Nat.reduceEqDiff, h4, nilC_ptr, hrow3', m7', ldc_snd L9, std8 hrow3]; exact finD_ok (by kernel_rfl)) ?_
    obtain ⟨f', rfl⟩ : ∃ f', f = f' + 1 := ⟨f - 1, by omega⟩
    exact ⟨l.length - (a + T2.length), by omega, a + T2.length, f', ts ++ [(T1, T2, T3)], v', by omega, by omega, (sS1 h0), (sS1 h4), sS, p2, by rw [List.length_append]; show ts.length + 1 ≤ _; omega, lh_trans hlt d3 (lh_set _), hA2⟩
end Go.AM.S
end

section
namespace Go.AM.S
open Go Go.AM Go.Proofs NumL
open _root_.Go.AM.G (R)
set_option maxRecDepth 100000
open Go.Proofs.YtjldfkldmfmkiaaDoor
def decF (a0 a1 a2 a3 : Nat) (c1 c2 c3 : Bool) : Nat × Nat :=
 if a0 < 128 then (a0, 1)
 else if (a0 / 32 == 6 && c1) = true then (if (a0 % 32) * 64 + a1 % 64 ≥ 128 then ((a0 % 32) * 64 + a1 % 64, 2) else (65533, 1))
 else if (a0 / 16 == 14 && c1 && c2) = true then (if ((a0 % 16) * 4096 + (a1 % 64) * 64 + a2 % 64 ≥ 2048 && Utf8.valid (((a0 % 16) * 4096 + (a1 % 64) * 64 + a2 % 64 : Nat) : Int)) = true then ((a0 % 16) * 4096 + (a1 % 64) * 64 + a2 % 64, 3) else (65533, 1))
 else if (a0 / 8 == 30 && c1 && c2 && c3) = true then (if ((a0 % 8) * 262144 + (a1 % 64) * 4096 + (a2 % 64) * 64 + a3 % 64 ≥ 65536 && Utf8.valid (((a0 % 8) * 262144 + (a1 % 64) * 4096 + (a2 % 64) * 64 + a3 % 64 : Nat) : Int)) = true then ((a0 % 8) * 262144 + (a1 % 64) * 4096 + (a2 % 64) * 64 + a3 % 64, 4) else (65533, 1))
 else (65533, 1)
def cont (W : List Nat) (k : Nat) : Bool := decide (k < W.length) && W.getD k 0 / 64 == 2
def decL (W : List Nat) : Nat × Nat := decF (W.getD 0 0) (W.getD 1 0) (W.getD 2 0) (W.getD 3 0) (cont W 1) (cont W 2) (cont W 3)
theorem get_sl {l : List Nat} (h : Dg 256 l) (k : Nat) : ((sl l).bytes.get! k).toNat = l.getD k 0 := by
 by_cases hk : k < l.length
 ·obtain ⟨b, h1, h2⟩ := (sl l).get_spec hk
  rw [sl_get h k] at h2
  have : (sl l).bytes.data[k]? = some b := by rw [← Array.getElem?_toList]; exact h1
  have h4 : (sl l).bytes.get! k = b := by
   show (sl l).bytes.data[k]! = b
   rw [getElem!_def, this]
  rw [h4]; exact h2.symm
 ·have hs : (sl l).bytes.size = l.length := Str.bytes_size _
  have : (sl l).bytes.data[k]? = none := by rw [Array.getElem?_eq_none]; show (sl l).bytes.size ≤ k; omega
  have h4 : (sl l).bytes.get! k = 0 := by
   show (sl l).bytes.data[k]! = 0
   rw [getElem!_def, this]; rfl
  rw [h4, List.getD_eq_getElem?_getD, List.getElem?_eq_none (by omega)]; rfl
theorem hr_decL {l : List Nat} (hd : Dg 256 l) (h : l ≠ []) : hr l = decL l := by
 rw [(hr_dec h).1]
 have hs : (sl l).bytes.size = l.length := Str.bytes_size _
 unfold Utf8.decode decL decF cont
 simp only [Nat.zero_add, get_sl hd, hs]
 rfl
theorem decF_loc {a0 a1 a2 a3 b1 b2 b3 : Nat} {c1 c2 c3 d1 d2 d3 : Bool} {r s : Nat} (h : decF a0 a1 a2 a3 c1 c2 c3 = (r, s)) (hv : ¬ (r = 65533 ∧ s = 1))
  (h1 : 1 < s → b1 = a1 ∧ d1 = c1) (h2 : 2 < s → b2 = a2 ∧ d2 = c2) (h3 : 3 < s → b3 = a3 ∧ d3 = c3) : decF a0 b1 b2 b3 d1 d2 d3 = (r, s) := by
 unfold decF at h ⊢
 by_cases q0 : a0 < 128
 ·rw [if_pos q0] at h ⊢; exact h
 rw [if_neg q0] at h ⊢
 by_cases q1 : (a0 / 32 == 6 && c1) = true
 ·rw [if_pos q1] at h
  split at h
  ·cases h
   obtain ⟨rfl, rfl⟩ := h1 (by decide)
   rw [if_pos q1]
   rename_i hc
   rw [if_pos hc]
  ·cases h; exact absurd ⟨rfl, rfl⟩ hv
 rw [if_neg q1] at h
 by_cases q2 : (a0 / 16 == 14 && c1 && c2) = true
 ·rw [if_pos q2] at h
  have e0 : a0 / 16 = 14 := by simp at q2; exact q2.1.1
  have e1 : (a0 / 32 == 6) = false := by rw [beq_eq_false_iff_ne]; omega
  split at h
  ·cases h
   obtain ⟨rfl, rfl⟩ := h1 (by decide)
   obtain ⟨rfl, rfl⟩ := h2 (by decide)
   rw [e1, Bool.false_and, if_neg Bool.false_ne_true, if_pos q2]
   rename_i hc
   rw [if_pos hc]
  ·cases h; exact absurd ⟨rfl, rfl⟩ hv
 rw [if_neg q2] at h
 by_cases q3 : (a0 / 8 == 30 && c1 && c2 && c3) = true
 ·rw [if_pos q3] at h
  have e0 : a0 / 8 = 30 := by simp at q3; exact q3.1.1.1
  have e1 : (a0 / 32 == 6) = false := by rw [beq_eq_false_iff_ne]; omega
  have e2 : (a0 / 16 == 14) = false := by rw [beq_eq_false_iff_ne]; omega
  split at h
  ·cases h
   obtain ⟨rfl, rfl⟩ := h1 (by decide)
   obtain ⟨rfl, rfl⟩ := h2 (by decide)
   obtain ⟨rfl, rfl⟩ := h3 (by decide)
   rw [e1, Bool.false_and, if_neg Bool.false_ne_true, e2, Bool.false_and, Bool.false_and, if_neg Bool.false_ne_true, if_pos q3]
   rename_i hc
   rw [if_pos hc]
  ·cases h; exact absurd ⟨rfl, rfl⟩ hv
 ·rw [if_neg q3] at h; cases h; exact absurd ⟨rfl, rfl⟩ hv
theorem hr_loc {W V : List Nat} (hW : Dg 256 W) (hV : Dg 256 V) (hne : W ≠ []) (h5 : kh W ≠ 5) {n : Nat} (hn : (hr W).2 ≤ n) : hr (W.take n ++ V) = hr W := by
 have hp := hr_pos hne
 have hle := hr_le (l := W)
 have hl0 := List.length_pos_iff.2 hne
 have hne2 : W.take n ++ V ≠ [] := by
  intro e
  have := congrArg List.length e
  rw [List.length_append, List.length_take, List.length_nil] at this
  omega
 have hd2 : Dg 256 (W.take n ++ V) := by
  intro x hx
  rcases List.mem_append.1 hx with q | q
  ·exact hW x (List.mem_of_mem_take q)
  ·exact hV x q
 have gd : ∀ k, k < n → k < W.length → (W.take n ++ V).getD k 0 = W.getD k 0 := by
  intro k h1 h2
  rw [List.getD_eq_getElem?_getD, List.getD_eq_getElem?_getD, List.getElem?_append_left (by rw [List.length_take]; omega), List.getElem?_take_of_lt h1]
 have ct : ∀ k, k < n → k < W.length → cont (W.take n ++ V) k = cont W k := by
  intro k h1 h2
  unfold cont
  rw [gd k h1 h2, decide_eq_true h2, decide_eq_true (show k < (W.take n ++ V).length by rw [List.length_append, List.length_take]; omega)]
 have hh : decL W = ((hr W).1, (hr W).2) := (hr_decL hW hne).symm
 rw [hr_decL hd2 hne2]
 have hv : ¬ ((hr W).1 = 65533 ∧ (hr W).2 = 1) := fun q => h5 ((kd5 _ _).2 q)
 unfold decL at hh ⊢
 rw [gd 0 (by omega) hl0]
 exact decF_loc (r := (hr W).1) (s := (hr W).2) hh hv (fun q => ⟨gd 1 (by omega) (by omega), ct 1 (by omega) (by omega)⟩) (fun q => ⟨gd 2 (by omega) (by omega), ct 2 (by omega) (by omega)⟩) (fun q => ⟨gd 3 (by omega) (by omega), ct 3 (by omega) (by omega)⟩)
end Go.AM.S
end

section
namespace Go.AM.S
open Go Go.AM Go.Proofs NumL
open _root_.Go.AM.G (R)
set_option maxRecDepth 100000
open Go.Proofs.YtjldfkldmfmkiaaDoor
theorem hr_asc {c : Nat} {W : List Nat} (hW : Dg 256 (c :: W)) (hc : c < 128) : hr (c :: W) = (c, 1) := by
 rw [hr_decL hW (by simp)]
 unfold decL decF
 rw [List.getD_cons_zero, if_pos hc]
theorem kh_asc {c : Nat} {W : List Nat} (hW : Dg 256 (c :: W)) (hc : c < 128) : kh (c :: W) = kd c 1 := by
 unfold kh
 rw [hr_asc hW hc]
theorem okK5 {b : Bool} {k : Nat} (h : okK b k = true) : k ≠ 5 := by
 intro e
 subst e
 unfold okK at h
 cases b <;> simp at h
theorem runN_loc (b : Bool) : ∀ (f : Nat) (W : List Nat), Dg 256 W → W.length ≤ f → ∀ V : List Nat, Dg 256 V → (V = [] ∨ okK b (kh V) = false) → ∀ g, (W.take (runN b f W) ++ V).length ≤ g → runN b g (W.take (runN b f W) ++ V) = runN b f W := by
 intro f
 have base : ∀ (V : List Nat) (g : Nat), (V = [] ∨ okK b (kh V) = false) → runN b g V = 0 := by
  intro V g hv
  rcases hv with rfl | h
  ·exact runN_nil b g
  ·exact runN_stop h
 induction f with
 | zero =>
  intro W _ hl V _ hv g _
  have : W = [] := List.length_eq_zero_iff.1 (by omega)
  subst this
  exact base V g hv
 | succ f ih =>
  intro W hW hl V hV hv g hg
  by_cases hne : W = []
  ·subst hne
   rw [runN_nil] at hg ⊢
   exact base V g hv
  cases hk : okK b (kh W) with
  | false =>
   rw [runN_stop hk] at hg ⊢
   exact base V g hv
  | true =>
   have e := runN_go (f := f) hne hk
   obtain ⟨s, es⟩ : ∃ s, (hr W).2 = s := ⟨_, rfl⟩
   obtain ⟨n, en⟩ : ∃ n, runN b f (W.drop s) = n := ⟨_, rfl⟩
   have hp := hr_pos hne
   have hle := hr_le (l := W)
   rw [es] at e hp hle
   rw [en] at e
   have hloc := hr_loc hW hV hne (okK5 hk) (n := s + n) (by omega)
   rw [e] at hg ⊢
   have hkk : kh (W.take (s + n) ++ V) = kh W := by unfold kh; rw [hloc]
   have hl1 : 1 ≤ (W.take (s + n) ++ V).length := by
    have := List.length_pos_iff.2 hne
    rw [List.length_append, List.length_take]; omega
   obtain ⟨g', rfl⟩ : ∃ g', g = g' + 1 := ⟨g - 1, by omega⟩
   have hnw : W.take (s + n) ++ V ≠ [] := List.length_pos_iff.1 hl1
   rw [runN_go hnw (by rw [hkk]; exact hk), hloc, es]
   have hdr : (W.take (s + n) ++ V).drop s = (W.drop s).take n ++ V := by
    rw [List.drop_append_of_le_length (by rw [List.length_take]; omega), List.drop_take, Nat.add_sub_cancel_left]
   rw [hdr]
   have q := ih (W.drop s) (hW.drop s) (by rw [List.length_drop]; omega) V hV hv g' (by
    rw [en, ← hdr, List.length_drop]; omega)
   rw [en] at q
   rw [q]
theorem runL_loc (b : Bool) {W V : List Nat} (hW : Dg 256 W) (hV : Dg 256 V) (hv : V = [] ∨ okK b (kh V) = false) : runL b (W.take (runL b W) ++ V) = runL b W :=
 runN_loc b W.length W hW (Nat.le_refl _) V hV hv _ (Nat.le_refl _)
theorem cmt_asc {f : Nat} {b : Bool} {p c : Nat} {W : List Nat} (hW : Dg 256 (c :: W)) (hc : c < 128) : cmt (f + 1) b p (c :: W) = if b && decide (c = 41) then (0, p + 1) else cmt f (decide (c = 42)) (p + 1) W := by
 have e : cmt (f + 1) b p (c :: W) = if (c :: W) = [] then (2, 0) else if kh (c :: W) = 5 then (1, p) else if b && decide ((hr (c :: W)).1 = 41) then (0, p + 1) else cmt f (decide ((hr (c :: W)).1 = 42)) (p + (hr (c :: W)).2) ((c :: W).drop (hr (c :: W)).2) := rfl
 rw [e, if_neg (by simp), kh_asc hW hc, hr_asc hW hc, if_neg (by rw [kd5]; omega)]
 rfl
end Go.AM.S
end
