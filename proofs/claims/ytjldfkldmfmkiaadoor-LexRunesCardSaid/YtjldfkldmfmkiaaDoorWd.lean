/- Part Wd of the proof: what it says stands at its theorems. -/
import Derived.Test.YtjldfkldmfmkiaaDoorWb
set_option linter.unusedVariables false
set_option linter.unusedSimpArgs false
set_option linter.unusedSectionVars false
section
namespace Go.AM.S
open Go Go.AM Go.Proofs NumL
open _root_.Go.AM.G (R)
set_option maxRecDepth 100000
open Go.Proofs.YtjldfkldmfmkiaaDoor
variable {L : List (Nat × Int × Int)}
theorem tbl19 : tbl 19 = some ⟨rc19, [.tmp 4, .tmp 5]⟩ := by kernel_rfl
theorem kn19 : kn L 19 = none := by kernel_rfl
theorem tbl10 : tbl 10 = some ⟨rc10, [.tmp 2]⟩ := by kernel_rfl
theorem kn10 : kn L 10 = none := by kernel_rfl
theorem tbl20 : tbl 20 = some ⟨rc20, [.tmp 2]⟩ := by kernel_rfl
theorem kn20 : kn L 20 = none := by kernel_rfl
theorem hr_big {c : Nat} {W : List Nat} (hW : Dg 256 (c :: W)) (hc : ¬ c < 128) : 128 ≤ (hr (c :: W)).1 := by
 have e := rune_hr hW (i := 0) (by simp)
 have q := rune_big hW 0 (by simp) (by simpa using hc)
 rw [List.drop_zero] at e
 rw [← e]
 exact q.1
def k0 (k : Nat) : Nat := if k = 5 then 0 else k
theorem kd_big {r s : Nat} (h : 128 ≤ r) : kd r s = if r = 65533 ∧ s = 1 then 5 else 2 := by
 unfold kd
 by_cases q : r = 65533 ∧ s = 1
 ·rw [if_pos q, if_pos q]
 ·rw [if_neg q, if_neg q, if_neg (by omega), if_pos (by omega)]
set_option maxHeartbeats 4000000 in
theorem at19 {l : List Nat} (hd : Dg 256 l) {i : Nat} (hi : i < l.length) (h : Hp) : Runs Pg (kn L) tbl 19 [.str (sl l), .int .i64 (.ofNat i)] h (.val (.tuple [.int .i64 (.ofNat (k0 (kh (l.drop i)))), .int .i64 (.ofNat (hr (l.drop i)).2)]) h) := by
 obtain ⟨c, W, eW⟩ : ∃ c W, l.drop i = c :: W := ⟨_, _, List.drop_eq_getElem_cons hi⟩
 have hdi : Dg 256 (c :: W) := by rw [← eW]; exact hd.drop i
 have ec : l.getD i 0 = c := by
  have := congrArg (fun z => z.getD 0 0) eW
  simpa [List.getD_eq_getElem?_getD, List.getElem?_drop] using this
 refine runs_of_ww kn19 tbl19 ?_
 have done : ∀ (st : St) (K N : Nat), K = k0 (kh (l.drop i)) → N = (hr (l.drop i)).2 → gt st.tm 4 = .int .i64 (.ofNat K) → gt st.tm 5 = .int .i64 (.ofNat N) → st.hp = ⟨h.rows, none, h.mods⟩ → fin Pg h [.tmp 4, .tmp 5] st = some (.val (.tuple [.int .i64 (.ofNat (k0 (kh (l.drop i)))), .int .i64 (.ofNat (hr (l.drop i)).2)]) h) := by
  intro st K N e1 e2 h4 h5 hh
  rw [← e1, ← e2]
  exact fin_two h4 h5 (Ex1.int _ _) (Ex1.int _ _) rfl rfl (by rw [hh])
 have asc : c < 128 → ∀ k, kd c 1 = k → k ≠ 5 → k = k0 (kh (l.drop i)) ∧ 1 = (hr (l.drop i)).2 := fun hc k e h5 => by
  rw [eW, kh_asc hdi hc, hr_asc hdi hc, e]
  exact ⟨by unfold k0; rw [if_neg h5], rfl⟩
 unfold rc19
 refine sR ?_
 refine ww_seq (ww_reg (fun n k => by simp -implicitDefEqProofs (disch := omega) only [go_sem, reduceIte, Nat.reduceEqDiff, gt_start, List.getD_cons_zero, List.getD_cons_succ, idx_sl hd .i64 i hi, ec]; rfl) ?_)
 refine ww_joinX (fun st => ¬ c < 128 ∧ gt st.tm 0 = .str (sl l) ∧ gt st.tm 1 = .int .i64 (.ofNat i) ∧ st.hp = ⟨h.rows, none, h.mods⟩) ?_ (fun st ⟨hc, h0, h1, hh⟩ => ?_)
 ·refine ww_block ?_
  refine ww_joinX (fun st => gt st.tm 12 = .bool (decide (c = 32 ∨ c = 9 ∨ c = 10 ∨ c = 13)) ∧ gt st.tm 0 = .str (sl l) ∧ gt st.tm 1 = .int .i64 (.ofNat i) ∧ gt st.tm 6 = .int .u8 (.ofNat c) ∧ st.hp = ⟨h.rows, none, h.mods⟩) ?_ (fun st ⟨h12, h0, h1, h6, hh⟩ => ?_)
  ·obtain ⟨b1, d1⟩ : ∃ b, decide (c = 32) = b := ⟨_, rfl⟩
   obtain ⟨b2, d2⟩ : ∃ b, decide (c = 9) = b := ⟨_, rfl⟩
   obtain ⟨b3, d3⟩ : ∃ b, decide (c = 10) = b := ⟨_, rfl⟩
   obtain ⟨b4, d4⟩ : ∃ b, decide (c = 13) = b := ⟨_, rfl⟩
   have e : decide (c = 32 ∨ c = 9 ∨ c = 10 ∨ c = 13) = (b1 || (b2 || (b3 || b4))) := by rw [← d1, ← d2, ← d3, ← d4, Bool.decide_or, Bool.decide_or, Bool.decide_or]
   rw [e]
   cases b1 <;> cases b2 <;> cases b3 <;> cases b4
   all_goals
    refine ww_reg (fun n k => by simp -implicitDefEqProofs (disch := omega) only [go_sem, reduceIte, Nat.reduceEqDiff, gt_start, List.getD_cons_zero, List.getD_cons_succ, d1, d2, d3, d4, Bool.not_false, Bool.not_true]; rfl) ?_
    exact ⟨(by simp only [gt_pt, reduceIte]; rfl), sSG, sSG, sS, rfl⟩
  refine ww_if h12 (fun hc => ?_) (fun hc12 => ?_)
  ·refine sR ?_
   obtain ⟨q1, q2⟩ := asc (by omega) 1 (by unfold kd; rw [if_neg (by omega), if_pos (by omega)]) (by decide)
   exact ww_ret (done _ 1 1 q1 q2 sS sS hh)
  refine ww_joinX (fun st => gt st.tm 27 = .bool (decide ((65 ≤ c ∧ c ≤ 90 ∨ 97 ≤ c ∧ c ≤ 122) ∨ c = 95)) ∧ gt st.tm 0 = .str (sl l) ∧ gt st.tm 1 = .int .i64 (.ofNat i) ∧ gt st.tm 6 = .int .u8 (.ofNat c) ∧ st.hp = ⟨h.rows, none, h.mods⟩) ?_ (fun st ⟨h27, h0, h1, h6, hh⟩ => ?_)
  ·obtain ⟨b1, d1⟩ : ∃ b, decide (65 ≤ c) = b := ⟨_, rfl⟩
   obtain ⟨b2, d2⟩ : ∃ b, decide (c ≤ 90) = b := ⟨_, rfl⟩
   obtain ⟨b3, d3⟩ : ∃ b, decide (97 ≤ c) = b := ⟨_, rfl⟩
   obtain ⟨b4, d4⟩ : ∃ b, decide (c ≤ 122) = b := ⟨_, rfl⟩
   obtain ⟨b5, d5⟩ : ∃ b, decide (c = 95) = b := ⟨_, rfl⟩
   have e : decide ((65 ≤ c ∧ c ≤ 90 ∨ 97 ≤ c ∧ c ≤ 122) ∨ c = 95) = (b1 && b2 || b3 && b4 || b5) := by rw [← d1, ← d2, ← d3, ← d4, ← d5, Bool.decide_or, Bool.decide_or, Bool.decide_and, Bool.decide_and]
   rw [e]
   cases b1 <;> cases b2 <;> cases b3 <;> cases b4 <;> cases b5
   all_goals
    refine ww_reg (fun n k => by simp -implicitDefEqProofs (disch := omega) only [go_sem, reduceIte, Nat.reduceEqDiff, h6, d1, d2, d3, d4, d5, Bool.not_false, Bool.not_true]; rfl) ?_
    exact ⟨(by simp only [gt_pt, reduceIte]; rfl), (sS1 h0), (sS1 h1), (sS1 h6), hh⟩
  refine ww_if h27 (fun hc => ?_) (fun hc27 => ?_)
  ·refine sR ?_
   obtain ⟨q1, q2⟩ := asc (by omega) 2 (by unfold kd; rw [if_neg (by omega), if_neg hc12, if_pos (by omega)]) (by decide)
   exact ww_ret (done _ 2 1 q1 q2 sS sS hh)
  refine ww_joinX (fun st => gt st.tm 46 = .bool (decide (48 ≤ c ∧ c ≤ 57)) ∧ gt st.tm 0 = .str (sl l) ∧ gt st.tm 1 = .int .i64 (.ofNat i) ∧ gt st.tm 6 = .int .u8 (.ofNat c) ∧ st.hp = ⟨h.rows, none, h.mods⟩) ?_ (fun st ⟨h46, h0, h1, h6, hh⟩ => ?_)
  ·obtain ⟨b1, d1⟩ : ∃ b, decide (48 ≤ c) = b := ⟨_, rfl⟩
   obtain ⟨b2, d2⟩ : ∃ b, decide (c ≤ 57) = b := ⟨_, rfl⟩
   have e : decide (48 ≤ c ∧ c ≤ 57) = (b1 && b2) := by rw [← d1, ← d2, Bool.decide_and]
   rw [e]
   cases b1 <;> cases b2
   all_goals
    refine ww_reg (fun n k => by simp -implicitDefEqProofs (disch := omega) only [go_sem, reduceIte, Nat.reduceEqDiff, h6, d1, d2, Bool.not_false]; rfl) ?_
    exact ⟨(by simp only [gt_pt, reduceIte]; rfl), (sS1 h0), (sS1 h1), (sS1 h6), hh⟩
  refine ww_if h46 (fun hc => ?_) (fun hc46 => ?_)
  ·refine sR ?_
   obtain ⟨q1, q2⟩ := asc (by omega) 3 (by unfold kd; rw [if_neg (by omega), if_neg hc12, if_neg (by omega), if_pos hc]) (by decide)
   exact ww_ret (done _ 3 1 q1 q2 sS sS hh)
  refine sR1 h6 ?_
  refine ww_if sS (fun hc => ?_) (fun hc => ww_skip ⟨hc, (sS1 h0), (sS1 h1), hh⟩)
  refine sR ?_
  obtain ⟨q1, q2⟩ := asc hc 4 (by unfold kd; rw [if_neg (by omega), if_neg hc12, if_neg (by omega), if_neg hc46]) (by decide)
  exact ww_ret (done _ 4 1 q1 q2 sS sS hh)
 ·obtain ⟨tm, loc, hp⟩ := st
  have hh : hp = ⟨h.rows, none, h.mods⟩ := hh
  subst hh
  have h0 : gt tm 0 = .str (sl l) := h0
  have h1 : gt tm 1 = .int .i64 (.ofNat i) := h1
  refine ww_seq (ww_call (dec31 (L := L) (l.drop i) ⟨h.rows, none, h.mods⟩) (fun n hn k => by simp -implicitDefEqProofs (disch := omega) only [go_sem, reduceIte, Nat.reduceEqDiff, h0, h1, slc_str hd .i64 i (Nat.le_of_lt hi), clc1 hn (Ex1.str _)]; rfl) ?_)
  have hb := hr_big hdi hc
  have hp := hr_pos (l := c :: W) (by simp)
  rw [← eW] at hb hp
  have ek : kh (l.drop i) = if (hr (l.drop i)).1 = 65533 ∧ (hr (l.drop i)).2 = 1 then 5 else 2 := kd_big hb
  by_cases q : (hr (l.drop i)).1 = 65533
  ·by_cases q2 : (hr (l.drop i)).2 ≤ 1
   ·have e1 : decide ((hr (l.drop i)).1 = 65533) = true := decide_eq_true q
    have e2 : decide ((hr (l.drop i)).2 ≤ 1) = true := decide_eq_true q2
    refine ww_seq (ww_seq (ww_reg (fun n k => by simp -implicitDefEqProofs (disch := omega) only [go_sem, reduceIte, Nat.reduceEqDiff, e1, e2, Bool.not_false]; rfl) ?_))
    refine ww_true sS ?_
    refine sR ?_
    exact ww_ret (done _ 0 1 (by rw [ek, if_pos ⟨q, by omega⟩]; rfl) (by omega) sS sS rfl)
   ·have e1 : decide ((hr (l.drop i)).1 = 65533) = true := decide_eq_true q
    have e2 : decide ((hr (l.drop i)).2 ≤ 1) = false := decide_eq_false q2
    refine ww_seq (ww_seq (ww_reg (fun n k => by simp -implicitDefEqProofs (disch := omega) only [go_sem, reduceIte, Nat.reduceEqDiff, e1, e2, Bool.not_false]; rfl) ?_))
    refine ww_false sS (ww_skip ?_)
    refine sR ?_
    exact ww_ret (done _ 2 (hr (l.drop i)).2 (by rw [ek, if_neg (by omega)]; rfl) rfl sS sS rfl)
  ·have e1 : decide ((hr (l.drop i)).1 = 65533) = false := decide_eq_false q
   refine ww_seq (ww_seq (ww_reg (fun n k => by simp -implicitDefEqProofs (disch := omega) only [go_sem, reduceIte, Nat.reduceEqDiff, e1, Bool.not_false]; rfl) ?_))
   refine ww_false sS (ww_skip ?_)
   refine sR ?_
   exact ww_ret (done _ 2 (hr (l.drop i)).2 (by rw [ek, if_neg (by omega)]; rfl) rfl sS sS rfl)
end Go.AM.S
end

section
namespace Go.AM.S
open Go Go.AM Go.Proofs NumL
open _root_.Go.AM.G (R)
set_option maxRecDepth 100000
open Go.Proofs.YtjldfkldmfmkiaaDoor
variable {L : List (Nat × Int × Int)}
theorem bs10 : bs Pg 31 27 [(0, (.str ⟨3, 7628140⟩)), (1, (.str ⟨3, 6514034⟩)), (2, (.str ⟨3, 6710642⟩)), (3, (.str ⟨2, 28265⟩)), (4, (.str ⟨2, 29545⟩)), (5, (.str ⟨2, 26217⟩)), (6, (.str ⟨4, 1852139636⟩)), (7, (.str ⟨4, 1702063205⟩)), (8, (.str ⟨3, 7959156⟩)), (9, (.str ⟨4, 1752459639⟩)), (10, (.str ⟨5, 435727982962⟩)), (11, (.str ⟨6, 128034677158753⟩)), (12, (.str ⟨3, 6581359⟩)), (13, (.str ⟨8, 8315178084276987250⟩)), (14, (.str ⟨7, 32481164592901733⟩)), (15, (.str ⟨9, 2128685862185089590628⟩)), (16, (.str ⟨3, 7630441⟩)), (17, (.str ⟨4, 1819242338⟩)), (18, (.str ⟨4, 1953066613⟩)), (19, (.str ⟨4, 1702195828⟩)), (20, (.str ⟨5, 435728179558⟩)), (21, (.str ⟨3, 7630702⟩)), (22, (.str ⟨4, 1701999952⟩)), (23, (.str ⟨5, 435744240723⟩)), (24, (.str ⟨3, 7239749⟩)), (25, (.str ⟨3, 7105601⟩)), (26, (.str ⟨3, 7760196⟩))] = some (.slice none true 1 (wds.map V.str)) := by kernel_rfl
theorem bs20 : bs Pg 31 25 [(0, (.str ⟨3, 4078909⟩)), (1, (.str ⟨2, 15674⟩)), (2, (.str ⟨2, 15676⟩)), (3, (.str ⟨2, 15678⟩)), (4, (.str ⟨2, 15932⟩)), (5, (.str ⟨2, 9766⟩)), (6, (.str ⟨2, 31868⟩)), (7, (.str ⟨2, 15917⟩)), (8, (.str ⟨2, 15163⟩)), (9, (.str ⟨1, 58⟩)), (10, (.str ⟨1, 59⟩)), (11, (.str ⟨1, 44⟩)), (12, (.str ⟨1, 46⟩)), (13, (.str ⟨1, 40⟩)), (14, (.str ⟨1, 41⟩)), (15, (.str ⟨1, 123⟩)), (16, (.str ⟨1, 125⟩)), (17, (.str ⟨1, 124⟩)), (18, (.str ⟨1, 61⟩)), (19, (.str ⟨1, 60⟩)), (20, (.str ⟨1, 62⟩)), (21, (.str ⟨1, 43⟩)), (22, (.str ⟨1, 45⟩)), (23, (.str ⟨1, 42⟩)), (24, (.str ⟨1, 33⟩))] = some (.slice none true 1 (sgs.map (fun a => V.str (sl a)))) := by kernel_rfl
theorem wds_len : wds.length = 27 := by decide
theorem word10 {l : List Nat} (hd : Dg 256 l) (h : Hp) : Runs Pg (kn L) tbl 10 [.str (sl l)] h (.val (.bool (isW (sl l))) h) := by
 refine runs_of_ww kn10 tbl10 ?_
 unfold rc10
 refine sR ?_
 refine sR1 bs10 ?_
 refine ww_joinX (fun s => isW (sl l) = false ∧ s.hp = ⟨h.rows, none, h.mods⟩) ?_ (fun s ⟨hq, hh⟩ => ?_)
 ·refine sR ?_
  refine ww_for (fun m s => ∃ j, m + j = 27 ∧ gt s.tm 0 = .str (sl l) ∧ gt s.tm 3 = .slice none true 1 (wds.map V.str) ∧ gt s.tm 4 = .int .i64 (.ofNat j) ∧ s.hp = ⟨h.rows, none, h.mods⟩ ∧ isW (sl l) = (wds.drop j).any (fun w => (sl l).same w)) 27
   ⟨0, rfl, sSG, sS, sS, rfl, rfl⟩ ?_
  intro m s ⟨j, hm, h0, h3, h4, hh, he⟩
  obtain ⟨tm, loc, hp⟩ := s
  have hh : hp = ⟨h.rows, none, h.mods⟩ := hh
  subst hh
  have h0 : gt tm 0 = .str (sl l) := h0
  have h3 : gt tm 3 = .slice none true 1 (wds.map V.str) := h3
  have h4 : gt tm 4 = .int .i64 (.ofNat j) := h4
  refine ww_seq (ww_seq (ww_reg (fun n k => by simp -implicitDefEqProofs (disch := omega) only [go_sem, reduceIte, Nat.reduceEqDiff, h3, h4, len_slice, List.length_map, wds_len]; rfl) ?_))
  refine ww_if (by simp only [gt_pt, reduceIte]; rfl) (fun hj => ww_skip ?_) (fun hj => ww_exit ?_)
  ·have hjl : j < wds.length := by rw [wds_len]; exact hj
   obtain ⟨a, ea⟩ : ∃ a, wds[j] = a := ⟨_, rfl⟩
   have hx : (wds.map V.str)[j]? = some (.str a) := by simp [hjl, ea]
   have hdr : wds.drop j = a :: wds.drop (j + 1) := by rw [← ea]; exact List.drop_eq_getElem_cons hjl
   rw [hdr, List.any_cons, same_comm] at he
   refine ww_seq (ww_block ?_)
   refine ww_seq (ww_reg (fun n k => by simp -implicitDefEqProofs (disch := omega) only [go_sem, reduceIte, Nat.reduceEqDiff, h0, h3, h4, ia_any E31 L9 none true .i64 (wds.map V.str) j (.str a) hx rfl, bin_str]; rfl) ?_)
   cases hb : a.same (sl l) with
   | true =>
    rw [hb, Bool.true_or] at he
    refine ww_true (sS1 hb) ?_
    refine sR ?_
    rw [he]
    exact ww_ret (fin_tmp (v := .bool true) sS rfl rfl rfl)
   | false =>
    rw [hb, Bool.false_or] at he
    refine ww_false (sS1 hb) (ww_skip ?_)
    refine sE1 h4 ?_
    exact ⟨m - 1, by omega, j + 1, by omega, (sS1 h0), (sS1 h3), sS, rfl, he⟩
  ·rw [if_pos rfl]
   have : wds.drop j = [] := List.drop_eq_nil_of_le (by rw [wds_len]; omega)
   rw [this] at he
   exact ⟨he, rfl⟩
 ·refine sR ?_
  rw [hq]
  exact ww_ret (fin_tmp (v := .bool false) sS rfl (by rw [hh]) rfl)
def sgO (W : List Nat) : List Nat := match sgn W with
 | some a => a
 | none => []
theorem sign20 {W : List Nat} (hd : Dg 256 W) (h : Hp) : Runs Pg (kn L) tbl 20 [.str (sl W)] h (.val (.str (sl (sgO W))) h) := by
 refine runs_of_ww kn20 tbl20 ?_
 unfold rc20
 refine sR ?_
 refine sR1 bs20 ?_
 refine ww_joinX (fun s => sgn W = none ∧ s.hp = ⟨h.rows, none, h.mods⟩) ?_ (fun s ⟨hq, hh⟩ => ?_)
 ·refine sR ?_
  refine ww_for (fun m s => ∃ j, m + j = 25 ∧ gt s.tm 0 = .str (sl W) ∧ gt s.tm 3 = .slice none true 1 (sgs.map (fun a => V.str (sl a))) ∧ gt s.tm 4 = .int .i64 (.ofNat j) ∧ s.hp = ⟨h.rows, none, h.mods⟩ ∧ sgn W = (sgs.drop j).find? (fun s => beg s W)) 25
   ⟨0, rfl, sSG, sS, sS, rfl, rfl⟩ ?_
  intro m s ⟨j, hm, h0, h3, h4, hh, he⟩
  obtain ⟨tm, loc, hp⟩ := s
  have hh : hp = ⟨h.rows, none, h.mods⟩ := hh
  subst hh
  have h0 : gt tm 0 = .str (sl W) := h0
  have h3 : gt tm 3 = .slice none true 1 (sgs.map (fun a => V.str (sl a))) := h3
  have h4 : gt tm 4 = .int .i64 (.ofNat j) := h4
  refine ww_seq (ww_seq (ww_reg (fun n k => by simp -implicitDefEqProofs (disch := omega) only [go_sem, reduceIte, Nat.reduceEqDiff, h3, h4, len_slice, List.length_map, sgs_len]; rfl) ?_))
  refine ww_if (by simp only [gt_pt, reduceIte]; rfl) (fun hj => ww_skip ?_) (fun hj => ww_exit ?_)
  ·have hjl : j < sgs.length := by rw [sgs_len]; exact hj
   obtain ⟨a, ea⟩ : ∃ a, sgs[j] = a := ⟨_, rfl⟩
   have hx : (sgs.map (fun a => V.str (sl a)))[j]? = some (.str (sl a)) := by simp [hjl, ea]
   have ha : Dg 256 a := sgs_dg a (by rw [← ea]; exact List.getElem_mem _)
   have hdr : sgs.drop j = a :: sgs.drop (j + 1) := by rw [← ea]; exact List.drop_eq_getElem_cons hjl
   rw [hdr, List.find?_cons] at he
   have hi := ia_any E31 L9 none true .i64 (sgs.map (fun a => V.str (sl a))) j (.str (sl a)) hx rfl
   refine ww_seq (ww_block ?_)
   refine ww_joinX (fun s => gt s.tm 33 = .bool (beg a W) ∧ gt s.tm 0 = .str (sl W) ∧ gt s.tm 3 = .slice none true 1 (sgs.map (fun a => V.str (sl a))) ∧ gt s.tm 4 = .int .i64 (.ofNat j) ∧ s.hp = ⟨h.rows, none, h.mods⟩) ?_ (fun s ⟨h33, k0, k3, k4, hh⟩ => ?_)
   ·by_cases h2 : a.length ≤ W.length
    ·have e1 := slc_hi (t := 9) U9 hd .i64 a.length h2
     have e2 := eq_str 9 false (hd.take a.length) ha
     have e3 : decide (a.length ≤ W.length) = true := decide_eq_true h2
     have e4 : beg a W = decide (W.take a.length = a) := by unfold beg; congr 1; apply propext; exact ⟨fun q => q.2, fun q => ⟨h2, q⟩⟩
     rw [e4]
     refine ww_reg (fun n k => by simp -implicitDefEqProofs (disch := omega) only [go_sem, reduceIte, Nat.reduceEqDiff, h0, h3, h4, hi, e1, e2, e3]; rfl) ?_
     exact ⟨sS, (sS1 h0), (sS1 h3), (sS1 h4), rfl⟩
    ·have e3 : decide (a.length ≤ W.length) = false := decide_eq_false h2
     have e4 : beg a W = false := by unfold beg; exact decide_eq_false (fun q => h2 q.1)
     rw [e4]
     refine ww_reg (fun n k => by simp -implicitDefEqProofs (disch := omega) only [go_sem, reduceIte, Nat.reduceEqDiff, h0, h3, h4, hi, e3, Bool.not_false]; rfl) ?_
     exact ⟨sS, (sS1 h0), (sS1 h3), (sS1 h4), rfl⟩
   obtain ⟨tm, loc, hp⟩ := s
   have hh : hp = ⟨h.rows, none, h.mods⟩ := hh
   subst hh
   have k0 : gt tm 0 = .str (sl W) := k0
   have k3 : gt tm 3 = .slice none true 1 (sgs.map (fun a => V.str (sl a))) := k3
   have k4 : gt tm 4 = .int .i64 (.ofNat j) := k4
   cases hb : beg a W with
   | true =>
    rw [hb] at he h33
    have he : sgn W = some a := he
    refine ww_true h33 ?_
    refine sR3 k3 k4 hi ?_
    have eO : sgO W = a := by unfold sgO; rw [he]
    rw [eO]
    exact ww_ret (fin_tmp (v := .str (sl a)) sS rfl rfl rfl)
   | false =>
    rw [hb] at he h33
    refine ww_false h33 (ww_skip ?_)
    refine sE1 k4 ?_
    exact ⟨m - 1, by omega, j + 1, by omega, (sS1 k0), (sS1 k3), sS, rfl, he⟩
  ·rw [if_pos rfl]
   have : sgs.drop j = [] := List.drop_eq_nil_of_le (by rw [sgs_len]; omega)
   rw [this] at he
   exact ⟨he, rfl⟩
 ·refine sR ?_
  have eO : sgO W = [] := by unfold sgO; rw [hq]
  rw [eO, show sl [] = (⟨0, 0⟩ : Str) from rfl]
  exact ww_ret (fin_tmp (v := .str ⟨0, 0⟩) sS rfl (by rw [hh]) rfl)
end Go.AM.S
end

section
namespace Go.AM.S
open Go Go.AM Go.Proofs NumL
open _root_.Go.AM.G (R)
set_option maxRecDepth 100000
open Go.Proofs.YtjldfkldmfmkiaaDoor
variable {L : List (Nat × Int × Int)}
theorem tbl14 : tbl 14 = some ⟨rc14, [.tmp 4]⟩ := by kernel_rfl
theorem kn14 : kn L 14 = none := by kernel_rfl
theorem tbl12 : tbl 12 = some ⟨rc12, [.tmp 2, .tmp 3]⟩ := by kernel_rfl
theorem kn12 : kn L 12 = none := by kernel_rfl
theorem nat_nn (n : Nat) : decide (n ≠ n) = false := decide_eq_false (fun h => h rfl)
theorem neq_tok (a : Nat) (u : Str) (b : Nat) : bin Pg .neq 30 false (.agg [.int .i64 (.ofNat a), .str u, .int .i64 (.ofNat b)]) (.agg [.int .i64 (.ofNat a), .str u, .int .i64 (.ofNat b)]) = some (.bool false) := by
 have e : bin Pg .neq 30 false (.agg [.int .i64 (.ofNat a), .str u, .int .i64 (.ofNat b)]) (.agg [.int .i64 (.ofNat a), .str u, .int .i64 (.ofNat b)]) = some (.bool (!(Int.ofNat a == Int.ofNat a && (u.same u && (Int.ofNat b == Int.ofNat b && true))))) := by kernel_rfl
 rw [e, show u.same u = true from (Str.same_spec u u).2 rfl]
 simp
theorem ia_3c {P : Program} {t e : TypeId} {ag : Bool} (he : F.elemT P t = some e) (hl : F.layE P e = some (3, ag)) (tok : Option Ref) (f : Bool) (k' : IntKind) (l : List V) (i : Nat) (v : V) (h : l[i]? = some v) :
  ia P t (.slice tok f 3 l) (.int k' (.ofNat i)) = some (.iptr v.cells) := by
 show G.onSome (F.elemT P t) _ none = _
 rw [he]
 show G.onSome (F.layE P e) _ none = _
 rw [hl]
 show (bif Nat.blt i (F.lenR l) then G.onSome (F.nthR l i) _ none else none) = _
 have hi : i < l.length := by
  rcases Nat.lt_or_ge i l.length with q | q
  ·exact q
  ·rw [List.getElem?_eq_none q] at h; cases h
 rw [F.lenR_eq, show Nat.blt i l.length = true from by rw [Nat.blt_eq]; exact hi, F.nthR_eq, h]
 rfl
theorem ia_tk {ts : List (Nat × List Nat × Nat)} {i : Nat} {t : Nat × List Nat × Nat} (h : ts[i]? = some t) : ia Pg 24 (.slice none false 3 (ts.map TV)) (.int .i64 (.ofNat i)) = some (.iptr [.int .i64 (.ofNat t.1), .str (sl t.2.1), .int .i64 (.ofNat t.2.2)]) :=
 ia_3c E24 L30 none false .i64 (ts.map TV) i (TV t) (by rw [List.getElem?_map, h]; rfl)
theorem ld30 (a b c : V) (l : Lo) (h : Hp) : ld Pg 30 (.iptr [a, b, c]) l h = some (.agg [a, b, c]) := by kernel_rfl
theorem tokens14 (ts : List (Nat × List Nat × Nat)) (hn0 : ts.length ≤ 1000000) (h : Hp) : Runs Pg (kn L) tbl 14 [.slice none false 3 (ts.map TV), .slice none false 3 (ts.map TV)] h (.val (.bool true) h) := by
 refine runs_of_ww kn14 tbl14 ?_
 unfold rc14
 refine sR ?_
 refine ww_seq (ww_seq (ww_reg (fun n k => by simp -implicitDefEqProofs (disch := omega) only [go_sem, reduceIte, Nat.reduceEqDiff, gt_start, List.getD_cons_zero, List.getD_cons_succ, len_slice, List.length_map, nat_nn]; rfl) ?_))
 refine ww_false sS (ww_skip ?_)
 refine ww_joinX (fun s => s.hp = ⟨h.rows, none, h.mods⟩) ?_ (fun s hh => ?_)
 ·refine sR ?_
  refine ww_for (fun m s => ∃ j, m + j = ts.length ∧ gt s.tm 0 = .slice none false 3 (ts.map TV) ∧ gt s.tm 1 = .slice none false 3 (ts.map TV) ∧ gt s.tm 5 = .int .i64 (.ofNat j) ∧ s.hp = ⟨h.rows, none, h.mods⟩) ts.length
   ⟨0, rfl, sSG, sSG, sS, rfl⟩ ?_
  intro m s ⟨j, hm, h0, h1, h5, hh⟩
  obtain ⟨tm, loc, hp⟩ := s
  have hh : hp = ⟨h.rows, none, h.mods⟩ := hh
  subst hh
  have h0 : gt tm 0 = .slice none false 3 (ts.map TV) := h0
  have h1 : gt tm 1 = .slice none false 3 (ts.map TV) := h1
  have h5 : gt tm 5 = .int .i64 (.ofNat j) := h5
  refine ww_seq (ww_seq (ww_reg (fun n k => by simp -implicitDefEqProofs (disch := omega) only [go_sem, reduceIte, Nat.reduceEqDiff, h0, h5, len_slice, List.length_map]; rfl) ?_))
  refine ww_if (by simp only [gt_pt, reduceIte]; rfl) (fun hj => ww_skip ?_) (fun hj => ww_exit ?_)
  ·have hjl : j < ts.length := hj
   obtain ⟨T, eT⟩ : ∃ T, ts[j]? = some T := ⟨_, List.getElem?_eq_getElem hjl⟩
   refine ww_seq (ww_block ?_)
   refine ww_seq (ww_reg (fun n k => by simp -implicitDefEqProofs (disch := omega) only [go_sem, reduceIte, Nat.reduceEqDiff, h0, h1, h5, ia_tk eT, ld30, neq_tok]; rfl) ?_)
   refine ww_false sS (ww_skip ?_)
   refine sE1 h5 ?_
   exact ⟨m - 1, by omega, j + 1, by omega, (sS1 h0), (sS1 h1), sS, rfl⟩
  ·rw [if_pos rfl]
 ·refine sR ?_
  exact ww_ret (fin_tmp (v := .bool true) sS rfl (by rw [hh]) rfl)
theorem tokens14n (h : Hp) : Runs Pg (kn L) tbl 14 [.nils, .nils] h (.val (.bool true) h) := by
 refine runs_of_ww kn14 tbl14 ?_
 unfold rc14
 refine sR ?_
 have ln : len (Pg.underlying 24) .nils = some (.int .i64 (.ofNat 0)) := by kernel_rfl
 refine ww_seq (ww_seq (ww_reg (fun n k => by simp -implicitDefEqProofs (disch := omega) only [go_sem, reduceIte, Nat.reduceEqDiff, gt_start, List.getD_cons_zero, List.getD_cons_succ, ln, nat_nn]; rfl) ?_))
 refine ww_false sS (ww_skip ?_)
 refine ww_joinX (fun s => s.hp = ⟨h.rows, none, h.mods⟩) ?_ (fun s hh => ?_)
 ·refine sR ?_
  refine ww_for (fun m s => gt s.tm 0 = .nils ∧ gt s.tm 5 = .int .i64 (.ofNat 0) ∧ s.hp = ⟨h.rows, none, h.mods⟩) 0
   ⟨sSG, sS, rfl⟩ ?_
  intro m s ⟨h0, h5, hh⟩
  obtain ⟨tm, loc, hp⟩ := s
  have hh : hp = ⟨h.rows, none, h.mods⟩ := hh
  subst hh
  have h0 : gt tm 0 = .nils := h0
  have h5 : gt tm 5 = .int .i64 (.ofNat 0) := h5
  refine ww_seq (ww_seq (ww_reg (fun n k => by simp -implicitDefEqProofs (disch := omega) only [go_sem, reduceIte, Nat.reduceEqDiff, h0, h5, ln]; rfl) ?_))
  refine ww_if (p := 0 < 0) sS (fun hj => absurd hj (Nat.lt_irrefl 0)) (fun hj => ww_exit ?_)
  rw [if_pos rfl]
 ·refine sR ?_
  exact ww_ret (fin_tmp (v := .bool true) sS rfl (by rw [hh]) rfl)
section
variable {P : Program} {C : Cfg} {call : CallF} {gl : Nat → Bool} {o : Oper} {loc : Lo} {hp : Hp} {t' tm : Tm} {j : V → Lo → Hp → R}
theorem gen_allocG {t : TypeId} {d n : Nat} {z : V} (hd : o.dst = some d) (ho : o.op = .alloc t) (hg : gl d = true) (hz : zeroV P t = some z) (hn : szOf P t = some n) (hl : z.live = true) (hc : z.cells.length = n) :
  gen P C call gl o t' tm loc hp j = j (.ptr (.glob hp.rows.length) 0) loc ⟨hp.rows ++ [.cells false z.cells], hp.dirty, hp.mods⟩ := by
 refine gen_val (v := .ptr (.glob hp.rows.length) 0) (st := ⟨t', loc, ⟨hp.rows ++ [.cells false z.cells], hp.dirty, hp.mods⟩⟩) hd ?_
 have hp1 : locV P C gl (⟨t', loc, hp⟩ : St).ρ (⟨t', loc, hp⟩ : St).lc o = none := by
  unfold locV
  simp only [ho, hd, hg, cond_true]
 unfold stepV
 rw [hp1]
 unfold stepG
 simp only [ho, hd, hz, hn, hg, hl, hc, Nat.beq_refl, Bool.and_self, cond_true, addRow]
end
theorem r12a (R0 : List Row) (D : Option Nat) (M : Nat) (c : CallF) (t t0 : Tm) (l : Lo) (j : V → Lo → Hp → R) : gn Tryd.f12 12 3 0 c t t0 l ⟨R0, D, M⟩ j = j (.ptr (.glob R0.length) 0) l ⟨R0 ++ [.cells false [.nilp]], D, M⟩ :=
 gen_allocG (C := Cg) (gl := Cg.glob 12) (call := c) (o := opA Tryd.f12 3 0) (t := 51) (d := 4) (n := 1) (z := .nilp) (by kernel_rfl) (by kernel_rfl) (by kernel_rfl) (by kernel_rfl) (by kernel_rfl) rfl rfl
theorem r12b (r : Nat) (h : Hp) (c : CallF) (t t0 : Tm) (l : Lo) (j : V → Lo → Hp → R) : gn Tryd.f12 12 4 1 c (pt t 4 (.ptr (.glob r) 0)) t0 l h j = j (.iface 53 (.ptr (.glob r) 0)) l h := by
 have hp1 : gt (pt t 4 (.ptr (.glob r) 0)) 4 = .ptr (.glob r) 0 := by rw [gt_pt, if_pos rfl]
 generalize pt t 4 (.ptr (.glob r) 0) = q at hp1 ⊢
 refine gen_val (C := Cg) (gl := Cg.glob 12) (call := c) (o := opA Tryd.f12 4 1) (v := .iface 53 (.ptr (.glob r) 0)) (st := ⟨q, l, h⟩) (d := 8) (by kernel_rfl) ?_
 have ho : (opA Tryd.f12 4 1).op = .makeInterface 53 (.tmp 4) := by kernel_rfl
 unfold stepV locV
 simp only [ho, pureV, opd_gt, hp1]
 rfl
theorem as18 {r q : Nat} {h : Hp} (hr : h.rows[q]? = some (.cells false [.nilp])) : Runs Pg (kn L) tbl 18 [FtV r, .iface 53 (.ptr (.glob q) 0)] h (.val (.bool true) ⟨h.rows.set q (.cells false [.ptr (.glob r) 0]), lower h.dirty q, h.mods + 1⟩) := by
 refine runs_known (k := errAs 51 53) (by kernel_rfl) (fun _ => ?_)
 unfold errAs FtV
 simp only [hr]
 rfl
theorem fin_two' {h : Hp} {t u : Nat} {s : St} {v w : V} (hv : gt s.tm t = v) (hw : gt s.tm u = w) (pv : Ex1 v) (pw : Ex1 w) (nv : v.noRefs = true) (nw : w.noRefs = true) (hd : cleanB h s.hp = true) : fin Pg h [.tmp t, .tmp u] s = some (.val (.tuple [v, w]) h) := by
 unfold fin
 have e1 : resV Pg s [.tmp t, .tmp u] = some [v, w] := by simp only [resV, rho_gt, hv, hw, Option.map_some]
 have e2 : exps false s [v, w] = some ([v, w], s) := by simp only [exps, pv s, pw s]
 rw [e1]
 simp only [e2]
 unfold backHp
 rw [hd, show V.noRefsL [v, w] = true by simp only [V.noRefsL, nv, nw, Bool.and_self]]
 rfl
theorem told12n (h : Hp) : Runs Pg (kn L) tbl 12 [.nili] h (.val (.tuple [.int .i64 (.ofNat 0), .int .i64 (.ofNat 0)]) h) := by
 refine runs_of_ww kn12 tbl12 ?_
 unfold rc12
 refine sR ?_
 have en : bin Pg .eql 26 true .nili .nili = some (.bool true) := by kernel_rfl
 refine ww_seq (ww_seq (ww_reg (fun n k => by simp -implicitDefEqProofs (disch := omega) only [go_sem, reduceIte, Nat.reduceEqDiff, gt_start, List.getD_cons_zero, List.getD_cons_succ, en]; rfl) ?_))
 refine ww_true sS ?_
 refine sR ?_
 exact ww_ret (fin_two sS sS (Ex1.int _ _) (Ex1.int _ _) rfl rfl rfl)
theorem fa55_0 (r : Ref) (o : Nat) : fa Pg 55 (.ptr r o) 0 = some (.ptr r (o + 0)) := by kernel_rfl
theorem fa55_1 (r : Ref) (o : Nat) : fa Pg 55 (.ptr r o) 1 = some (.ptr r (o + 1)) := by kernel_rfl
theorem L44' : F.layE Pg 44 = some (1, false) := by kernel_rfl
theorem told12 {r p e : Nat} {h : Hp} (hr : h.rows[r]? = some (FtR p e)) : Runs Pg (kn L) tbl 12 [FtV r] h (.val (.tuple [.int .i64 (.ofNat p), .int .i64 (.ofNat e)]) h) := by
 refine runs_of_ww kn12 tbl12 ?_
 unfold rc12
 refine sR ?_
 have en : bin Pg .eql 26 true (FtV r) .nili = some (.bool false) := by rfl
 refine ww_seq (ww_seq (ww_reg (fun n k => by simp -implicitDefEqProofs (disch := omega) only [go_sem, reduceIte, Nat.reduceEqDiff, gt_start, List.getD_cons_zero, List.getD_cons_succ, en]; rfl) ?_))
 refine ww_false sS (ww_skip ?_)
 refine sR1 r12a ?_
 have hlt := row_lt hr
 have hq : (h.rows ++ [.cells false [.nilp]])[h.rows.length]? = some (.cells false [.nilp]) := by simp
 have hs : (h.rows ++ [Row.cells false [.nilp]]).set h.rows.length (.cells false [.ptr (.glob r) 0]) = h.rows ++ [.cells false [.ptr (.glob r) 0]] := by rw [List.set_append_right _ _ (Nat.le_refl _), Nat.sub_self]; rfl
 have ha := as18 (L := L) (r := r) (q := h.rows.length) (h := ⟨h.rows ++ [.cells false [.nilp]], none, h.mods⟩) hq
 have ha : Runs Pg (kn L) tbl 18 [FtV r, .iface 53 (.ptr (.glob h.rows.length) 0)] ⟨h.rows ++ [.cells false [.nilp]], none, h.mods⟩ (.val (.bool true) ⟨h.rows ++ [.cells false [.ptr (.glob r) 0]], some h.rows.length, h.mods + 1⟩) := by rw [← hs]; exact ha
 have n1 : F.nthR (h.rows ++ [Row.cells false [.ptr (.glob r) 0]]) h.rows.length = some (.cells false [.ptr (.glob r) 0]) := by rw [F.nthR_eq]; simp
 have n2 : F.nthR (h.rows ++ [Row.cells false [.ptr (.glob r) 0]]) r = some (.cells false [.int .i64 (.ofNat p), .int .i64 (.ofNat e)]) := by rw [F.nthR_eq, List.getElem?_append_left hlt]; exact hr
 have en2 : bin Pg .neq 51 true (.ptr (.glob r) 0) .nilp = some (.bool true) := by kernel_rfl
 refine ww_seq (ww_seq (ww_call (ha) (fun n hn k => by simp -implicitDefEqProofs (disch := omega) only [go_sem, reduceIte, Nat.reduceEqDiff, gt_start, List.getD_cons_zero, List.getD_cons_succ, r12b, clc2 hn (fun _ => rfl) (fun _ => rfl), ldg_cells L51, n1, en2]; rfl) ?_))
 refine ww_true sS ?_
 refine ww_seq (ww_reg (fun n k => by simp -implicitDefEqProofs (disch := omega) only [go_sem, reduceIte, Nat.reduceEqDiff, ldg_cells L51, ldg_cells L3, ldg_cells L44', n1, n2, nilC_ptr, fa55_0, fa55_1]; rfl) ?_)
 refine ww_ret (fin_two' sS sS (Ex1.int _ _) (Ex1.int _ _) rfl rfl ?_)
 unfold cleanB
 show Nat.ble _ _ = true
 rw [Nat.ble_eq]
 exact Nat.le_refl _
end Go.AM.S
end

section
namespace Go.AM.S
open Go Go.AM Go.Proofs NumL
open _root_.Go.AM.G (R)
set_option maxRecDepth 100000
open Go.Proofs.YtjldfkldmfmkiaaDoor
theorem blk_fuel : ∀ (f g : Nat) (l : List Nat) (i : Nat), i ≤ l.length → l.length - i < f → l.length - i < g → blk f l i = blk g l i := by
 intro f
 induction f with
 | zero => intro g l i _ h; omega
 | succ f ih =>
  intro g l i hi hf hg
  obtain ⟨g, rfl⟩ : ∃ g', g = g' + 1 := ⟨g - 1, by omega⟩
  show (if i < l.length then (if beg [40, 42] (l.drop i) = true then (match cmtO l i with
   | (j, none) => blk f l j
   | (j, some e) => (j, some e)) else if kh (l.drop i) = 1 then blk f l (i + 1) else (i, none)) else (i, none)) = (if i < l.length then (if beg [40, 42] (l.drop i) = true then (match cmtO l i with
   | (j, none) => blk g l j
   | (j, some e) => (j, some e)) else if kh (l.drop i) = 1 then blk g l (i + 1) else (i, none)) else (i, none))
  by_cases h1 : i < l.length
  ·rw [if_pos h1, if_pos h1]
   by_cases h2 : beg [40, 42] (l.drop i) = true
   ·rw [if_pos h2, if_pos h2]
    have hb := beg_len h2
    rw [List.length_drop] at hb
    have hb : 2 ≤ l.length - i := hb
    obtain ⟨x, ex⟩ : ∃ x, cmtO l i = x := ⟨_, rfl⟩
    rw [ex]
    obtain ⟨a, e⟩ := x
    cases e with
    | none =>
     have q := cmtO_ok ex (by omega)
     exact ih g l a q.2 (by omega) (by omega)
    | some e => rfl
   ·rw [if_neg h2, if_neg h2]
    by_cases h3 : kh (l.drop i) = 1
    ·rw [if_pos h3, if_pos h3]; exact ih g l (i + 1) (by omega) (by omega) (by omega)
    ·rw [if_neg h3, if_neg h3]
  ·rw [if_neg h1, if_neg h1]
theorem blk_step {l : List Nat} {i : Nat} (hi : i < l.length) : blk (l.length + 1) l i = (if beg [40, 42] (l.drop i) = true then (match cmtO l i with
   | (j, none) => blk (l.length + 1) l j
   | (j, some e) => (j, some e)) else if kh (l.drop i) = 1 then blk (l.length + 1) l (i + 1) else (i, none)) := by
 have e : blk (l.length + 1) l i = (if i < l.length then (if beg [40, 42] (l.drop i) = true then (match cmtO l i with
   | (j, none) => blk l.length l j
   | (j, some e) => (j, some e)) else if kh (l.drop i) = 1 then blk l.length l (i + 1) else (i, none)) else (i, none)) := rfl
 rw [e, if_pos hi]
 by_cases h2 : beg [40, 42] (l.drop i) = true
 ·rw [if_pos h2, if_pos h2]
  have hb := beg_len h2
  rw [List.length_drop] at hb
  have hb : 2 ≤ l.length - i := hb
  obtain ⟨x, ex⟩ : ∃ x, cmtO l i = x := ⟨_, rfl⟩
  rw [ex]
  obtain ⟨a, e⟩ := x
  cases e with
  | none =>
   have q := cmtO_ok ex (by omega)
   exact blk_fuel _ _ l a q.2 (by omega) (by omega)
  | some e => rfl
 ·rw [if_neg h2, if_neg h2]
  by_cases h3 : kh (l.drop i) = 1
  ·rw [if_pos h3, if_pos h3]; exact blk_fuel _ _ l (i + 1) (by omega) (by omega) (by omega)
  ·rw [if_neg h3, if_neg h3]
theorem lexA_go (f : Nat) (l : List Nat) (i : Nat) (ts : List (Nat × List Nat × Nat)) : lexA (f + 1) l i ts = match blk (l.length + 1) l i with
  | (_, some e) => ([], some e)
  | (j, none) => if j = l.length then (ts ++ [(0, [], l.length)], none) else match (tkX l j).2 with
   | some e => ([], some e)
   | none => lexA f l (j + (tkT l j).2.1.length) (ts ++ [tkT l j]) := rfl
theorem lexA_fuel : ∀ (f g : Nat) (l : List Nat) (i : Nat) (ts : List (Nat × List Nat × Nat)), i ≤ l.length → l.length - i < f → l.length - i < g → lexA f l i ts = lexA g l i ts := by
 intro f
 induction f with
 | zero => intro g l i ts _ h; omega
 | succ f ih =>
  intro g l i ts hi hf hg
  obtain ⟨g, rfl⟩ : ∃ g', g = g' + 1 := ⟨g - 1, by omega⟩
  rw [lexA_go, lexA_go]
  obtain ⟨x, ex⟩ : ∃ x, blk (l.length + 1) l i = x := ⟨_, rfl⟩
  rw [ex]
  obtain ⟨j, e⟩ := x
  cases e with
  | some e => rfl
  | none =>
   have hb := blk_ok _ _ _ _ hi ex
   show (if j = l.length then _ else _) = (if j = l.length then _ else _)
   by_cases hj : j = l.length
   ·rw [if_pos hj, if_pos hj]
   ·rw [if_neg hj, if_neg hj]
    have hok := tk_ok (l := l) (j := j) (by omega)
    cases hx : (tkX l j).2 with
    | some e => rfl
    | none =>
     obtain ⟨_, h1, h2⟩ := hok hx
     exact ih g l _ _ h2 (by omega) (by omega)
def lexR (l : List Nat) (i : Nat) (ts : List (Nat × List Nat × Nat)) : List (Nat × List Nat × Nat) × Option (Nat × Nat) := lexA (l.length + 1) l i ts
theorem lr_start (l : List Nat) : lexT l = lexR l 0 [] := rfl
theorem lr_blk {l : List Nat} {i j : Nat} {ts : List (Nat × List Nat × Nat)} (h : blk (l.length + 1) l i = blk (l.length + 1) l j) : lexR l i ts = lexR l j ts := by
 unfold lexR
 rw [lexA_go, lexA_go, h]
theorem lr_blank {l : List Nat} {i : Nat} {ts : List (Nat × List Nat × Nat)} (hi : i < l.length) (hb : beg [40, 42] (l.drop i) = false) (hk : kh (l.drop i) = 1) : lexR l i ts = lexR l (i + 1) ts :=
 lr_blk (by rw [blk_step hi, if_neg (by rw [hb]; exact Bool.false_ne_true), if_pos hk])
theorem lr_com {l : List Nat} {i j : Nat} {ts : List (Nat × List Nat × Nat)} (hi : i < l.length) (hb : beg [40, 42] (l.drop i) = true) (hc : cmtO l i = (j, none)) : lexR l i ts = lexR l j ts :=
 lr_blk (by rw [blk_step hi, if_pos hb, hc])
theorem lr_comx {l : List Nat} {i j : Nat} {e : Nat × Nat} {ts : List (Nat × List Nat × Nat)} (hi : i < l.length) (hb : beg [40, 42] (l.drop i) = true) (hc : cmtO l i = (j, some e)) : lexR l i ts = ([], some e) := by
 unfold lexR
 rw [lexA_go, blk_step hi, if_pos hb, hc]
theorem lr_end {l : List Nat} {ts : List (Nat × List Nat × Nat)} : lexR l l.length ts = (ts ++ [(0, [], l.length)], none) := by
 unfold lexR
 rw [lexA_go]
 have e : blk (l.length + 1) l l.length = (if l.length < l.length then (if beg [40, 42] (l.drop l.length) = true then (match cmtO l l.length with
   | (j, none) => blk l.length l j
   | (j, some e) => (j, some e)) else if kh (l.drop l.length) = 1 then blk l.length l (l.length + 1) else (l.length, none)) else (l.length, none)) := rfl
 rw [e, if_neg (Nat.lt_irrefl _)]
 show (if l.length = l.length then _ else _) = _
 rw [if_pos rfl]
theorem lr_tokx {l : List Nat} {i : Nat} {e : Nat × Nat} {ts : List (Nat × List Nat × Nat)} (hi : i < l.length) (hb : beg [40, 42] (l.drop i) = false) (hk : kh (l.drop i) ≠ 1) (hx : (tkX l i).2 = some e) : lexR l i ts = ([], some e) := by
 unfold lexR
 rw [lexA_go, blk_step hi, if_neg (by rw [hb]; exact Bool.false_ne_true), if_neg hk]
 show (if i = l.length then _ else _) = _
 rw [if_neg (by omega), hx]
theorem lr_tok {l : List Nat} {i : Nat} {ts : List (Nat × List Nat × Nat)} (hi : i < l.length) (hb : beg [40, 42] (l.drop i) = false) (hk : kh (l.drop i) ≠ 1) (hx : (tkX l i).2 = none) : lexR l i ts = lexR l (i + (tkT l i).2.1.length) (ts ++ [tkT l i]) := by
 unfold lexR
 rw [lexA_go, blk_step hi, if_neg (by rw [hb]; exact Bool.false_ne_true), if_neg hk]
 show (if i = l.length then _ else _) = _
 rw [if_neg (by omega), hx]
 obtain ⟨_, h1, h2⟩ := tk_ok hi hx
 exact lexA_fuel _ _ l _ _ h2 (by omega) (by omega)
theorem beg_at (l : List Nat) (i : Nat) : beg [40, 42] (l.drop i) = decide (i + 1 < l.length ∧ l.getD i 0 = 40 ∧ l.getD (i + 1) 0 = 42) := by
 unfold beg
 congr 1
 apply propext
 show 2 ≤ (l.drop i).length ∧ _ ↔ _
 rw [List.length_drop]
 constructor
 ·intro ⟨h1, h2⟩
  have e0 := congrArg (fun z : List Nat => z.getD 0 0) h2
  have e1 := congrArg (fun z : List Nat => z.getD 1 0) h2
  simp [List.getD_eq_getElem?_getD, List.getElem?_take, List.getElem?_drop] at e0 e1
  refine ⟨by omega, ?_, ?_⟩
  ·rw [List.getD_eq_getElem?_getD]; exact e0
  ·rw [List.getD_eq_getElem?_getD]; exact e1
 ·intro ⟨h1, h2, h3⟩
  refine ⟨by omega, ?_⟩
  have a : l.drop i = l[i] :: l[i + 1] :: l.drop (i + 2) := by
   rw [List.drop_eq_getElem_cons (by omega), List.drop_eq_getElem_cons (by omega)]
  rw [a]
  rw [List.getD_eq_getElem?_getD, List.getElem?_eq_getElem (by omega)] at h2 h3
  show [l[i], l[i + 1]] = [40, 42]
  rw [show l[i] = 40 from h2, show l[i + 1] = 42 from h3]
theorem head_drop {l : List Nat} {i : Nat} (hi : i < l.length) : ∃ W, l.drop i = l.getD i 0 :: W := by
 refine ⟨l.drop (i + 1), ?_⟩
 rw [List.drop_eq_getElem_cons hi, List.getD_eq_getElem?_getD, List.getElem?_eq_getElem hi]; rfl
theorem hr_head {l : List Nat} (hd : Dg 256 l) {i : Nat} (hi : i < l.length) (k : Nat) (hk : k < 128) : (hr (l.drop i)).1 = k ↔ l.getD i 0 = k := by
 obtain ⟨W, e⟩ := head_drop hi
 have hdi : Dg 256 (l.getD i 0 :: W) := by rw [← e]; exact hd.drop i
 rw [e]
 by_cases hc : l.getD i 0 < 128
 ·rw [hr_asc hdi hc]
 ·have := hr_big hdi hc
  omega
theorem hr_one {l : List Nat} (hd : Dg 256 l) {i : Nat} (hi : i < l.length) (h : l.getD i 0 < 128) : (hr (l.drop i)).2 = 1 := by
 obtain ⟨W, e⟩ := head_drop hi
 have hdi : Dg 256 (l.getD i 0 :: W) := by rw [← e]; exact hd.drop i
 rw [e, hr_asc hdi h]
theorem kh_big {l : List Nat} (hd : Dg 256 l) {i : Nat} (hi : i < l.length) (h : ¬ l.getD i 0 < 128) : kh (l.drop i) = 5 ∨ kh (l.drop i) = 2 := by
 obtain ⟨W, e⟩ := head_drop hi
 have hdi : Dg 256 (l.getD i 0 :: W) := by rw [← e]; exact hd.drop i
 have := hr_big hdi h
 unfold kh
 rw [e, kd_big this]
 split
 ·exact .inl rfl
 ·exact .inr rfl
theorem kh_low {l : List Nat} (hd : Dg 256 l) {i : Nat} (hi : i < l.length) (h : l.getD i 0 < 128) : kh (l.drop i) = kd (l.getD i 0) 1 := by
 obtain ⟨W, e⟩ := head_drop hi
 have hdi : Dg 256 (l.getD i 0 :: W) := by rw [← e]; exact hd.drop i
 rw [e, kh_asc hdi h]
theorem kh_dig {l : List Nat} (hd : Dg 256 l) {i : Nat} (hi : i < l.length) : kh (l.drop i) = 3 ↔ 48 ≤ l.getD i 0 ∧ l.getD i 0 ≤ 57 := by
 by_cases h : l.getD i 0 < 128
 ·rw [kh_low hd hi h]
  unfold kd
  rw [if_neg (by omega)]
  constructor
  ·intro q
   split at q
   ·omega
   ·split at q
    ·omega
    ·split at q
     ·assumption
     ·omega
  ·intro q
   rw [if_neg (by omega), if_neg (by omega), if_pos q]
 ·rcases kh_big hd hi h with q | q <;> rw [q] <;> omega
def cmR (l : List Nat) (i : Nat) (st : Bool) (q : Nat) : Nat × Option (Nat × Nat) := cmtR i (cmt ((l.drop q).length + 1) st (q - (i + 2)) (l.drop q))
theorem cm_start (l : List Nat) (i : Nat) : cmtO l i = cmR l i false (i + 2) := by unfold cmtO cmR; rw [Nat.sub_self]
theorem cmt_fuel : ∀ (f g : Nat) (st : Bool) (p : Nat) (W : List Nat), W.length < f → W.length < g → cmt f st p W = cmt g st p W := by
 intro f
 induction f with
 | zero => intro g st p W h; omega
 | succ f ih =>
  intro g st p W hf hg
  obtain ⟨g, rfl⟩ : ∃ g', g = g' + 1 := ⟨g - 1, by omega⟩
  show (if W = [] then _ else _) = (if W = [] then _ else _)
  by_cases h : W = []
  ·rw [if_pos h, if_pos h]
  ·rw [if_neg h, if_neg h]
   have := hr_pos h
   have h2 : 0 < W.length := List.length_pos_iff.2 h
   rw [ih g _ _ (W.drop (hr W).2) (by rw [List.length_drop]; omega) (by rw [List.length_drop]; omega)]
theorem cm_go (l : List Nat) (i : Nat) (st : Bool) (q : Nat) : cmR l i st q = cmtR i (if l.drop q = [] then (2, 0) else if kh (l.drop q) = 5 then (1, q - (i + 2)) else if st && decide ((hr (l.drop q)).1 = 41) then (0, q - (i + 2) + 1) else cmt (l.drop q).length (decide ((hr (l.drop q)).1 = 42)) (q - (i + 2) + (hr (l.drop q)).2) ((l.drop q).drop (hr (l.drop q)).2)) := rfl
theorem cm_none {l : List Nat} {i : Nat} {st : Bool} {q : Nat} (hq : l.length ≤ q) : cmR l i st q = (i, some (i, 140)) := by
 rw [cm_go, if_pos (List.drop_eq_nil_of_le hq)]; rfl
theorem ne_drop {l : List Nat} {q : Nat} (hq : q < l.length) : l.drop q ≠ [] := by
 intro e
 have := congrArg List.length e
 rw [List.length_drop, List.length_nil] at this
 omega
theorem cm_bad {l : List Nat} {i : Nat} {st : Bool} {q : Nat} (hq : q < l.length) (hi : i + 2 ≤ q) (hk : kh (l.drop q) = 5) : cmR l i st q = (i, some (q, 140)) := by
 rw [cm_go, if_neg (ne_drop hq), if_pos hk]
 show (i, some (i + 2 + (q - (i + 2)), 140)) = _
 rw [show i + 2 + (q - (i + 2)) = q by omega]
theorem cm_step {l : List Nat} (hd : Dg 256 l) {i : Nat} {st : Bool} {q : Nat} (hq : q < l.length) (hi : i + 2 ≤ q) (hk : kh (l.drop q) ≠ 5) (hst : st = true → l.getD q 0 ≠ 41) : cmR l i st q = cmR l i (decide (l.getD q 0 = 42)) (q + (hr (l.drop q)).2) := by
 have hne := ne_drop hq
 have h41 : (st && decide ((hr (l.drop q)).1 = 41)) = false := by
  cases st with
  | false => rfl
  | true => rw [Bool.true_and]; exact decide_eq_false (fun e => hst rfl ((hr_head hd hq 41 (by decide)).1 e))
 rw [cm_go, if_neg hne, if_neg hk, h41, if_neg Bool.false_ne_true]
 unfold cmR
 have hp := hr_pos hne
 have h2 : 0 < (l.drop q).length := List.length_pos_iff.2 hne
 have e1 : decide ((hr (l.drop q)).1 = 42) = decide (l.getD q 0 = 42) := by
  congr 1; exact propext (hr_head hd hq 42 (by decide))
 rw [e1, List.drop_drop, show q - (i + 2) + (hr (l.drop q)).2 = q + (hr (l.drop q)).2 - (i + 2) by omega]
 congr 1
 exact cmt_fuel _ _ _ _ _ (by rw [List.length_drop, List.length_drop]; rw [List.length_drop] at h2; omega) (by omega)
theorem cm_close {l : List Nat} (hd : Dg 256 l) {i : Nat} {st : Bool} {q : Nat} (hq : q + 1 < l.length) (hi : i + 2 ≤ q) (h1 : l.getD q 0 = 42) (h2 : l.getD (q + 1) 0 = 41) (hst : st = true → l.getD q 0 ≠ 41) : cmR l i st q = (q + 2, none) := by
 have hq0 : q < l.length := by omega
 have hk : kh (l.drop q) ≠ 5 := by rw [kh_low hd hq0 (by omega), h1]; decide
 rw [cm_step hd hq0 hi hk hst, hr_one hd hq0 (by omega), cm_go, if_neg (ne_drop hq), if_neg (by rw [kh_low hd hq (by omega), h2]; decide)]
 rw [show (decide (l.getD q 0 = 42) && decide ((hr (l.drop (q + 1))).1 = 41)) = true by
  rw [(decide_eq_true h1 : decide (l.getD q 0 = 42) = true), Bool.true_and]; exact decide_eq_true ((hr_head hd hq 41 (by decide)).2 h2), if_pos rfl]
 show (i + 2 + (q + 1 - (i + 2) + 1), none) = _
 rw [show i + 2 + (q + 1 - (i + 2) + 1) = q + 2 by omega]
theorem lexA_len : ∀ (f : Nat) (l : List Nat) (i : Nat) (ts us : List (Nat × List Nat × Nat)), i ≤ l.length → lexA f l i ts = (us, none) → us.length + i ≤ ts.length + l.length + 1 := by
 intro f
 induction f with
 | zero => intro l i ts us hi h; cases h; omega
 | succ f ih =>
  intro l i ts us hi h
  rw [lexA_go] at h
  obtain ⟨x, ex⟩ : ∃ x, blk (l.length + 1) l i = x := ⟨_, rfl⟩
  rw [ex] at h
  obtain ⟨j, e⟩ := x
  cases e with
  | some e => cases h
  | none =>
   have hb := blk_ok _ _ _ _ hi ex
   have h : (if j = l.length then (ts ++ [(0, [], l.length)], none) else match (tkX l j).2 with
    | some e => ([], some e)
    | none => lexA f l (j + (tkT l j).2.1.length) (ts ++ [tkT l j])) = (us, none) := h
   by_cases hj : j = l.length
   ·rw [if_pos hj] at h
    cases h
    rw [List.length_append, List.length_singleton]; omega
   ·rw [if_neg hj] at h
    have hok := tk_ok (l := l) (j := j) (by omega)
    cases hx : (tkX l j).2 with
    | some e => rw [hx] at h; cases h
    | none =>
     rw [hx] at h
     obtain ⟨_, h1, h2⟩ := hok hx
     have := ih l _ _ us h2 h
     rw [List.length_append, List.length_singleton] at this
     omega
end Go.AM.S
end

section
namespace Go.AM.S
open Go Go.AM Go.Proofs NumL
open _root_.Go.AM.G (R)
set_option maxRecDepth 100000
open Go.Proofs.YtjldfkldmfmkiaaDoor
variable {L : List (Nat × Int × Int)}
theorem tbl13 : tbl 13 = some ⟨rc13, [.tmp 2, .tmp 3, .tmp 4]⟩ := by kernel_rfl
theorem kn13 : kn L 13 = none := by kernel_rfl
theorem g13_26 (u : Str) (i : Nat) (c : CallF) (t t0 : Tm) (l : Lo) (h : Hp) (j : V → Lo → Hp → R) : gn Tryd.f13 13 26 3 c (pt (pt t 110 (.str u)) 111 (.int .i64 (.ofNat i))) t0 l h j = j (.agg [.int .i64 (.ofNat 4), .str u, .int .i64 (.ofNat i)]) l h := by
 refine (gen_slots (t2 := pt (pt .lf 110 (.str u)) 111 (.int .i64 (.ofNat i))) (fun z hz => ?_)).trans (by kernel_rfl)
 have e : tmpsOf (opA Tryd.f13 26 3) = [110, 111] := by kernel_rfl
 rw [e] at hz
 have : z = 110 ∨ z = 111 := by simpa using hz
 rcases this with rfl | rfl
 ·rw [gt_pt, if_neg (by decide), gt_pt, if_pos rfl, gt_pt, if_neg (by decide), gt_pt, if_pos rfl]
 ·rw [gt_pt, if_pos rfl, gt_pt, if_pos rfl]
theorem g13_36 (u : Str) (i : Nat) (c : CallF) (t t0 : Tm) (l : Lo) (h : Hp) (j : V → Lo → Hp → R) : gn Tryd.f13 13 36 3 c (pt (pt t 152 (.str u)) 153 (.int .i64 (.ofNat i))) t0 l h j = j (.agg [.int .i64 (.ofNat 2), .str u, .int .i64 (.ofNat i)]) l h := by
 refine (gen_slots (t2 := pt (pt .lf 152 (.str u)) 153 (.int .i64 (.ofNat i))) (fun z hz => ?_)).trans (by kernel_rfl)
 have e : tmpsOf (opA Tryd.f13 36 3) = [152, 153] := by kernel_rfl
 rw [e] at hz
 have : z = 152 ∨ z = 153 := by simpa using hz
 rcases this with rfl | rfl
 ·rw [gt_pt, if_neg (by decide), gt_pt, if_pos rfl, gt_pt, if_neg (by decide), gt_pt, if_pos rfl]
 ·rw [gt_pt, if_pos rfl, gt_pt, if_pos rfl]
theorem g13_39 (u : Str) (i : Nat) (c : CallF) (t t0 : Tm) (l : Lo) (h : Hp) (j : V → Lo → Hp → R) : gn Tryd.f13 13 39 3 c (pt (pt t 162 (.str u)) 163 (.int .i64 (.ofNat i))) t0 l h j = j (.agg [.int .i64 (.ofNat 1), .str u, .int .i64 (.ofNat i)]) l h := by
 refine (gen_slots (t2 := pt (pt .lf 162 (.str u)) 163 (.int .i64 (.ofNat i))) (fun z hz => ?_)).trans (by kernel_rfl)
 have e : tmpsOf (opA Tryd.f13 39 3) = [162, 163] := by kernel_rfl
 rw [e] at hz
 have : z = 162 ∨ z = 163 := by simpa using hz
 rcases this with rfl | rfl
 ·rw [gt_pt, if_neg (by decide), gt_pt, if_pos rfl, gt_pt, if_neg (by decide), gt_pt, if_pos rfl]
 ·rw [gt_pt, if_pos rfl, gt_pt, if_pos rfl]
theorem g13_48 (u : Str) (i : Nat) (c : CallF) (t t0 : Tm) (l : Lo) (h : Hp) (j : V → Lo → Hp → R) : gn Tryd.f13 13 48 3 c (pt (pt t 205 (.str u)) 206 (.int .i64 (.ofNat i))) t0 l h j = j (.agg [.int .i64 (.ofNat 3), .str u, .int .i64 (.ofNat i)]) l h := by
 refine (gen_slots (t2 := pt (pt .lf 205 (.str u)) 206 (.int .i64 (.ofNat i))) (fun z hz => ?_)).trans (by kernel_rfl)
 have e : tmpsOf (opA Tryd.f13 48 3) = [205, 206] := by kernel_rfl
 rw [e] at hz
 have : z = 205 ∨ z = 206 := by simpa using hz
 rcases this with rfl | rfl
 ·rw [gt_pt, if_neg (by decide), gt_pt, if_pos rfl, gt_pt, if_neg (by decide), gt_pt, if_pos rfl]
 ·rw [gt_pt, if_pos rfl, gt_pt, if_pos rfl]
theorem push13_26 {loc : Lo} {s : Nat} {v : V} {ts : List (Nat × List Nat × Nat)} (hv : TkA loc s v (ts.map TV)) (T : Nat × List Nat × Nat) (hn : ts.length ≤ 1000000) :
  ∃ v' loc', (∀ (c : CallF) (t : Tm) (h : Hp) (j : V → Lo → Hp → R), go2 Tryd.f13 13 26 5 109 113 v (.slice none true 3 [.agg [.int .i64 (.ofNat T.1), .str (sl T.2.1), .int .i64 (.ofNat T.2.2)]]) c t loc h j = j v' loc' h) ∧ TkA loc' 114 v' ((ts ++ [T]).map TV) := by
 obtain ⟨v', loc', h1, h2, _⟩ := gen_pushA (P := Pg) (C := Cg) (gl := Cg.glob 13) (tk := none) (fu := true) i13_26_5 (by kernel_rfl) (by kernel_rfl) E24 L30 (b := 32) (by kernel_rfl) (by decide) (T := TV T) hv rfl rfl (by have := tv_refs (ts ++ [T]); rwa [List.map_append] at this) (by rw [List.length_map]; omega)
 exact ⟨v', loc', h1, by rw [List.map_append]; exact h2⟩
theorem push13_36 {loc : Lo} {s : Nat} {v : V} {ts : List (Nat × List Nat × Nat)} (hv : TkA loc s v (ts.map TV)) (T : Nat × List Nat × Nat) (hn : ts.length ≤ 1000000) :
  ∃ v' loc', (∀ (c : CallF) (t : Tm) (h : Hp) (j : V → Lo → Hp → R), go2 Tryd.f13 13 36 5 151 155 v (.slice none true 3 [.agg [.int .i64 (.ofNat T.1), .str (sl T.2.1), .int .i64 (.ofNat T.2.2)]]) c t loc h j = j v' loc' h) ∧ TkA loc' 156 v' ((ts ++ [T]).map TV) := by
 obtain ⟨v', loc', h1, h2, _⟩ := gen_pushA (P := Pg) (C := Cg) (gl := Cg.glob 13) (tk := none) (fu := true) i13_36_5 (by kernel_rfl) (by kernel_rfl) E24 L30 (b := 32) (by kernel_rfl) (by decide) (T := TV T) hv rfl rfl (by have := tv_refs (ts ++ [T]); rwa [List.map_append] at this) (by rw [List.length_map]; omega)
 exact ⟨v', loc', h1, by rw [List.map_append]; exact h2⟩
theorem push13_39 {loc : Lo} {s : Nat} {v : V} {ts : List (Nat × List Nat × Nat)} (hv : TkA loc s v (ts.map TV)) (T : Nat × List Nat × Nat) (hn : ts.length ≤ 1000000) :
  ∃ v' loc', (∀ (c : CallF) (t : Tm) (h : Hp) (j : V → Lo → Hp → R), go2 Tryd.f13 13 39 5 161 165 v (.slice none true 3 [.agg [.int .i64 (.ofNat T.1), .str (sl T.2.1), .int .i64 (.ofNat T.2.2)]]) c t loc h j = j v' loc' h) ∧ TkA loc' 166 v' ((ts ++ [T]).map TV) := by
 obtain ⟨v', loc', h1, h2, _⟩ := gen_pushA (P := Pg) (C := Cg) (gl := Cg.glob 13) (tk := none) (fu := true) i13_39_5 (by kernel_rfl) (by kernel_rfl) E24 L30 (b := 32) (by kernel_rfl) (by decide) (T := TV T) hv rfl rfl (by have := tv_refs (ts ++ [T]); rwa [List.map_append] at this) (by rw [List.length_map]; omega)
 exact ⟨v', loc', h1, by rw [List.map_append]; exact h2⟩
theorem push13_48 {loc : Lo} {s : Nat} {v : V} {ts : List (Nat × List Nat × Nat)} (hv : TkA loc s v (ts.map TV)) (T : Nat × List Nat × Nat) (hn : ts.length ≤ 1000000) :
  ∃ v' loc', (∀ (c : CallF) (t : Tm) (h : Hp) (j : V → Lo → Hp → R), go2 Tryd.f13 13 48 5 204 208 v (.slice none true 3 [.agg [.int .i64 (.ofNat T.1), .str (sl T.2.1), .int .i64 (.ofNat T.2.2)]]) c t loc h j = j v' loc' h) ∧ TkA loc' 209 v' ((ts ++ [T]).map TV) := by
 obtain ⟨v', loc', h1, h2, _⟩ := gen_pushA (P := Pg) (C := Cg) (gl := Cg.glob 13) (tk := none) (fu := true) i13_48_5 (by kernel_rfl) (by kernel_rfl) E24 L30 (b := 32) (by kernel_rfl) (by decide) (T := TV T) hv rfl rfl (by have := tv_refs (ts ++ [T]); rwa [List.map_append] at this) (by rw [List.length_map]; omega)
 exact ⟨v', loc', h1, by rw [List.map_append]; exact h2⟩
theorem push13_49 {loc : Lo} {s : Nat} {v : V} {ts : List (Nat × List Nat × Nat)} (hv : TkA loc s v (ts.map TV)) (T : Nat × List Nat × Nat) (hn : ts.length ≤ 1000000) :
  ∃ v' loc', (∀ (c : CallF) (t : Tm) (h : Hp) (j : V → Lo → Hp → R), go2 Tryd.f13 13 49 5 210 214 v (.slice none true 3 [.agg [.int .i64 (.ofNat T.1), .str (sl T.2.1), .int .i64 (.ofNat T.2.2)]]) c t loc h j = j v' loc' h) ∧ TkA loc' 215 v' ((ts ++ [T]).map TV) := by
 obtain ⟨v', loc', h1, h2, _⟩ := gen_pushA (P := Pg) (C := Cg) (gl := Cg.glob 13) (tk := none) (fu := true) i13_49_5 (by kernel_rfl) (by kernel_rfl) E24 L30 (b := 32) (by kernel_rfl) (by decide) (T := TV T) hv rfl rfl (by have := tv_refs (ts ++ [T]); rwa [List.map_append] at this) (by rw [List.length_map]; omega)
 exact ⟨v', loc', h1, by rw [List.map_append]; exact h2⟩
theorem g13_49 (m : Nat) (c : CallF) (t t0 : Tm) (l : Lo) (h : Hp) (j : V → Lo → Hp → R) : gn Tryd.f13 13 49 3 c (pt t 212 (.int .i64 (.ofNat m))) t0 l h j = j (.agg [.int .i64 (.ofNat 0), .str ⟨0, 0⟩, .int .i64 (.ofNat m)]) l h := by
 refine (gen_slots (t2 := pt .lf 212 (.int .i64 (.ofNat m))) (fun z hz => ?_)).trans (by kernel_rfl)
 have e : tmpsOf (opA Tryd.f13 49 3) = [212] := by kernel_rfl
 rw [e] at hz
 have : z = 212 := by simpa using hz
 subst this
 rw [gt_pt, if_pos rfl, gt_pt, if_pos rfl]
def rOut (l : List Nat) : V := match lexT l with
 | (ts, none) => .tuple [.slice none false 3 (ts.map TV), .int .i64 (.ofNat 0), .int .i64 (.ofNat 0)]
 | (_, some (p, c)) => .tuple [.nils, .int .i64 (.ofNat p), .int .i64 (.ofNat c)]
theorem fin13 {h : Hp} {s : St} {v v' a b : V} (h2 : gt s.tm 2 = v) (h3 : gt s.tm 3 = a) (h4 : gt s.tm 4 = b) (hx : exps false s [v, a, b] = some ([v', a, b], s)) (hn : V.noRefsL [v', a, b] = true) (hd : s.hp.dirty = none) : fin Pg h [.tmp 2, .tmp 3, .tmp 4] s = some (.val (.tuple [v', a, b]) h) := by
 unfold fin
 have e1 : resV Pg s [.tmp 2, .tmp 3, .tmp 4] = some [v, a, b] := by simp only [resV, rho_gt, h2, h3, h4, Option.map_some]
 rw [e1]
 simp only [hx]
 unfold backHp cleanB
 rw [hd, hn]
 rfl
theorem fin13_bad {h : Hp} {l : List Nat} {s : St} {p c : Nat} (hq : lexT l = ([], some (p, c))) (h2 : gt s.tm 2 = .nils) (h3 : gt s.tm 3 = .int .i64 (.ofNat p)) (h4 : gt s.tm 4 = .int .i64 (.ofNat c)) (hd : s.hp.dirty = none) : fin Pg h [.tmp 2, .tmp 3, .tmp 4] s = some (.val (rOut l) h) := by
 unfold rOut
 rw [hq]
 exact fin13 h2 h3 h4 rfl rfl hd
theorem fin13_ok {h : Hp} {l : List Nat} {s : St} {g : Nat} {ts : List (Nat × List Nat × Nat)} (hq : lexT l = (ts, none)) (h2 : gt s.tm 2 = .slice (some (.loc 215 g)) false 3 (ts.map TV)) (h3 : gt s.tm 3 = .int .i64 (.ofNat 0)) (h4 : gt s.tm 4 = .int .i64 (.ofNat 0)) (hd : s.hp.dirty = none) : fin Pg h [.tmp 2, .tmp 3, .tmp 4] s = some (.val (rOut l) h) := by
 unfold rOut
 rw [hq]
 exact fin13 h2 h3 h4 rfl (by simp only [V.noRefsL, V.noRefs, tv_refs, Bool.and_self, Option.isNone_none]) hd
theorem k0_1 (k : Nat) : k0 k = 1 ↔ k = 1 := by unfold k0; split <;> omega
theorem k0_0 {l : List Nat} (i : Nat) : k0 (kh (l.drop i)) = 0 ↔ kh (l.drop i) = 5 := by
 have : kh (l.drop i) ≠ 0 := by
  unfold kh kd
  split
  ·decide
  ·split
   ·decide
   ·split
    ·decide
    ·split <;> decide
 unfold k0; split <;> omega
theorem k0_2 (k : Nat) : k0 k = 2 ↔ k = 2 := by unfold k0; split <;> omega
theorem k0_3 (k : Nat) : k0 k = 3 ↔ k = 3 := by unfold k0; split <;> omega
theorem sgs_hd : ∀ s ∈ sgs, s ≠ [] ∧ s.getD 0 0 < 128 ∧ kd (s.getD 0 0) 1 = 4 := by decide
theorem sgn_mem {W a : List Nat} (h : sgn W = some a) : a ∈ sgs ∧ beg a W = true :=
 ⟨List.mem_of_find?_eq_some h, List.find?_some (p := fun s => beg s W) h⟩
theorem sgn_kh {l : List Nat} (hd : Dg 256 l) {i : Nat} (hi : i < l.length) {a : List Nat} (h : sgn (l.drop i) = some a) : kh (l.drop i) = 4 := by
 obtain ⟨h1, h2⟩ := sgn_mem h
 obtain ⟨n, h3, h4⟩ := sgs_hd a h1
 have hb := (of_decide_eq_true h2).2
 have e : l.getD i 0 = a.getD 0 0 := by
  have q := congrArg (fun z : List Nat => z.getD 0 0) hb
  have hp : 0 < a.length := List.length_pos_iff.2 n
  simp [List.getD_eq_getElem?_getD, List.getElem?_take, List.getElem?_drop, hp] at q
  rw [List.getD_eq_getElem?_getD, List.getD_eq_getElem?_getD]
  rw [List.getElem?_eq_getElem hp]
  simpa using q
 rw [kh_low hd hi (by omega), e, h4]
theorem sgO_nil (W : List Nat) : sgO W = [] ↔ sgn W = none := by
 unfold sgO
 cases h : sgn W with
 | none => simp
 | some a =>
  have := (sgs_hd a (sgn_mem h).1).1
  simp [this]
end Go.AM.S
end

section
namespace Go.AM.S
open Go Go.AM Go.Proofs NumL
open _root_.Go.AM.G (R)
set_option maxRecDepth 100000
open Go.Proofs.YtjldfkldmfmkiaaDoor
variable {L : List (Nat × Int × Int)}
theorem okK_k0 (k : Nat) : okK true k = (decide (k0 k = 2) || decide (k0 k = 3)) := by
 unfold okK
 rw [Bool.true_and, Bool.or_comm]
 congr 1
 ·congr 1; exact propext (k0_2 k).symm
 ·congr 1; exact propext (k0_3 k).symm
theorem hr_end {l : List Nat} {q : Nat} (hq : q < l.length) : 1 ≤ (hr (l.drop q)).2 ∧ q + (hr (l.drop q)).2 ≤ l.length := by
 have h1 := hr_pos (ne_drop hq)
 have h2 := hr_le (l := l.drop q)
 rw [List.length_drop] at h2
 omega
set_option maxHeartbeats 4000000 in
theorem ref13 {l : List Nat} (hd : Dg 256 l) (hl : l.length ≤ 65536) (h : Hp) : Runs Pg (kn L) tbl 13 [.str (sl l)] h (.val (rOut l) h) := by
 refine runs_of_ww kn13 tbl13 ?_
 unfold rc13
 refine sR ?_
 refine ww_seq (ww_seq (ww_reg (fun n k => by simp -implicitDefEqProofs (disch := omega) only [go_sem, reduceIte, Nat.reduceEqDiff, gt_start, List.getD_cons_zero, List.getD_cons_succ, decide_eq_false (show ¬ 65536 < l.length by omega)]; rfl) ?_))
 refine ww_false sS (ww_skip ?_)
 refine sR ?_
 refine sR ?_
 refine ww_joinX (fun s => ∃ ts v k, gt s.tm 0 = .str (sl l) ∧ gt s.tm 5 = v ∧ TkA s.loc k v (ts.map TV) ∧ ts.length ≤ l.length ∧ s.hp = ⟨h.rows, none, h.mods⟩ ∧ lexT l = (ts ++ [(0, [], l.length)], none)) ?_ (fun s ⟨ts, v, k, h0, h5, hv, hts, hh, he⟩ => ?_)
 ·refine ww_for (fun m s => ∃ i ts v k, m + i = l.length ∧ gt s.tm 0 = .str (sl l) ∧ gt s.tm 6 = .int .i64 (.ofNat i) ∧ gt s.tm 5 = v ∧ TkA s.loc k v (ts.map TV) ∧ ts.length ≤ i ∧ s.hp = ⟨h.rows, none, h.mods⟩ ∧ lexT l = lexR l i ts) l.length
   ⟨0, [], .nils, 0, rfl, sSG, sS, sS, .inl ⟨rfl, rfl⟩, Nat.le_refl _, rfl, lr_start l⟩ ?_
  intro m s ⟨i, ts, v, k, hm, h0, h6, h5, hv, hts, hh, he⟩
  obtain ⟨tm, loc, hp⟩ := s
  have hh : hp = ⟨h.rows, none, h.mods⟩ := hh
  subst hh
  have h0 : gt tm 0 = .str (sl l) := h0
  have h6 : gt tm 6 = .int .i64 (.ofNat i) := h6
  have h5 : gt tm 5 = v := h5
  have hv : TkA loc k v (ts.map TV) := hv
  refine sQ2 h0 h6 ?_
  refine ww_if (by simp only [gt_pt, reduceIte]; rfl) (fun hi => ww_skip ?_) (fun hi => ww_exit ?_)
  rotate_left
  ·rw [if_pos rfl]
   obtain rfl : i = l.length := by omega
   exact ⟨ts, v, k, (sS1 h0), (sS1 h5), hv, hts, rfl, he.trans lr_end⟩
  have hi : i < l.length := hi
  refine ww_block ?_
  refine ww_seq (ww_call (at19 (L := L) hd hi ⟨h.rows, none, h.mods⟩) (fun n hn k => by simp -implicitDefEqProofs (disch := omega) only [go_sem, reduceIte, Nat.reduceEqDiff, h0, h6, clc2 hn (Ex1.str _) (Ex1.int _ _)]; rfl) ?_)
  refine sQ ?_
  have hbg : beg [40, 42] (l.drop i) = decide (i + 1 < l.length ∧ l.getD i 0 = 40 ∧ l.getD (i + 1) 0 = 42) := beg_at l i
  refine ww_if (by simp only [gt_pt, reduceIte]; rfl) (fun hk => ?_) (fun hk => ww_skip ?_)
  ·have hk : kh (l.drop i) = 1 := (k0_1 _).1 hk
   have hb : beg [40, 42] (l.drop i) = false := by
    rw [hbg]
    refine decide_eq_false (fun q => ?_)
    rw [kh_low hd hi (by omega), q.2.1] at hk
    exact absurd hk (by decide)
   refine sR1 h6 ?_
   refine ww_exit ?_
   rw [if_pos rfl]
   exact ⟨m - 1, by omega, i + 1, ts, v, k, by omega, (sS1 h0), sS, (sS1 h5), hv, by omega, rfl, he.trans (lr_blank hi hb hk)⟩
  have hk1 : kh (l.drop i) ≠ 1 := fun q => hk ((k0_1 _).2 q)
  refine ww_joinX (fun s => beg [40, 42] (l.drop i) = false ∧ gt s.tm 0 = .str (sl l) ∧ gt s.tm 6 = .int .i64 (.ofNat i) ∧ gt s.tm 5 = v ∧ gt s.tm 7 = .int .i64 (.ofNat (k0 (kh (l.drop i)))) ∧ gt s.tm 8 = .int .i64 (.ofNat (hr (l.drop i)).2) ∧ TkA s.loc k v (ts.map TV) ∧ s.hp = ⟨h.rows, none, h.mods⟩) ?_ (fun s ⟨hb, h0, h6, h5, h7, h8, hv, hh⟩ => ?_)
  ·refine ww_joinX (fun s => gt s.tm 48 = .bool (beg [40, 42] (l.drop i)) ∧ gt s.tm 0 = .str (sl l) ∧ gt s.tm 6 = .int .i64 (.ofNat i) ∧ gt s.tm 5 = v ∧ gt s.tm 7 = .int .i64 (.ofNat (k0 (kh (l.drop i)))) ∧ gt s.tm 8 = .int .i64 (.ofNat (hr (l.drop i)).2) ∧ TkA s.loc k v (ts.map TV) ∧ s.hp = ⟨h.rows, none, h.mods⟩) ?_ (fun s ⟨h48, h0, h6, h5, h7, h8, hv, hh⟩ => ?_)
   ·rw [hbg]
    have i1 := idx_sl hd .i64 i hi
    by_cases q1 : i + 1 < l.length
    ·have i2 := idx_sl hd .i64 (i + 1) q1
     obtain ⟨b1, d1⟩ : ∃ b, decide (l.getD i 0 = 40) = b := ⟨_, rfl⟩
     obtain ⟨b2, d2⟩ : ∃ b, decide (l.getD (i + 1) 0 = 42) = b := ⟨_, rfl⟩
     have d0 : decide (i + 1 < l.length) = true := decide_eq_true q1
     have e : decide (i + 1 < l.length ∧ l.getD i 0 = 40 ∧ l.getD (i + 1) 0 = 42) = (b1 && b2) := by rw [← d1, ← d2, Bool.decide_and, Bool.decide_and, d0, Bool.true_and]
     rw [e]
     cases b1 <;> cases b2
     all_goals
      refine ww_reg (fun n k => by simp -implicitDefEqProofs (disch := omega) only [go_sem, reduceIte, Nat.reduceEqDiff, h0, h6, d0, d1, d2, i1, i2, Bool.not_false]; rfl) ?_
      exact ⟨(by first | (simp only [gt_pt, reduceIte]; rfl) | (simp only [gt_pt, reduceIte]; done)), (sS1 h0), (sS1 h6), (sS1 h5), sS, sS, hv, rfl⟩
    ·have d0 : decide (i + 1 < l.length) = false := decide_eq_false q1
     have e : decide (i + 1 < l.length ∧ l.getD i 0 = 40 ∧ l.getD (i + 1) 0 = 42) = false := decide_eq_false (fun q => q1 q.1)
     rw [e]
     refine ww_reg (fun n k => by simp -implicitDefEqProofs (disch := omega) only [go_sem, reduceIte, Nat.reduceEqDiff, h0, h6, d0, Bool.not_false]; rfl) ?_
     exact ⟨(by first | (simp only [gt_pt, reduceIte]; rfl) | (simp only [gt_pt, reduceIte]; done)), (sS1 h0), (sS1 h6), (sS1 h5), sS, sS, hv, rfl⟩
   obtain ⟨tm, lo2, hp⟩ := s
   have hh : hp = ⟨h.rows, none, h.mods⟩ := hh
   have hv : TkA lo2 k v (ts.map TV) := hv
   subst hh
   have h0 : gt tm 0 = .str (sl l) := h0
   have h6 : gt tm 6 = .int .i64 (.ofNat i) := h6
   have h5 : gt tm 5 = v := h5
   have h7 : gt tm 7 = .int .i64 (.ofNat (k0 (kh (l.drop i)))) := h7
   have h8 : gt tm 8 = .int .i64 (.ofNat (hr (l.drop i)).2) := h8
   cases hb : beg [40, 42] (l.drop i) with
   | false =>
    rw [hb] at h48
    exact ww_false h48 (ww_skip ⟨rfl, h0, h6, h5, h7, h8, hv, rfl⟩)
   | true =>
    rw [hb] at h48
    have hb2 := beg_len hb
    rw [List.length_drop] at hb2
    have hb2 : 2 ≤ l.length - i := hb2
    refine ww_true h48 ?_
    refine sR1 h6 ?_
    refine sR1 h6 ?_
    refine ww_joinX (fun s => ∃ q st, i + 2 ≤ q ∧ q ≤ l.length ∧ gt s.tm 0 = .str (sl l) ∧ gt s.tm 5 = v ∧ gt s.tm 6 = .int .i64 (.ofNat q) ∧ gt s.tm 9 = .int .i64 (.ofNat i) ∧ TkA s.loc k v (ts.map TV) ∧ s.hp = ⟨h.rows, none, h.mods⟩ ∧ cmtO l i = cmR l i st q ∧ (st = true → l.getD q 0 ≠ 41) ∧ (l.length ≤ q ∨ (q + 1 < l.length ∧ l.getD q 0 = 42 ∧ l.getD (q + 1) 0 = 41))) ?_ (fun s ⟨q, st, hq1, hq2, h0, h5, h6, h9, hv, hh, hc, hst, hend⟩ => ?_)
    ·refine ww_for (fun m s => ∃ q st, m + q = l.length ∧ i + 2 ≤ q ∧ gt s.tm 0 = .str (sl l) ∧ gt s.tm 5 = v ∧ gt s.tm 6 = .int .i64 (.ofNat q) ∧ gt s.tm 9 = .int .i64 (.ofNat i) ∧ TkA s.loc k v (ts.map TV) ∧ s.hp = ⟨h.rows, none, h.mods⟩ ∧ cmtO l i = cmR l i st q ∧ (st = true → l.getD q 0 ≠ 41)) (l.length - (i + 2))
      ⟨i + 2, false, by omega, Nat.le_refl _, (sS1 h0), (sS1 h5), sS, sS, hv, rfl, cm_start l i, fun e => by cases e⟩ ?_
     intro m s ⟨q, st, hm, hq1, h0, h5, h6, h9, hv, hh, hc, hst⟩
     obtain ⟨tm, lo3, hp⟩ := s
     have hh : hp = ⟨h.rows, none, h.mods⟩ := hh
     have hv : TkA lo3 k v (ts.map TV) := hv
     subst hh
     have h0 : gt tm 0 = .str (sl l) := h0
     have h6 : gt tm 6 = .int .i64 (.ofNat q) := h6
     have h5 : gt tm 5 = v := h5
     have h9 : gt tm 9 = .int .i64 (.ofNat i) := h9
     refine ww_joinX (fun s => (q < l.length ∧ ¬ (q + 1 < l.length ∧ l.getD q 0 = 42 ∧ l.getD (q + 1) 0 = 41)) ∧ gt s.tm 0 = .str (sl l) ∧ gt s.tm 5 = v ∧ gt s.tm 6 = .int .i64 (.ofNat q) ∧ gt s.tm 9 = .int .i64 (.ofNat i) ∧ TkA s.loc k v (ts.map TV) ∧ s.hp = ⟨h.rows, none, h.mods⟩) ?_ (fun s ⟨⟨hq, hnc⟩, h0, h5, h6, h9, hv, hh⟩ => ?_)
     ·refine ww_joinX (fun s => gt s.tm 76 = .bool (decide (q < l.length ∧ ¬ (q + 1 < l.length ∧ l.getD q 0 = 42 ∧ l.getD (q + 1) 0 = 41))) ∧ gt s.tm 0 = .str (sl l) ∧ gt s.tm 5 = v ∧ gt s.tm 6 = .int .i64 (.ofNat q) ∧ gt s.tm 9 = .int .i64 (.ofNat i) ∧ TkA s.loc k v (ts.map TV) ∧ s.hp = ⟨h.rows, none, h.mods⟩) ?_ (fun s ⟨h76, h0, h5, h6, h9, hv, hh⟩ => ?_)
      ·by_cases q0 : q < l.length
       ·have i1 := idx_sl hd .i64 q q0
        have d9 : decide (q < l.length) = true := decide_eq_true q0
        by_cases q1 : q + 1 < l.length
        ·have i2 := idx_sl hd .i64 (q + 1) q1
         obtain ⟨b1, d1⟩ : ∃ b, decide (l.getD q 0 = 42) = b := ⟨_, rfl⟩
         obtain ⟨b2, d2⟩ : ∃ b, decide (l.getD (q + 1) 0 = 41) = b := ⟨_, rfl⟩
         have d0 : decide (q + 1 < l.length) = true := decide_eq_true q1
         have e : decide (q < l.length ∧ ¬ (q + 1 < l.length ∧ l.getD q 0 = 42 ∧ l.getD (q + 1) 0 = 41)) = !(b1 && b2) := by rw [← d1, ← d2, Bool.decide_and, decide_not, Bool.decide_and, Bool.decide_and, d9, d0, Bool.true_and, Bool.true_and]
         rw [e]
         cases b1 <;> cases b2
         all_goals
          refine ww_reg (fun n k => by simp -implicitDefEqProofs (disch := omega) only [go_sem, reduceIte, Nat.reduceEqDiff, h0, h6, d9, d0, d1, d2, i1, i2, Bool.not_false, Bool.not_true]; rfl) ?_
          exact ⟨(by first | (simp only [gt_pt, reduceIte]; rfl) | (simp only [gt_pt, reduceIte]; done)), (sS1 h0), (sS1 h5), (sS1 h6), (sS1 h9), hv, rfl⟩
        ·have d0 : decide (q + 1 < l.length) = false := decide_eq_false q1
         have e : decide (q < l.length ∧ ¬ (q + 1 < l.length ∧ l.getD q 0 = 42 ∧ l.getD (q + 1) 0 = 41)) = true := decide_eq_true ⟨q0, fun z => q1 z.1⟩
         rw [e]
         refine ww_reg (fun n k => by simp -implicitDefEqProofs (disch := omega) only [go_sem, reduceIte, Nat.reduceEqDiff, h0, h6, d9, d0, Bool.not_false, Bool.not_true]; rfl) ?_
         exact ⟨(by first | (simp only [gt_pt, reduceIte]; rfl) | (simp only [gt_pt, reduceIte]; done)), (sS1 h0), (sS1 h5), (sS1 h6), (sS1 h9), hv, rfl⟩
       ·have d9 : decide (q < l.length) = false := decide_eq_false q0
        have e : decide (q < l.length ∧ ¬ (q + 1 < l.length ∧ l.getD q 0 = 42 ∧ l.getD (q + 1) 0 = 41)) = false := decide_eq_false (fun z => q0 z.1)
        rw [e]
        refine ww_reg (fun n k => by simp -implicitDefEqProofs (disch := omega) only [go_sem, reduceIte, Nat.reduceEqDiff, h0, h6, d9, Bool.not_false, Bool.not_true]; rfl) ?_
        exact ⟨(by first | (simp only [gt_pt, reduceIte]; rfl) | (simp only [gt_pt, reduceIte]; done)), (sS1 h0), (sS1 h5), (sS1 h6), (sS1 h9), hv, rfl⟩
      refine ww_if h76 (fun hc1 => ww_skip ⟨hc1, h0, h5, h6, h9, hv, hh⟩) (fun hc1 => ww_exit ?_)
      rw [if_pos rfl]
      refine ⟨q, st, hq1, by omega, h0, h5, h6, h9, hv, hh, hc, hst, ?_⟩
      rcases Nat.lt_or_ge q l.length with z | z
      ·exact .inr (Decidable.byContradiction fun z2 => hc1 ⟨z, z2⟩)
      ·exact .inl z
     obtain ⟨tm, lo4, hp⟩ := s
     have hh : hp = ⟨h.rows, none, h.mods⟩ := hh
     have hv : TkA lo4 k v (ts.map TV) := hv
     subst hh
     have h0 : gt tm 0 = .str (sl l) := h0
     have h6 : gt tm 6 = .int .i64 (.ofNat q) := h6
     have h5 : gt tm 5 = v := h5
     have h9 : gt tm 9 = .int .i64 (.ofNat i) := h9
     refine ww_block ?_
     refine ww_seq (ww_call (at19 (L := L) hd hq ⟨h.rows, none, h.mods⟩) (fun n hn k => by simp -implicitDefEqProofs (disch := omega) only [go_sem, reduceIte, Nat.reduceEqDiff, h0, h6, clc2 hn (Ex1.str _) (Ex1.int _ _)]; rfl) ?_)
     refine sQ ?_
     refine ww_if (by simp only [gt_pt, reduceIte]; rfl) (fun hk => ?_) (fun hk => ww_skip ?_)
     ·have hk : kh (l.drop q) = 5 := (k0_0 q).1 hk
      have hT : lexT l = ([], some (q, 140)) := he.trans (lr_comx hi hb (hc.trans (cm_bad hq hq1 hk)))
      refine sR1 h6 ?_
      exact ww_ret (fin13_bad hT sS sS sS rfl)
     ·have hk : kh (l.drop q) ≠ 5 := fun z => hk ((k0_0 q).2 z)
      have hn := hr_end hq
      refine sE1 h6 ?_
      refine ⟨m - (hr (l.drop q)).2, by omega, q + (hr (l.drop q)).2, decide (l.getD q 0 = 42), by omega, by omega, (sS1 h0), (sS1 h5), sS, (sS1 h9), hv, rfl, hc.trans (cm_step hd hq hq1 hk hst), fun z => ?_⟩
      have z : l.getD q 0 = 42 := of_decide_eq_true z
      rw [hr_one hd hq (by omega)]
      intro z2
      have : q + 1 < l.length := by
       rcases Nat.lt_or_ge (q + 1) l.length with w | w
       ·exact w
       ·rw [List.getD_eq_getElem?_getD, List.getElem?_eq_none w] at z2; cases z2
      exact hnc ⟨this, z, z2⟩
    ·obtain ⟨tm, lo3, hp⟩ := s
     have hh : hp = ⟨h.rows, none, h.mods⟩ := hh
     have hv : TkA lo3 k v (ts.map TV) := hv
     subst hh
     have h0 : gt tm 0 = .str (sl l) := h0
     have h6 : gt tm 6 = .int .i64 (.ofNat q) := h6
     have h5 : gt tm 5 = v := h5
     have h9 : gt tm 9 = .int .i64 (.ofNat i) := h9
     refine sQ2 h0 h6 ?_
     refine ww_if (by simp only [gt_pt, reduceIte]; rfl) (fun hk => ?_) (fun hk => ww_skip ?_)
     ·have hk : l.length ≤ q := hk
      have hT : lexT l = ([], some (i, 140)) := he.trans (lr_comx hi hb (hc.trans (cm_none hk)))
      refine sR1 h9 ?_
      exact ww_ret (fin13_bad hT sS sS sS rfl)
     ·have hk : ¬ l.length ≤ q := hk
      rcases hend with z | ⟨z1, z2, z3⟩
      ·exact absurd z hk
      refine sR1 h6 ?_
      refine ww_exit ?_
      rw [if_pos rfl]
      exact ⟨l.length - (q + 2), by omega, q + 2, ts, v, k, by omega, (sS1 h0), sS, (sS1 h5), hv, by omega, rfl, he.trans (lr_com hi hb (hc.trans (cm_close hd z1 hq1 z2 z3 hst)))⟩
  obtain ⟨tm, lo2, hp⟩ := s
  have hh : hp = ⟨h.rows, none, h.mods⟩ := hh
  have hv : TkA lo2 k v (ts.map TV) := hv
  subst hh
  have h0 : gt tm 0 = .str (sl l) := h0
  have h6 : gt tm 6 = .int .i64 (.ofNat i) := h6
  have h5 : gt tm 5 = v := h5
  have h7 : gt tm 7 = .int .i64 (.ofNat (k0 (kh (l.drop i)))) := h7
  have h8 : gt tm 8 = .int .i64 (.ofNat (hr (l.drop i)).2) := h8
  have fails : ∀ e, (tkX l i).2 = some e → lexT l = ([], some e) := fun e hx => he.trans (lr_tokx hi hb hk1 hx)
  have goes : (tkX l i).2 = none → lexT l = lexR l (i + (tkT l i).2.1.length) (ts ++ [tkT l i]) := fun hx => he.trans (lr_tok hi hb hk1 hx)
  refine sR1 h6 ?_
  refine sR1 h7 ?_
  refine ww_block ?_
  refine sR ?_
  refine ww_if (by simp only [gt_pt, reduceIte]; rfl) (fun hk => ?_) (fun hk5 => ?_)
  ·have hk : kh (l.drop i) = 5 := (k0_0 i).1 hk
   have hs : sgn (l.drop i) = none := by
    cases hz : sgn (l.drop i) with
    | none => rfl
    | some a => have := sgn_kh hd hi hz; omega
   have hx : (tkX l i).2 = some (i, 140) := by unfold tkX sgX; rw [if_neg (by omega), if_neg (by omega), hs]
   refine sR1 h6 ?_
   exact ww_ret (fin13_bad (fails _ hx) sS sS sS rfl)
  refine sR ?_
  refine ww_if (by simp only [gt_pt, reduceIte]; rfl) (fun hk => ?_) (fun hk2 => ?_)
  ·have hk : kh (l.drop i) = 2 := (k0_2 _).1 hk
   have hpos : 1 ≤ runL true (l.drop i) := runL_pos (ne_drop hi) (by unfold okK; rw [hk]; rfl)
   obtain ⟨w, ew⟩ : ∃ w, nmW true l i = w := ⟨_, rfl⟩
   have hwl := nmW_len true (l := l) (i := i) (Nat.le_of_lt hi)
   have hT : tkT l i = (nmK w, w, i) := by unfold tkT; rw [if_pos hk, ew]
   have hX : tkX l i = nmX w i := by unfold tkX; rw [if_pos hk, ew]
   rw [hT, hX] at goes
   rw [hX] at fails
   rw [ew] at hwl
   have hwd : Dg 256 w := by rw [← ew]; exact (hd.take _).drop _
   refine ww_joinX (fun s => gt s.tm 0 = .str (sl l) ∧ gt s.tm 5 = v ∧ gt s.tm 6 = .int .i64 (.ofNat (i + runL true (l.drop i))) ∧ gt s.tm 10 = .int .i64 (.ofNat i) ∧ TkA s.loc k v (ts.map TV) ∧ s.hp = ⟨h.rows, none, h.mods⟩) ?_ (fun s ⟨h0, h5, h6, h10, hv, hh⟩ => ?_)
   ·refine ww_for (fun m s => ∃ q f kk nn, m + q = l.length ∧ m ≤ f ∧ i ≤ q ∧ gt s.tm 0 = .str (sl l) ∧ gt s.tm 5 = v ∧ gt s.tm 6 = .int .i64 (.ofNat q) ∧ gt s.tm 7 = .int .i64 (.ofNat kk) ∧ gt s.tm 8 = .int .i64 (.ofNat nn) ∧ gt s.tm 10 = .int .i64 (.ofNat i) ∧ TkA s.loc k v (ts.map TV) ∧ s.hp = ⟨h.rows, none, h.mods⟩ ∧ i + runL true (l.drop i) = q + runN true f (l.drop q) ∧ (q < l.length → kk = k0 (kh (l.drop q)) ∧ nn = (hr (l.drop q)).2)) (l.length - i)
     ⟨i, (l.drop i).length, _, _, by omega, by rw [List.length_drop]; exact Nat.le_refl _, Nat.le_refl _, (sS1 h0), (sS1 h5), (sS1 h6), (sS1 h7), (sS1 h8), sS, hv, rfl, rfl, fun _ => ⟨rfl, rfl⟩⟩ ?_
    intro m s ⟨q, f, kk, nn, hm, hf, hq1, h0, h5, h6, h7, h8, h10, hv, hh, hr1, hkn⟩
    obtain ⟨tm, lo3, hp⟩ := s
    have hh : hp = ⟨h.rows, none, h.mods⟩ := hh
    subst hh
    have h0 : gt tm 0 = .str (sl l) := h0
    have h6 : gt tm 6 = .int .i64 (.ofNat q) := h6
    have h5 : gt tm 5 = v := h5
    have h7 : gt tm 7 = .int .i64 (.ofNat kk) := h7
    have h8 : gt tm 8 = .int .i64 (.ofNat nn) := h8
    have h10 : gt tm 10 = .int .i64 (.ofNat i) := h10
    have hv : TkA lo3 k v (ts.map TV) := hv
    refine ww_joinX (fun s => (q < l.length ∧ okK true (kh (l.drop q)) = true) ∧ gt s.tm 0 = .str (sl l) ∧ gt s.tm 5 = v ∧ gt s.tm 6 = .int .i64 (.ofNat q) ∧ gt s.tm 7 = .int .i64 (.ofNat kk) ∧ gt s.tm 8 = .int .i64 (.ofNat nn) ∧ gt s.tm 10 = .int .i64 (.ofNat i) ∧ TkA s.loc k v (ts.map TV) ∧ s.hp = ⟨h.rows, none, h.mods⟩) ?_ (fun s ⟨⟨hq, hok⟩, h0, h5, h6, h7, h8, h10, hv, hh⟩ => ?_)
    ·refine ww_joinX (fun s => gt s.tm 131 = .bool (decide (q < l.length ∧ okK true (kh (l.drop q)) = true)) ∧ gt s.tm 0 = .str (sl l) ∧ gt s.tm 5 = v ∧ gt s.tm 6 = .int .i64 (.ofNat q) ∧ gt s.tm 7 = .int .i64 (.ofNat kk) ∧ gt s.tm 8 = .int .i64 (.ofNat nn) ∧ gt s.tm 10 = .int .i64 (.ofNat i) ∧ TkA s.loc k v (ts.map TV) ∧ s.hp = ⟨h.rows, none, h.mods⟩) ?_ (fun s ⟨h131, h0, h5, h6, h7, h8, h10, hv, hh⟩ => ?_)
     ·by_cases q0 : q < l.length
      ·obtain ⟨e1, e2⟩ := hkn q0
       have d9 : decide (q < l.length) = true := decide_eq_true q0
       obtain ⟨b1, d1⟩ : ∃ b, decide (kk = 2) = b := ⟨_, rfl⟩
       obtain ⟨b2, d2⟩ : ∃ b, decide (kk = 3) = b := ⟨_, rfl⟩
       have e : decide (q < l.length ∧ okK true (kh (l.drop q)) = true) = (b1 || b2) := by
        rw [← d1, ← d2, e1, Bool.decide_and, d9, Bool.true_and, okK_k0, Bool.decide_eq_true]
       rw [e]
       cases b1 <;> cases b2
       all_goals
        refine ww_reg (fun n k => by simp -implicitDefEqProofs (disch := omega) only [go_sem, reduceIte, Nat.reduceEqDiff, h0, h6, h7, d9, d1, d2, Bool.not_false, Bool.not_true]; rfl) ?_
        exact ⟨(by first | (simp only [gt_pt, reduceIte]; rfl) | (simp only [gt_pt, reduceIte]; done)), (sS1 h0), (sS1 h5), (sS1 h6), (sS1 h7), (sS1 h8), (sS1 h10), hv, rfl⟩
      ·have d9 : decide (q < l.length) = false := decide_eq_false q0
       have e : decide (q < l.length ∧ okK true (kh (l.drop q)) = true) = false := decide_eq_false (fun z => q0 z.1)
       rw [e]
       refine ww_reg (fun n k => by simp -implicitDefEqProofs (disch := omega) only [go_sem, reduceIte, Nat.reduceEqDiff, h0, h6, h7, d9, Bool.not_false, Bool.not_true]; rfl) ?_
       exact ⟨(by first | (simp only [gt_pt, reduceIte]; rfl) | (simp only [gt_pt, reduceIte]; done)), (sS1 h0), (sS1 h5), (sS1 h6), (sS1 h7), (sS1 h8), (sS1 h10), hv, rfl⟩
     refine ww_if h131 (fun hc1 => ww_skip ⟨hc1, h0, h5, h6, h7, h8, h10, hv, hh⟩) (fun hc1 => ww_exit ?_)
     rw [if_pos rfl]
     have hz : runN true f (l.drop q) = 0 := by
      rcases Nat.lt_or_ge q l.length with z | z
      ·exact runN_stop (Bool.eq_false_iff.2 (fun z2 => hc1 ⟨z, z2⟩))
      ·rw [List.drop_eq_nil_of_le z]; exact runN_nil _ _
     rw [hz] at hr1
     rw [hr1]
     exact ⟨h0, h5, h6, h10, hv, hh⟩
    obtain ⟨tm, lo4, hp⟩ := s
    have hh : hp = ⟨h.rows, none, h.mods⟩ := hh
    subst hh
    have h0 : gt tm 0 = .str (sl l) := h0
    have h6 : gt tm 6 = .int .i64 (.ofNat q) := h6
    have h5 : gt tm 5 = v := h5
    have h7 : gt tm 7 = .int .i64 (.ofNat kk) := h7
    have h8 : gt tm 8 = .int .i64 (.ofNat nn) := h8
    have h10 : gt tm 10 = .int .i64 (.ofNat i) := h10
    have hv : TkA lo4 k v (ts.map TV) := hv
    obtain ⟨e1, e2⟩ := hkn hq
    have hn := hr_end hq
    rw [← e2] at hn
    obtain ⟨f, rfl⟩ : ∃ f', f = f' + 1 := ⟨f - 1, by omega⟩
    rw [runN_go (ne_drop hq) hok, List.drop_drop, ← e2] at hr1
    refine ww_block ?_
    refine sR2 h6 h8 ?_
    refine sR1 h0 ?_
    refine ww_if (by simp only [gt_pt, reduceIte]; rfl) (fun hq2 => ?_) (fun hq2 => ww_skip ?_)
    ·have hq2 : q + nn < l.length := hq2
     refine ww_call (at19 (L := L) hd hq2 ⟨h.rows, none, h.mods⟩) (fun n hn k => by simp -implicitDefEqProofs (disch := omega) only [go_sem, reduceIte, Nat.reduceEqDiff, h0, clc2 hn (Ex1.str _) (Ex1.int _ _)]; rfl) ?_
     exact ⟨m - nn, by omega, q + nn, f, _, _, by omega, by omega, by omega, (sS1 h0), (sS1 h5), sS, sS, sS, (sS1 h10), hv, rfl, by omega, fun _ => ⟨rfl, rfl⟩⟩
    ·have hq2 : ¬ q + nn < l.length := hq2
     exact ⟨m - nn, by omega, q + nn, f, kk, nn, by omega, by omega, by omega, (sS1 h0), (sS1 h5), sS, (sS1 h7), (sS1 h8), (sS1 h10), hv, rfl, by omega, fun z => absurd z hq2⟩
   ·obtain ⟨tm, lo3, hp⟩ := s
    have hh : hp = ⟨h.rows, none, h.mods⟩ := hh
    subst hh
    have h0 : gt tm 0 = .str (sl l) := h0
    have h6 : gt tm 6 = .int .i64 (.ofNat (i + runL true (l.drop i))) := h6
    have h5 : gt tm 5 = v := h5
    have h10 : gt tm 10 = .int .i64 (.ofNat i) := h10
    have hv : TkA lo3 k v (ts.map TV) := hv
    have e1 := slc_mid (t := 9) U9 hd .i64 .i64 i (i + runL true (l.drop i)) (Nat.le_add_right _ _) hwl.2
    rw [show (l.take (i + runL true (l.drop i))).drop i = w from ew] at e1
    refine ww_seq (ww_reg (fun n k => by simp -implicitDefEqProofs (disch := omega) only [go_sem, reduceIte, Nat.reduceEqDiff, h0, h6, h10, e1]; rfl) ?_)
    refine ww_seq (ww_call (word10 (L := L) hwd ⟨h.rows, none, h.mods⟩) (fun n hn k => by simp -implicitDefEqProofs (disch := omega) only [go_sem, reduceIte, Nat.reduceEqDiff, clc1 hn (Ex1.str _)]; rfl) ?_)
    cases hW : isW (sl w) with
    | true =>
     refine ww_true (by simp -implicitDefEqProofs (disch := omega) only [go_sem, reduceIte, Nat.reduceEqDiff, hW]) ?_
     have hK : nmK w = 2 := by unfold nmK; rw [if_pos hW]
     have hT2 := goes (by unfold nmX; rw [hW]; simp)
     rw [hK] at hT2
     obtain ⟨v', loc', p1, p2⟩ := push13_36 hv (2, w, i) (by omega)
     refine ww_reg (fun n k => by simp -implicitDefEqProofs (disch := omega) only [go_sem, reduceIte, Nat.reduceEqDiff, h5, h10, g13_36, bs8_13, p1]; rfl) ?_
     exact ⟨l.length - (i + runL true (l.drop i)), by omega, i + runL true (l.drop i), ts ++ [(2, w, i)], v', 156, by omega, (sS1 h0), (sS1 h6), sS, p2, by rw [List.length_append]; simp; omega, rfl, by rw [hT2]; show lexR l (i + w.length) _ = _; rw [hwl.1]⟩
    | false =>
     refine ww_false (by simp -implicitDefEqProofs (disch := omega) only [go_sem, reduceIte, Nat.reduceEqDiff, hW]) ?_
     have hK : nmK w = 1 := by unfold nmK; rw [if_neg (by rw [hW]; exact Bool.false_ne_true)]
     refine sQ ?_
     refine ww_if (by simp only [gt_pt, reduceIte]; rfl) (fun hlw => ?_) (fun hlw => ww_skip ?_)
     ·have hlw : 40 < w.length := hlw
      refine sR1 h10 ?_
      exact ww_ret (fin13_bad (fails (i, 141) (by unfold nmX; rw [if_pos ⟨hW, hlw⟩])) sS sS sS rfl)
     ·have hlw : ¬ 40 < w.length := hlw
      have hT2 := goes (by unfold nmX; rw [if_neg (fun z => hlw z.2)])
      rw [hK] at hT2
      obtain ⟨v', loc', p1, p2⟩ := push13_39 hv (1, w, i) (by omega)
      refine ww_reg (fun n k => by simp -implicitDefEqProofs (disch := omega) only [go_sem, reduceIte, Nat.reduceEqDiff, h5, h10, g13_39, bs8_13, p1]; rfl) ?_
      exact ⟨l.length - (i + runL true (l.drop i)), by omega, i + runL true (l.drop i), ts ++ [(1, w, i)], v', 166, by omega, (sS1 h0), (sS1 h6), sS, p2, by rw [List.length_append]; simp; omega, rfl, by rw [hT2]; show lexR l (i + w.length) _ = _; rw [hwl.1]⟩
  have hk2 : kh (l.drop i) ≠ 2 := fun z => hk2 ((k0_2 _).2 z)
  refine sR ?_
  refine ww_if (by simp only [gt_pt, reduceIte]; rfl) (fun hk => ?_) (fun hk3 => ?_)
  ·have hk : kh (l.drop i) = 3 := (k0_3 _).1 hk
   have hpos : 1 ≤ runL false (l.drop i) := runL_pos (ne_drop hi) (by unfold okK; rw [hk]; rfl)
   obtain ⟨w, ew⟩ : ∃ w, nmW false l i = w := ⟨_, rfl⟩
   have hwl := nmW_len false (l := l) (i := i) (Nat.le_of_lt hi)
   have hT : tkT l i = (3, w, i) := by unfold tkT; rw [if_neg hk2, if_pos hk, ew]
   have hX : tkX l i = nuX w i := by unfold tkX; rw [if_neg hk2, if_pos hk, ew]
   rw [hT, hX] at goes
   rw [hX] at fails
   rw [ew] at hwl
   have hwd : Dg 256 w := by rw [← ew]; exact (hd.take _).drop _
   refine ww_joinX (fun s => gt s.tm 0 = .str (sl l) ∧ gt s.tm 5 = v ∧ gt s.tm 6 = .int .i64 (.ofNat (i + runL false (l.drop i))) ∧ gt s.tm 10 = .int .i64 (.ofNat i) ∧ TkA s.loc k v (ts.map TV) ∧ s.hp = ⟨h.rows, none, h.mods⟩) ?_ (fun s ⟨h0, h5, h6, h10, hv, hh⟩ => ?_)
   ·refine ww_for (fun m s => ∃ q f, m + q = l.length ∧ m ≤ f ∧ i ≤ q ∧ gt s.tm 0 = .str (sl l) ∧ gt s.tm 5 = v ∧ gt s.tm 6 = .int .i64 (.ofNat q) ∧ gt s.tm 10 = .int .i64 (.ofNat i) ∧ TkA s.loc k v (ts.map TV) ∧ s.hp = ⟨h.rows, none, h.mods⟩ ∧ i + runL false (l.drop i) = q + runN false f (l.drop q)) (l.length - i)
     ⟨i, (l.drop i).length, by omega, by rw [List.length_drop]; exact Nat.le_refl _, Nat.le_refl _, (sS1 h0), (sS1 h5), (sS1 h6), sS, hv, rfl, rfl⟩ ?_
    intro m s ⟨q, f, hm, hf, hq1, h0, h5, h6, h10, hv, hh, hr1⟩
    obtain ⟨tm, lo3, hp⟩ := s
    have hh : hp = ⟨h.rows, none, h.mods⟩ := hh
    subst hh
    have h0 : gt tm 0 = .str (sl l) := h0
    have h6 : gt tm 6 = .int .i64 (.ofNat q) := h6
    have h5 : gt tm 5 = v := h5
    have h10 : gt tm 10 = .int .i64 (.ofNat i) := h10
    have hv : TkA lo3 k v (ts.map TV) := hv
    refine ww_joinX (fun s => (q < l.length ∧ 48 ≤ l.getD q 0 ∧ l.getD q 0 ≤ 57) ∧ gt s.tm 0 = .str (sl l) ∧ gt s.tm 5 = v ∧ gt s.tm 6 = .int .i64 (.ofNat q) ∧ gt s.tm 10 = .int .i64 (.ofNat i) ∧ TkA s.loc k v (ts.map TV) ∧ s.hp = ⟨h.rows, none, h.mods⟩) ?_ (fun s ⟨⟨hq, hdg⟩, h0, h5, h6, h10, hv, hh⟩ => ?_)
    ·refine ww_joinX (fun s => gt s.tm 184 = .bool (decide (q < l.length ∧ 48 ≤ l.getD q 0 ∧ l.getD q 0 ≤ 57)) ∧ gt s.tm 0 = .str (sl l) ∧ gt s.tm 5 = v ∧ gt s.tm 6 = .int .i64 (.ofNat q) ∧ gt s.tm 10 = .int .i64 (.ofNat i) ∧ TkA s.loc k v (ts.map TV) ∧ s.hp = ⟨h.rows, none, h.mods⟩) ?_ (fun s ⟨h184, h0, h5, h6, h10, hv, hh⟩ => ?_)
     ·by_cases q0 : q < l.length
      ·have i1 := idx_sl hd .i64 q q0
       have d9 : decide (q < l.length) = true := decide_eq_true q0
       obtain ⟨b1, d1⟩ : ∃ b, decide (48 ≤ l.getD q 0) = b := ⟨_, rfl⟩
       obtain ⟨b2, d2⟩ : ∃ b, decide (l.getD q 0 ≤ 57) = b := ⟨_, rfl⟩
       have e : decide (q < l.length ∧ 48 ≤ l.getD q 0 ∧ l.getD q 0 ≤ 57) = (b1 && b2) := by
        rw [← d1, ← d2, Bool.decide_and, Bool.decide_and, d9, Bool.true_and]
       rw [e]
       cases b1 <;> cases b2
       all_goals
        refine ww_reg (fun n k => by simp -implicitDefEqProofs (disch := omega) only [go_sem, reduceIte, Nat.reduceEqDiff, h0, h6, d9, d1, d2, i1, Bool.not_false, Bool.not_true]; rfl) ?_
        exact ⟨(by first | (simp only [gt_pt, reduceIte]; rfl) | (simp only [gt_pt, reduceIte]; done)), (sS1 h0), (sS1 h5), (sS1 h6), (sS1 h10), hv, rfl⟩
      ·have d9 : decide (q < l.length) = false := decide_eq_false q0
       have e : decide (q < l.length ∧ 48 ≤ l.getD q 0 ∧ l.getD q 0 ≤ 57) = false := decide_eq_false (fun z => q0 z.1)
       rw [e]
       refine ww_reg (fun n k => by simp -implicitDefEqProofs (disch := omega) only [go_sem, reduceIte, Nat.reduceEqDiff, h0, h6, d9, Bool.not_false, Bool.not_true]; rfl) ?_
       exact ⟨(by first | (simp only [gt_pt, reduceIte]; rfl) | (simp only [gt_pt, reduceIte]; done)), (sS1 h0), (sS1 h5), (sS1 h6), (sS1 h10), hv, rfl⟩
     refine ww_if h184 (fun hc1 => ww_skip ⟨hc1, h0, h5, h6, h10, hv, hh⟩) (fun hc1 => ww_exit ?_)
     rw [if_pos rfl]
     have hz : runN false f (l.drop q) = 0 := by
      rcases Nat.lt_or_ge q l.length with z | z
      ·refine runN_stop ?_
       have : kh (l.drop q) ≠ 3 := fun z2 => hc1 ⟨z, (kh_dig hd z).1 z2⟩
       unfold okK
       simp [this]
      ·rw [List.drop_eq_nil_of_le z]; exact runN_nil _ _
     rw [hz] at hr1
     rw [hr1]
     exact ⟨h0, h5, h6, h10, hv, hh⟩
    obtain ⟨tm, lo4, hp⟩ := s
    have hh : hp = ⟨h.rows, none, h.mods⟩ := hh
    subst hh
    have h0 : gt tm 0 = .str (sl l) := h0
    have h6 : gt tm 6 = .int .i64 (.ofNat q) := h6
    have h5 : gt tm 5 = v := h5
    have h10 : gt tm 10 = .int .i64 (.ofNat i) := h10
    have hv : TkA lo4 k v (ts.map TV) := hv
    obtain ⟨f, rfl⟩ : ∃ f', f = f' + 1 := ⟨f - 1, by omega⟩
    rw [runN_go (ne_drop hq) (by unfold okK; rw [(kh_dig hd hq).2 hdg]; rfl), List.drop_drop, hr_one hd hq (by omega)] at hr1
    refine ww_block ?_
    refine sE1 h6 ?_
    exact ⟨m - 1, by omega, q + 1, f, by omega, by omega, by omega, (sS1 h0), (sS1 h5), sS, (sS1 h10), hv, rfl, by omega⟩
   ·obtain ⟨tm, lo3, hp⟩ := s
    have hh : hp = ⟨h.rows, none, h.mods⟩ := hh
    subst hh
    have h0 : gt tm 0 = .str (sl l) := h0
    have h6 : gt tm 6 = .int .i64 (.ofNat (i + runL false (l.drop i))) := h6
    have h5 : gt tm 5 = v := h5
    have h10 : gt tm 10 = .int .i64 (.ofNat i) := h10
    have hv : TkA lo3 k v (ts.map TV) := hv
    have e1 := slc_mid (t := 9) U9 hd .i64 .i64 i (i + runL false (l.drop i)) (Nat.le_add_right _ _) hwl.2
    rw [show (l.take (i + runL false (l.drop i))).drop i = w from ew] at e1
    refine ww_seq (ww_reg (fun n k => by simp -implicitDefEqProofs (disch := omega) only [go_sem, reduceIte, Nat.reduceEqDiff, h0, h6, h10, e1]; rfl) ?_)
    refine ww_joinX (fun s => ¬ (1 < w.length ∧ w.getD 0 0 = 48) ∧ gt s.tm 0 = .str (sl l) ∧ gt s.tm 5 = v ∧ gt s.tm 6 = .int .i64 (.ofNat (i + runL false (l.drop i))) ∧ gt s.tm 10 = .int .i64 (.ofNat i) ∧ gt s.tm 12 = .str (sl w) ∧ TkA s.loc k v (ts.map TV) ∧ s.hp = ⟨h.rows, none, h.mods⟩) ?_ (fun s ⟨hn0, h0, h5, h6, h10, h12, hv, hh⟩ => ?_)
    ·refine ww_joinX (fun s => gt s.tm 198 = .bool (decide (1 < w.length ∧ w.getD 0 0 = 48)) ∧ gt s.tm 0 = .str (sl l) ∧ gt s.tm 5 = v ∧ gt s.tm 6 = .int .i64 (.ofNat (i + runL false (l.drop i))) ∧ gt s.tm 10 = .int .i64 (.ofNat i) ∧ gt s.tm 12 = .str (sl w) ∧ TkA s.loc k v (ts.map TV) ∧ s.hp = ⟨h.rows, none, h.mods⟩) ?_ (fun s ⟨h198, h0, h5, h6, h10, h12, hv, hh⟩ => ?_)
     ·by_cases q0 : 1 < w.length
      ·have i1 := idx_sl hwd .i64 0 (by omega)
       have d9 : decide (1 < w.length) = true := decide_eq_true q0
       obtain ⟨b1, d1⟩ : ∃ b, decide (w.getD 0 0 = 48) = b := ⟨_, rfl⟩
       have e : decide (1 < w.length ∧ w.getD 0 0 = 48) = b1 := by rw [← d1, Bool.decide_and, d9, Bool.true_and]
       rw [e]
       cases b1
       all_goals
        refine ww_reg (fun n k => by simp -implicitDefEqProofs (disch := omega) only [go_sem, reduceIte, Nat.reduceEqDiff, d9, d1, i1, Bool.not_false, Bool.not_true]; rfl) ?_
        exact ⟨(by first | (simp only [gt_pt, reduceIte]; rfl) | (simp only [gt_pt, reduceIte]; done)), (sS1 h0), (sS1 h5), (sS1 h6), (sS1 h10), sS, hv, rfl⟩
      ·have d9 : decide (1 < w.length) = false := decide_eq_false q0
       have e : decide (1 < w.length ∧ w.getD 0 0 = 48) = false := decide_eq_false (fun z => q0 z.1)
       rw [e]
       refine ww_reg (fun n k => by simp -implicitDefEqProofs (disch := omega) only [go_sem, reduceIte, Nat.reduceEqDiff, d9, Bool.not_false, Bool.not_true]; rfl) ?_
       exact ⟨(by first | (simp only [gt_pt, reduceIte]; rfl) | (simp only [gt_pt, reduceIte]; done)), (sS1 h0), (sS1 h5), (sS1 h6), (sS1 h10), sS, hv, rfl⟩
     refine ww_if h198 (fun hc1 => ?_) (fun hc1 => ww_skip ⟨hc1, h0, h5, h6, h10, h12, hv, hh⟩)
     refine sR1 h10 ?_
     exact ww_ret (fin13_bad (fails (i, 140) (by unfold nuX; rw [if_pos hc1])) sS sS sS (by rw [hh]))
    obtain ⟨tm, lo4, hp⟩ := s
    have hh : hp = ⟨h.rows, none, h.mods⟩ := hh
    subst hh
    have h0 : gt tm 0 = .str (sl l) := h0
    have h6 : gt tm 6 = .int .i64 (.ofNat (i + runL false (l.drop i))) := h6
    have h5 : gt tm 5 = v := h5
    have h10 : gt tm 10 = .int .i64 (.ofNat i) := h10
    have h12 : gt tm 12 = .str (sl w) := h12
    have hv : TkA lo4 k v (ts.map TV) := hv
    refine sQ1 h12 ?_
    refine ww_if (by simp only [gt_pt, reduceIte]; rfl) (fun hlw => ?_) (fun hlw => ww_skip ?_)
    ·have hlw : 400 < w.length := hlw
     refine sR1 h10 ?_
     exact ww_ret (fin13_bad (fails (i, 141) (by unfold nuX; rw [if_neg hn0, if_pos hlw])) sS sS sS rfl)
    ·have hlw : ¬ 400 < w.length := hlw
     have hT2 := goes (by unfold nuX; rw [if_neg hn0, if_neg hlw])
     obtain ⟨v', loc', p1, p2⟩ := push13_48 hv (3, w, i) (by omega)
     refine ww_reg (fun n k => by simp -implicitDefEqProofs (disch := omega) only [go_sem, reduceIte, Nat.reduceEqDiff, h5, h10, h12, g13_48, bs8_13, p1]; rfl) ?_
     exact ⟨l.length - (i + runL false (l.drop i)), by omega, i + runL false (l.drop i), ts ++ [(3, w, i)], v', 209, by omega, (sS1 h0), (sS1 h6), sS, p2, by rw [List.length_append]; simp; omega, rfl, by rw [hT2]; show lexR l (i + w.length) _ = _; rw [hwl.1]⟩
  have hk3 : kh (l.drop i) ≠ 3 := fun z => hk3 ((k0_3 _).2 z)
  have hT : tkT l i = sgT (l.drop i) i := by unfold tkT; rw [if_neg hk2, if_neg hk3]
  have hX : tkX l i = sgX (l.drop i) i := by unfold tkX; rw [if_neg hk2, if_neg hk3]
  rw [hT, hX] at goes
  rw [hX] at fails
  have hO : Dg 256 (sgO (l.drop i)) := by
   unfold sgO
   cases hz : sgn (l.drop i) with
   | none => exact fun _ hx => by cases hx
   | some a => exact sgs_dg a (sgn_mem hz).1
  refine ww_seq (ww_call (sign20 (L := L) (hd.drop i) ⟨h.rows, none, h.mods⟩) (fun n hn k => by simp -implicitDefEqProofs (disch := omega) only [go_sem, reduceIte, Nat.reduceEqDiff, h0, h6, slc_str hd .i64 i (Nat.le_of_lt hi), clc1 hn (Ex1.str _)]; rfl) ?_)
  refine ww_seq (ww_seq (ww_reg (fun n k => by simp -implicitDefEqProofs (disch := omega) only [go_sem, reduceIte, Nat.reduceEqDiff, eq_nil 9 true hO]; rfl) ?_))
  refine ww_if (by simp only [gt_pt, reduceIte]; rfl) (fun hz => ?_) (fun hz => ww_skip ?_)
  ·have hz : sgn (l.drop i) = none := (sgO_nil _).1 hz
   refine sR1 h6 ?_
   exact ww_ret (fin13_bad (fails (i, 140) (by unfold sgX; rw [hz])) sS sS sS rfl)
  ·have hz : ¬ sgO (l.drop i) = [] := hz
   obtain ⟨a, ea⟩ : ∃ a, sgn (l.drop i) = some a := by
    cases hq : sgn (l.drop i) with
    | none => exact absurd ((sgO_nil _).2 hq) hz
    | some a => exact ⟨a, rfl⟩
   have eO : sgO (l.drop i) = a := by unfold sgO; rw [ea]
   have hT2 := goes (by unfold sgX; rw [ea])
   rw [show sgT (l.drop i) i = (4, a, i) by unfold sgT; rw [ea]] at hT2
   rw [eO]
   have hal := beg_len (sgn_mem ea).2
   rw [List.length_drop] at hal
   have hap := sgs_pos a (sgn_mem ea).1
   obtain ⟨v', loc', p1, p2⟩ := push13_26 hv (4, a, i) (by omega)
   refine sR1 h6 ?_
   refine ww_reg (fun n k => by simp -implicitDefEqProofs (disch := omega) only [go_sem, reduceIte, Nat.reduceEqDiff, h5, g13_26, bs8_13, p1]; rfl) ?_
   exact ⟨l.length - (i + a.length), by omega, i + a.length, ts ++ [(4, a, i)], v', 114, by omega, (sS1 h0), sS, sS, p2, by rw [List.length_append]; simp; omega, rfl, hT2⟩
 ·obtain ⟨tm, loc, hp⟩ := s
  have hh : hp = ⟨h.rows, none, h.mods⟩ := hh
  subst hh
  have h0 : gt tm 0 = .str (sl l) := h0
  have h5 : gt tm 5 = v := h5
  have hv : TkA loc k v (ts.map TV) := hv
  obtain ⟨v', loc', p1, p2⟩ := push13_49 hv (0, [], l.length) (by omega)
  have p1 : ∀ (c : CallF) (t : Tm) (h : Hp) (j : V → Lo → Hp → R), go2 Tryd.f13 13 49 5 210 214 v (.slice none true 3 [.agg [.int .i64 (.ofNat 0), .str ⟨0, 0⟩, .int .i64 (.ofNat l.length)]]) c t loc h j = j v' loc' h := p1
  refine ww_seq (ww_reg (fun n k => by simp -implicitDefEqProofs (disch := omega) only [go_sem, reduceIte, Nat.reduceEqDiff, h0, h5, g13_49, bs8_9, p1]; rfl) ?_)
  rcases p2 with ⟨q, _⟩ | ⟨_, g, rfl, _⟩
  ·simp at q
  ·exact ww_ret (fin13_ok (g := g) he sS sS sS rfl)
end Go.AM.S
end

section
namespace Go.AM.S
open Go Go.AM Go.Proofs NumL
open _root_.Go.AM.G (R)
set_option maxRecDepth 100000
open Go.Proofs.YtjldfkldmfmkiaaDoor
variable {L : List (Nat × Int × Int)}
theorem tbl5 : tbl 5 = some ⟨rc5, [.tmp 8]⟩ := by kernel_rfl
theorem kn5 : kn L 5 = none := by kernel_rfl
theorem kn7' : Runs Pg (kn L) tbl 7 [] noHp (.val (.bool true) noHp) := runs_known (k := cached (.val (.bool true) noHp)) (by kernel_rfl) (fun _ => rfl)
def encB (z : Int) : List Nat := (Utf8.encode z).data.toList.map UInt8.toNat
theorem encB_dg (z : Int) : Dg 256 (encB z) := bytes_dg _
theorem encB_len (z : Int) : (encB z).length ≤ 4 := by
 unfold encB
 rw [List.length_map]
 unfold Utf8.encode
 dsimp only
 generalize (if Utf8.valid z then z.toNat else Utf8.runeError) = c
 split
 ·simp
 ·split
  ·simp
  ·split <;> simp
theorem c5_8_3 (c : Nat) (hc : c < 256) (call : CallF) (t : Tm) (l : Lo) (h : Hp) (j : V → Lo → Hp → R) : go1 Tryd.f5 5 8 3 28 (.slice none true 1 [.int .u8 (.ofNat c)]) call t l h j = j (.str (sl [c])) l h :=
 gen_text (P := Pg) (C := Cg) (gl := Cg.glob 5) (call := call) (o := opA Tryd.f5 8 3) (d := 29) (s := 22) (t := 9) (e := 5) (w := .slice none true 1 [.int .u8 (.ofNat c)]) (l := [c]) (x := 28) (loc := l) (hp := h) (tm := t) (by kernel_rfl) (by kernel_rfl) U22 U9 U5 (fun q e => by cases e) (fun tm => rfl) (fun x hx => by simp at hx; omega)
theorem c5_8_6 (z : Int) (call : CallF) (t : Tm) (l : Lo) (h : Hp) (j : V → Lo → Hp → R) : go1 Tryd.f5 5 8 6 31 (.int .i32 z) call t l h j = j (.str (sl (encB z))) l h := by
 have e : Str.of (Utf8.encode z) = sl (encB z) := of_sl _
 have hx : gt (pt .lf 31 (.int .i32 z)) 31 = .int .i32 z := by rw [gt_pt, if_pos rfl]
 have ho : (opA Tryd.f5 8 6).op = .convert 21 9 (.tmp 31) := by kernel_rfl
 refine gen_val (P := Pg) (C := Cg) (t' := pt .lf 31 (.int .i32 z)) (tm := t) (loc := l) (hp := h) (j := j) (gl := Cg.glob 5) (call := call) (o := opA Tryd.f5 8 6) (v := .str (sl (encB z))) (st := ⟨pt .lf 31 (.int .i32 z), l, h⟩) (d := 32) (by kernel_rfl) ?_
 unfold stepV locV
 simp only [ho, pureV, opd_gt, hx, convV, U21, U9, Option.map_some, e]
 rfl
theorem bs5 (c' : Int) : bs Pg 22 1 [(0, .int .u8 c')] = some (.slice none true 1 [.int .u8 c']) := by kernel_rfl
theorem cmt2 : (⟨2, 10792⟩ : Str) = sl [40, 42] := by decide
theorem x1 : (⟨1, 120⟩ : Str) = sl [120] := by decide
theorem law5 {l : List Nat} {c : Nat} (hd : Dg 256 l) (hc : c < 256) (z : Int) (q : Bool) : Runs Pg (kn L) tbl 5 [.str (sl l), .int .u8 (.ofNat c), .int .i32 z, .bool q] noHp (.val (.bool true) noHp) := by
 have fin_t : ∀ (s : St), gt s.tm 8 = .bool true → s.hp.dirty = none → fin Pg noHp [.tmp 8] s = some (.val (.bool true) noHp) :=
  fun s h4 hh => fin_tmp (v := .bool true) h4 rfl hh rfl
 refine runs_of_ww kn5 tbl5 ?_
 unfold rc5
 refine sR ?_
 have hk7 : Runs Pg (kn L) tbl 7 [] ⟨noHp.rows, none, noHp.mods⟩ (.val (.bool true) ⟨noHp.rows, none, noHp.mods⟩) := kn7'
 refine ww_seq (ww_seq (ww_call (hk7) (fun n hn k => by simp -implicitDefEqProofs (disch := omega) only [go_sem, reduceIte, Nat.reduceEqDiff, clc0 hn, Bool.not_true]; rfl) ?_))
 refine ww_false sS (ww_skip ?_)
 refine sQG ?_
 refine ww_if (by simp only [gt_pt, reduceIte]; rfl) (fun hl => ?_) (fun hl => ww_skip ?_)
 ·refine sR ?_
  exact ww_ret (fin_t _ sS rfl)
 have hl : ¬ 200 < l.length := hl
 refine sRG ?_
 refine ww_joinX (fun s => ∃ l2, Dg 256 l2 ∧ l2.length ≤ 202 ∧ gt s.tm 9 = .str (sl l2) ∧ gt s.tm 1 = .int .u8 (.ofNat c) ∧ gt s.tm 2 = .int .i32 z ∧ s.hp = ⟨noHp.rows, none, noHp.mods⟩) ?_ (fun s ⟨l2, hd2, hl2, h9, h1, h2, hh⟩ => ?_)
 ·refine sRG ?_
  cases q with
  | true =>
   refine ww_true sS ?_
   have e := add_str 9 true (a := [40, 42]) (b := l) (show Dg 256 [40, 42] from show ∀ x ∈ [40, 42], x < 256 by decide) (by simp; omega)
   refine ww_reg (fun n k => by simp -implicitDefEqProofs (disch := omega) only [go_sem, reduceIte, Nat.reduceEqDiff, cmt2, e]; rfl) ?_
   exact ⟨[40, 42] ++ l, fun x hx => by
    rcases List.mem_append.1 hx with w | w
    ·simp at w; omega
    ·exact hd x w, by simp; omega, sS, sSG, sSG, rfl⟩
  | false =>
   exact ww_false sS (ww_skip ⟨l, hd, by omega, sS, sSG, sSG, rfl⟩)
 obtain ⟨tm, loc, hp⟩ := s
 have hh : hp = ⟨noHp.rows, none, noHp.mods⟩ := hh
 subst hh
 have h9 : gt tm 9 = .str (sl l2) := h9
 have h1 : gt tm 1 = .int .u8 (.ofNat c) := h1
 have h2 : gt tm 2 = .int .i32 z := h2
 have hlen := encB_len z
 have dc : Dg 256 [c] := fun x hx => by simp at hx; omega
 have app : ∀ {a b : List Nat}, Dg 256 a → Dg 256 b → Dg 256 (a ++ b) := fun ha hb x hx => by
  rcases List.mem_append.1 hx with w | w
  ·exact ha x w
  ·exact hb x w
 have d1 := app hd2 dc
 have d2 := app d1 (encB_dg z)
 have d3 := app d2 (show Dg 256 [120] from show ∀ x ∈ [120], x < 256 by decide)
 have a1 := add_str 9 false (a := l2) (b := [c]) hd2 (by simp; omega)
 have a2 := add_str 9 false (a := l2 ++ [c]) (b := encB z) d1 (by simp; omega)
 have a3 := add_str 9 true (a := l2 ++ [c] ++ encB z) (b := [120]) d2 (by simp; omega)
 refine ww_seq (ww_reg (fun n k => by simp -implicitDefEqProofs (disch := omega) only [go_sem, reduceIte, Nat.reduceEqDiff, h9, h1, h2, bs5, c5_8_3 c hc, c5_8_6, a1, a2, x1, a3]; rfl) ?_)
 have hT : (l2 ++ [c] ++ encB z ++ [120]).length ≤ 65536 := by simp; omega
 generalize l2 ++ [c] ++ encB z ++ [120] = T at d3 hT ⊢
 obtain ⟨o, t8, ho⟩ := tokens8 (L := L) d3 hT ⟨noHp.rows, none, noHp.mods⟩
 unfold tkOut at ho
 have r13 := fun (h : Hp) => ref13 (L := L) d3 hT h
 unfold rOut at r13
 obtain ⟨y, ey⟩ : ∃ y, lexT T = y := ⟨_, rfl⟩
 rw [ey] at ho r13
 obtain ⟨ts, e⟩ := y
 cases e with
 | none =>
  have ho : o = .val (.tuple [.slice none false 3 (ts.map TV), .nili]) ⟨noHp.rows, none, noHp.mods⟩ := ho
  subst ho
  have r13 : Runs Pg (kn L) tbl 13 [.str (sl T)] ⟨noHp.rows, none, noHp.mods⟩ (.val (.tuple [.slice none false 3 (ts.map TV), .int .i64 (.ofNat 0), .int .i64 (.ofNat 0)]) ⟨noHp.rows, none, noHp.mods⟩) := r13 _
  have hts : ts.length ≤ 1000000 := by
   have := lexA_len _ T 0 [] ts (Nat.zero_le _) ey
   rw [List.length_nil] at this
   omega
  refine ww_seq (ww_call (t8) (fun n hn k => by simp -implicitDefEqProofs (disch := omega) only [go_sem, reduceIte, Nat.reduceEqDiff, clc1 hn (Ex1.str _)]; rfl) ?_)
  refine ww_seq (ww_call (told12n (L := L) ⟨noHp.rows, none, noHp.mods⟩) (fun n hn k => by simp -implicitDefEqProofs (disch := omega) only [go_sem, reduceIte, Nat.reduceEqDiff, clc1 hn (fun _ => rfl)]; rfl) ?_)
  refine ww_seq (ww_call (r13) (fun n hn k => by simp -implicitDefEqProofs (disch := omega) only [go_sem, reduceIte, Nat.reduceEqDiff, clc1 hn (Ex1.str _)]; rfl) ?_)
  have z0 : decide ((0 : Nat) = 0) = true := by decide
  refine ww_seq (ww_call (tokens14 (L := L) ts hts ⟨noHp.rows, none, noHp.mods⟩) (fun n hn k => by simp -implicitDefEqProofs (disch := omega) only [go_sem, reduceIte, Nat.reduceEqDiff, z0, Bool.not_false, Bool.not_true, clc2 hn (fun _ => rfl) (fun _ => rfl)]; rfl) ?_)
  exact ww_ret (fin_t _ sS rfl)
 | some e =>
  obtain ⟨p, cd⟩ := e
  obtain ⟨k, ho⟩ : ∃ k, o = .val (.tuple [.nils, FtV 1]) ⟨[LxR T k, FtR p cd], none, noHp.mods⟩ := ho
  subst ho
  have r13 := r13 ⟨[LxR T k, FtR p cd], none, noHp.mods⟩
  have t12 := told12 (L := L) (r := 1) (p := p) (e := cd) (h := ⟨[LxR T k, FtR p cd], none, noHp.mods⟩) rfl
  refine ww_seq (ww_call (t8) (fun n hn k => by simp -implicitDefEqProofs (disch := omega) only [go_sem, reduceIte, Nat.reduceEqDiff, clc1 hn (Ex1.str _)]; rfl) ?_)
  refine ww_seq (ww_call (t12) (fun n hn k => by simp -implicitDefEqProofs (disch := omega) only [go_sem, reduceIte, Nat.reduceEqDiff, clc1 hn (fun _ => rfl)]; rfl) ?_)
  refine ww_seq (ww_call (r13) (fun n hn k => by simp -implicitDefEqProofs (disch := omega) only [go_sem, reduceIte, Nat.reduceEqDiff, clc1 hn (Ex1.str _)]; rfl) ?_)
  have z0 : ∀ n : Nat, decide (n = n) = true := fun n => decide_eq_true rfl
  refine ww_seq (ww_call (tokens14n (L := L) ⟨[LxR T k, FtR p cd], none, noHp.mods⟩) (fun n hn k => by simp -implicitDefEqProofs (disch := omega) only [go_sem, reduceIte, Nat.reduceEqDiff, z0, Bool.not_false, Bool.not_true, clc2 hn (fun _ => rfl) (fun _ => rfl)]; rfl) ?_)
  exact ww_ret (fin_t _ sS rfl)
end Go.AM.S
end
