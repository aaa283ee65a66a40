/- Part Wc of the proof: what it says stands at its theorems. -/
import Derived.Test.YtjldfkldmfmkiaaDoorWb
set_option linter.unusedVariables false
set_option linter.unusedSimpArgs false
set_option linter.unusedSectionVars false
section
namespace Go.AM.S
open Go Go.AM Go.Proofs NumL
open _root_.Go.AM.G (R)
set_option linter.unusedVariables false
set_option linter.unusedSimpArgs false
set_option maxRecDepth 100000
open Go.Proofs.YtjldfkldmfmkiaaDoor
/- The plain law of the lexer: decoding looks at its own bytes only. -/
def decF (a0 a1 a2 a3 : Nat) (c1 c2 c3 : Bool) : Nat × Nat :=
  if a0 < 128 then (a0, 1)
  else if (a0 / 32 == 6 && c1) = true then (if (a0 % 32) * 64 + a1 % 64 ≥ 128 then ((a0 % 32) * 64 + a1 % 64, 2) else (65533, 1))
  else if (a0 / 16 == 14 && c1 && c2) = true then (if ((a0 % 16) * 4096 + (a1 % 64) * 64 + a2 % 64 ≥ 2048 && Utf8.valid (((a0 % 16) * 4096 + (a1 % 64) * 64 + a2 % 64 : Nat) : Int)) = true then ((a0 % 16) * 4096 + (a1 % 64) * 64 + a2 % 64, 3) else (65533, 1))
  else if (a0 / 8 == 30 && c1 && c2 && c3) = true then (if ((a0 % 8) * 262144 + (a1 % 64) * 4096 + (a2 % 64) * 64 + a3 % 64 ≥ 65536 && Utf8.valid (((a0 % 8) * 262144 + (a1 % 64) * 4096 + (a2 % 64) * 64 + a3 % 64 : Nat) : Int)) = true then ((a0 % 8) * 262144 + (a1 % 64) * 4096 + (a2 % 64) * 64 + a3 % 64, 4) else (65533, 1))
  else (65533, 1)
def cont (W : List Nat) (k : Nat) : Bool := decide (k < W.length) && W.getD k 0 / 64 == 2
def decL (W : List Nat) : Nat × Nat := decF (W.getD 0 0) (W.getD 1 0) (W.getD 2 0) (W.getD 3 0) (cont W 1) (cont W 2) (cont W 3)
theorem get_sl {l : List Nat} (h : Dg 256 l) (k : Nat) : ((sl l).bytes.get! k).toNat = l.getD k 0 := by
  by_cases hk : k < l.length
  · obtain ⟨b, h1, h2⟩ := (sl l).get_spec hk
    rw [sl_get h k] at h2
    have : (sl l).bytes.data[k]? = some b := by rw [← Array.getElem?_toList]; exact h1
    have h4 : (sl l).bytes.get! k = b := by
      show (sl l).bytes.data[k]! = b
      rw [getElem!_def, this]
    rw [h4]; exact h2.symm
  · have hs : (sl l).bytes.size = l.length := Str.bytes_size _
    have : (sl l).bytes.data[k]? = none := by rw [Array.getElem?_eq_none]; show (sl l).bytes.size ≤ k; omega
    have h4 : (sl l).bytes.get! k = 0 := by
      show (sl l).bytes.data[k]! = 0
      rw [getElem!_def, this]; rfl
    rw [h4, List.getD_eq_getElem?_getD, List.getElem?_eq_none (by omega)]; rfl
theorem hr_decL {l : List Nat} (hd : Dg 256 l) (h : l ≠ []) : hr l = decL l := by
  rw [(hr_dec h).1]
  have hs : (sl l).bytes.size = l.length := Str.bytes_size _
  unfold Utf8.decode decL decF cont
  simp only [Nat.zero_add, get_sl hd, hs]
  rfl
theorem decF_loc {a0 a1 a2 a3 b1 b2 b3 : Nat} {c1 c2 c3 d1 d2 d3 : Bool} {r s : Nat} (h : decF a0 a1 a2 a3 c1 c2 c3 = (r, s)) (hv : ¬ (r = 65533 ∧ s = 1))
    (h1 : 1 < s → b1 = a1 ∧ d1 = c1) (h2 : 2 < s → b2 = a2 ∧ d2 = c2) (h3 : 3 < s → b3 = a3 ∧ d3 = c3) : decF a0 b1 b2 b3 d1 d2 d3 = (r, s) := by
  unfold decF at h ⊢
  by_cases q0 : a0 < 128
  · rw [if_pos q0] at h ⊢; exact h
  rw [if_neg q0] at h ⊢
  by_cases q1 : (a0 / 32 == 6 && c1) = true
  · rw [if_pos q1] at h
    split at h
    · cases h
      obtain ⟨rfl, rfl⟩ := h1 (by decide)
      rw [if_pos q1]
      rename_i hc
      rw [if_pos hc]
    · cases h; exact absurd ⟨rfl, rfl⟩ hv
  rw [if_neg q1] at h
  by_cases q2 : (a0 / 16 == 14 && c1 && c2) = true
  · rw [if_pos q2] at h
    have e0 : a0 / 16 = 14 := by simp at q2; exact q2.1.1
    have e1 : (a0 / 32 == 6) = false := by rw [beq_eq_false_iff_ne]; omega
    split at h
    · cases h
      obtain ⟨rfl, rfl⟩ := h1 (by decide)
      obtain ⟨rfl, rfl⟩ := h2 (by decide)
      rw [e1, Bool.false_and, if_neg Bool.false_ne_true, if_pos q2]
      rename_i hc
      rw [if_pos hc]
    · cases h; exact absurd ⟨rfl, rfl⟩ hv
  rw [if_neg q2] at h
  by_cases q3 : (a0 / 8 == 30 && c1 && c2 && c3) = true
  · rw [if_pos q3] at h
    have e0 : a0 / 8 = 30 := by simp at q3; exact q3.1.1.1
    have e1 : (a0 / 32 == 6) = false := by rw [beq_eq_false_iff_ne]; omega
    have e2 : (a0 / 16 == 14) = false := by rw [beq_eq_false_iff_ne]; omega
    split at h
    · cases h
      obtain ⟨rfl, rfl⟩ := h1 (by decide)
      obtain ⟨rfl, rfl⟩ := h2 (by decide)
      obtain ⟨rfl, rfl⟩ := h3 (by decide)
      rw [e1, Bool.false_and, if_neg Bool.false_ne_true, e2, Bool.false_and, Bool.false_and, if_neg Bool.false_ne_true, if_pos q3]
      rename_i hc
      rw [if_pos hc]
    · cases h; exact absurd ⟨rfl, rfl⟩ hv
  · rw [if_neg q3] at h; cases h; exact absurd ⟨rfl, rfl⟩ hv
/-- a rune's decoding looks at its own bytes only -/
theorem hr_loc {W V : List Nat} (hW : Dg 256 W) (hV : Dg 256 V) (hne : W ≠ []) (h5 : kh W ≠ 5) {n : Nat} (hn : (hr W).2 ≤ n) : hr (W.take n ++ V) = hr W := by
  have hp := hr_pos hne
  have hle := hr_le (l := W)
  have hl0 := List.length_pos_iff.2 hne
  have hne2 : W.take n ++ V ≠ [] := by
    intro e
    have := congrArg List.length e
    rw [List.length_append, List.length_take, List.length_nil] at this
    omega
  have hd2 : Dg 256 (W.take n ++ V) := by
    intro x hx
    rcases List.mem_append.1 hx with q | q
    · exact hW x (List.mem_of_mem_take q)
    · exact hV x q
  have gd : ∀ k, k < n → k < W.length → (W.take n ++ V).getD k 0 = W.getD k 0 := by
    intro k h1 h2
    rw [List.getD_eq_getElem?_getD, List.getD_eq_getElem?_getD, List.getElem?_append_left (by rw [List.length_take]; omega), List.getElem?_take_of_lt h1]
  have ct : ∀ k, k < n → k < W.length → cont (W.take n ++ V) k = cont W k := by
    intro k h1 h2
    unfold cont
    rw [gd k h1 h2, decide_eq_true h2, decide_eq_true (show k < (W.take n ++ V).length by rw [List.length_append, List.length_take]; omega)]
  have hh : decL W = ((hr W).1, (hr W).2) := (hr_decL hW hne).symm
  rw [hr_decL hd2 hne2]
  have hv : ¬ ((hr W).1 = 65533 ∧ (hr W).2 = 1) := fun q => h5 ((kd5 _ _).2 q)
  unfold decL at hh ⊢
  rw [gd 0 (by omega) hl0]
  exact decF_loc (r := (hr W).1) (s := (hr W).2) hh hv (fun q => ⟨gd 1 (by omega) (by omega), ct 1 (by omega) (by omega)⟩) (fun q => ⟨gd 2 (by omega) (by omega), ct 2 (by omega) (by omega)⟩) (fun q => ⟨gd 3 (by omega) (by omega), ct 3 (by omega) (by omega)⟩)
end Go.AM.S
end

section
namespace Go.AM.S
open Go Go.AM Go.Proofs NumL
open _root_.Go.AM.G (R)
set_option linter.unusedVariables false
set_option linter.unusedSimpArgs false
set_option maxRecDepth 100000
open Go.Proofs.YtjldfkldmfmkiaaDoor
theorem hr_asc {c : Nat} {W : List Nat} (hW : Dg 256 (c :: W)) (hc : c < 128) : hr (c :: W) = (c, 1) := by
  rw [hr_decL hW (by simp)]
  unfold decL decF
  rw [List.getD_cons_zero, if_pos hc]
theorem kh_asc {c : Nat} {W : List Nat} (hW : Dg 256 (c :: W)) (hc : c < 128) : kh (c :: W) = kd c 1 := by
  unfold kh
  rw [hr_asc hW hc]
theorem okK5 {b : Bool} {k : Nat} (h : okK b k = true) : k ≠ 5 := by
  intro e
  subst e
  unfold okK at h
  cases b <;> simp at h
/-- what a run of names or digits takes, it takes again where it is cut off -/
theorem runN_loc (b : Bool) : ∀ (f : Nat) (W : List Nat), Dg 256 W → W.length ≤ f → ∀ V : List Nat, Dg 256 V → (V = [] ∨ okK b (kh V) = false) → ∀ g, (W.take (runN b f W) ++ V).length ≤ g → runN b g (W.take (runN b f W) ++ V) = runN b f W := by
  intro f
  have base : ∀ (V : List Nat) (g : Nat), (V = [] ∨ okK b (kh V) = false) → runN b g V = 0 := by
    intro V g hv
    rcases hv with rfl | h
    · exact runN_nil b g
    · exact runN_stop h
  induction f with
  | zero =>
    intro W _ hl V _ hv g _
    have : W = [] := List.length_eq_zero_iff.1 (by omega)
    subst this
    exact base V g hv
  | succ f ih =>
    intro W hW hl V hV hv g hg
    by_cases hne : W = []
    · subst hne
      rw [runN_nil] at hg ⊢
      exact base V g hv
    cases hk : okK b (kh W) with
    | false =>
      rw [runN_stop hk] at hg ⊢
      exact base V g hv
    | true =>
      have e := runN_go (f := f) hne hk
      obtain ⟨s, es⟩ : ∃ s, (hr W).2 = s := ⟨_, rfl⟩
      obtain ⟨n, en⟩ : ∃ n, runN b f (W.drop s) = n := ⟨_, rfl⟩
      have hp := hr_pos hne
      have hle := hr_le (l := W)
      rw [es] at e hp hle
      rw [en] at e
      have hloc := hr_loc hW hV hne (okK5 hk) (n := s + n) (by omega)
      rw [e] at hg ⊢
      have hkk : kh (W.take (s + n) ++ V) = kh W := by unfold kh; rw [hloc]
      have hl1 : 1 ≤ (W.take (s + n) ++ V).length := by
        have := List.length_pos_iff.2 hne
        rw [List.length_append, List.length_take]; omega
      obtain ⟨g', rfl⟩ : ∃ g', g = g' + 1 := ⟨g - 1, by omega⟩
      have hnw : W.take (s + n) ++ V ≠ [] := List.length_pos_iff.1 hl1
      rw [runN_go hnw (by rw [hkk]; exact hk), hloc, es]
      have hdr : (W.take (s + n) ++ V).drop s = (W.drop s).take n ++ V := by
        rw [List.drop_append_of_le_length (by rw [List.length_take]; omega), List.drop_take, Nat.add_sub_cancel_left]
      rw [hdr]
      have q := ih (W.drop s) (hW.drop s) (by rw [List.length_drop]; omega) V hV hv g' (by
        rw [en, ← hdr, List.length_drop]; omega)
      rw [en] at q
      rw [q]
theorem runL_loc (b : Bool) {W V : List Nat} (hW : Dg 256 W) (hV : Dg 256 V) (hv : V = [] ∨ okK b (kh V) = false) : runL b (W.take (runL b W) ++ V) = runL b W :=
  runN_loc b W.length W hW (Nat.le_refl _) V hV hv _ (Nat.le_refl _)
theorem cmt_asc {f : Nat} {b : Bool} {p c : Nat} {W : List Nat} (hW : Dg 256 (c :: W)) (hc : c < 128) : cmt (f + 1) b p (c :: W) = if b && decide (c = 41) then (0, p + 1) else cmt f (decide (c = 42)) (p + 1) W := by
  have e : cmt (f + 1) b p (c :: W) = if (c :: W) = [] then (2, 0) else if kh (c :: W) = 5 then (1, p) else if b && decide ((hr (c :: W)).1 = 41) then (0, p + 1) else cmt f (decide ((hr (c :: W)).1 = 42)) (p + (hr (c :: W)).2) ((c :: W).drop (hr (c :: W)).2) := rfl
  rw [e, if_neg (by simp), kh_asc hW hc, hr_asc hW hc, if_neg (by rw [kd5]; omega)]
  rfl
end Go.AM.S
end

section
namespace Go.AM.S
open Go Go.AM Go.Proofs NumL
open _root_.Go.AM.G (R)
set_option linter.unusedVariables false
set_option linter.unusedSimpArgs false
set_option maxRecDepth 100000
open Go.Proofs.YtjldfkldmfmkiaaDoor
/-- past blanks and comments, on the rest of a text -/
def blkS : Nat → List Nat → Option (List Nat)
  | 0, W => some W
  | f + 1, W => if W = [] then some [] else if beg [40, 42] W = true then (match cmt (W.drop 2).length.succ false 0 (W.drop 2) with
    | (0, e) => blkS f (W.drop (2 + e))
    | (_, _) => none) else if kh W = 1 then blkS f (W.drop 1) else some W
theorem blkS_nil (f : Nat) : blkS f [] = some [] := by cases f <;> rfl
theorem blkS_fuel : ∀ (f : Nat) (W : List Nat) (g : Nat), W.length < f → W.length < g → blkS f W = blkS g W := by
  intro f
  induction f with
  | zero => intro W g h; omega
  | succ f ih =>
    intro W g h1 h2
    obtain ⟨g', rfl⟩ : ∃ g', g = g' + 1 := ⟨g - 1, by omega⟩
    show (if W = [] then _ else _) = (if W = [] then _ else _)
    by_cases h : W = []
    · rw [if_pos h, if_pos h]
    rw [if_neg h, if_neg h]
    have hl := List.length_pos_iff.2 h
    by_cases hb : beg [40, 42] W = true
    · rw [if_pos hb, if_pos hb]
      obtain ⟨a, ea⟩ : ∃ a, cmt (W.drop 2).length.succ false 0 (W.drop 2) = a := ⟨_, rfl⟩
      rw [ea]
      obtain ⟨a1, a2⟩ := a
      match a1, ea with
      | 0, ea => exact ih _ g' (by rw [List.length_drop]; omega) (by rw [List.length_drop]; omega)
      | n + 1, ea => rfl
    · rw [if_neg hb, if_neg hb]
      by_cases hk : kh W = 1
      · rw [if_pos hk, if_pos hk]
        exact ih _ g' (by rw [List.length_drop]; omega) (by rw [List.length_drop]; omega)
      · rw [if_neg hk, if_neg hk]
/-- the same past blanks as in the text -/
theorem blk_S : ∀ (f : Nat) (l : List Nat) (i : Nat), i ≤ l.length → (∀ W, blkS f (l.drop i) = some W → ∃ j, blk f l i = (j, none) ∧ W = l.drop j ∧ j ≤ l.length) ∧ (blkS f (l.drop i) = none → ∃ j e, blk f l i = (j, some e)) := by
  intro f
  induction f with
  | zero => intro l i hi; exact ⟨fun W h => ⟨i, rfl, (by cases h; rfl), hi⟩, fun h => by cases h⟩
  | succ f ih =>
    intro l i hi
    have hb : blk (f + 1) l i = if i < l.length then (if beg [40, 42] (l.drop i) = true then (match cmtO l i with
      | (j, none) => blk f l j
      | (j, some e) => (j, some e)) else if kh (l.drop i) = 1 then blk f l (i + 1) else (i, none)) else (i, none) := rfl
    have hs : blkS (f + 1) (l.drop i) = if l.drop i = [] then some [] else if beg [40, 42] (l.drop i) = true then (match cmt ((l.drop i).drop 2).length.succ false 0 ((l.drop i).drop 2) with
      | (0, e) => blkS f ((l.drop i).drop (2 + e))
      | (_, _) => none) else if kh (l.drop i) = 1 then blkS f ((l.drop i).drop 1) else some (l.drop i) := rfl
    rw [hb, hs]
    by_cases h1 : i < l.length
    · have hne : l.drop i ≠ [] := by intro e; have := congrArg List.length e; rw [List.length_drop, List.length_nil] at this; omega
      rw [if_pos h1, if_neg hne]
      by_cases h2 : beg [40, 42] (l.drop i) = true
      · rw [if_pos h2, if_pos h2]
        have hb2 := beg_len h2
        rw [List.length_drop] at hb2
        have hb2 : 2 ≤ l.length - i := hb2
        have e1 : (l.drop i).drop 2 = l.drop (i + 2) := List.drop_drop
        rw [e1]
        unfold cmtO
        obtain ⟨a, ea⟩ : ∃ a, cmt (l.drop (i + 2)).length.succ false 0 (l.drop (i + 2)) = a := ⟨_, rfl⟩
        rw [ea]
        obtain ⟨a1, a2⟩ := a
        match a1, ea with
        | 0, ea =>
          have q := cmt_ok _ _ _ _ _ ea
          rw [List.length_drop] at q
          have e2 : (l.drop i).drop (2 + a2) = l.drop (i + 2 + a2) := by rw [List.drop_drop]; congr 1; omega
          show (∀ W, blkS f ((l.drop i).drop (2 + a2)) = some W → ∃ j, blk f l (i + 2 + a2) = (j, none) ∧ W = l.drop j ∧ j ≤ l.length) ∧ (blkS f ((l.drop i).drop (2 + a2)) = none → ∃ j e, blk f l (i + 2 + a2) = (j, some e))
          rw [e2]
          exact ih l (i + 2 + a2) (by omega)
        | 1, ea => exact ⟨fun W h => (by cases h), fun _ => ⟨_, _, rfl⟩⟩
        | n + 2, ea => exact ⟨fun W h => (by cases h), fun _ => ⟨_, _, rfl⟩⟩
      · rw [if_neg h2, if_neg h2]
        by_cases h3 : kh (l.drop i) = 1
        · rw [if_pos h3, if_pos h3]
          have e1 : (l.drop i).drop 1 = l.drop (i + 1) := List.drop_drop
          rw [e1]
          exact ih l (i + 1) (by omega)
        · rw [if_neg h3, if_neg h3]
          exact ⟨fun W h => ⟨i, rfl, (by cases h; rfl), hi⟩, fun h => by cases h⟩
    · have he : l.drop i = [] := List.drop_eq_nil_of_le (by omega)
      rw [if_neg h1, if_pos he]
      exact ⟨fun W h => ⟨i, rfl, (by cases h; exact he.symm), hi⟩, fun h => by cases h⟩
/-- the token at a text's head -/
def tokS (W : List Nat) : Option (Nat × List Nat) :=
  if kh W = 2 then (if isW (sl (W.take (runL true W))) = false ∧ 40 < (W.take (runL true W)).length then none else some (nmK (W.take (runL true W)), W.take (runL true W)))
  else if kh W = 3 then (if 1 < (W.take (runL false W)).length ∧ (W.take (runL false W)).getD 0 0 = 48 then none else if 400 < (W.take (runL false W)).length then none else some (3, W.take (runL false W)))
  else (sgn W).map fun s => (4, s)
theorem nmW_eq (b : Bool) (l : List Nat) (i : Nat) : nmW b l i = (l.drop i).take (runL b (l.drop i)) := by
  unfold nmW
  rw [List.drop_take, Nat.add_sub_cancel_left]
theorem tk_S (l : List Nat) (i : Nat) : (∀ k w, tokS (l.drop i) = some (k, w) → (tkT l i).1 = k ∧ (tkT l i).2.1 = w ∧ (tkX l i).2 = none) ∧ (tokS (l.drop i) = none → ∃ e, (tkX l i).2 = some e) := by
  unfold tokS tkT tkX
  by_cases h2 : kh (l.drop i) = 2
  · rw [if_pos h2, if_pos h2, if_pos h2, nmW_eq]
    unfold nmX
    split
    · exact ⟨fun k w h => (by cases h), fun _ => ⟨_, rfl⟩⟩
    · exact ⟨fun k w h => (by cases h; exact ⟨rfl, rfl, rfl⟩), fun h => by cases h⟩
  rw [if_neg h2, if_neg h2, if_neg h2]
  by_cases h3 : kh (l.drop i) = 3
  · rw [if_pos h3, if_pos h3, if_pos h3, nmW_eq]
    unfold nuX
    split
    · exact ⟨fun k w h => (by cases h), fun _ => ⟨_, rfl⟩⟩
    · split
      · exact ⟨fun k w h => (by cases h), fun _ => ⟨_, rfl⟩⟩
      · exact ⟨fun k w h => (by cases h; exact ⟨rfl, rfl, rfl⟩), fun h => by cases h⟩
  rw [if_neg h3, if_neg h3, if_neg h3]
  unfold sgX sgT
  cases sgn (l.drop i) with
  | none => exact ⟨fun k w h => (by cases h), fun _ => ⟨_, rfl⟩⟩
  | some s => exact ⟨fun k w h => (by cases h; exact ⟨rfl, rfl, rfl⟩), fun h => by cases h⟩
end Go.AM.S
end

section
namespace Go.AM.S
open Go Go.AM Go.Proofs NumL
open _root_.Go.AM.G (R)
set_option linter.unusedVariables false
set_option linter.unusedSimpArgs false
set_option maxRecDepth 100000
open Go.Proofs.YtjldfkldmfmkiaaDoor
/-- the lexer on the rest of a text -/
def lexS : Nat → List Nat → Option (List (Nat × List Nat))
  | 0, _ => none
  | f + 1, W => match blkS (W.length + 1) W with
    | none => none
    | some W' => if W' = [] then some [(0, [])] else match tokS W' with
      | none => none
      | some (k, w) => (lexS f (W'.drop w.length)).map ((k, w) :: ·)
def kt (t : Nat × List Nat × Nat) : Nat × List Nat := (t.1, t.2.1)
theorem lex_S : ∀ (f : Nat) (l : List Nat) (i : Nat) (ts : List (Nat × List Nat × Nat)), i ≤ l.length → l.length - i < f →
    (∀ us, lexS f (l.drop i) = some us → (lexA f l i ts).2 = none ∧ (lexA f l i ts).1.map kt = ts.map kt ++ us) ∧ (lexS f (l.drop i) = none → ∃ e, (lexA f l i ts).2 = some e) := by
  intro f
  induction f with
  | zero => intro l i ts hi hf; omega
  | succ f ih =>
    intro l i ts hi hf
    have hS : lexS (f + 1) (l.drop i) = match blkS ((l.drop i).length + 1) (l.drop i) with
      | none => none
      | some W' => if W' = [] then some [(0, [])] else match tokS W' with
        | none => none
        | some (k, w) => (lexS f (W'.drop w.length)).map ((k, w) :: ·) := rfl
    have hA : lexA (f + 1) l i ts = match blk (l.length + 1) l i with
      | (_, some e) => ([], some e)
      | (j, none) => if j = l.length then (ts ++ [(0, [], l.length)], none) else match (tkX l j).2 with
        | some e => ([], some e)
        | none => lexA f l (j + (tkT l j).2.1.length) (ts ++ [tkT l j]) := rfl
    rw [blkS_fuel ((l.drop i).length + 1) (l.drop i) (l.length + 1) (by omega) (by rw [List.length_drop]; omega)] at hS
    obtain ⟨b1, b2⟩ := blk_S (l.length + 1) l i hi
    cases hb : blkS (l.length + 1) (l.drop i) with
    | none =>
      obtain ⟨j, e, he⟩ := b2 hb
      rw [hb] at hS
      rw [he] at hA
      rw [hS, hA]
      exact ⟨fun us h => (by cases h), fun _ => ⟨e, rfl⟩⟩
    | some W' =>
      obtain ⟨j, he, hW, hj⟩ := b1 W' hb
      have hij := (blk_ok _ _ _ _ hi he).1
      rw [hb] at hS
      rw [he] at hA
      subst hW
      by_cases hjl : j = l.length
      · have hn : l.drop j = [] := List.drop_eq_nil_of_le (by omega)
        have hA : lexA (f + 1) l i ts = (ts ++ [(0, [], l.length)], none) := by rw [hA]; exact if_pos hjl
        have hS : lexS (f + 1) (l.drop i) = some [(0, [])] := by rw [hS]; exact if_pos hn
        rw [hA, hS]
        refine ⟨fun us h => ?_, fun h => by cases h⟩
        cases h
        exact ⟨rfl, by rw [List.map_append]; rfl⟩
      · have hn : l.drop j ≠ [] := by intro e; have := congrArg List.length e; rw [List.length_drop, List.length_nil] at this; omega
        have hA : lexA (f + 1) l i ts = match (tkX l j).2 with
            | some e => ([], some e)
            | none => lexA f l (j + (tkT l j).2.1.length) (ts ++ [tkT l j]) := by rw [hA]; exact if_neg hjl
        have hS : lexS (f + 1) (l.drop i) = match tokS (l.drop j) with
            | none => none
            | some (k, w) => (lexS f ((l.drop j).drop w.length)).map ((k, w) :: ·) := by rw [hS]; exact if_neg hn
        obtain ⟨t1, t2⟩ := tk_S l j
        cases ht : tokS (l.drop j) with
        | none =>
          obtain ⟨e, he2⟩ := t2 ht
          rw [ht] at hS
          rw [he2] at hA
          rw [hS, hA]
          exact ⟨fun us h => (by cases h), fun _ => ⟨e, rfl⟩⟩
        | some kw =>
          obtain ⟨k, w⟩ := kw
          obtain ⟨e1, e2, e3⟩ := t1 k w ht
          rw [ht] at hS
          rw [e3] at hA
          have hok := tk_ok (l := l) (j := j) (by omega) e3
          rw [e2] at hok
          have hA : lexA (f + 1) l i ts = lexA f l (j + w.length) (ts ++ [tkT l j]) := by rw [hA, ← e2]
          have hS : lexS (f + 1) (l.drop i) = (lexS f (l.drop (j + w.length))).map ((k, w) :: ·) := by rw [hS, ← List.drop_drop]
          rw [hA, hS]
          obtain ⟨c1, c2⟩ := ih l (j + w.length) (ts ++ [tkT l j]) (by omega) (by omega)
          have ek : kt (tkT l j) = (k, w) := by unfold kt; rw [e1, e2]
          cases hr : lexS f (l.drop (j + w.length)) with
          | none => exact ⟨fun us h => (by cases h), fun _ => c2 hr⟩
          | some us' =>
            obtain ⟨d1, d2⟩ := c1 us' hr
            refine ⟨fun us h => ?_, fun h => by cases h⟩
            cases h
            refine ⟨d1, ?_⟩
            rw [d2, List.map_append, List.map_singleton, ek, List.append_assoc]
            rfl
theorem Dg.app {a b : List Nat} (ha : Dg 256 a) (hb : Dg 256 b) : Dg 256 (a ++ b) := by
  intro x hx
  rcases List.mem_append.1 hx with q | q
  · exact ha x q
  · exact hb x q
/-- where a comment of plain letters ends -/
def ascC : Bool → Nat → List Nat → Option Nat
  | _, _, [] => none
  | b, p, c :: W => if c < 128 then (if b && decide (c = 41) then some (p + 1) else ascC (decide (c = 42)) (p + 1) W) else none
theorem cmt_plain : ∀ (P : List Nat) (R : List Nat) (b : Bool) (p f e : Nat), Dg 256 (P ++ R) → P.length ≤ f → ascC b p P = some e → cmt f b p (P ++ R) = (0, e) := by
  intro P
  induction P with
  | nil => intro R b p f e _ _ h; cases h
  | cons c P ih =>
    intro R b p f e hd hf h
    obtain ⟨f', rfl⟩ : ∃ f', f = f' + 1 := ⟨f - 1, by rw [List.length_cons] at hf; omega⟩
    have h : (if c < 128 then (if b && decide (c = 41) then some (p + 1) else ascC (decide (c = 42)) (p + 1) P) else none) = some e := h
    by_cases hc : c < 128
    · rw [if_pos hc] at h
      rw [List.cons_append] at hd ⊢
      rw [cmt_asc hd hc]
      cases hb : b && decide (c = 41) with
      | true => rw [hb, if_pos rfl] at h; cases h; rfl
      | false =>
        rw [hb, if_neg Bool.false_ne_true] at h
        exact ih R _ _ f' e (fun x hx => hd x (List.mem_cons_of_mem _ hx)) (by rw [List.length_cons] at hf; omega) h
    · rw [if_neg hc] at h; cases h
theorem beg_cons {c d : Nat} {W : List Nat} : beg [40, 42] (c :: d :: W) = decide (c = 40 ∧ d = 42) := by
  unfold beg
  congr 1
  simp
theorem blkS_blank {c f : Nat} {W : List Nat} (hW : Dg 256 (c :: W)) (hc : c = 32 ∨ c = 10 ∨ c = 9 ∨ c = 13) : blkS (f + 1) (c :: W) = blkS f W := by
  show (if c :: W = [] then some [] else if beg [40, 42] (c :: W) = true then _ else if kh (c :: W) = 1 then blkS f ((c :: W).drop 1) else some (c :: W)) = _
  have hb : beg [40, 42] (c :: W) ≠ true := by
    intro h
    unfold beg at h
    have h := (of_decide_eq_true h).2
    simp at h
    omega
  rw [if_neg (by simp), if_neg hb, kh_asc hW (by omega), if_pos (by unfold kd; rcases hc with rfl | rfl | rfl | rfl <;> rfl)]
  rfl
theorem blkS_com {f : Nat} {P R : List Nat} (hd : Dg 256 (P ++ R)) (h : ascC false 0 P = some P.length) : blkS (f + 1) (40 :: 42 :: (P ++ R)) = blkS f R := by
  show (if 40 :: 42 :: (P ++ R) = [] then some [] else if beg [40, 42] (40 :: 42 :: (P ++ R)) = true then (match cmt (P ++ R).length.succ false 0 (P ++ R) with
    | (0, e) => blkS f ((40 :: 42 :: (P ++ R)).drop (2 + e))
    | (_, _) => none) else _) = _
  rw [if_neg (by simp), if_pos (by rw [beg_cons]; rfl), cmt_plain P R false 0 _ _ hd (by rw [List.length_append]; omega) h]
  show blkS f ((40 :: 42 :: (P ++ R)).drop (2 + P.length)) = _
  rw [Nat.add_comm]
  show blkS f ((P ++ R).drop P.length) = _
  rw [List.drop_left]
/-- the six separators -/
def sepL : List (List Nat) := [[32], [10, 9], [32, 40, 42, 32, 120, 32, 58, 61, 32, 42, 41, 32], [13, 32, 40, 42, 42, 41], [32, 40, 42, 32, 42, 32, 41, 32, 42, 41], [32, 32]]
theorem sep_dg : ∀ q ∈ sepL, Dg 256 q := show ∀ q ∈ sepL, ∀ x ∈ q, x < 256 from by decide
theorem sep_ok {R : List Nat} (hR : Dg 256 R) : ∀ q ∈ sepL, blkS ((q ++ R).length + 1) (q ++ R) = blkS (R.length + 1) R := by
  have dg : ∀ q : List Nat, (∀ x ∈ q, x < 256) → Dg 256 (q ++ R) := fun q h => Dg.app h hR
  intro q hq
  simp only [sepL, List.mem_cons, List.not_mem_nil, or_false] at hq
  rcases hq with rfl | rfl | rfl | rfl | rfl | rfl
  · exact blkS_blank (dg [32] (by decide)) (.inl rfl)
  · refine (blkS_blank (dg [10, 9] (by decide)) (.inr (.inl rfl))).trans ?_
    exact blkS_blank (dg [9] (by decide)) (.inr (.inr (.inl rfl)))
  · refine (blkS_blank (dg [32, 40, 42, 32, 120, 32, 58, 61, 32, 42, 41, 32] (by decide)) (.inl rfl)).trans ?_
    refine (blkS_com (P := [32, 120, 32, 58, 61, 32, 42, 41]) (R := 32 :: R) (dg [32, 120, 32, 58, 61, 32, 42, 41, 32] (by decide)) (by decide)).trans ?_
    refine (blkS_blank (dg [32] (by decide)) (.inl rfl)).trans ?_
    exact blkS_fuel _ _ _ (by show R.length < R.length + 10; omega) (by show R.length < R.length + 1; omega)
  · refine (blkS_blank (dg [13, 32, 40, 42, 42, 41] (by decide)) (.inr (.inr (.inr rfl)))).trans ?_
    refine (blkS_blank (dg [32, 40, 42, 42, 41] (by decide)) (.inl rfl)).trans ?_
    refine (blkS_com (P := [42, 41]) (R := R) (dg [42, 41] (by decide)) (by decide)).trans ?_
    exact blkS_fuel _ _ _ (by show R.length < R.length + 4; omega) (by show R.length < R.length + 1; omega)
  · refine (blkS_blank (dg [32, 40, 42, 32, 42, 32, 41, 32, 42, 41] (by decide)) (.inl rfl)).trans ?_
    refine (blkS_com (P := [32, 42, 32, 41, 32, 42, 41]) (R := R) (dg [32, 42, 32, 41, 32, 42, 41] (by decide)) (by decide)).trans ?_
    exact blkS_fuel _ _ _ (by show R.length < R.length + 9; omega) (by show R.length < R.length + 1; omega)
  · refine (blkS_blank (dg [32, 32] (by decide)) (.inl rfl)).trans ?_
    exact blkS_blank (dg [32] (by decide)) (.inl rfl)
end Go.AM.S
end

section
namespace Go.AM.S
open Go Go.AM Go.Proofs NumL
open _root_.Go.AM.G (R)
set_option linter.unusedVariables false
set_option linter.unusedSimpArgs false
set_option maxRecDepth 100000
open Go.Proofs.YtjldfkldmfmkiaaDoor
theorem blkS_dg : ∀ (f : Nat) (W W' : List Nat), Dg 256 W → blkS f W = some W' → Dg 256 W' := by
  intro f
  induction f with
  | zero => intro W W' hd h; cases h; exact hd
  | succ f ih =>
    intro W W' hd h
    have h : (if W = [] then some [] else if beg [40, 42] W = true then (match cmt (W.drop 2).length.succ false 0 (W.drop 2) with
      | (0, e) => blkS f (W.drop (2 + e))
      | (_, _) => none) else if kh W = 1 then blkS f (W.drop 1) else some W) = some W' := h
    by_cases h0 : W = []
    · rw [if_pos h0] at h; cases h; exact Dg.nil 256
    rw [if_neg h0] at h
    by_cases h1 : beg [40, 42] W = true
    · rw [if_pos h1] at h
      obtain ⟨a, ea⟩ : ∃ a, cmt (W.drop 2).length.succ false 0 (W.drop 2) = a := ⟨_, rfl⟩
      rw [ea] at h
      obtain ⟨a1, a2⟩ := a
      match a1, ea, h with
      | 0, ea, h => exact ih _ _ (hd.drop _) h
      | n + 1, ea, h => cases h
    rw [if_neg h1] at h
    by_cases h2 : kh W = 1
    · rw [if_pos h2] at h; exact ih _ _ (hd.drop _) h
    · rw [if_neg h2] at h; cases h; exact hd
/-- where blanks stop, there are none -/
theorem blkS_stop {f : Nat} {W : List Nat} (h1 : beg [40, 42] W = false) (h2 : kh W ≠ 1) : blkS (f + 1) W = some W := by
  show (if W = [] then some [] else if beg [40, 42] W = true then _ else if kh W = 1 then blkS f (W.drop 1) else some W) = _
  by_cases h0 : W = []
  · rw [if_pos h0, h0]
  · rw [if_neg h0, if_neg (by rw [h1]; exact Bool.false_ne_true), if_neg h2]
theorem beg_split {a W : List Nat} (h : beg a W = true) : W = a ++ W.drop a.length := by
  have := (of_decide_eq_true h).2
  conv => lhs; rw [← List.take_append_drop a.length W]
  rw [this]
theorem beg_app (a X : List Nat) : beg a (a ++ X) = true := by
  unfold beg
  exact decide_eq_true ⟨by rw [List.length_append]; omega, List.take_left⟩
theorem kh_open {W : List Nat} (hW : Dg 256 W) (h : beg [40, 42] W = true) : kh W = 4 := by
  have e := beg_split h
  rw [e]
  rw [e] at hW
  exact kh_asc (c := 40) hW (by decide)
theorem stop_of {W : List Nat} (hW : Dg 256 W) (h : kh W = 2 ∨ kh W = 3) (f : Nat) : blkS (f + 1) W = some W := by
  refine blkS_stop ?_ (by omega)
  cases hb : beg [40, 42] W with
  | false => rfl
  | true => have := kh_open hW hb; omega
theorem kh_blank {c : Nat} {V : List Nat} (hV : Dg 256 (c :: V)) (hc : c = 32 ∨ c = 10 ∨ c = 13) : kh (c :: V) = 1 := by
  rw [kh_asc hV (by omega)]
  rcases hc with rfl | rfl | rfl <;> rfl
theorem run_tok {b : Bool} {W V : List Nat} {c : Nat} (hW : Dg 256 W) (hV : Dg 256 (c :: V)) (hc : c = 32 ∨ c = 10 ∨ c = 13) (hne : W ≠ []) (hk : okK b (kh W) = true) :
    kh (W.take (runL b W) ++ c :: V) = kh W ∧ runL b (W.take (runL b W) ++ c :: V) = runL b W ∧ (W.take (runL b W) ++ c :: V).take (runL b W) = W.take (runL b W) ∧ (W.take (runL b W)).length = runL b W ∧ 1 ≤ runL b W := by
  have hle : runL b W ≤ W.length := runN_le b W.length W
  have hs : (hr W).2 ≤ runL b W := by
    obtain ⟨f, e⟩ : ∃ f, W.length = f + 1 := ⟨W.length - 1, by have := List.length_pos_iff.2 hne; omega⟩
    unfold runL
    rw [e, runN_go hne hk]
    omega
  have h1 := hr_loc hW hV hne (okK5 hk) hs
  have hl : (W.take (runL b W)).length = runL b W := by rw [List.length_take]; omega
  refine ⟨by unfold kh; rw [h1], runL_loc b hW hV (.inr ?_), ?_, hl, ?_⟩
  · rw [kh_blank hV hc]; cases b <;> rfl
  · conv => lhs; arg 1; rw [← hl]
    exact List.take_left
  · have := hr_pos hne; omega
theorem sgs_head : ∀ s ∈ sgs, s ≠ [] ∧ s.getD 0 0 < 128 ∧ kd (s.getD 0 0) 1 = 4 ∧ (s = [40] ∨ s.getD 0 0 ≠ 40) ∧ ∀ x ∈ s, x ≠ 32 ∧ x ≠ 10 ∧ x ≠ 13 := by decide
/-- a sign that is found is found again ahead of a blank -/
theorem sgn_loc {W V s : List Nat} {c : Nat} (hc : c = 32 ∨ c = 10 ∨ c = 13) (h : sgn W = some s) : sgn (s ++ c :: V) = some s := by
  unfold sgn at h ⊢
  rw [List.find?_eq_some_iff_append] at h ⊢
  obtain ⟨h1, xs, ys, h2, h3⟩ := h
  refine ⟨beg_app s _, xs, ys, h2, fun a ha => ?_⟩
  have h4 := h3 a ha
  have hm : a ∈ sgs := by rw [h2]; exact List.mem_append_left _ ha
  cases hb : beg a (s ++ c :: V) with
  | false => rfl
  | true =>
    exfalso
    have e := (of_decide_eq_true hb).2
    have hl : a.length ≤ s.length := by
      rcases Nat.lt_or_ge s.length a.length with q | q
      · exfalso
        have hx : a[s.length]? = some c := by
          rw [← e, List.getElem?_take_of_lt q, List.getElem?_append_right (Nat.le_refl _), Nat.sub_self]
          rfl
        have := (sgs_head a hm).2.2.2.2 c (List.mem_of_getElem? hx)
        omega
      · exact q
    have e2 : s.take a.length = a := by rw [List.take_append_of_le_length hl] at e; exact e
    have hs := beg_split h1
    have : beg a W = true := by
      unfold beg
      rw [hs]
      exact decide_eq_true ⟨by rw [List.length_append]; omega, by rw [List.take_append_of_le_length hl]; exact e2⟩
    rw [this] at h4
    cases h4
/-- a token is found again ahead of a blank -/
theorem tok_loc {W V w : List Nat} {c k : Nat} (hW : Dg 256 W) (hV : Dg 256 (c :: V)) (hc : c = 32 ∨ c = 10 ∨ c = 13) (hne : W ≠ []) (h : tokS W = some (k, w)) :
    tokS (w ++ c :: V) = some (k, w) ∧ (∀ f, blkS (f + 1) (w ++ c :: V) = some (w ++ c :: V)) ∧ w ≠ [] ∧ Dg 256 w := by
  unfold tokS at h
  by_cases h2 : kh W = 2
  · rw [if_pos h2] at h
    obtain ⟨q1, q2, q3, q4, q5⟩ := run_tok (b := true) hW hV hc hne (by rw [h2]; rfl)
    by_cases hx : isW (sl (W.take (runL true W))) = false ∧ 40 < (W.take (runL true W)).length
    · rw [if_pos hx] at h; cases h
    rw [if_neg hx] at h
    obtain ⟨w', ew⟩ : ∃ w', W.take (runL true W) = w' := ⟨_, rfl⟩
    rw [ew] at h q1 q2 q3 q4 hx
    cases h
    have hw : Dg 256 w := by rw [← ew]; exact hW.take _
    refine ⟨?_, fun f => stop_of (Dg.app hw hV) (.inl (q1.trans h2)) f, List.length_pos_iff.1 (by omega), hw⟩
    unfold tokS
    rw [if_pos (q1.trans h2), q2, q3, if_neg hx]
  rw [if_neg h2] at h
  by_cases h3 : kh W = 3
  · rw [if_pos h3] at h
    obtain ⟨q1, q2, q3, q4, q5⟩ := run_tok (b := false) hW hV hc hne (by rw [h3]; rfl)
    obtain ⟨w', ew⟩ : ∃ w', W.take (runL false W) = w' := ⟨_, rfl⟩
    rw [ew] at h q1 q2 q3 q4
    by_cases hx : 1 < w'.length ∧ w'.getD 0 0 = 48
    · rw [if_pos hx] at h; cases h
    rw [if_neg hx] at h
    by_cases hy : 400 < w'.length
    · rw [if_pos hy] at h; cases h
    rw [if_neg hy] at h
    cases h
    have hw : Dg 256 w := by rw [← ew]; exact hW.take _
    refine ⟨?_, fun f => stop_of (Dg.app hw hV) (.inr (q1.trans h3)) f, List.length_pos_iff.1 (by omega), hw⟩
    unfold tokS
    rw [if_neg (by rw [q1]; exact h2), if_pos (q1.trans h3), q2, q3, if_neg hx, if_neg hy]
  rw [if_neg h3] at h
  cases hs : sgn W with
  | none => rw [hs] at h; cases h
  | some s =>
    rw [hs] at h
    cases h
    have hm : w ∈ sgs := List.mem_of_find?_eq_some hs
    obtain ⟨p1, p2, p3, p4, p5⟩ := sgs_head w hm
    have hw := sgs_dg w hm
    obtain ⟨d, t, rfl⟩ : ∃ d t, w = d :: t := by cases w with | nil => exact absurd rfl p1 | cons d t => exact ⟨d, t, rfl⟩
    rw [List.getD_cons_zero] at p2 p3 p4
    have hkk : kh (d :: t ++ c :: V) = 4 := (kh_asc (Dg.app hw hV) p2).trans p3
    refine ⟨?_, fun f => blkS_stop ?_ (by omega), p1, hw⟩
    · unfold tokS
      rw [if_neg (by omega), if_neg (by omega), sgn_loc hc hs]
      rfl
    · cases hb : beg [40, 42] (d :: t ++ c :: V) with
      | false => rfl
      | true =>
        exfalso
        have e := (of_decide_eq_true hb).2
        rcases p4 with q | q
        · cases q
          simp at e
          omega
        · have e : (d :: (t ++ c :: V)).take 2 = [40, 42] := e
          simp at e
          exact q e.1
end Go.AM.S
end

section
namespace Go.AM.S
open Go Go.AM Go.Proofs NumL
open _root_.Go.AM.G (R)
set_option linter.unusedVariables false
set_option linter.unusedSimpArgs false
set_option maxRecDepth 100000
open Go.Proofs.YtjldfkldmfmkiaaDoor
/-- tokens, each with blanks behind it -/
def join : List (Nat × List Nat) → (Nat → List Nat) → List Nat
  | [], _ => []
  | t :: us, sp => t.2 ++ (sp 0 ++ join us (fun i => sp (i + 1)))
theorem sep_head : ∀ q ∈ sepL, ∃ c t, q = c :: t ∧ (c = 32 ∨ c = 10 ∨ c = 13) := by
  intro q hq
  simp only [sepL, List.mem_cons, List.not_mem_nil, or_false] at hq
  rcases hq with rfl | rfl | rfl | rfl | rfl | rfl <;> exact ⟨_, _, rfl, by decide⟩
theorem lexS_sep {q R : List Nat} (hq : q ∈ sepL) (hR : Dg 256 R) (G : Nat) : lexS G (q ++ R) = lexS G R := by
  cases G with
  | zero => rfl
  | succ g =>
    show (match blkS ((q ++ R).length + 1) (q ++ R) with
      | none => none
      | some W' => if W' = [] then some [(0, [])] else match tokS W' with
        | none => none
        | some (k, w) => (lexS g (W'.drop w.length)).map ((k, w) :: ·)) = _
    rw [sep_ok hR q hq]
    rfl
theorem relex : ∀ (F : Nat) (W : List Nat) (us : List (Nat × List Nat)), Dg 256 W → lexS F W = some us → ∀ sp : Nat → List Nat, (∀ i, sp i ∈ sepL) →
    Dg 256 (join us sp) ∧ us.length ≤ (join us sp).length ∧ ∀ G, us.length ≤ G → lexS G (join us sp) = some us := by
  intro F
  induction F with
  | zero => intro W us hd h; cases h
  | succ f ih =>
    intro W us hd h sp hsp
    have h : (match blkS (W.length + 1) W with
      | none => none
      | some W' => if W' = [] then some [(0, [])] else match tokS W' with
        | none => none
        | some (k, w) => (lexS f (W'.drop w.length)).map ((k, w) :: ·)) = some us := h
    obtain ⟨c, t, hq, hc⟩ := sep_head _ (hsp 0)
    cases hb : blkS (W.length + 1) W with
    | none => rw [hb] at h; cases h
    | some W' =>
      have hW' := blkS_dg _ _ _ hd hb
      rw [hb] at h
      by_cases hn : W' = []
      · have h : some [(0, [])] = some us := by rw [← h]; exact (if_pos hn).symm
        cases h
        have ej : join [(0, [])] sp = sp 0 ++ [] := rfl
        rw [ej]
        refine ⟨Dg.app (sep_dg _ (hsp 0)) (Dg.nil 256), by rw [hq]; simp, fun G hG => ?_⟩
        rw [lexS_sep (hsp 0) (Dg.nil 256)]
        obtain ⟨g, rfl⟩ : ∃ g, G = g + 1 := ⟨G - 1, by simp at hG; omega⟩
        rfl
      · have h : (match tokS W' with
            | none => none
            | some (k, w) => (lexS f (W'.drop w.length)).map ((k, w) :: ·)) = some us := by rw [← h]; exact (if_neg hn).symm
        cases ht : tokS W' with
        | none => rw [ht] at h; cases h
        | some kw =>
          obtain ⟨k, w⟩ := kw
          rw [ht] at h
          have h : (lexS f (W'.drop w.length)).map ((k, w) :: ·) = some us := h
          cases hr : lexS f (W'.drop w.length) with
          | none => rw [hr] at h; cases h
          | some us' =>
            rw [hr] at h
            have h : some ((k, w) :: us') = some us := h
            cases h
            obtain ⟨j1, j2, j3⟩ := ih _ us' (hW'.drop _) hr (fun i => sp (i + 1)) (fun i => hsp (i + 1))
            obtain ⟨J, eJ⟩ : ∃ J, join us' (fun i => sp (i + 1)) = J := ⟨_, rfl⟩
            rw [eJ] at j1 j2 j3
            have ej : join ((k, w) :: us') sp = w ++ (sp 0 ++ J) := by rw [← eJ]; rfl
            have eV : sp 0 ++ J = c :: (t ++ J) := by rw [hq]; rfl
            have hV : Dg 256 (c :: (t ++ J)) := by rw [← eV]; exact Dg.app (sep_dg _ (hsp 0)) j1
            obtain ⟨p1, p2, p3, p4⟩ := tok_loc hW' hV hc hn ht
            rw [ej]
            refine ⟨Dg.app p4 (by rw [eV]; exact hV), ?_, fun G hG => ?_⟩
            · have := List.length_pos_iff.2 p3
              rw [List.length_append, List.length_append, List.length_cons]
              omega
            · obtain ⟨g, rfl⟩ : ∃ g, G = g + 1 := ⟨G - 1, by simp at hG; omega⟩
              have hg : us'.length ≤ g := by simp at hG; omega
              rw [eV]
              have hne : w ++ c :: (t ++ J) ≠ [] := by simp
              have e : lexS (g + 1) (w ++ c :: (t ++ J)) = match blkS ((w ++ c :: (t ++ J)).length + 1) (w ++ c :: (t ++ J)) with
                  | none => none
                  | some W' => if W' = [] then some [(0, [])] else match tokS W' with
                    | none => none
                    | some (k, w) => (lexS g (W'.drop w.length)).map ((k, w) :: ·) := rfl
              rw [e, p2]
              show (if w ++ c :: (t ++ J) = [] then some [(0, [])] else match tokS (w ++ c :: (t ++ J)) with
                    | none => none
                    | some (k, w') => (lexS g ((w ++ c :: (t ++ J)).drop w'.length)).map ((k, w') :: ·)) = _
              rw [if_neg hne, p1]
              show (lexS g ((w ++ c :: (t ++ J)).drop w.length)).map ((k, w) :: ·) = _
              rw [List.drop_left, ← eV, lexS_sep (hsp 0) j1, j3 g hg]
              rfl
/-- THE PLAIN LAW: tokens with blanks behind each read as they did -/
theorem blanks_law {l : List Nat} (hd : Dg 256 l) {ts : List (Nat × List Nat × Nat)} (h : lexT l = (ts, none)) (sp : Nat → List Nat) (hsp : ∀ i, sp i ∈ sepL) :
    Dg 256 (join (ts.map kt) sp) ∧ (lexT (join (ts.map kt) sp)).2 = none ∧ (lexT (join (ts.map kt) sp)).1.map kt = ts.map kt := by
  have h0 : l.drop 0 = l := rfl
  obtain ⟨a1, a2⟩ := lex_S (l.length + 1) l 0 [] (Nat.zero_le _) (by omega)
  have hL : lexA (l.length + 1) l 0 [] = (ts, none) := h
  rw [hL, h0] at a1 a2
  cases hs : lexS (l.length + 1) l with
  | none => obtain ⟨e, he⟩ := a2 hs; cases he
  | some us =>
    obtain ⟨_, b2⟩ := a1 us hs
    have b2 : ts.map kt = us := b2
    obtain ⟨r1, r2, r3⟩ := relex _ _ us hd hs sp hsp
    rw [b2]
    obtain ⟨J, eJ⟩ : ∃ J, join us sp = J := ⟨_, rfl⟩
    rw [eJ] at r1 r2 r3 ⊢
    obtain ⟨c1, _⟩ := lex_S (J.length + 1) J 0 [] (Nat.zero_le _) (by omega)
    obtain ⟨d1, d2⟩ := c1 us (r3 (J.length + 1) (by omega))
    exact ⟨r1, d1, d2⟩
end Go.AM.S
end

section
namespace Go.AM.S
open Go Go.AM Go.Proofs NumL
open _root_.Go.AM.G (R)
set_option linter.unusedVariables false
set_option linter.unusedSimpArgs false
set_option maxRecDepth 100000
open Go.Proofs.YtjldfkldmfmkiaaDoor
variable {L : List (Nat × Int × Int)}
theorem tbl3 : tbl 3 = some ⟨rc3, [.tmp 4]⟩ := by kernel_rfl
theorem kn3 : kn L 3 = none := by kernel_rfl
theorem kn7 : Runs Pg (kn L) tbl 7 [] noHp (.val (.bool true) noHp) := runs_known (k := cached (.val (.bool true) noHp)) (by kernel_rfl) (fun _ => rfl)
theorem join_snoc : ∀ (us : List (Nat × List Nat)) (t : Nat × List Nat) (sp : Nat → List Nat), join (us ++ [t]) sp = join us sp ++ (t.2 ++ sp us.length) := by
  intro us
  induction us with
  | nil => intro t sp; show t.2 ++ (sp 0 ++ []) = _; rw [List.append_nil]; rfl
  | cons a us ih =>
    intro t sp
    show a.2 ++ (sp 0 ++ join (us ++ [t]) (fun i => sp (i + 1))) = (a.2 ++ (sp 0 ++ join us (fun i => sp (i + 1)))) ++ _
    rw [ih, List.length_cons, List.append_assoc, List.append_assoc]
theorem ia_three {P : Program} {t e : TypeId} {ag : Bool} (he : F.elemT P t = some e) (hl : F.layE P e = some (3, ag)) (tok : Option Ref) (f : Bool) (k' : IntKind) (l : List V) (i : Nat) (v : V) (h : l[i]? = some v) :
    ia P t (.slice tok f 3 l) (.int k' (.ofNat i)) = some (.iptr v.cells) := by
  show G.onSome (F.elemT P t) _ none = _
  rw [he]
  show G.onSome (F.layE P e) _ none = _
  rw [hl]
  show (bif Nat.blt i (F.lenR l) then G.onSome (F.nthR l i) _ none else none) = _
  have hi : i < l.length := by
    rcases Nat.lt_or_ge i l.length with q | q
    · exact q
    · rw [List.getElem?_eq_none q] at h; cases h
  rw [F.lenR_eq, show Nat.blt i l.length = true from by rw [Nat.blt_eq]; exact hi, F.nthR_eq, h]
  rfl
theorem ia_tok {ts : List (Nat × List Nat × Nat)} {i : Nat} {t : Nat × List Nat × Nat} (h : ts[i]? = some t) : ia Pg 24 (.slice none false 3 (ts.map TV)) (.int .i64 (.ofNat i)) = some (.iptr [.int .i64 (.ofNat t.1), .str (sl t.2.1), .int .i64 (.ofNat t.2.2)]) :=
  ia_three E24 L30 none false .i64 (ts.map TV) i (TV t) (by rw [List.getElem?_map, h]; rfl)
theorem fa0 (a b c : V) : fa Pg 30 (.iptr [a, b, c]) 0 = some (.iptr [a, b, c]) := by kernel_rfl
theorem fa1 (a b c : V) : fa Pg 30 (.iptr [a, b, c]) 1 = some (.iptr [b, c]) := by kernel_rfl
theorem ld0 (a b c : V) (l : Lo) (h : Hp) : ld Pg 3 (.iptr [a, b, c]) l h = some a := by kernel_rfl
theorem ld1 (b c : V) (l : Lo) (h : Hp) : ld Pg 9 (.iptr [b, c]) l h = some b := by kernel_rfl
end Go.AM.S
end

section
namespace Go.AM.S
open Go Go.AM Go.Proofs NumL
open _root_.Go.AM.G (R)
set_option linter.unusedVariables false
set_option linter.unusedSimpArgs false
set_option maxRecDepth 100000
open Go.Proofs.YtjldfkldmfmkiaaDoor
theorem tokS_len {W w : List Nat} {k : Nat} (hne : W ≠ []) (h : tokS W = some (k, w)) : 1 ≤ w.length ∧ w.length ≤ W.length := by
  have run : ∀ b, okK b (kh W) = true → 1 ≤ (W.take (runL b W)).length ∧ (W.take (runL b W)).length ≤ W.length := by
    intro b hk
    have h1 := runL_pos hne hk
    have h2 : runL b W ≤ W.length := runN_le b W.length W
    rw [List.length_take]; omega
  unfold tokS at h
  by_cases h2 : kh W = 2
  · rw [if_pos h2] at h
    split at h
    · cases h
    · cases h; exact run true (by rw [h2]; rfl)
  rw [if_neg h2] at h
  by_cases h3 : kh W = 3
  · rw [if_pos h3] at h
    split at h
    · cases h
    · split at h
      · cases h
      · cases h; exact run false (by rw [h3]; rfl)
  rw [if_neg h3] at h
  cases hs : sgn W with
  | none => rw [hs] at h; cases h
  | some s =>
    rw [hs] at h
    cases h
    exact ⟨sgs_pos _ (List.mem_of_find?_eq_some hs), beg_len (show beg w W = true from List.find?_some (p := fun s => beg s W) hs)⟩
theorem blkS_len : ∀ (f : Nat) (W W' : List Nat), blkS f W = some W' → W'.length ≤ W.length := by
  intro f
  induction f with
  | zero => intro W W' h; cases h; exact Nat.le_refl _
  | succ f ih =>
    intro W W' h
    have h : (if W = [] then some [] else if beg [40, 42] W = true then (match cmt (W.drop 2).length.succ false 0 (W.drop 2) with
      | (0, e) => blkS f (W.drop (2 + e))
      | (_, _) => none) else if kh W = 1 then blkS f (W.drop 1) else some W) = some W' := h
    by_cases h0 : W = []
    · rw [if_pos h0] at h; cases h; exact Nat.zero_le _
    rw [if_neg h0] at h
    by_cases h1 : beg [40, 42] W = true
    · rw [if_pos h1] at h
      obtain ⟨a, ea⟩ : ∃ a, cmt (W.drop 2).length.succ false 0 (W.drop 2) = a := ⟨_, rfl⟩
      rw [ea] at h
      obtain ⟨a1, a2⟩ := a
      match a1, ea, h with
      | 0, ea, h => have := ih _ _ h; rw [List.length_drop] at this; omega
      | n + 1, ea, h => cases h
    rw [if_neg h1] at h
    by_cases h2 : kh W = 1
    · rw [if_pos h2] at h; have := ih _ _ h; rw [List.length_drop] at this; omega
    · rw [if_neg h2] at h; cases h; exact Nat.le_refl _
/-- tokens with blanks behind them are no longer than so -/
theorem join_le : ∀ (F : Nat) (W : List Nat) (us : List (Nat × List Nat)), lexS F W = some us → us.length ≤ W.length + 1 ∧ ∀ sp : Nat → List Nat, (∀ i, (sp i).length ≤ 12) → (join us sp).length ≤ W.length + 12 * us.length := by
  intro F
  induction F with
  | zero => intro W us h; cases h
  | succ f ih =>
    intro W us h
    have h : (match blkS (W.length + 1) W with
      | none => none
      | some W' => if W' = [] then some [(0, [])] else match tokS W' with
        | none => none
        | some (k, w) => (lexS f (W'.drop w.length)).map ((k, w) :: ·)) = some us := h
    cases hb : blkS (W.length + 1) W with
    | none => rw [hb] at h; cases h
    | some W' =>
      have hl := blkS_len _ _ _ hb
      rw [hb] at h
      by_cases hn : W' = []
      · have h : some [(0, [])] = some us := by rw [← h]; exact (if_pos hn).symm
        cases h
        refine ⟨by simp, fun sp hsp => ?_⟩
        have ej : join [(0, [])] sp = sp 0 ++ [] := rfl
        have := hsp 0
        rw [ej, List.append_nil]
        simp
        omega
      · have h : (match tokS W' with
            | none => none
            | some (k, w) => (lexS f (W'.drop w.length)).map ((k, w) :: ·)) = some us := by rw [← h]; exact (if_neg hn).symm
        cases ht : tokS W' with
        | none => rw [ht] at h; cases h
        | some kw =>
          obtain ⟨k, w⟩ := kw
          obtain ⟨w1, w2⟩ := tokS_len hn ht
          rw [ht] at h
          have h : (lexS f (W'.drop w.length)).map ((k, w) :: ·) = some us := h
          cases hr : lexS f (W'.drop w.length) with
          | none => rw [hr] at h; cases h
          | some us' =>
            rw [hr] at h
            have h : some ((k, w) :: us') = some us := h
            cases h
            obtain ⟨i1, i2⟩ := ih _ us' hr
            rw [List.length_drop] at i1 i2
            refine ⟨by rw [List.length_cons]; omega, fun sp hsp => ?_⟩
            have j := i2 (fun i => sp (i + 1)) (fun i => hsp (i + 1))
            have e : (join ((k, w) :: us') sp).length = w.length + ((sp 0).length + (join us' (fun i => sp (i + 1))).length) := by
              show (w ++ (sp 0 ++ join us' (fun i => sp (i + 1)))).length = _
              rw [List.length_append, List.length_append]
            have := hsp 0
            rw [e, List.length_cons]
            omega
theorem lexT_len {l : List Nat} {ts : List (Nat × List Nat × Nat)} (h : lexT l = (ts, none)) (sp : Nat → List Nat) (hsp : ∀ i, (sp i).length ≤ 12) : ts.length ≤ l.length + 1 ∧ (join (ts.map kt) sp).length ≤ l.length + 12 * ts.length := by
  have h0 : l.drop 0 = l := rfl
  obtain ⟨a1, a2⟩ := lex_S (l.length + 1) l 0 [] (Nat.zero_le _) (by omega)
  have hL : lexA (l.length + 1) l 0 [] = (ts, none) := h
  rw [hL, h0] at a1 a2
  cases hs : lexS (l.length + 1) l with
  | none => obtain ⟨e, he⟩ := a2 hs; cases he
  | some us =>
    obtain ⟨_, b2⟩ := a1 us hs
    have b2 : ts.map kt = us := b2
    obtain ⟨c1, c2⟩ := join_le _ _ _ hs
    rw [← b2, List.length_map] at c1
    have c2 := c2 sp hsp
    rw [← b2, List.length_map] at c2
    exact ⟨c1, c2⟩
end Go.AM.S
end

section
namespace Go.AM.S
open Go Go.AM Go.Proofs NumL
open _root_.Go.AM.G (R)
set_option linter.unusedVariables false
set_option linter.unusedSimpArgs false
set_option maxRecDepth 100000
open Go.Proofs.YtjldfkldmfmkiaaDoor
variable {L : List (Nat × Int × Int)}
section
variable {C : Cfg} {P : Program} {call : CallF} {gl : Nat → Bool} {o : Oper} {t' tm : Tm} {loc : Lo} {hp : Hp}
theorem genD_val {d : Nat} {v : V} {J : JD} {X : XD} (hd : o.dst = some d) (hp1 : locV P C gl (⟨t', loc, hp⟩ : St).ρ (⟨t', loc, hp⟩ : St).lc o = some (v, none))
    (hf : footV P C gl (⟨t', loc, hp⟩ : St).ρ (⟨t', loc, hp⟩ : St).lc o = some ⟨[], [], false, false, false, false⟩) :
    genD P C call gl o t' loc hp J X = J v ⟨[], [], false, false, false, false⟩ loc hp := by
  have hs : stepV P C gl ⟨t', loc, hp⟩ o = some (.val v ⟨t', loc, hp⟩) := by
    unfold stepV
    rw [hp1]; rfl
  unfold genD
  rw [F.e_footV, F.e_oneV, F.e_rho, F.e_lcf, hf]
  show G.onSome (oneV P C call gl ⟨t', loc, hp⟩ o) _ none = _
  unfold oneV
  rw [hs]
  have e1 : F.settle hp hp ⟨[], [], false, false, false, false⟩ = ⟨[], [], false, false, false, false⟩ := by
    unfold F.settle
    rw [Nat.beq_refl, Nat.beq_refl]; rfl
  simp only [putV, hd]
  show J (gt (aset t' d v) d) (F.settle hp hp ⟨[], [], false, false, false, false⟩) loc hp = _
  rw [gt_eq, aget_aset, if_pos rfl, e1]
end
theorem d3_7 (c : CallF) (t : Tm) (l : Lo) (h : Hp) (J : JD) (X : XD) : gD Tryd.f3 3 15 7 c t l h J X = J (.slice none true 1 (sepL.map (fun a => V.str (sl a)))) ⟨[], [], false, false, false, false⟩ l h :=
  genD_val (C := Cg) (gl := Cg.glob 3) (call := c) (o := opA Tryd.f3 15 7) (d := 52) (by kernel_rfl) (by kernel_rfl) (by kernel_rfl)
def sepI (ms : List Nat) (i : Nat) : Nat := if i < ms.length then ms.getD i 0 % 6 else 0
def sepF (ms : List Nat) (i : Nat) : List Nat := sepL.getD (sepI ms i) []
theorem sepI_lt (ms : List Nat) (i : Nat) : sepI ms i < 6 := by unfold sepI; split <;> omega
theorem sepF_mem (ms : List Nat) (i : Nat) : sepF ms i ∈ sepL := by
  have h : sepI ms i < sepL.length := sepI_lt ms i
  unfold sepF
  rw [List.getD_eq_getElem?_getD, List.getElem?_eq_getElem h]
  exact List.getElem_mem h
theorem sep_len : ∀ q ∈ sepL, q.length ≤ 12 := by decide
theorem ne_self (t : TypeId) (cn : Bool) (a : Str) : bin Pg .neq t cn (.str a) (.str a) = some (.bool false) := by
  show some (V.bool (!(a.same a))) = _
  rw [show a.same a = true from (Str.same_spec a a).2 rfl]; rfl
theorem nat_ne (n : Nat) : decide (n ≠ n) = false := decide_eq_false (fun h => h rfl)
theorem join_pre : ∀ (us vs : List (Nat × List Nat)) (sp : Nat → List Nat), ∃ R, join (us ++ vs) sp = join us sp ++ R := by
  intro us vs
  induction us with
  | nil => intro sp; exact ⟨join vs sp, rfl⟩
  | cons a us ih =>
    intro sp
    obtain ⟨R, e⟩ := ih (fun i => sp (i + 1))
    refine ⟨R, ?_⟩
    show a.2 ++ (sp 0 ++ join (us ++ vs) (fun i => sp (i + 1))) = (a.2 ++ (sp 0 ++ join us (fun i => sp (i + 1)))) ++ R
    rw [e]; simp only [List.append_assoc]
theorem join_take (ts : List (Nat × List Nat × Nat)) (i : Nat) (sp : Nat → List Nat) : ∃ R, join (ts.map kt) sp = join ((ts.take i).map kt) sp ++ R := by
  have e : ts.map kt = (ts.take i).map kt ++ (ts.drop i).map kt := by rw [← List.map_append, List.take_append_drop]
  rw [e]
  exact join_pre _ _ sp
theorem law3 {l ms : List Nat} {v : V} (hd : Dg 256 l) (hm : Dg 256 ms) (hv : Sl .u8 v ms) : Runs Pg (kn L) tbl 3 [.str (sl l), v] noHp (.val (.bool true) noHp) := by
  have fin_t : ∀ (tm : Tm) (loc : Lo) (hp : Hp), gt tm 4 = .bool true → hp.dirty = none → fin Pg noHp [.tmp 4] ⟨tm, loc, hp⟩ = some (.val (.bool true) noHp) :=
    fun tm loc hp h4 hh => fin_tmp (v := .bool true) h4 rfl hh rfl
  refine runs_of_ww kn3 tbl3 ?_
  unfold rc3
  refine sR ?_
  have hk7 : Runs Pg (kn L) tbl 7 [] ⟨noHp.rows, none, noHp.mods⟩ (.val (.bool true) ⟨noHp.rows, none, noHp.mods⟩) := kn7
  refine ww_seq (ww_seq (ww_call (hk7) (fun n hn k => by simp -implicitDefEqProofs (disch := omega) only [go_sem, reduceIte, Nat.reduceEqDiff, clc0 hn, Bool.not_true]; rfl) ?_))
  refine ww_false sS (ww_skip ?_)
  refine ww_joinX (fun s => l.length ≤ 500 ∧ ms.length ≤ 100 ∧ gt s.tm 0 = .str (sl l) ∧ gt s.tm 1 = v ∧ s.hp = noHp) ?_ (fun s ⟨hl5, hm1, h0, h1, hh⟩ => ?_)
  · refine ww_joinX (fun s => gt s.tm 21 = .bool (decide (500 < l.length) || decide (100 < ms.length)) ∧ gt s.tm 0 = .str (sl l) ∧ gt s.tm 1 = v ∧ s.hp = noHp) ?_ (fun s ⟨h21, h0, h1, hh⟩ => ?_)
    · obtain ⟨b1, d1⟩ : ∃ b, decide (500 < l.length) = b := ⟨_, rfl⟩
      obtain ⟨b2, d2⟩ : ∃ b, decide (100 < ms.length) = b := ⟨_, rfl⟩
      rw [d1, d2]
      cases b1 <;> cases b2
      all_goals
        refine ww_reg (fun n k => by simp -implicitDefEqProofs (disch := omega) only [go_sem, reduceIte, Nat.reduceEqDiff, gt_start, List.getD_cons_zero, List.getD_cons_succ, len_sl hv, d1, d2]; rfl) ?_
        exact ⟨(by simp only [gt_pt, reduceIte]; rfl), sSG, sSG, rfl⟩
    · cases hb : decide (500 < l.length) || decide (100 < ms.length) with
      | true =>
        rw [hb] at h21
        refine ww_true h21 ?_
        refine sR ?_
        exact ww_ret (fin_t _ _ _ sS (by rw [hh]; rfl))
      | false =>
        rw [hb] at h21
        rw [Bool.or_eq_false_iff, decide_eq_false_iff_not, decide_eq_false_iff_not] at hb
        refine ww_false h21 (ww_skip ?_)
        exact ⟨by omega, by omega, h0, h1, hh⟩
  obtain ⟨tm, loc, hp⟩ := s
  have hh : hp = noHp := hh
  subst hh
  have h0 : gt tm 0 = .str (sl l) := h0
  have h1 : gt tm 1 = v := h1
  obtain ⟨o, c1, c2⟩ := tokens8 (L := L) hd (by omega) noHp
  unfold tkOut at c2
  obtain ⟨x, ex⟩ : ∃ x, lexT l = x := ⟨_, rfl⟩
  rw [ex] at c2
  obtain ⟨ts, e⟩ := x
  have en0 : bin Pg .neq 26 true .nili .nili = some (.bool false) := by kernel_rfl
  cases e with
  | some e =>
    obtain ⟨p, c⟩ := e
    obtain ⟨j, rfl⟩ := c2
    refine ww_seq (ww_call (c1) (fun n hn k => by simp -implicitDefEqProofs (disch := omega) only [go_sem, reduceIte, Nat.reduceEqDiff, h0, clc1 hn (Ex1.str _)]; rfl) ?_)
    have en : bin Pg .neq 26 true (FtV (noHp.rows.length + 1)) .nili = some (.bool true) := by rfl
    refine ww_seq (ww_seq (ww_reg (fun n k => by simp -implicitDefEqProofs (disch := omega) only [go_sem, reduceIte, Nat.reduceEqDiff, en]; rfl) ?_))
    refine ww_true sS ?_
    refine sR ?_
    exact ww_ret (fin_t _ _ _ sS rfl)
  | none =>
    have c2 : o = .val (.tuple [.slice none false 3 (ts.map TV), .nili]) noHp := c2
    subst c2
    obtain ⟨k1, k2⟩ := lexT_len ex (sepF ms) (fun i => sep_len _ (sepF_mem ms i))
    obtain ⟨b1, b2, b3⟩ := blanks_law hd ex (sepF ms) (sepF_mem ms)
    refine ww_seq (ww_call (c1) (fun n hn k => by simp -implicitDefEqProofs (disch := omega) only [go_sem, reduceIte, Nat.reduceEqDiff, h0, clc1 hn (Ex1.str _)]; rfl) ?_)
    refine sQ1 en0 ?_
    refine ww_false sS (ww_skip ?_)
    refine sR ?_
    refine ww_joinX (fun s => gt s.tm 5 = .slice none false 3 (ts.map TV) ∧ gt s.tm 7 = .str (sl (join (ts.map kt) (sepF ms))) ∧ s.hp = noHp) ?_ (fun s ⟨g5, g7, gh⟩ => ?_)
    · refine sR ?_
      refine ww_for (fun m s => ∃ i, m + i = ts.length ∧ gt s.tm 1 = v ∧ gt s.tm 5 = .slice none false 3 (ts.map TV) ∧ gt s.tm 7 = .str (sl (join ((ts.take i).map kt) (sepF ms))) ∧ gt s.tm 8 = .int .i64 (.ofNat i) ∧ s.hp = noHp) ts.length
        ⟨0, rfl, (sS1 h1), sS, show gt _ 7 = V.str ⟨0, 0⟩ from sS, sS, rfl⟩ ?_
      intro m s ⟨i, hmi, q1, q5, q7, q8, qh⟩
      obtain ⟨tm, loc, hp⟩ := s
      have qh : hp = noHp := qh
      subst qh
      have q1 : gt tm 1 = v := q1
      have q5 : gt tm 5 = .slice none false 3 (ts.map TV) := q5
      have q8 : gt tm 8 = .int .i64 (.ofNat i) := q8
      have q7 : gt tm 7 = .str (sl (join ((ts.take i).map kt) (sepF ms))) := q7
      refine ww_seq (ww_seq (ww_reg (fun n k => by simp -implicitDefEqProofs (disch := omega) only [go_sem, reduceIte, Nat.reduceEqDiff, q5, q8, len_slice, List.length_map]; rfl) ?_))
      refine ww_if (by simp only [gt_pt, reduceIte]; rfl) (fun hi => ww_skip ?_) (fun hi => ww_exit ?_)
      · have hil : i < ts.length := hi
        obtain ⟨T, eT⟩ : ∃ T, ts[i] = T := ⟨_, rfl⟩
        have hTi : ts[i]? = some T := by rw [List.getElem?_eq_getElem hil, eT]
        have hj : join ((ts.take (i + 1)).map kt) (sepF ms) = (join ((ts.take i).map kt) (sepF ms) ++ T.2.1) ++ sepF ms i := by
          rw [List.take_add_one, hTi]
          show join ((ts.take i ++ [T]).map kt) _ = _
          rw [List.map_append]
          refine (join_snoc _ (kt T) _).trans ?_
          rw [List.length_map, List.length_take, Nat.min_eq_left (by omega), List.append_assoc]
          rfl
        obtain ⟨R, eR⟩ := join_take ts (i + 1) (sepF ms)
        have hdJ : Dg 256 (join ((ts.take (i + 1)).map kt) (sepF ms)) := by
          intro x hx
          exact b1 x (by rw [eR]; exact List.mem_append_left _ hx)
        have hlJ : (join ((ts.take (i + 1)).map kt) (sepF ms)).length ≤ 65536 := by
          have := congrArg List.length eR
          rw [List.length_append] at this
          omega
        rw [hj] at hdJ hlJ
        rw [List.length_append, List.length_append] at hlJ
        have hd1 : Dg 256 (join ((ts.take i).map kt) (sepF ms)) := fun x hx => hdJ x (List.mem_append_left _ (List.mem_append_left _ hx))
        have hd2 : Dg 256 (join ((ts.take i).map kt) (sepF ms) ++ T.2.1) := fun x hx => hdJ x (List.mem_append_left _ hx)
        refine ww_seq (ww_block ?_)
        refine sR ?_
        refine ww_joinX (fun s => gt s.tm 9 = .int .i64 (.ofNat (sepI ms i)) ∧ gt s.tm 1 = v ∧ gt s.tm 5 = .slice none false 3 (ts.map TV) ∧ gt s.tm 7 = .str (sl (join ((ts.take i).map kt) (sepF ms))) ∧ gt s.tm 8 = .int .i64 (.ofNat i) ∧ s.hp = noHp) ?_ (fun s ⟨r9, r1, r5, r7, r8, rh⟩ => ?_)
        · refine ww_seq (ww_reg (fun n k => by simp -implicitDefEqProofs (disch := omega) only [go_sem, reduceIte, Nat.reduceEqDiff, q1, len_sl hv, q8]; rfl) ?_)
          refine ww_if (by simp only [gt_pt, reduceIte]; rfl) (fun hx => ?_) (fun hx => ww_skip ?_)
          · have e : sepI ms i = ms.getD i 0 % 6 := if_pos hx
            have hb : ms.getD i 0 < 256 := hm.get (by decide) i
            refine ww_reg (fun n k => by simp -implicitDefEqProofs (disch := omega) only [go_sem, reduceIte, Nat.reduceEqDiff, q1, q8, ia_sl E22 L5 hv .i64 i hx]; rfl) ?_
            exact ⟨by rw [e]; exact sS, (sS1 q1), (sS1 q5), (sS1 q7), (sS1 q8), rfl⟩
          · exact ⟨by rw [show sepI ms i = 0 from if_neg hx]; exact sS, (sS1 q1), (sS1 q5), (sS1 q7), (sS1 q8), rfl⟩
        · obtain ⟨tm, loc, hp⟩ := s
          have rh : hp = noHp := rh
          subst rh
          have r1 : gt tm 1 = v := r1
          have r5 : gt tm 5 = .slice none false 3 (ts.map TV) := r5
          have r7 : gt tm 7 = .str (sl (join ((ts.take i).map kt) (sepF ms))) := r7
          have r8 : gt tm 8 = .int .i64 (.ofNat i) := r8
          have r9 : gt tm 9 = .int .i64 (.ofNat (sepI ms i)) := r9
          have hsx : (sepL.map (fun a => V.str (sl a)))[sepI ms i]? = some (.str (sl (sepF ms i))) := by
            have h6 : sepI ms i < sepL.length := sepI_lt ms i
            rw [List.getElem?_map, List.getElem?_eq_getElem h6]
            unfold sepF
            rw [List.getD_eq_getElem?_getD, List.getElem?_eq_getElem h6]; rfl
          have hia := ia_any E31 L9 none true .i64 (sepL.map (fun a => V.str (sl a))) (sepI ms i) (.str (sl (sepF ms i))) hsx rfl
          have ad1 := add_str 9 false (b := T.2.1) hd1 (by omega)
          have ad2 := add_str 9 false (b := sepF ms i) hd2 (by rw [List.length_append]; omega)
          refine ww_reg (fun n k => by simp -implicitDefEqProofs (disch := omega) only [go_sem, reduceIte, Nat.reduceEqDiff, r5, r7, r8, r9, ia_tok hTi, fa1, ld1, ad1, d3_7, hia, ad2]; exact finD_ok (by kernel_rfl)) ?_
          refine sE1 r8 ?_
          exact ⟨m - 1, by omega, i + 1, by omega, (sS1 r1), (sS1 r5), by rw [hj]; exact sS, sS, rfl⟩
      · rw [if_pos rfl]
        have : ts.take i = ts := List.take_of_length_le (by omega)
        rw [this] at q7
        exact ⟨(sS1 q5), (sS1 q7), rfl⟩
    · obtain ⟨tm, loc, hp⟩ := s
      have gh : hp = noHp := gh
      subst gh
      have g5 : gt tm 5 = .slice none false 3 (ts.map TV) := g5
      have g7 : gt tm 7 = .str (sl (join (ts.map kt) (sepF ms))) := g7
      obtain ⟨o2, e1, e2⟩ := tokens8 (L := L) b1 (by omega) noHp
      unfold tkOut at e2
      obtain ⟨y, ey⟩ : ∃ y, lexT (join (ts.map kt) (sepF ms)) = y := ⟨_, rfl⟩
      rw [ey] at e2 b2 b3
      obtain ⟨us, e'⟩ := y
      have b2 : e' = none := b2
      subst b2
      have b3 : us.map kt = ts.map kt := b3
      have e2 : o2 = .val (.tuple [.slice none false 3 (us.map TV), .nili]) noHp := e2
      subst e2
      have hlen : us.length = ts.length := by have := congrArg List.length b3; rwa [List.length_map, List.length_map] at this
      refine ww_seq (ww_call (e1) (fun n hn k => by simp -implicitDefEqProofs (disch := omega) only [go_sem, reduceIte, Nat.reduceEqDiff, g7, clc1 hn (Ex1.str _)]; rfl) ?_)
      refine ww_seq (ww_seq (ww_reg (fun n k => by simp -implicitDefEqProofs (disch := omega) only [go_sem, reduceIte, Nat.reduceEqDiff, g5, en0, len_slice, List.length_map, hlen, nat_ne]; rfl) ?_))
      refine ww_false sS (ww_skip ?_)
      refine ww_joinX (fun s => s.hp = noHp) ?_ (fun s gh => ?_)
      · refine sR ?_
        refine ww_for (fun m s => ∃ i, m + i = ts.length ∧ gt s.tm 5 = .slice none false 3 (ts.map TV) ∧ gt s.tm 10 = .slice none false 3 (us.map TV) ∧ gt s.tm 11 = .int .i64 (.ofNat i) ∧ s.hp = noHp) ts.length
          ⟨0, rfl, (sS1 g5), sS, sS, rfl⟩ ?_
        intro m s ⟨i, hmi, q5, q10, q11, qh⟩
        obtain ⟨tm, loc, hp⟩ := s
        have qh : hp = noHp := qh
        subst qh
        have q5 : gt tm 5 = .slice none false 3 (ts.map TV) := q5
        have q10 : gt tm 10 = .slice none false 3 (us.map TV) := q10
        have q11 : gt tm 11 = .int .i64 (.ofNat i) := q11
        refine ww_seq (ww_seq (ww_reg (fun n k => by simp -implicitDefEqProofs (disch := omega) only [go_sem, reduceIte, Nat.reduceEqDiff, q5, q11, len_slice, List.length_map]; rfl) ?_))
        refine ww_if (by simp only [gt_pt, reduceIte]; rfl) (fun hi => ww_skip ?_) (fun hi => ww_exit ?_)
        · have hil : i < ts.length := hi
          obtain ⟨T, eT⟩ : ∃ T, ts[i]? = some T := ⟨ts[i], List.getElem?_eq_getElem hil⟩
          obtain ⟨U, eU⟩ : ∃ U, us[i]? = some U := ⟨us[i]'(by omega), List.getElem?_eq_getElem (by omega)⟩
          have hk : kt U = kt T := by
            have := congrArg (fun z : List (Nat × List Nat) => z[i]?) b3
            simp only [List.getElem?_map, eT, eU, Option.map_some, Option.some.injEq] at this
            exact this
          have hk1 : U.1 = T.1 := (congrArg Prod.fst hk : (kt U).1 = (kt T).1)
          have hk2 : U.2.1 = T.2.1 := (congrArg Prod.snd hk : (kt U).2 = (kt T).2)
          refine ww_seq (ww_block ?_)
          refine ww_seq (ww_reg (fun n k => by simp -implicitDefEqProofs (disch := omega) only [go_sem, reduceIte, Nat.reduceEqDiff, q5, q10, q11, ia_tok eT, ia_tok eU, fa0, fa1, ld0, ld1, hk1, hk2, nat_ne, ne_self]; rfl) ?_)
          refine ww_false sS (ww_skip ?_)
          refine sE1 q11 ?_
          exact ⟨m - 1, by omega, i + 1, by omega, (sS1 q5), (sS1 q10), sS, rfl⟩
        · rw [if_pos rfl]
      · refine sR ?_
        exact ww_ret (fin_t _ _ _ sS (by rw [gh]; rfl))
end Go.AM.S
end
