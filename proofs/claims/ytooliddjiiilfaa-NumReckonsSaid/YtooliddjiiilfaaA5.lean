/- Part 5 of the proof: what it says stands at its theorems. -/
import Derived.Test.YtooliddjiiilfaaA4
import Derived.Test.YtooliddjiiilfaaA3
import Derived.KernelRfl
set_option linter.unusedVariables false
set_option linter.unusedSimpArgs false
set_option linter.unusedSectionVars false
section
namespace Go.AM.S
open Go Go.AM Go.Proofs NumL
open _root_.Go.AM.G (R)
set_option maxRecDepth 100000
theorem tbl67 : tbl 67 = some ⟨rc67, [.cell 4 31]⟩ := by kernel_rfl
def NR (v : V) (d : List Nat) (b : Bool) : Prop := (∃ s, v = .agg [.bool b, s] ∧ Sl .i64 s d) ∧ Dg 10000 d ∧ Cn d ∧ (d = [] → b = false)
theorem trim_spec {va : V} {a : List Nat} (ha : Sl .i64 va a) (da : Dg 10000 a) (la : a.length ≤ 1000000000) (ng : Bool) :
  Gives 67 [.bool ng, va] fun r => ∃ d, NR r d (ng && !d.isEmpty) ∧ Tr0 a d := by
 refine gives_of tbl67 fun h Q hQ => ?_
 unfold rc67
 refine ww_seq (ww_reg (fun n k => by simp -implicitDefEqProofs (disch := omega) only [go_sem, reduceIte, Nat.reduceEqDiff]; rfl) ?_)
 refine ww_join (M := fun s => ∃ d v, gt s.tm 1 = v ∧ Sl .i64 v d ∧ Tr0 a d ∧ Cn d ∧ gt s.tm 0 = .bool ng ∧ gt s.tm 4 = .ptr (.loc 4 1) 0 ∧ lg s.loc 4 = (1, .cells false [.bool false, .nils]) ∧ s.hp = ⟨h.rows, none, h.mods⟩) ?_ ?_
 ·refine ww_for (fun m s => ∃ d v, m = d.length ∧ gt s.tm 1 = v ∧ Sl .i64 v d ∧ Tr0 a d ∧ gt s.tm 0 = .bool ng ∧ gt s.tm 4 = .ptr (.loc 4 1) 0 ∧ lg s.loc 4 = (1, .cells false [.bool false, .nils]) ∧ s.hp = ⟨h.rows, none, h.mods⟩) a.length ⟨a, va, rfl, (by simp -implicitDefEqProofs (disch := omega) only [go_sem, reduceIte, Nat.reduceEqDiff, gt_start, List.getD_cons_zero, List.getD_cons_succ]), ha, Tr0.refl a, (by simp -implicitDefEqProofs (disch := omega) only [go_sem, reduceIte, Nat.reduceEqDiff, gt_start, List.getD_cons_zero, List.getD_cons_succ]), (by simp -implicitDefEqProofs (disch := omega) only [go_sem, reduceIte, Nat.reduceEqDiff]), (by simp -implicitDefEqProofs (disch := omega) only [go_sem, reduceIte, Nat.reduceEqDiff]), rfl⟩ ?_
  intro m s ⟨d, v, hm, h1, hv, ht, h0, h4, hl4, hhp⟩
  have hln := ht.len
  rcases Nat.eq_zero_or_pos d.length with hd | hd
  ·refine ww_seq (ww_seq (ww_reg (fun n k => by simp -implicitDefEqProofs (disch := omega) only [go_sem, reduceIte, Nat.reduceEqDiff, h1, len_sl hv, d_false]; rfl) ?_))
   refine ww_false (by simp -implicitDefEqProofs (disch := omega) only [go_sem, reduceIte, Nat.reduceEqDiff]) (ww_exit ?_)
   rw [if_pos rfl]
   exact ⟨d, v, (by simp -implicitDefEqProofs (disch := omega) only [go_sem, reduceIte, Nat.reduceEqDiff, h1]), hv, ht, fun i hi => by omega, (by simp -implicitDefEqProofs (disch := omega) only [go_sem, reduceIte, Nat.reduceEqDiff, h0]), (by simp -implicitDefEqProofs (disch := omega) only [go_sem, reduceIte, Nat.reduceEqDiff, h4]), (by simp -implicitDefEqProofs (disch := omega) only [go_sem, reduceIte, Nat.reduceEqDiff, hl4]), hhp⟩
  ·have hx : d.getD (d.length - 1) 0 < 10000 := (ht.dg da).get (by decide) _
   by_cases hz : d.getD (d.length - 1) 0 = 0
   ·refine ww_seq (ww_seq (ww_reg (fun n k => by simp -implicitDefEqProofs (disch := omega) only [go_sem, reduceIte, Nat.reduceEqDiff, h1, len_sl hv, d_true, ia29 hv, hz]; rfl) ?_))
    refine ww_true (by simp -implicitDefEqProofs (disch := omega) only [go_sem, reduceIte, Nat.reduceEqDiff]) (ww_skip (ww_block ?_))
    refine ww_reg (fun n k => by simp -implicitDefEqProofs (disch := omega) only [go_sem, reduceIte, Nat.reduceEqDiff, h1, len_sl hv, sl29 hv]; rfl) ?_
    exact ⟨d.length - 1, by omega, d.take (d.length - 1), _, by simp, (by simp -implicitDefEqProofs (disch := omega) only [go_sem, reduceIte, Nat.reduceEqDiff]), .inl ⟨false, rfl⟩, ht.next hd hz, (by simp -implicitDefEqProofs (disch := omega) only [go_sem, reduceIte, Nat.reduceEqDiff, h0]), (by simp -implicitDefEqProofs (disch := omega) only [go_sem, reduceIte, Nat.reduceEqDiff, h4]), (by simp -implicitDefEqProofs (disch := omega) only [go_sem, reduceIte, Nat.reduceEqDiff, hl4]), hhp⟩
   ·refine ww_seq (ww_seq (ww_reg (fun n k => by simp -implicitDefEqProofs (disch := omega) only [go_sem, reduceIte, Nat.reduceEqDiff, h1, len_sl hv, d_true, ia29 hv, d_false]; rfl) ?_))
    refine ww_false (by simp -implicitDefEqProofs (disch := omega) only [go_sem, reduceIte, Nat.reduceEqDiff]) (ww_exit ?_)
    rw [if_pos rfl]
    exact ⟨d, v, (by simp -implicitDefEqProofs (disch := omega) only [go_sem, reduceIte, Nat.reduceEqDiff, h1]), hv, ht, fun i hi => by rw [show i = d.length - 1 by omega]; exact hz, (by simp -implicitDefEqProofs (disch := omega) only [go_sem, reduceIte, Nat.reduceEqDiff, h0]), (by simp -implicitDefEqProofs (disch := omega) only [go_sem, reduceIte, Nat.reduceEqDiff, h4]), (by simp -implicitDefEqProofs (disch := omega) only [go_sem, reduceIte, Nat.reduceEqDiff, hl4]), hhp⟩
 ·intro s ⟨d, v, h1, hv, ht, hcn, h0, h4, hl4, hhp⟩
  have key : ∀ b : Bool, b = (ng && !d.isEmpty) → NR (.agg [.bool b, v]) d (ng && !d.isEmpty) := by
   intro b hb
   subst hb
   exact ⟨⟨v, rfl, hv⟩, ht.dg da, hcn, fun e => by subst e; simp⟩
  cases ng with
  | false =>
   refine ww_seq (ww_reg (fun n k => by simp -implicitDefEqProofs (disch := omega) only [go_sem, reduceIte, Nat.reduceEqDiff, h0, h1, h4, hl4, b67_3_7 (Pl.bool false) hv.pl, stc_two N31 1 (.bool false) v (.bool false) .nils _ rfl hv.pl.ok]; rfl) ?_)
   exact ww_ret (hQ _ _ (fin_cell (x := .bool false) (y := v) (f := false) (d := 4) (g := 1) (by kernel_rfl) (by simp -implicitDefEqProofs (disch := omega) only [go_sem, reduceIte, Nat.reduceEqDiff, h4]) (by simp -implicitDefEqProofs (disch := omega) only [go_sem, reduceIte, Nat.reduceEqDiff, hl4]) (Pl.bool _) hv.pl (by rw [hhp])) ⟨d, key false (by simp), ht⟩)
  | true =>
   refine ww_seq (ww_reg (fun n k => by simp -implicitDefEqProofs (disch := omega) only [go_sem, reduceIte, Nat.reduceEqDiff, h0, h1, h4, hl4, len_sl hv, b67_3_7 (Pl.bool _) hv.pl, stc_two N31 1 (.bool (decide (0 < d.length))) v (.bool false) .nils _ rfl hv.pl.ok]; rfl) ?_)
   refine ww_ret (hQ _ _ (fin_cell (x := .bool (decide (0 < d.length))) (y := v) (f := false) (d := 4) (g := 1) (by kernel_rfl) (by simp -implicitDefEqProofs (disch := omega) only [go_sem, reduceIte, Nat.reduceEqDiff, h4]) (by simp -implicitDefEqProofs (disch := omega) only [go_sem, reduceIte, Nat.reduceEqDiff, hl4]) (Pl.bool _) hv.pl (by rw [hhp])) ⟨d, key _ ?_, ht⟩)
   cases d with
   | nil => rfl
   | cons x l => simp
end Go.AM.S
end
section
namespace Go.AM.S
open Go Go.AM Go.Proofs NumL
open _root_.Go.AM.G (R)
set_option maxRecDepth 100000
theorem tbl16 : tbl 16 = some ⟨rc16, [.cell 2 31, .tmp 3]⟩ := by kernel_rfl
theorem bs_one {P : Program} {t e : TypeId} {z v : V} (he : F.elemT P t = some e) (hl : F.layE P e = some (1, false)) (hz : F.zeroV P e = some z) (h1 : F.noRefsR z = true) (h2 : z.live = true) (h3 : z.cells = [z]) (hv : v.live = true ∧ F.noRefsR v = true ∧ v.cells = [v]) (hf : filE 1 [(0, v)] (F.repR 1 z) = some [v]) : bs P t 1 [(0, v)] = some (.slice none true 1 [v]) := by
 unfold bs
 rw [he]
 show G.onSome (F.layE P e) _ none = _
 rw [hl]
 show G.onSome (F.zeroV P e) _ none = _
 rw [hz]
 show (bif Nat.ble (Nat.mul 1 1) 16777216 && F.noRefsR z && z.live && Nat.beq (F.lenR z.cells) 1 then G.onSome (filE 1 [(0, v)] (F.repR 1 z)) (fun l => some (V.slice none true 1 l)) none else none) = _
 rw [h1, h2, h3, hf]
 rfl
theorem bs29 (n : Nat) : bs Pg 29 1 [(0, .int .i64 (.ofNat n))] = some (.slice none true 1 (nl .i64 [n])) :=
 bs_one E29 L3 Z3 rfl rfl rfl ⟨rfl, rfl, rfl⟩ rfl
theorem i_gtr_neg (k : IntKind) (m n : Nat) : G.int2 .gtr k (.negSucc m) (.ofNat n) = some (.bool false) := rfl
theorem mx_neg0 (k k' : IntKind) (m n : Nat) : mxV (.int k (.negSucc m)) (.int k' (.ofNat n)) = some (.int k (.ofNat n)) := rfl
theorem clx2 {call : CallF} {f : FuncId} {w v v' : V} {tm : Tm} {loc : Lo} {hp h' : Hp} {j : V → Lo → Hp → R} {r : V} (hw : Ex1 w) (hv : ∀ st, AM.exp false st v = some (v', st)) (hc : call f [w, v'] hp = some (.val r h')) : cl call f [w, v] tm loc hp j = j r loc h' := by
 refine cl_val (st := ⟨.lf, loc, hp⟩) (l := [w, v']) ?_ hc
 unfold exps
 rw [hw]
 simp only [exps, hv]
theorem Tk.out {loc : Lo} {d : Nat} {v : V} {k : IntKind} {l : List Nat} (h : Tk loc d v k l) : ∃ v', Sl k v' l ∧ ∀ st, AM.exp false st v = some (v', st) := by
 rcases h with ⟨rfl, rfl⟩ | ⟨_, g, rfl, _⟩
 ·exact ⟨.nils, .inr ⟨rfl, rfl⟩, Pl.nils.ex⟩
 ·exact ⟨.slice none false 1 (nl k l), .inl ⟨false, rfl⟩, fun _ => rfl⟩
theorem Tk.frame {loc loc' : Lo} {d : Nat} {v : V} {k : IntKind} {l : List Nat} (h : Tk loc d v k l) (hf : lg loc' d = lg loc d) : Tk loc' d v k l := by
 rcases h with h | ⟨h0, g, h1, h2⟩
 ·exact .inl h
 ·exact .inr ⟨h0, g, h1, hf.trans h2⟩
def zr (d : List Nat) (b : Bool) : Int := bif b then -(vl 10000 d : Int) else (vl 10000 d : Int)
def IsR (k : Nat) (v : V) (z : Int) : Prop := ∃ d b, NR v d b ∧ z = zr d b ∧ d.length ≤ k
theorem IsR.mono {k l : Nat} {v : V} {z : Int} (h : IsR k v z) (hl : k ≤ l) : IsR l v z := by
 obtain ⟨d, b, h1, h2, h3⟩ := h
 exact ⟨d, b, h1, h2, by omega⟩
theorem zeroR : IsR 0 (.agg [.bool false, .nils]) 0 := ⟨[], false, ⟨⟨.nils, rfl, .inr ⟨rfl, rfl⟩⟩, Dg.nil _, fun i hi => by simp at hi, fun _ => rfl⟩, rfl, by simp⟩
theorem dv_eq (l : List Nat) : dv l = lv l.reverse := by rw [← dv_rev, List.reverse_reverse]
theorem dv_app (a b : List Nat) : dv (a ++ b) = dv a * 10 ^ b.length + dv b := by
 rw [dv_eq, dv_eq a, dv_eq b, List.reverse_append, lv_app, List.length_reverse, Nat.mul_comm, Nat.add_comm]
theorem lv_lt : ∀ {l : List Nat}, Dec l → lv l < 10 ^ l.length := by
 intro l
 induction l with
 | nil => intro _; simp [lv]
 | cons x l ih =>
  intro h
  have h1 := ih (fun y hy => h y (by simp [hy]))
  have h2 := h x (by simp)
  simp only [lv, List.length_cons, Nat.pow_succ]
  omega
theorem dv_lt {l : List Nat} (h : Dec l) : dv l < 10 ^ l.length := by
 rw [dv_eq]
 have := lv_lt h.rev
 rwa [List.length_reverse] at this
theorem good_pos {l : List Nat} (h : goodB l = true) : 0 < (bodyN l).length ∧ Dec (bodyN l) ∧ badB l = false := by
 unfold goodB at h
 have h1 : badB l = false := by cases hb : badB l with | false => rfl | true => rw [hb] at h; simp at h
 refine ⟨?_, ?_, h1⟩
 ·cases hb : bodyN l with
  | nil => unfold badB at h1; rw [hb] at h1; simp at h1
  | cons x t => simp
 ·rw [h1] at h; simpa using h
theorem parseR_spec {l : List Nat} (hd : Dg 256 l) (hl : l.length ≤ 1000) : Gives 16 [.str (sl l)] fun r => ∃ v, r = .tuple [v, .bool (goodB l)] ∧ IsR 252 v (zOf l) := by
 have rd := bodyN_dg hd
 have rl := bodyN_len l
 refine gives_of tbl16 fun h Q hQ => ?_
 obtain ⟨_, hrt, rfl⟩ := right_spec hd (by omega) ⟨h.rows, none, h.mods⟩
 unfold rc16
 refine ww_seq (ww_reg (fun n k => by simp -implicitDefEqProofs (disch := omega) only [go_sem, reduceIte, Nat.reduceEqDiff, gt_start, List.getD_cons_zero, List.getD_cons_succ]; rfl) ?_)
 refine ww_joinX (fun s => goodB l = true ∧ gt s.tm 0 = .str (sl l) ∧ gt s.tm 2 = .ptr (.loc 2 1) 0 ∧ lg s.loc 2 = (1, .cells false [.bool false, .nils]) ∧ s.hp = ⟨h.rows, none, h.mods⟩) ?_ (fun s ⟨hg, a0, a2, al, ah⟩ => ?_)
 ·refine ww_seq (ww_call (hrt) (fun n hn k => by simp -implicitDefEqProofs (disch := omega) only [go_sem, reduceIte, Nat.reduceEqDiff, gt_start, List.getD_cons_zero, List.getD_cons_succ, clc1 hn (Ex1.str _)]; rfl) ?_)
  cases hg : goodB l with
  | true =>
   refine ww_false (by simp -implicitDefEqProofs (disch := omega) only [go_sem, reduceIte, Nat.reduceEqDiff, Bool.not_true]) (ww_skip ?_)
   exact ⟨rfl, (by simp -implicitDefEqProofs (disch := omega) only [go_sem, reduceIte, Nat.reduceEqDiff, gt_start, List.getD_cons_zero, List.getD_cons_succ]), (by simp -implicitDefEqProofs (disch := omega) only [go_sem, reduceIte, Nat.reduceEqDiff]), (by simp -implicitDefEqProofs (disch := omega) only [go_sem, reduceIte, Nat.reduceEqDiff]), rfl⟩
  | false =>
   refine ww_true (by simp -implicitDefEqProofs (disch := omega) only [go_sem, reduceIte, Nat.reduceEqDiff, Bool.not_false]) ?_
   refine ww_seq (ww_reg (fun n k => by simp -implicitDefEqProofs (disch := omega) only [go_sem, reduceIte, Nat.reduceEqDiff, stc_two N31 1 (.bool false) .nils (.bool false) .nils _ rfl rfl]; rfl) ?_)
   refine ww_ret (hQ _ _ (fin_cell_tmp (x := .bool false) (y := .nils) (w := .bool false) (f := false) (d := 2) (g := 1) (by kernel_rfl) (by simp -implicitDefEqProofs (disch := omega) only [go_sem, reduceIte, Nat.reduceEqDiff]) (by simp -implicitDefEqProofs (disch := omega) only [go_sem, reduceIte, Nat.reduceEqDiff]) (Pl.bool _) Pl.nils (by simp -implicitDefEqProofs (disch := omega) only [go_sem, reduceIte, Nat.reduceEqDiff]) (Pl.bool _) (fun x hx => by cases hx)) ⟨_, by rw [hg], ?_⟩)
   have e : zOf l = 0 := by unfold zOf; rw [hg]; rfl
   rw [e]
   exact zeroR.mono (by omega)
 obtain ⟨hpos, hdec, hbad⟩ := good_pos hg
 have hl0 : 0 < l.length := by omega
 refine ww_seq (ww_reg (fun n k => by simp -implicitDefEqProofs (disch := omega) only [go_sem, reduceIte, Nat.reduceEqDiff, a0, idx_sl hd]; rfl) ?_)
 refine ww_join (M := fun s2 => gt s2.tm 0 = .str (sl (bodyN l)) ∧ gt s2.tm 4 = .bool (ng l) ∧ gt s2.tm 2 = .ptr (.loc 2 1) 0 ∧ lg s2.loc 2 = (1, .cells false [.bool false, .nils]) ∧ s2.hp = ⟨h.rows, none, h.mods⟩) ?_ (fun s2 ⟨b0, b4, b2, bl, bh⟩ => ?_)
 ·refine ww_seq (ww_reg (fun n k => by simp -implicitDefEqProofs (disch := omega) only [go_sem, reduceIte, Nat.reduceEqDiff]; rfl) ?_)
  cases hng : ng l with
  | true =>
   have eb : bodyN l = l.drop 1 := by unfold bodyN; rw [hng]; rfl
   refine ww_true (by rw [show decide (l.getD 0 0 = 45) = ng l from rfl, hng]; exact (by simp -implicitDefEqProofs (disch := omega) only [go_sem, reduceIte, Nat.reduceEqDiff])) ?_
   refine ww_reg (fun n k => by simp -implicitDefEqProofs (disch := omega) only [go_sem, reduceIte, Nat.reduceEqDiff, a0, slc_str hd]; rfl) ?_
   exact ⟨by rw [eb]; exact (by simp -implicitDefEqProofs (disch := omega) only [go_sem, reduceIte, Nat.reduceEqDiff]), by rw [show decide (l.getD 0 0 = 45) = ng l from rfl, hng]; exact (by simp -implicitDefEqProofs (disch := omega) only [go_sem, reduceIte, Nat.reduceEqDiff]), (by simp -implicitDefEqProofs (disch := omega) only [go_sem, reduceIte, Nat.reduceEqDiff, a2]), (by simp -implicitDefEqProofs (disch := omega) only [go_sem, reduceIte, Nat.reduceEqDiff, al]), ah⟩
  | false =>
   have eb : bodyN l = l := by unfold bodyN; rw [hng]; rfl
   refine ww_false (by rw [show decide (l.getD 0 0 = 45) = ng l from rfl, hng]; exact (by simp -implicitDefEqProofs (disch := omega) only [go_sem, reduceIte, Nat.reduceEqDiff])) (ww_skip ?_)
   exact ⟨by rw [eb]; exact (by simp -implicitDefEqProofs (disch := omega) only [go_sem, reduceIte, Nat.reduceEqDiff, a0]), by rw [show decide (l.getD 0 0 = 45) = ng l from rfl, hng]; exact (by simp -implicitDefEqProofs (disch := omega) only [go_sem, reduceIte, Nat.reduceEqDiff]), (by simp -implicitDefEqProofs (disch := omega) only [go_sem, reduceIte, Nat.reduceEqDiff, a2]), (by simp -implicitDefEqProofs (disch := omega) only [go_sem, reduceIte, Nat.reduceEqDiff, al]), ah⟩
 generalize hr : bodyN l = r at *
 refine ww_seq (ww_reg (fun n k => by simp -implicitDefEqProofs (disch := omega) only [go_sem, reduceIte, Nat.reduceEqDiff]; rfl) ?_)
 refine ww_join (M := fun s3 => ∃ v5 out, gt s3.tm 5 = v5 ∧ Tk s3.loc 44 v5 .i64 out ∧ Dg 10000 out ∧ vl 10000 out = dv r ∧ out.length ≤ 252 ∧ gt s3.tm 4 = .bool (ng l) ∧ gt s3.tm 2 = .ptr (.loc 2 1) 0 ∧ lg s3.loc 2 = (1, .cells false [.bool false, .nils]) ∧ s3.hp = ⟨h.rows, none, h.mods⟩) ?_ (fun s3 ⟨v5, out, c5, ctk, cdg, cvl, clen, c4, c2, cl2, ch⟩ => ?_)
 ·refine ww_seq (ww_reg (fun n k => by simp -implicitDefEqProofs (disch := omega) only [go_sem, reduceIte, Nat.reduceEqDiff, b0]; rfl) ?_)
  refine ww_for (fun m s3 => ∃ v5 out z, gt s3.tm 0 = .str (sl r) ∧ gt s3.tm 5 = v5 ∧ Tk s3.loc 44 v5 .i64 out ∧ Dg 10000 out ∧ vl 10000 out = dv (r.drop m) ∧ m ≤ r.length ∧ (0 < m → 4 * out.length = r.length - m) ∧ 4 * out.length ≤ r.length + 3 ∧ gt s3.tm 6 = .int .i64 z ∧ (z = .ofNat m ∨ (m = 0 ∧ ∃ q, z = .negSucc q)) ∧ gt s3.tm 4 = .bool (ng l) ∧ gt s3.tm 2 = .ptr (.loc 2 1) 0 ∧ lg s3.loc 2 = (1, .cells false [.bool false, .nils]) ∧ s3.hp = ⟨h.rows, none, h.mods⟩) r.length ⟨.nils, [], .ofNat r.length, (by simp -implicitDefEqProofs (disch := omega) only [go_sem, reduceIte, Nat.reduceEqDiff, b0]), (by simp -implicitDefEqProofs (disch := omega) only [go_sem, reduceIte, Nat.reduceEqDiff]), .inl ⟨rfl, rfl⟩, Dg.nil _, by simp [vl, dv], Nat.le_refl _, fun _ => by simp, by simp, (by simp -implicitDefEqProofs (disch := omega) only [go_sem, reduceIte, Nat.reduceEqDiff]), .inl rfl, (by simp -implicitDefEqProofs (disch := omega) only [go_sem, reduceIte, Nat.reduceEqDiff, b4]), (by simp -implicitDefEqProofs (disch := omega) only [go_sem, reduceIte, Nat.reduceEqDiff, b2]), (by simp -implicitDefEqProofs (disch := omega) only [go_sem, reduceIte, Nat.reduceEqDiff, bl]), bh⟩ ?_
  intro i s3 ⟨v5, out, z, c0, c5, ctk, cdg, cvl, hi, hfour, hfour2, c6, hz, c4, c2, cl2, ch⟩
  have stop : i = 0 → ∃ v5 out, gt s3.tm 5 = v5 ∧ Tk s3.loc 44 v5 .i64 out ∧ Dg 10000 out ∧ vl 10000 out = dv r ∧ out.length ≤ 252 ∧ gt s3.tm 4 = .bool (ng l) ∧ gt s3.tm 2 = .ptr (.loc 2 1) 0 ∧ lg s3.loc 2 = (1, .cells false [.bool false, .nils]) ∧ s3.hp = ⟨h.rows, none, h.mods⟩ := by
   intro e
   subst e
   exact ⟨v5, out, c5, ctk, cdg, by simpa using cvl, by omega, c4, c2, cl2, ch⟩
  rcases hz with rfl | ⟨e0, q, rfl⟩
  ·refine ww_seq (ww_seq (ww_reg (fun n k => by simp -implicitDefEqProofs (disch := omega) only [go_sem, reduceIte, Nat.reduceEqDiff, c6]; rfl) ?_))
   refine ww_if (by simp only [gt_pt, reduceIte]; rfl) (fun hi0 => ww_skip ?_) (fun hi0 => ww_exit ?_)
   ·refine ww_seq (ww_block ?_)
    refine ww_seq (ww_reg (fun n k => by simp -implicitDefEqProofs (disch := omega) only [go_sem, reduceIte, Nat.reduceEqDiff]; rfl) ?_)
    refine ww_join (M := fun s4 => gt s4.tm 7 = .int .i64 (.ofNat (dv ((r.take i).drop (i - 4)))) ∧ Kp [0, 2, 4, 5, 6] s3.tm s4.tm ∧ s4.loc = s3.loc ∧ s4.hp = s3.hp) ?_ (fun s4 ⟨d7, dk, dl, dh⟩ => ?_)
    ·refine ww_join (M := fun s4 => gt s4.tm 8 = .int .i64 (.ofNat (i - 4)) ∧ gt s4.tm 7 = .int .i64 (.ofNat 0) ∧ Kp [0, 2, 4, 5, 6] s3.tm s4.tm ∧ s4.loc = s3.loc ∧ s4.hp = s3.hp) ?_ (fun s4 ⟨d8, d7, dk, dl, dh⟩ => ?_)
     ·by_cases h4 : 4 ≤ i
      ·refine ww_reg (fun n k => by simp -implicitDefEqProofs (disch := omega) only [go_sem, reduceIte, Nat.reduceEqDiff, c6]; rfl) ?_
       exact ⟨(by simp -implicitDefEqProofs (disch := omega) only [go_sem, reduceIte, Nat.reduceEqDiff, Nat.max_eq_left]), (by simp -implicitDefEqProofs (disch := omega) only [go_sem, reduceIte, Nat.reduceEqDiff]), (by (try dsimp only); repeat (first | with_reducible exact Kp_refl _ _ | with_reducible refine Kp_pt (by decide) ?_)), rfl, rfl⟩
      ·refine ww_reg (fun n k => by simp -implicitDefEqProofs (disch := omega) only [go_sem, reduceIte, Nat.reduceEqDiff, c6, i_sub_neg, mx_neg0]; rfl) ?_
       exact ⟨by rw [show i - 4 = 0 by omega]; exact (by simp -implicitDefEqProofs (disch := omega) only [go_sem, reduceIte, Nat.reduceEqDiff]), (by simp -implicitDefEqProofs (disch := omega) only [go_sem, reduceIte, Nat.reduceEqDiff]), (by (try dsimp only); repeat (first | with_reducible exact Kp_refl _ _ | with_reducible refine Kp_pt (by decide) ?_)), rfl, rfl⟩
     ·refine ww_for (fun m s5 => ∃ k, m + k = i ∧ i - 4 ≤ k ∧ gt s5.tm 8 = .int .i64 (.ofNat k) ∧ gt s5.tm 7 = .int .i64 (.ofNat (dv ((r.take k).drop (i - 4)))) ∧ Kp [0, 2, 4, 5, 6] s3.tm s5.tm ∧ s5.loc = s3.loc ∧ s5.hp = s3.hp) (i - (i - 4)) ⟨i - 4, by omega, Nat.le_refl _, d8, by rw [List.drop_eq_nil_of_le (by simp; omega)]; exact d7, dk, dl, dh⟩ ?_
      intro m s5 ⟨k, hk, hik, e8, e7, ek, el, eh⟩
      have e6 := (ek 6 (by decide)).trans c6; have e0 := (ek 0 (by decide)).trans c0
      refine ww_seq (ww_seq (ww_reg (fun n k => by simp -implicitDefEqProofs (disch := omega) only [go_sem, reduceIte, Nat.reduceEqDiff, e8, e6]; rfl) ?_))
      refine ww_if (by simp only [gt_pt, reduceIte]; rfl) (fun hlt => ww_skip ?_) (fun hlt => ww_exit ?_)
      ·have hkr : k < r.length := by omega
       have hx := hdec (r.getD k 0) (by rw [List.getD_eq_getElem?_getD, List.getElem?_eq_getElem hkr]; exact List.getElem_mem _)
       have hdk : Dec ((r.take k).drop (i - 4)) := fun x hx => hdec x (List.mem_of_mem_take (List.mem_of_mem_drop hx))
       have hlt4 := dv_lt hdk
       have hlen4 : ((r.take k).drop (i - 4)).length ≤ 3 := by simp; omega
       have hp4 : 10 ^ ((r.take k).drop (i - 4)).length ≤ 10 ^ 3 := Nat.pow_le_pow_right (by decide) hlen4
       have hp4' : dv ((r.take k).drop (i - 4)) < 1000 := Nat.lt_of_lt_of_le hlt4 hp4
       refine ww_seq (ww_block ?_)
       refine ww_reg (fun n k => by simp -implicitDefEqProofs (disch := omega) only [go_sem, reduceIte, Nat.reduceEqDiff, e7, e8, e0, idx_sl rd]; rfl) ?_
       refine ww_reg (fun n k => by simp -implicitDefEqProofs (disch := omega) only [go_sem, reduceIte, Nat.reduceEqDiff, e8]; rfl) ?_
       refine ⟨m - 1, by omega, k + 1, by omega, by omega, (by simp -implicitDefEqProofs (disch := omega) only [go_sem, reduceIte, Nat.reduceEqDiff]), ?_, ?_, el, eh⟩
       ·rw [take_snoc r k hkr, List.drop_append_of_le_length (by simp; omega), dv_snoc]
        exact (by simp -implicitDefEqProofs (disch := omega) only [go_sem, reduceIte, Nat.reduceEqDiff])
       ·intro j hj
        rw [gt_pt, if_neg (by intro e; subst e; simp at hj), gt_pt, if_neg (by intro e; subst e; simp at hj), gt_pt, if_neg (by intro e; subst e; simp at hj)]
        exact ek j hj
      ·rw [if_pos rfl]
       have e : k = i := by omega
       subst e
       refine ⟨(by simp -implicitDefEqProofs (disch := omega) only [go_sem, reduceIte, Nat.reduceEqDiff, e7]), ?_, el, eh⟩
       intro j hj
       rw [gt_pt, if_neg (by intro e; subst e; simp at hj)]
       exact ek j hj
    ·have hdk : Dec ((r.take i).drop (i - 4)) := fun x hx => hdec x (List.mem_of_mem_take (List.mem_of_mem_drop hx))
     have hlt4 := dv_lt hdk
     have hlen4 : ((r.take i).drop (i - 4)).length ≤ 4 := by simp; omega
     have hp4 : dv ((r.take i).drop (i - 4)) < 10000 := Nat.lt_of_lt_of_le hlt4 (Nat.pow_le_pow_right (n := 10) (by decide) hlen4)
     obtain ⟨v6, l6, happ, htk6, hfr6⟩ := a16_15_3 [dv ((r.take i).drop (i - 4))] none true (ctk.frame (loc' := s4.loc) (by rw [dl])) (by simp) (by simp; omega)
     have f5 := (dk 5 (by decide)).trans c5; have f6 := (dk 6 (by decide)).trans c6; have f0 := (dk 0 (by decide)).trans c0; have f4 := (dk 4 (by decide)).trans c4; have f2 := (dk 2 (by decide)).trans c2
     refine ww_reg (fun n k => by simp -implicitDefEqProofs (disch := omega) only [go_sem, reduceIte, Nat.reduceEqDiff, d7, f5, bs29, happ]; rfl) ?_
     have hvl6 : vl 10000 (out ++ [dv ((r.take i).drop (i - 4))]) = dv (r.drop (i - 4)) := by
      rw [vl_append, vl_one, cvl]
      have e1 : r.drop (i - 4) = (r.take i).drop (i - 4) ++ r.drop i := by
       conv => lhs; rw [← List.take_append_drop i r]
       rw [List.drop_append_of_le_length (by simp; omega)]
      rw [e1, dv_app, List.length_drop, ← hfour hi0, Nat.pow_mul, Nat.mul_comm, Nat.add_comm]
     have hl2 : lg l6 2 = (1, .cells false [.bool false, .nils]) := by rw [hfr6 2 (by decide), dl]; exact cl2
     have h4 := hfour hi0
     by_cases hi4 : 4 ≤ i
     ·refine ww_reg (fun n k => by simp -implicitDefEqProofs (disch := omega) only [go_sem, reduceIte, Nat.reduceEqDiff, f6]; rfl) ?_
      exact ⟨i - 4, by omega, v6, _, .ofNat (i - 4), (by simp -implicitDefEqProofs (disch := omega) only [go_sem, reduceIte, Nat.reduceEqDiff, f0]), (by simp -implicitDefEqProofs (disch := omega) only [go_sem, reduceIte, Nat.reduceEqDiff]), htk6, cdg.snoc hp4, hvl6, by omega, fun _ => by simp; omega, by simp; omega, (by simp -implicitDefEqProofs (disch := omega) only [go_sem, reduceIte, Nat.reduceEqDiff]), .inl rfl, (by simp -implicitDefEqProofs (disch := omega) only [go_sem, reduceIte, Nat.reduceEqDiff, f4]), (by simp -implicitDefEqProofs (disch := omega) only [go_sem, reduceIte, Nat.reduceEqDiff, f2]), hl2, dh.trans ch⟩
     ·refine ww_reg (fun n k => by simp -implicitDefEqProofs (disch := omega) only [go_sem, reduceIte, Nat.reduceEqDiff, f6, i_sub_neg]; rfl) ?_
      exact ⟨i - 4, by omega, v6, _, .negSucc (4 - i - 1), (by simp -implicitDefEqProofs (disch := omega) only [go_sem, reduceIte, Nat.reduceEqDiff, f0]), (by simp -implicitDefEqProofs (disch := omega) only [go_sem, reduceIte, Nat.reduceEqDiff]), htk6, cdg.snoc hp4, hvl6, by omega, fun q => by omega, by simp; omega, (by simp -implicitDefEqProofs (disch := omega) only [go_sem, reduceIte, Nat.reduceEqDiff]), .inr ⟨by omega, _, rfl⟩, (by simp -implicitDefEqProofs (disch := omega) only [go_sem, reduceIte, Nat.reduceEqDiff, f4]), (by simp -implicitDefEqProofs (disch := omega) only [go_sem, reduceIte, Nat.reduceEqDiff, f2]), hl2, dh.trans ch⟩
   ·rw [if_pos rfl]
    obtain ⟨v, o, q⟩ := stop (by omega)
    exact ⟨v, o, (by simp -implicitDefEqProofs (disch := omega) only [go_sem, reduceIte, Nat.reduceEqDiff, q.1]), q.2.1, q.2.2.1, q.2.2.2.1, q.2.2.2.2.1, (by simp -implicitDefEqProofs (disch := omega) only [go_sem, reduceIte, Nat.reduceEqDiff, q.2.2.2.2.2.1]), (by simp -implicitDefEqProofs (disch := omega) only [go_sem, reduceIte, Nat.reduceEqDiff, q.2.2.2.2.2.2.1]), q.2.2.2.2.2.2.2⟩
  ·refine ww_seq (ww_seq (ww_reg (fun n k => by simp -implicitDefEqProofs (disch := omega) only [go_sem, reduceIte, Nat.reduceEqDiff, c6, i_gtr_neg]; rfl) ?_))
   refine ww_false (by simp -implicitDefEqProofs (disch := omega) only [go_sem, reduceIte, Nat.reduceEqDiff]) (ww_exit ?_)
   rw [if_pos rfl]
   obtain ⟨v, o, q⟩ := stop e0
   exact ⟨v, o, (by simp -implicitDefEqProofs (disch := omega) only [go_sem, reduceIte, Nat.reduceEqDiff, q.1]), q.2.1, q.2.2.1, q.2.2.2.1, q.2.2.2.2.1, (by simp -implicitDefEqProofs (disch := omega) only [go_sem, reduceIte, Nat.reduceEqDiff, q.2.2.2.2.2.1]), (by simp -implicitDefEqProofs (disch := omega) only [go_sem, reduceIte, Nat.reduceEqDiff, q.2.2.2.2.2.2.1]), q.2.2.2.2.2.2.2⟩
 ·obtain ⟨v6, hsl, hex⟩ := ctk.out
  obtain ⟨w, hrun, d, hw, ht⟩ := trim_spec hsl cdg (by omega) (ng l) ⟨h.rows, none, h.mods⟩
  have hw0 := hw
  obtain ⟨⟨x, rfl, hx⟩, _⟩ := hw
  refine ww_seq (ww_call (hrun) (fun n hn k => by simp -implicitDefEqProofs (disch := omega) only [go_sem, reduceIte, Nat.reduceEqDiff, c2, c4, c5, ch, cl2, clx2 (Ex1.bool _) hex hn, stc_two N31 1 (.bool (ng l && !d.isEmpty)) x (.bool false) .nils _ rfl hx.pl.ok]; rfl) ?_)
  refine ww_ret (hQ _ _ (fin_cell_tmp (x := .bool (ng l && !d.isEmpty)) (y := x) (w := .bool true) (f := false) (d := 2) (g := 1) (by kernel_rfl) (by simp -implicitDefEqProofs (disch := omega) only [go_sem, reduceIte, Nat.reduceEqDiff, c2]) (by simp -implicitDefEqProofs (disch := omega) only [go_sem, reduceIte, Nat.reduceEqDiff]) (Pl.bool _) hx.pl (by simp -implicitDefEqProofs (disch := omega) only [go_sem, reduceIte, Nat.reduceEqDiff]) (Pl.bool _) (fun x hx => by cases hx)) ⟨_, by rw [hg], d, _, hw0, ?_, by have := ht.len; omega⟩)
  have e6 := ht.vl 10000
  rw [cvl] at e6
  unfold zOf zr
  rw [hg, hr]
  cases hng : ng l with
  | false => simp only [Bool.false_and, cond_false, cond_true, e6]
  | true =>
   cases d with
   | nil => simp only [vl] at e6; simp only [List.isEmpty_nil, Bool.not_true, Bool.and_false, cond_false, cond_true, vl, ← e6]; rfl
   | cons x0 l0 => simp only [List.isEmpty_cons, Bool.not_false, Bool.and_self, cond_true, e6]
end Go.AM.S
end
section
namespace Go.AM.S
open Go Go.AM Go.Proofs NumL
open _root_.Go.AM.G (R)
section
variable {P : Program} {C : Cfg} {call : CallF} {gl : Nat → Bool} {o : Oper} {loc : Lo} {hp : Hp}
theorem gen_growX {d d1 x y t e b : Nat} (h1 : d1 ≠ d) (hi : ApI P o d x y t) (hA : C.isArr t = true) (hg : gl d = false) (he : elemT P t = some e) (hl : layE P e = some (1, false)) (hb : byteE P e = some b) (hxy : x ≠ y)
    {k : IntKind} {l ys : List Nat} {v w : V} (hv : Ar loc d1 v k l) (hw : ∀ tm hp, itemsOf ⟨tm, loc, hp⟩ w = some (nl k ys)) (hys : ys ≠ []) (hn : (l.length + ys.length) * b ≤ 70368744177664) :
    ∃ v' loc', (∀ (call : CallF) (tm : Tm) (hp : Hp) (j : V → Lo → Hp → R), gen P C call gl o (pt (pt .lf x v) y w) tm loc hp j = j v' loc' hp) ∧ Ar loc' d v' k (l ++ ys) ∧ ∀ i, i ≠ d → i ≠ d1 → lg loc' i = lg loc i := by
  obtain ⟨hd, c, ho, hc, ha, hty, hni⟩ := hi
  have hx : gt (pt (pt .lf x v) y w) x = v := by rw [gt_pt, if_neg (Ne.symm hxy), gt_pt, if_pos rfl]
  have hy : gt (pt (pt .lf x v) y w) y = w := by rw [gt_pt, if_pos rfl]
  have hp1 : ∀ (tm : Tm) hp, locV P C gl (⟨tm, loc, hp⟩ : St).ρ (⟨tm, loc, hp⟩ : St).lc o = none := by
    intro tm hp
    unfold locV
    simp only [ho, pureV, hc, ha, Option.map_none]
  have hne : ∀ {q : Prop}, nl k ys = [] → q := fun h => absurd (by simpa [nl] using h) hys
  have hmb : ∀ n, n ≤ 70368744177664 → Nat.ble n maxBytes = true := fun n h => by rw [Nat.ble_eq]; exact h
  rcases hv with ⟨rfl, rfl⟩ | ⟨hl0, g, rfl, hrow⟩
  · refine ⟨.arr (.loc d ((lg loc d).1 + 1)) 0 ys.length none 1 false, lp loc d ((lg loc d).1 + 1, .cells false (nl k ys)), fun call tm hp j => gen_val (st := ⟨pt (pt .lf x .nils) y w, lp loc d ((lg loc d).1 + 1, .cells false (nl k ys)), hp⟩) hd ?_, .inr ⟨by simpa using hys, (lg loc d).1 + 1, by simp, by rw [lg_lp, if_pos rfl]; simp⟩, fun i hi _ => by rw [lg_lp, if_neg (Ne.symm hi)]⟩
    unfold stepV
    rw [hp1]
    unfold stepG
    simp only [ho, callS, hc, hty, hd, opds, ha, List.map_cons, List.map_nil, opd_gt, hx, hy, hni, cond_true, appendV, he, hl, hb, hw, fits_nl]
    split
    · rename_i h0; exact hne h0
    · rw [hmb _ (by simpa [nl_length] using hn)]
      simp only [cond_true, hA, growArr, hg, Bool.false_and, cond_false, addRow, lc_lg, aset_lp, flat_nl, nl_length]
  · have hrow' : ∀ tm hp, getRow ⟨tm, loc, hp⟩ (.loc d1 g) = some (.cells false (nl k l)) := fun tm hp => getRow_loc hrow
    refine ⟨.arr (.loc d ((lg loc d).1 + 1)) 0 (l ++ ys).length none 1 false, lp (lp loc d1 (g, .gone)) d ((lg loc d).1 + 1, .cells false (nl k (l ++ ys))), fun call tm hp j => gen_val (st := ⟨pt (pt .lf x (.arr (.loc d1 g) 0 l.length none 1 false)) y w, lp (lp loc d1 (g, .gone)) d ((lg loc d).1 + 1, .cells false (nl k (l ++ ys))), hp⟩) hd ?_, .inr ⟨by simp [hl0], _, rfl, by rw [lg_lp, if_pos rfl]⟩, fun i hi hj => by rw [lg_lp, if_neg (Ne.symm hi), lg_lp, if_neg (Ne.symm hj)]⟩
    · unfold stepV
      rw [hp1]
      unfold stepG
      simp only [ho, callS, hc, hty, hd, opds, ha, List.map_cons, List.map_nil, opd_gt, hx, hy, hni, cond_true, appendV, he, hl, hb, hw, fits_nl, hrow', nl_length, Nat.beq_refl, beq_self_eq_true, Bool.and_self, Nat.zero_add, Nat.mul_one]
      rw [show Nat.ble l.length l.length = true from by rw [Nat.ble_eq]; exact Nat.le_refl _, hmb _ hn]
      simp only [Bool.and_self, cond_true]
      split
      · rename_i h0; exact hne h0
      · simp only [isLoc, Bool.not_true, Bool.false_and, cond_false]
        rw [show Nat.ble (l.length + ys.length) l.length = false from by
          cases hb : Nat.ble (l.length + ys.length) l.length with
          | false => rfl
          | true => rw [Nat.ble_eq] at hb; have : ys.length ≠ 0 := by simpa using hys
                    omega]
        simp only [cond_false, growArr, hg, Bool.false_and, setRow_loc, addRow, lc_lg, lg_lp, if_neg h1, aset_lp, flat_nl, nl_append, List.length_append, cond_true]
end
end Go.AM.S
end
section
namespace Go.AM.S
open Go Go.AM Go.Proofs NumL
open _root_.Go.AM.G (R)
set_option maxRecDepth 100000
theorem tbl23 : tbl 23 = some ⟨rc23, [.tmp 2]⟩ := by kernel_rfl
theorem tx23 {l : Lo} {h : Hp} {w : V} {d : List Nat} (hw : ∀ q, w ≠ .str q) (hi : ∀ tm, itemsOf ⟨tm, l, h⟩ w = some (nl .u8 d)) (hd : Dg 256 d) (c : CallF) (t : Tm) (j : V → Lo → Hp → R) : go1 Try.f23 23 19 1 79 w c t l h j = j (.str (sl d)) l h :=
 gen_text (C := Cg) (gl := Cg.glob 23) (call := c) (tm := t) (loc := l) (hp := h) (j := j) (x := 79) (o := opA Try.f23 19 1) (d := 80) (s := 51) (t := 9) (e := 5) (by kernel_rfl) (by kernel_rfl) U51 U9 U5 hw hi hd
structure IX (s : V) (b : Bool) (h : Hp) (st : St) (v3 : V) (out : List Nat) : Prop where
 h1 : gt st.tm 1 = .ptr (.loc 1 1) 0
 h3 : gt st.tm 3 = v3
 l1 : lg st.loc 1 = (1, .cells false [.bool b, s])
 ar : Ar st.loc 47 v3 .u8 out
 dec : Dec out
 hh : st.hp = ⟨h.rows, none, h.mods⟩
theorem vl_pos_of {B : Nat} {d : List Nat} (hc : Cn d) (hd : d ≠ []) (hB : 0 < B) : 0 < vl B d := by
 have h1 := vl_ge (B := B) hc hd
 have h2 : 0 < B ^ (d.length - 1) := Nat.pow_pos hB
 omega
theorem getD_last_snoc (l : List Nat) (x : Nat) : (l ++ [x]).getD ((l ++ [x]).length - 1) 0 = x := by
 rw [List.getD_eq_getElem?_getD]; simp
theorem textR_spec {k : Nat} {v : V} {z : Int} (ha : IsR k v z) (hk : k ≤ 90000) : Gives 23 [v] fun r => ∃ t, r = .str (sl t) ∧ Dg 256 t ∧ goodB t = true ∧ zOf t = z ∧ t.length ≤ 4 * k + 20 := by
 obtain ⟨d, b, ⟨⟨s, rfl, hs⟩, dd, cd, h0⟩, hx, hl⟩ := ha
 refine gives_of tbl23 fun h Q hQ => ?_
 unfold rc23
 refine ww_seq (ww_reg (fun n k => by simp -implicitDefEqProofs (disch := omega) only [go_sem, reduceIte, Nat.reduceEqDiff, gt_start, List.getD_cons_zero, List.getD_cons_succ]; rfl) ?_)
 rcases Nat.eq_zero_or_pos d.length with e0 | e0
 ·have e : d = [] := List.length_eq_zero_iff.1 e0
  have eb := h0 e
  refine ww_seq (ww_seq (ww_reg (fun n k => by simp -implicitDefEqProofs (disch := omega) only [go_sem, reduceIte, Nat.reduceEqDiff, ldc_snd L29, len_sl hs, e0, d_true]; rfl) ?_))
  refine ww_true (by simp -implicitDefEqProofs (disch := omega) only [go_sem, reduceIte, Nat.reduceEqDiff]) ?_
  refine ww_seq (ww_reg (fun n k => by simp -implicitDefEqProofs (disch := omega) only [go_sem, reduceIte, Nat.reduceEqDiff]; rfl) ?_)
  refine ww_ret (hQ _ _ (fin_tmpD (v := .str (sl [48])) (by simp -implicitDefEqProofs only [go_sem, reduceIte]; rfl) (Ex1.str _) (fun x hx => by cases hx) rfl) ⟨[48], rfl, by intro x hx; simp at hx; subst hx; decide, by decide, ?_, by simp⟩)
  subst e; subst eb; subst hx
  rfl
 have hne : d ≠ [] := fun e => by subst e; simp at e0
 refine ww_seq (ww_seq (ww_reg (fun n k => by simp -implicitDefEqProofs (disch := omega) only [go_sem, reduceIte, Nat.reduceEqDiff, ldc_snd L29, len_sl hs, d_false]; rfl) ?_))
 refine ww_false (by simp -implicitDefEqProofs (disch := omega) only [go_sem, reduceIte, Nat.reduceEqDiff]) (ww_skip ?_)
 refine ww_seq (ww_reg (fun n k => by simp -implicitDefEqProofs (disch := omega) only [go_sem, reduceIte, Nat.reduceEqDiff]; rfl) ?_)
 refine ww_join (M := fun st => ∃ v3 out, IX s b h st v3 out ∧ lv out = vl 10000 d ∧ out.length ≤ 4 * k ∧ 0 < out.length ∧ out.getD (out.length - 1) 0 ≠ 48) ?_ ?_
 ·refine ww_seq (ww_reg (fun n k => by simp -implicitDefEqProofs (disch := omega) only [go_sem, reduceIte, Nat.reduceEqDiff]; rfl) ?_)
  refine ww_for (fun m st => ∃ i v3 out, m + i = d.length ∧ gt st.tm 4 = .int .i64 (.ofNat i) ∧ IX s b h st v3 out ∧ lv out = vl 10000 (d.take i) ∧ out.length ≤ 4 * i ∧ (i < d.length → out.length = 4 * i) ∧ (i = d.length → 0 < out.length ∧ out.getD (out.length - 1) 0 ≠ 48)) d.length ⟨0, .nils, [], rfl, (by simp -implicitDefEqProofs (disch := omega) only [go_sem, reduceIte, Nat.reduceEqDiff]), ⟨(by simp -implicitDefEqProofs (disch := omega) only [go_sem, reduceIte, Nat.reduceEqDiff]), (by simp -implicitDefEqProofs (disch := omega) only [go_sem, reduceIte, Nat.reduceEqDiff]), (by simp -implicitDefEqProofs (disch := omega) only [go_sem, reduceIte, Nat.reduceEqDiff]), .inl ⟨rfl, (by simp -implicitDefEqProofs (disch := omega) only [go_sem, reduceIte, Nat.reduceEqDiff])⟩, (fun x hx => by simp at hx), rfl⟩, rfl, by simp, fun _ => rfl, fun q => by omega⟩ ?_
  intro m st ⟨i, v3, out, hm, h4, H, hlv, hlo, hlo2, hlast⟩
  obtain ⟨h1, h3, l1, ar, dec, hh⟩ := H
  refine ww_seq (ww_seq (ww_reg (fun n k => by simp -implicitDefEqProofs (disch := omega) only [go_sem, reduceIte, Nat.reduceEqDiff, h4, h1, l1, ldc_snd L29, len_sl hs]; rfl) ?_))
  refine ww_if (by simp only [gt_pt, reduceIte]; rfl) (fun hi => ww_skip ?_) (fun hi => ww_exit ?_)
  ·have hx0 : d.getD i 0 < 10000 := dd.get (by decide) i
   refine ww_seq (ww_block ?_)
   refine ww_seq (ww_reg (fun n k => by simp -implicitDefEqProofs (disch := omega) only [go_sem, reduceIte, Nat.reduceEqDiff, h4, h1, l1, ldc_snd L29, ia29 hs]; rfl) ?_)
   refine ww_seq (ww_reg (fun n k => by simp -implicitDefEqProofs (disch := omega) only [go_sem, reduceIte, Nat.reduceEqDiff]; rfl) ?_)
   refine ww_mono (N := fun s2 => ∃ v4 out4, gt s2.tm 4 = .int .i64 (.ofNat i) ∧ IX s b h s2 v4 out4 ∧ lv out4 = vl 10000 (d.take (i + 1)) ∧ out4.length ≤ 4 * (i + 1) ∧ (i + 1 < d.length → out4.length = 4 * (i + 1)) ∧ (i + 1 = d.length → 0 < out4.length ∧ out4.getD (out4.length - 1) 0 ≠ 48)) (X := fun _ _ => False) (Q := fun _ => False) ?_ ?_ (fun _ _ h => h.elim) (fun _ h => h.elim)
   ·refine ww_for (fun m s2 => ∃ q x v4 out4, m + q = 4 ∧ gt s2.tm 4 = .int .i64 (.ofNat i) ∧ gt s2.tm 6 = .int .i64 (.ofNat q) ∧ gt s2.tm 5 = .int .i64 (.ofNat x) ∧ x < 10 ^ (4 - q) ∧ IX s b h s2 v4 out4 ∧ lv out4 + 10 ^ out4.length * x = vl 10000 (d.take (i + 1)) ∧ out4.length = 4 * i + q ∧ (i + 1 = d.length → x = 0 → 0 < out4.length ∧ out4.getD (out4.length - 1) 0 ≠ 48)) 4 ⟨0, d.getD i 0, v3, out, rfl, (by simp -implicitDefEqProofs (disch := omega) only [go_sem, reduceIte, Nat.reduceEqDiff, h4]), (by simp -implicitDefEqProofs (disch := omega) only [go_sem, reduceIte, Nat.reduceEqDiff]), (by simp -implicitDefEqProofs (disch := omega) only [go_sem, reduceIte, Nat.reduceEqDiff]), hx0, ⟨(by simp -implicitDefEqProofs (disch := omega) only [go_sem, reduceIte, Nat.reduceEqDiff, h1]), (by simp -implicitDefEqProofs (disch := omega) only [go_sem, reduceIte, Nat.reduceEqDiff, h3]), (by simp -implicitDefEqProofs (disch := omega) only [go_sem, reduceIte, Nat.reduceEqDiff, l1]), ar, dec, hh⟩, ?_, hlo2 hi, ?_⟩ ?_
    ·rw [vl_take_next, hlv, hlo2 hi, Nat.pow_mul]
    ·intro e e2
     exact absurd e2 (cd i e.symm)
    intro m2 s2 ⟨q, x, v4, out4, hm2, j4, j6, j5, hxq, H4, hv4, hlen4, hlast4⟩
    obtain ⟨q1, q3, k1, ar4, dec4, hh4⟩ := H4
    have hx4 : x < 10000 := Nat.lt_of_lt_of_le hxq (Nat.pow_le_pow_right (n := 10) (by decide) (show 4 - q ≤ 4 by omega))
    have fin : ¬ (q < 4 ∧ (i + 1 < d.length ∨ 0 < x)) → ∀ tm, gt tm 4 = .int .i64 (.ofNat i) → gt tm 1 = .ptr (.loc 1 1) 0 → gt tm 3 = v4 → ∃ v4 out4, gt tm 4 = .int .i64 (.ofNat i) ∧ IX s b h ⟨tm, s2.loc, s2.hp⟩ v4 out4 ∧ lv out4 = vl 10000 (d.take (i + 1)) ∧ out4.length ≤ 4 * (i + 1) ∧ (i + 1 < d.length → out4.length = 4 * (i + 1)) ∧ (i + 1 = d.length → 0 < out4.length ∧ out4.getD (out4.length - 1) 0 ≠ 48) := by
     intro hq tm t4 t1 t3
     have ex : x = 0 := by
      by_cases hq4 : q = 4
      ·subst hq4; rw [show (10 : Nat) ^ (4 - 4) = 1 from rfl] at hxq; omega
      ·omega
     subst ex
     exact ⟨v4, out4, t4, ⟨t1, t3, k1, ar4, dec4, hh4⟩, by simpa using hv4, by omega, fun h => by omega, fun h => hlast4 h rfl⟩
    have body : q < 4 → (i + 1 < d.length ∨ 0 < x) → ∀ tm, gt tm 4 = .int .i64 (.ofNat i) → gt tm 1 = .ptr (.loc 1 1) 0 → gt tm 3 = v4 → gt tm 5 = .int .i64 (.ofNat x) → gt tm 6 = .int .i64 (.ofNat q) → WW Pg kn0 tbl (.seq (.block 3 (.seq (.reg fun c t l h k => bO (bin Pg .rem 3 true (g5 t) (I 10)) fun v0 => bO (bin Pg .add 3 true (I 48) v0) fun v1 => gn Try.f23 23 11 4 c (p44 t v1) t l h (fun v2 l2 h2 => gn Try.f23 23 11 5 c (p45 t v2) t l2 h2 (fun v3 l3 h3 => gn Try.f23 23 11 6 c (p46 (p41 t (g3 t)) v3) t l3 h3 (fun v4 l4 h4 => k (p3 t v4) l4 h4))))
 (.reg fun c t l h k => bO (bin Pg .quo 3 true (g5 t) (I 10)) fun v0 => k (p5 t v0) l h)))
 (.reg fun c t l h k => bO (bin Pg .add 3 true (g6 t) (I 1)) fun v0 => k (p6 t v0) l h)) ⟨tm, s2.loc, s2.hp⟩ (fun s' => ∃ m', m' < m2 ∧ ∃ q x v4 out4, m' + q = 4 ∧ gt s'.tm 4 = .int .i64 (.ofNat i) ∧ gt s'.tm 6 = .int .i64 (.ofNat q) ∧ gt s'.tm 5 = .int .i64 (.ofNat x) ∧ x < 10 ^ (4 - q) ∧ IX s b h s' v4 out4 ∧ lv out4 + 10 ^ out4.length * x = vl 10000 (d.take (i + 1)) ∧ out4.length = 4 * i + q ∧ (i + 1 = d.length → x = 0 → 0 < out4.length ∧ out4.getD (out4.length - 1) 0 ≠ 48)) (fun i_1 s_1 => if i_1 = 2 then ∃ v4 out4, gt s_1.tm 4 = .int .i64 (.ofNat i) ∧ IX s b h s_1 v4 out4 ∧ lv out4 = vl 10000 (d.take (i + 1)) ∧ out4.length ≤ 4 * (i + 1) ∧ (i + 1 < d.length → out4.length = 4 * (i + 1)) ∧ (i + 1 = d.length → 0 < out4.length ∧ out4.getD (out4.length - 1) 0 ≠ 48) else False) (fun _ => False) := by
     intro hq4 hcont tm t4 t1 t3 t5 t6
     have hm10 : x % 10 < 10 := Nat.mod_lt _ (by decide)
     obtain ⟨v5, l5, happ, har5, hfr5⟩ := a23_11_6 (48 + x % 10) ar4 (by omega)
     refine ww_seq (ww_block ?_)
     refine ww_seq (ww_reg (fun n k => by simp -implicitDefEqProofs (disch := omega) only [go_sem, reduceIte, Nat.reduceEqDiff, t5, t3, happ]; rfl) ?_)
     refine ww_reg (fun n k => by simp -implicitDefEqProofs (disch := omega) only [go_sem, reduceIte, Nat.reduceEqDiff, t5]; rfl) ?_
     refine ww_reg (fun n k => by simp -implicitDefEqProofs (disch := omega) only [go_sem, reduceIte, Nat.reduceEqDiff, t6]; rfl) ?_
     refine ⟨m2 - 1, by omega, q + 1, x / 10, v5, out4 ++ [48 + x % 10], by omega, (by simp -implicitDefEqProofs (disch := omega) only [go_sem, reduceIte, Nat.reduceEqDiff, t4]), (by simp -implicitDefEqProofs (disch := omega) only [go_sem, reduceIte, Nat.reduceEqDiff]), (by simp -implicitDefEqProofs (disch := omega) only [go_sem, reduceIte, Nat.reduceEqDiff]), ?_, ⟨(by simp -implicitDefEqProofs (disch := omega) only [go_sem, reduceIte, Nat.reduceEqDiff, t1]), (by simp -implicitDefEqProofs (disch := omega) only [go_sem, reduceIte, Nat.reduceEqDiff]), by rw [hfr5 1 (by decide) (by decide)]; exact k1, har5, dec4.snoc (by omega) (by omega), hh4⟩, ?_, by simp [hlen4]; omega, ?_⟩
     ·have e : 10 ^ (4 - q) = 10 * 10 ^ (4 - (q + 1)) := by rw [show 4 - q = (4 - (q + 1)) + 1 by omega, Nat.pow_succ, Nat.mul_comm]
      omega
     ·rw [← hv4, lv_app, List.length_append, List.length_cons, List.length_nil, Nat.pow_succ]
      simp only [lv, Nat.mul_zero, Nat.add_zero, Nat.mul_assoc, Nat.add_assoc]
      rw [← Nat.mul_add, Nat.add_sub_cancel_left, Nat.mod_add_div]
     ·intro hil hx0
      refine ⟨by simp, ?_⟩
      rw [getD_last_snoc]
      omega
    by_cases hq4 : q < 4
    ·by_cases hil : i < d.length - 1
     ·refine ww_seq (ww_seq (ww_reg (fun n k => by simp -implicitDefEqProofs (disch := omega) only [go_sem, reduceIte, Nat.reduceEqDiff, j6, j5, j4, q1, k1, ldc_snd L29, len_sl hs, decide_eq_true hq4, decide_eq_true hil]; rfl) ?_))
      refine ww_true (by simp -implicitDefEqProofs (disch := omega) only [go_sem, reduceIte, Nat.reduceEqDiff]) (ww_skip ?_)
      exact body hq4 (.inl (by omega)) _ (by simp -implicitDefEqProofs (disch := omega) only [go_sem, reduceIte, Nat.reduceEqDiff, j4]) (by simp -implicitDefEqProofs (disch := omega) only [go_sem, reduceIte, Nat.reduceEqDiff, q1]) (by simp -implicitDefEqProofs (disch := omega) only [go_sem, reduceIte, Nat.reduceEqDiff, q3]) (by simp -implicitDefEqProofs (disch := omega) only [go_sem, reduceIte, Nat.reduceEqDiff, j5]) (by simp -implicitDefEqProofs (disch := omega) only [go_sem, reduceIte, Nat.reduceEqDiff, j6])
     ·by_cases hx1 : 0 < x
      ·refine ww_seq (ww_seq (ww_reg (fun n k => by simp -implicitDefEqProofs (disch := omega) only [go_sem, reduceIte, Nat.reduceEqDiff, j6, j5, j4, q1, k1, ldc_snd L29, len_sl hs, decide_eq_true hq4, decide_eq_false hil, decide_eq_true hx1]; rfl) ?_))
       refine ww_true (by simp -implicitDefEqProofs (disch := omega) only [go_sem, reduceIte, Nat.reduceEqDiff]) (ww_skip ?_)
       exact body hq4 (.inr hx1) _ (by simp -implicitDefEqProofs (disch := omega) only [go_sem, reduceIte, Nat.reduceEqDiff, j4]) (by simp -implicitDefEqProofs (disch := omega) only [go_sem, reduceIte, Nat.reduceEqDiff, q1]) (by simp -implicitDefEqProofs (disch := omega) only [go_sem, reduceIte, Nat.reduceEqDiff, q3]) (by simp -implicitDefEqProofs (disch := omega) only [go_sem, reduceIte, Nat.reduceEqDiff, j5]) (by simp -implicitDefEqProofs (disch := omega) only [go_sem, reduceIte, Nat.reduceEqDiff, j6])
      ·refine ww_seq (ww_seq (ww_reg (fun n k => by simp -implicitDefEqProofs (disch := omega) only [go_sem, reduceIte, Nat.reduceEqDiff, j6, j5, j4, q1, k1, ldc_snd L29, len_sl hs, decide_eq_true hq4, decide_eq_false hil, decide_eq_false hx1]; rfl) ?_))
       refine ww_false (by simp -implicitDefEqProofs (disch := omega) only [go_sem, reduceIte, Nat.reduceEqDiff]) (ww_exit ?_)
       rw [if_pos rfl]
       exact fin (by omega) _ (by simp -implicitDefEqProofs (disch := omega) only [go_sem, reduceIte, Nat.reduceEqDiff, j4]) (by simp -implicitDefEqProofs (disch := omega) only [go_sem, reduceIte, Nat.reduceEqDiff, q1]) (by simp -implicitDefEqProofs (disch := omega) only [go_sem, reduceIte, Nat.reduceEqDiff, q3])
    ·refine ww_seq (ww_seq (ww_reg (fun n k => by simp -implicitDefEqProofs (disch := omega) only [go_sem, reduceIte, Nat.reduceEqDiff, j6, decide_eq_false hq4]; rfl) ?_))
     refine ww_false (by simp -implicitDefEqProofs (disch := omega) only [go_sem, reduceIte, Nat.reduceEqDiff]) (ww_exit ?_)
     rw [if_pos rfl]
     exact fin (by omega) _ (by simp -implicitDefEqProofs (disch := omega) only [go_sem, reduceIte, Nat.reduceEqDiff, j4]) (by simp -implicitDefEqProofs (disch := omega) only [go_sem, reduceIte, Nat.reduceEqDiff, q1]) (by simp -implicitDefEqProofs (disch := omega) only [go_sem, reduceIte, Nat.reduceEqDiff, q3])
   ·intro s2 ⟨v4, out4, j4, H4, e1, e2, e3, e4⟩
    refine ww_reg (fun n k => by simp -implicitDefEqProofs (disch := omega) only [go_sem, reduceIte, Nat.reduceEqDiff, j4]; rfl) ?_
    obtain ⟨q1, q3, k1, ar4, dec4, hh4⟩ := H4
    exact ⟨m - 1, by omega, i + 1, v4, out4, by omega, (by simp -implicitDefEqProofs (disch := omega) only [go_sem, reduceIte, Nat.reduceEqDiff]), ⟨(by simp -implicitDefEqProofs (disch := omega) only [go_sem, reduceIte, Nat.reduceEqDiff, q1]), (by simp -implicitDefEqProofs (disch := omega) only [go_sem, reduceIte, Nat.reduceEqDiff, q3]), k1, ar4, dec4, hh4⟩, e1, e2, e3, e4⟩
  ·rw [if_pos rfl]
   have ei : i = d.length := by omega
   subst ei
   rw [List.take_length] at hlv
   exact ⟨v3, out, ⟨(by simp -implicitDefEqProofs (disch := omega) only [go_sem, reduceIte, Nat.reduceEqDiff, h1]), (by simp -implicitDefEqProofs (disch := omega) only [go_sem, reduceIte, Nat.reduceEqDiff, h3]), l1, ar, dec, hh⟩, hlv, by omega, hlast rfl⟩
 ·intro st ⟨v3, out, H, hlv, hlo, hpos, h48⟩
  obtain ⟨h1, h3, l1, ar, dec, hh⟩ := H
  have hgood := good_of b dec hpos h48
  rcases ar with ⟨e, _⟩ | ⟨hne0, g, rfl, hrow⟩
  ·subst e; simp at hpos
  refine ww_join (M := fun s3 => ∃ σ g, (σ = 47 ∨ σ = 54) ∧ gt s3.tm 3 = .arr (.loc σ g) 0 (out ++ bif b then [45] else []).length none 1 false ∧ lg s3.loc σ = (g, .cells false (nl .u8 (out ++ bif b then [45] else []))) ∧ s3.hp = ⟨h.rows, none, h.mods⟩) ?_ ?_
  ·refine ww_seq (ww_reg (fun n k => by simp -implicitDefEqProofs (disch := omega) only [go_sem, reduceIte, Nat.reduceEqDiff, h1, l1, ldc_fst L4]; rfl) ?_)
   cases b with
   | true =>
    refine ww_true (by simp -implicitDefEqProofs (disch := omega) only [go_sem, reduceIte, Nat.reduceEqDiff]) ?_
    obtain ⟨v5, l5, happ, har5, hfr5⟩ := gen_growX (k := .u8) (l := out) (v := .arr (.loc 47 g) 0 out.length none 1 false) (d1 := 47) (C := Cg) (gl := Cg.glob 23) (loc := lp st.loc 53 ((lg st.loc 53).1 + 1, .cells false (nl .u8 [45]))) (w := .arr (.loc 53 ((lg st.loc 53).1 + 1)) 0 1 (some 1) 1 false) (by decide) i23_14_2 (by kernel_rfl) (by kernel_rfl) (e := 5) (by kernel_rfl) (by kernel_rfl) (b := 1) (by kernel_rfl) (by decide) (ys := [45]) (.inr ⟨hne0, g, rfl, by rw [lg_lp, if_neg (by decide)]; exact hrow⟩) (fun tm hp => getRow_arr (ys := [45]) (by rw [lg_lp, if_pos rfl])) (by simp) (by simp; omega)
    have happ2 : ∀ (c : CallF) (tm : Tm) (hp : Hp) (j : V → Lo → Hp → R), go2 Try.f23 23 14 2 52 53 (.arr (.loc 47 g) 0 out.length none 1 false) (.arr (.loc 53 ((lg st.loc 53).1 + 1)) 0 1 (some 1) 1 false) c tm (lp st.loc 53 ((lg st.loc 53).1 + 1, .cells false (nl .u8 [45]))) hp j = j v5 l5 hp := happ
    refine ww_reg (fun n k => by simp -implicitDefEqProofs (disch := omega) only [go_sem, reduceIte, Nat.reduceEqDiff, h3, happ2]; rfl) ?_
    rcases har5 with ⟨e, _⟩ | ⟨_, g5, rfl, hr5⟩
    ·simp at e
    ·exact ⟨54, g5, .inr rfl, (by simp -implicitDefEqProofs (disch := omega) only [go_sem, reduceIte, Nat.reduceEqDiff, cond_true]), hr5, hh⟩
   | false =>
    refine ww_false (by simp -implicitDefEqProofs (disch := omega) only [go_sem, reduceIte, Nat.reduceEqDiff]) (ww_skip ?_)
    exact ⟨47, g, .inl rfl, (by simp -implicitDefEqProofs (disch := omega) only [go_sem, reduceIte, Nat.reduceEqDiff, cond_false, List.append_nil, h3]), by simpa using hrow, hh⟩
  ·intro s3 ⟨σ, g3, hσ, c3, hrow3, hh3⟩
   generalize hout : (out ++ bif b then [45] else []) = o3 at *
   have ho3 : 0 < o3.length ∧ o3.length ≤ out.length + 1 := by
    subst hout
    cases b <;> simp <;> omega
   have hd3 : Dg 256 o3 := by
    subst hout
    cases b with
    | true =>
     intro x hx
     rcases List.mem_append.1 hx with hx | hx
     ·exact dec.dg x hx
     ·simp at hx; subst hx; decide
    | false => exact fun x hx => dec.dg x (by simpa using hx)
   refine ww_join (M := fun s4 => gt s4.tm 3 = .arr (.loc σ g3) 0 o3.reverse.length none 1 false ∧ lg s4.loc σ = (g3, .cells false (nl .u8 o3.reverse)) ∧ s4.hp = ⟨h.rows, none, h.mods⟩) ?_ ?_
   ·refine ww_seq (ww_reg (fun n k => by simp -implicitDefEqProofs (disch := omega) only [go_sem, reduceIte, Nat.reduceEqDiff, c3]; rfl) ?_)
    refine ww_for (fun m s4 => ∃ i j cur, m = j + 1 - i ∧ i + j + 1 = o3.length ∧ gt s4.tm 3 = .arr (.loc σ g3) 0 o3.length none 1 false ∧ gt s4.tm 7 = .int .i64 (.ofNat i) ∧ gt s4.tm 8 = .int .i64 (.ofNat j) ∧ lg s4.loc σ = (g3, .cells false (nl .u8 cur)) ∧ cur.length = o3.length ∧ (∀ p, p < o3.length → cur.getD p 0 = if p < i ∨ j < p then o3.getD (o3.length - 1 - p) 0 else o3.getD p 0) ∧ s4.hp = ⟨h.rows, none, h.mods⟩) (o3.length - 1 + 1) ⟨0, o3.length - 1, o3, rfl, by omega, (by simp -implicitDefEqProofs (disch := omega) only [go_sem, reduceIte, Nat.reduceEqDiff, c3]), (by simp -implicitDefEqProofs (disch := omega) only [go_sem, reduceIte, Nat.reduceEqDiff]), (by simp -implicitDefEqProofs (disch := omega) only [go_sem, reduceIte, Nat.reduceEqDiff]), hrow3, rfl, fun p hp => by rw [if_neg (by omega)], hh3⟩ ?_
    intro m s4 ⟨i, j, cur, hm, hij, e3, e7, e8, hrow, hcl, hval, hhp⟩
    refine ww_seq (ww_seq (ww_reg (fun n k => by simp -implicitDefEqProofs (disch := omega) only [go_sem, reduceIte, Nat.reduceEqDiff, e7, e8]; rfl) ?_))
    refine ww_if (by simp only [gt_pt, reduceIte]; rfl) (fun hlt => ww_skip ?_) (fun hlt => ww_exit ?_)
    ·have hF : ∀ x : R, finD (rgA Try.f23 18).toList [] []
       [⟨[σ], [σ], false, false, false, false⟩, ft0, ⟨[σ], [σ], false, false, false, false⟩, ft0, ⟨[σ], [], false, false, false, false⟩, ft0, ft0, ft0, ⟨[σ], [], false, false, false, false⟩, ft0, ft0, ft0, ft0, ft0, ft0, ft0] x = x := by
      intro x
      rcases hσ with rfl | rfl
      ·exact finD_ok (by kernel_rfl)
      ·exact finD_ok (by kernel_rfl)
     refine ww_seq (ww_block ?_)
     refine ww_reg (fun n k => by
      simp -implicitDefEqProofs (disch := omega) only [go_sem, reduceIte, Nat.reduceEqDiff, e3, e7, e8, hrow, ldc_nl L5, stc_nl N5 i cur (show i < cur.length by omega), stc_nl N5 j (cur.set i (cur.getD j 0)) (show j < (cur.set i (cur.getD j 0)).length by rw [List.length_set]; omega)]
      exact hF _) ?_
     refine ww_reg (fun n k => by simp -implicitDefEqProofs (disch := omega) only [go_sem, reduceIte, Nat.reduceEqDiff, e7, e8]; rfl) ?_
     refine ⟨j - 1 + 1 - (i + 1), by omega, i + 1, j - 1, (cur.set i (cur.getD j 0)).set j (cur.getD i 0), rfl, by omega, (by simp -implicitDefEqProofs (disch := omega) only [go_sem, reduceIte, Nat.reduceEqDiff, e3]), (by simp -implicitDefEqProofs (disch := omega) only [go_sem, reduceIte, Nat.reduceEqDiff]), (by simp -implicitDefEqProofs (disch := omega) only [go_sem, reduceIte, Nat.reduceEqDiff]), by rw [lg_lp, if_pos rfl], by simp [hcl], ?_, hhp⟩
     intro p hp
     by_cases e1 : p = j
     ·subst e1
      rw [getD_set_eq _ _ _ (by simp; omega), if_pos (by omega), hval i (by omega), if_neg (by omega)]
      congr 1; omega
     ·rw [getD_set_ne _ _ _ _ (Ne.symm e1)]
      by_cases e2 : p = i
      ·subst e2
       rw [getD_set_eq _ _ _ (by omega), if_pos (by omega), hval j (by omega), if_neg (by omega)]
       congr 1; omega
      ·rw [getD_set_ne _ _ _ _ (Ne.symm e2), hval p hp]
       by_cases e3 : p < i ∨ j < p
       ·rw [if_pos e3, if_pos (by omega)]
       ·rw [if_neg e3, if_neg (by omega)]
    ·rw [if_pos rfl]
     have hfin : cur = o3.reverse := by
      refine list_ext_getD (by simp; omega) (fun p hp => ?_)
      have hp' : p < o3.length := by omega
      rw [getD_rev o3 p hp', hval p hp']
      by_cases e3 : p < i ∨ j < p
      ·rw [if_pos e3]
      ·rw [if_neg e3]; congr 1; omega
     rw [← hfin]
     exact ⟨(by simp -implicitDefEqProofs (disch := omega) only [go_sem, reduceIte, Nat.reduceEqDiff, e3, hcl]), hrow, hhp⟩
   ·intro s4 ⟨f3, hr4, hh4⟩
    refine ww_seq (ww_reg (fun n k => by simp -implicitDefEqProofs (disch := omega) only [go_sem, reduceIte, Nat.reduceEqDiff, f3, tx23 (l := s4.loc) (h := s4.hp) (w := .arr (.loc σ g3) 0 o3.reverse.length none 1 false) (fun q e => by cases e) (fun tm => getRow_arr hr4) (Dg.rev hd3)]; rfl) ?_)
    refine ww_ret (hQ _ _ (fin_tmpD (v := .str (sl o3.reverse)) (by simp -implicitDefEqProofs (disch := omega) only [go_sem, reduceIte, Nat.reduceEqDiff]) (Ex1.str _) (by rw [hh4]; exact fun x hx => by cases hx) rfl) ⟨o3.reverse, rfl, Dg.rev hd3, hgood.1, ?_, by simp; omega⟩)
    rw [hgood.2, hlv, hx]
    rfl
end Go.AM.S
end
section
namespace Go.AM.S
open Go Go.AM Go.Proofs NumL
open _root_.Go.AM.G (R)
theorem lv_inj : ∀ {a b : List Nat}, Dec a → Dec b → a.length = b.length → lv a = lv b → a = b := by
 intro a
 induction a with
 | nil => intro b _ _ hl _; cases b with | nil => rfl | cons y b => simp at hl
 | cons x a ih =>
  intro b ha hb hl h
  cases b with
  | nil => simp at hl
  | cons y b =>
   have h1 := ha x (by simp)
   have h2 := hb y (by simp)
   simp only [lv] at h
   have e1 : x = y := by omega
   have e2 : lv a = lv b := by omega
   rw [e1, ih (fun z hz => ha z (by simp [hz])) (fun z hz => hb z (by simp [hz])) (by simpa using hl) e2]
theorem lv_ge {l : List Nat} (hd : Dec l) (hl : 0 < l.length) (h : l.getD (l.length - 1) 0 ≠ 48) : 10 ^ (l.length - 1) ≤ lv l := by
 have hm : l.getD (l.length - 1) 0 ∈ l := by
  rw [List.getD_eq_getElem?_getD, List.getElem?_eq_getElem (by omega)]
  exact List.getElem_mem _
 have h1 := hd _ hm
 have e := last_split l hl
 rw [e, lv_app]
 simp only [lv, List.length_append, List.length_take, List.length_cons, List.length_nil, Nat.mul_zero, Nat.add_zero]
 rw [show min (l.length - 1) l.length + (0 + 1) - 1 = l.length - 1 by omega, show min (l.length - 1) l.length = l.length - 1 by omega]
 have : 10 ^ (l.length - 1) * 1 ≤ 10 ^ (l.length - 1) * (l.getD (l.length - 1) 0 - 48) := Nat.mul_le_mul_left _ (by omega)
 omega
theorem good_form {a : List Nat} (h : goodB a = true) : Dec (bodyN a) ∧ 0 < (bodyN a).length ∧ a = (bif ng a then 45 :: bodyN a else bodyN a) ∧ ((bodyN a).getD 0 0 = 48 → bodyN a = [48] ∧ ng a = false) := by
 obtain ⟨h1, h2, h3⟩ := good_pos h
 refine ⟨h2, h1, ?_, fun h48 => ?_⟩
 ·unfold bodyN
  cases hn : ng a with
  | false => rfl
  | true =>
   have hlen := ng_len hn
   cases a with
   | nil => simp at hlen
   | cons x l =>
    have : x = 45 := by simpa [ng] using hn
    rw [this]; rfl
 ·unfold badB at h3
  rw [decide_eq_true h48] at h3
  simp only [Bool.true_and, Bool.or_eq_false_iff, decide_eq_false_iff_not] at h3
  refine ⟨?_, h3.2.2⟩
  have hl : (bodyN a).length = 1 := by omega
  obtain ⟨x, hx⟩ := List.length_eq_one_iff.1 hl
  rw [hx] at h48 ⊢
  simp at h48
  rw [h48]
theorem zOf_good {a : List Nat} (h : goodB a = true) : zOf a = bif ng a then -(dv (bodyN a) : Int) else (dv (bodyN a) : Int) := by
 unfold zOf; rw [h]; rfl
theorem dv_pos {l : List Nat} (hd : Dec l) (hl : 0 < l.length) (h : l.getD 0 0 ≠ 48) : 10 ^ (l.length - 1) ≤ dv l := by
 rw [dv_eq]
 have := lv_ge hd.rev (by simpa using hl) (by
  rw [List.length_reverse, getD_rev l (l.length - 1) (by omega), show l.length - 1 - (l.length - 1) = 0 by omega]
  exact h)
 rwa [List.length_reverse] at this
theorem dv_inj {a b : List Nat} (ha : Dec a) (hb : Dec b) (la : 0 < a.length) (lb : 0 < b.length) (ca : a.getD 0 0 = 48 → a = [48]) (cb : b.getD 0 0 = 48 → b = [48]) (h : dv a = dv b) : a = b := by
 by_cases h1 : a.getD 0 0 = 48
 ·by_cases h2 : b.getD 0 0 = 48
  ·rw [ca h1, cb h2]
  ·exfalso
   have := dv_pos hb lb h2
   have e : dv a = 0 := by rw [ca h1]; rfl
   have : 0 < 10 ^ (b.length - 1) := Nat.pow_pos (by decide)
   omega
 ·by_cases h2 : b.getD 0 0 = 48
  ·exfalso
   have := dv_pos ha la h1
   have e : dv b = 0 := by rw [cb h2]; rfl
   have : 0 < 10 ^ (a.length - 1) := Nat.pow_pos (by decide)
   omega
  ·have g1 := dv_pos ha la h1
   have g2 := dv_pos hb lb h2
   have l1 := dv_lt ha
   have l2 := dv_lt hb
   have q1 : a.length - 1 < b.length := pow_lt_inv (c := 10) (by decide) (by omega)
   have q2 : b.length - 1 < a.length := pow_lt_inv (c := 10) (by decide) (by omega)
   have hl : a.length = b.length := by omega
   have e := lv_inj ha.rev hb.rev (by simpa using hl) (by rw [← dv_eq, ← dv_eq]; exact h)
   rw [← List.reverse_reverse a, e, List.reverse_reverse]
theorem zOf_inj {a b : List Nat} (ha : goodB a = true) (hb : goodB b = true) (h : zOf a = zOf b) : a = b := by
 obtain ⟨a1, a2, a3, a4⟩ := good_form ha
 obtain ⟨b1, b2, b3, b4⟩ := good_form hb
 rw [zOf_good ha, zOf_good hb] at h
 have pos : ∀ {l : List Nat}, Dec (bodyN l) → 0 < (bodyN l).length → ((bodyN l).getD 0 0 = 48 → bodyN l = [48] ∧ ng l = false) → ng l = true → 0 < dv (bodyN l) := by
  intro l h1 h2 h3 h4
  have : (bodyN l).getD 0 0 ≠ 48 := fun e => by have := (h3 e).2; rw [h4] at this; cases this
  have := dv_pos h1 h2 this
  have : 0 < 10 ^ ((bodyN l).length - 1) := Nat.pow_pos (by decide)
  omega
 have hng : ng a = ng b := by
  cases h1 : ng a with
  | true => cases h2 : ng b with
   | true => rfl
   | false => have := pos a1 a2 a4 h1; rw [h1, h2] at h; simp only [cond_true, cond_false] at h; omega
  | false => cases h2 : ng b with
   | false => rfl
   | true => have := pos b1 b2 b4 h2; rw [h1, h2] at h; simp only [cond_true, cond_false] at h; omega
 have hdv : dv (bodyN a) = dv (bodyN b) := by
  rw [hng] at h
  cases h2 : ng b with
  | true => rw [h2] at h; simp only [cond_true] at h; omega
  | false => rw [h2] at h; simp only [cond_false] at h; omega
 have e := dv_inj a1 b1 a2 b2 (fun q => (a4 q).1) (fun q => (b4 q).1) hdv
 rw [a3, b3, hng, e]
end Go.AM.S
end
section
namespace Go.AM.S
open Go Go.AM Go.Proofs NumL
open _root_.Go.AM.G (R)
set_option maxRecDepth 100000
theorem tbl14 : tbl 14 = some ⟨rc14, [.tmp 2]⟩ := by kernel_rfl
theorem tbl17 : tbl 17 = some ⟨rc17, [.tmp 4]⟩ := by kernel_rfl
theorem ia_any {P : Program} {t e : TypeId} {ag : Bool} (he : F.elemT P t = some e) (hl : F.layE P e = some (1, ag)) (tok : Option Ref) (f : Bool) (k' : IntKind) (l : List V) (i : Nat) (v : V) (h : l[i]? = some v) (hc : v.cells = [v]) :
  ia P t (.slice tok f 1 l) (.int k' (.ofNat i)) = some (.iptr [v]) := by
 show G.onSome (F.elemT P t) _ none = _
 rw [he]
 show G.onSome (F.layE P e) _ none = _
 rw [hl]
 show (bif Nat.blt i (F.lenR l) then G.onSome (F.nthR l i) _ none else none) = _
 have hi : i < l.length := by
  rcases Nat.lt_or_ge i l.length with q | q
  ·exact q
  ·rw [List.getElem?_eq_none q] at h; cases h
 rw [F.lenR_eq, show Nat.blt i l.length = true from by rw [Nat.blt_eq]; exact hi, F.nthR_eq, h]
 show some (V.iptr v.cells) = _
 rw [hc]
theorem light_spec (f : Bool) (l : List Str) (hl : l.length ≤ 1000000) : Gives 14 [.slice none f 1 (l.map .str)] fun r => r = .bool (l.all fun s => decide (s.n ≤ 300)) := by
 refine gives_of tbl14 fun h Q hQ => ?_
 have done : ∀ (st : St) (b : Bool), b = (l.all fun s => decide (s.n ≤ 300)) → gt st.tm 2 = .bool b → st.hp = ⟨h.rows, none, h.mods⟩ → Q st := by
  intro st b e h2 hh
  exact hQ st _ (fin_tmpD h2 (Ex1.bool _) (by rw [hh]; exact fun x hx => by cases hx) rfl) (by rw [e])
 unfold rc14
 refine ww_seq (ww_reg (fun n k => by simp -implicitDefEqProofs (disch := omega) only [go_sem, reduceIte, Nat.reduceEqDiff]; rfl) ?_)
 refine ww_joinX (fun s => (∀ s ∈ l, s.n ≤ 300) ∧ s.hp = ⟨h.rows, none, h.mods⟩) ?_ (fun s ⟨a, ah⟩ => ?_)
 ·refine ww_seq (ww_reg (fun n k => by simp -implicitDefEqProofs (disch := omega) only [go_sem, reduceIte, Nat.reduceEqDiff]; rfl) ?_)
  refine ww_for (fun m s => ∃ i, m + i = l.length ∧ gt s.tm 0 = .slice none f 1 (l.map .str) ∧ gt s.tm 3 = .int .i64 (.ofNat i) ∧ (∀ x ∈ l.take i, x.n ≤ 300) ∧ s.hp = ⟨h.rows, none, h.mods⟩) l.length ⟨0, rfl, (by simp -implicitDefEqProofs (disch := omega) only [go_sem, reduceIte, Nat.reduceEqDiff, gt_start, List.getD_cons_zero, List.getD_cons_succ]), (by simp -implicitDefEqProofs (disch := omega) only [go_sem, reduceIte, Nat.reduceEqDiff]), (fun x hx => by simp at hx), rfl⟩ ?_
  intro m s ⟨i, hm, h0, h3, hle, hh⟩
  refine ww_seq (ww_seq (ww_reg (fun n k => by simp -implicitDefEqProofs (disch := omega) only [go_sem, reduceIte, Nat.reduceEqDiff, h0, h3, len_slice, List.length_map]; rfl) ?_))
  refine ww_if (by simp only [gt_pt, reduceIte]; rfl) (fun hi => ww_skip ?_) (fun hi => ww_exit ?_)
  ·have hx : (l.map V.str)[i]? = some (.str l[i]) := by simp [hi]
   have hmem : l[i] ∈ l := List.getElem_mem _
   refine ww_seq (ww_block ?_)
   refine ww_seq (ww_reg (fun n k => by simp -implicitDefEqProofs (disch := omega) only [go_sem, reduceIte, Nat.reduceEqDiff, h0, h3, ia_any E79 L9 none f .i64 (l.map .str) i (.str l[i]) hx rfl]; rfl) ?_)
   refine ww_if (by simp only [gt_pt, reduceIte]; rfl) (fun hbig => ?_) (fun hbig => ww_skip ?_)
   ·refine ww_seq (ww_reg (fun n k => by simp -implicitDefEqProofs (disch := omega) only [go_sem, reduceIte, Nat.reduceEqDiff]; rfl) ?_)
    refine ww_ret (done _ false ?_ (by simp -implicitDefEqProofs (disch := omega) only [go_sem, reduceIte, Nat.reduceEqDiff]) hh)
    symm
    rw [List.all_eq_false]
    exact ⟨l[i], hmem, by simp; omega⟩
   ·refine ww_reg (fun n k => by simp -implicitDefEqProofs (disch := omega) only [go_sem, reduceIte, Nat.reduceEqDiff, h3]; rfl) ?_
    refine ⟨m - 1, by omega, i + 1, by omega, (by simp -implicitDefEqProofs (disch := omega) only [go_sem, reduceIte, Nat.reduceEqDiff, h0]), (by simp -implicitDefEqProofs (disch := omega) only [go_sem, reduceIte, Nat.reduceEqDiff]), ?_, hh⟩
    intro x hx
    rw [List.take_add_one] at hx
    rcases List.mem_append.1 hx with hx | hx
    ·exact hle x hx
    ·simp [hi] at hx
     subst hx
     omega
  ·rw [if_pos rfl]
   refine ⟨?_, hh⟩
   rw [List.take_of_length_le (by omega)] at hle
   exact hle
 ·refine ww_seq (ww_reg (fun n k => by simp -implicitDefEqProofs (disch := omega) only [go_sem, reduceIte, Nat.reduceEqDiff]; rfl) ?_)
  refine ww_ret (done _ true ?_ (by simp -implicitDefEqProofs (disch := omega) only [go_sem, reduceIte, Nat.reduceEqDiff]) ah)
  symm
  rw [List.all_eq_true]
  exact fun s hs => decide_eq_true (a s hs)
theorem NR.quiet {v : V} {d : List Nat} {b : Bool} (h : NR v d b) : AM.quiet v = true := by
 obtain ⟨⟨s, rfl, hs⟩, _⟩ := h
 rcases hs with ⟨f, rfl⟩ | ⟨rfl, _⟩ <;> rfl
theorem exR {s : V} {d : List Nat} (hs : Sl .i64 s d) (b : Bool) : Ex1 (.agg [.bool b, s]) := fun st => exp_agg (by intro u hu; simp at hu; rcases hu with rfl | rfl; exact Pl.bool _; exact hs.pl) st
theorem NR.ex {v : V} {d : List Nat} {b : Bool} (h : NR v d b) : Ex1 v := by
 obtain ⟨⟨s, rfl, hs⟩, _⟩ := h
 exact exR hs b
theorem IsI.ex {k : Nat} {v : V} {z : Int} (h : IsI k v z) : Ex1 v := by obtain ⟨d, b, h1, _⟩ := h; exact h1.ex
theorem IsI.quiet {k : Nat} {v : V} {z : Int} (h : IsI k v z) : AM.quiet v = true := by obtain ⟨d, b, h1, _⟩ := h; exact h1.quiet
theorem IsR.ex {k : Nat} {v : V} {z : Int} (h : IsR k v z) : Ex1 v := by obtain ⟨d, b, h1, _⟩ := h; exact h1.ex
theorem IsR.quiet {k : Nat} {v : V} {z : Int} (h : IsR k v z) : AM.quiet v = true := by obtain ⟨d, b, h1, _⟩ := h; exact h1.quiet
theorem same_spec {k l : Nat} {v w : V} {x y : Int} (ha : IsI k v x) (hb : IsR l w y) (hk : k ≤ 90000) (hl : l ≤ 90000) : Gives 17 [v, w] fun r => r = .bool (decide (x = y)) := by
 have ha0 := ha
 have hb0 := hb
 obtain ⟨d, b, ⟨⟨s, rfl, hs⟩, _⟩, _⟩ := ha
 obtain ⟨e, c, ⟨⟨u, rfl, hu⟩, _⟩, _⟩ := hb
 refine gives_of tbl17 fun h Q hQ => ?_
 unfold rc17
 refine ww_seq (ww_reg (fun n k => by simp -implicitDefEqProofs (disch := omega) only [go_sem, reduceIte, Nat.reduceEqDiff, gt_start, List.getD_cons_zero, List.getD_cons_succ]; rfl) ?_)
 obtain ⟨_, hr1, t1, rfl, d1, g1', z1, _⟩ := string_spec ha0 hk ⟨h.rows, none, h.mods⟩
 obtain ⟨_, hr2, t2, rfl, d2, g2', z2, _⟩ := textR_spec hb0 hl ⟨h.rows, none, h.mods⟩
 refine ww_seq (ww_call (hr1.and hr2) (fun n hn k => by simp -implicitDefEqProofs (disch := omega) only [go_sem, reduceIte, Nat.reduceEqDiff, ldc_two L26, ldc_two L31, cld1 hn.1 ha0.ex ha0.quiet, cld1 hn.2 hb0.ex hb0.quiet, eq_str 9 false d1 d2]; exact finD_ok (by kernel_rfl)) ?_)
 refine ww_ret (hQ _ _ (fin_tmpD (v := .bool (decide (t1 = t2))) (by simp -implicitDefEqProofs (disch := omega) only [go_sem, reduceIte, Nat.reduceEqDiff]) (Ex1.bool _) (fun x hx => by cases hx) rfl) ?_)
 congr 1
 by_cases hxy : x = y
 ·rw [decide_eq_true hxy, decide_eq_true (zOf_inj g1' g2' (by rw [z1, z2, hxy]))]
 ·rw [decide_eq_false hxy, decide_eq_false (fun e => hxy (by rw [← z1, ← z2, e]))]
end Go.AM.S
end
section
namespace Go.AM.S
open Go Go.AM Go.Proofs NumL
open _root_.Go.AM.G (R)
set_option maxRecDepth 100000
section
variable {P : Program} {C : Cfg} {call : CallF} {gl : Nat → Bool} {o : Oper} {t' tm : Tm} {loc : Lo} {hp : Hp} {j : V → Lo → Hp → R}
end
end Go.AM.S
end
section
namespace Go.AM.S
open Go Go.AM Go.Proofs NumL
open _root_.Go.AM.G (R)
set_option maxRecDepth 100000
end Go.AM.S
end
section
namespace Go.AM.S
open Go Go.AM Go.Proofs NumL
open _root_.Go.AM.G (R)
set_option maxRecDepth 100000
section
variable {P : Program} {C : Cfg} {call : CallF} {gl : Nat → Bool} {o : Oper} {t' tm : Tm} {loc : Lo} {hp : Hp} {j : V → Lo → Hp → R}
end
end Go.AM.S
end
section
namespace Go.AM.S
open Go Go.AM Go.Proofs NumL
open _root_.Go.AM.G (R)
set_option maxRecDepth 100000
theorem tbl74 : tbl 74 = some ⟨rc74, [.tmp 4]⟩ := by kernel_rfl
theorem tbl76 : tbl 76 = some ⟨rc76, [.tmp 4]⟩ := by kernel_rfl
theorem tbl75 : tbl 75 = some ⟨rc75, [.tmp 4]⟩ := by kernel_rfl
theorem plusR_step {D : Nat} {out : List Nat} {i n x y d c p q : Nat} (hl : out.length = i) (hv : vl D out + D ^ i * n = p + q) (he : n + x + y = d + D * c) : vl D (out ++ [d]) + D ^ (i + 1) * c = (p + D ^ i * x) + (q + D ^ i * y) := by
 rw [vl_append, vl_one, hl, Nat.pow_succ, Nat.mul_assoc]
 have h1 : D ^ i * (n + x + y) = D ^ i * (d + D * c) := by rw [he]
 simp only [Nat.mul_add] at h1
 omega
theorem plusR_spec {va vb : V} {a b : List Nat} (ha : Sl .i64 va a) (hb : Sl .i64 vb b) (da : Dg 10000 a) (db : Dg 10000 b) (la : a.length ≤ 1000000) (lb : b.length ≤ 1000000) :
  Gives 74 [va, vb] fun r => ∃ c, Sl .i64 r c ∧ Dg 10000 c ∧ vl 10000 c = vl 10000 a + vl 10000 b ∧ c.length ≤ max a.length b.length + 1 := by
 refine gives_of tbl74 fun h Q hQ => ?_
 unfold rc74
 refine ww_seq (ww_reg (fun n k => by simp -implicitDefEqProofs (disch := omega) only [go_sem, reduceIte, Nat.reduceEqDiff]; rfl) ?_)
 refine ww_seq (ww_reg (fun n k => by simp -implicitDefEqProofs (disch := omega) only [go_sem, reduceIte, Nat.reduceEqDiff]; rfl) ?_)
 refine ww_seq (ww_reg (fun n k => by simp -implicitDefEqProofs (disch := omega) only [go_sem, reduceIte, Nat.reduceEqDiff]; rfl) ?_)
 refine ww_join (M := fun s => ∃ out, Tk s.loc 48 (gt s.tm 5) .i64 out ∧ Dg 10000 out ∧ vl 10000 out = vl 10000 a + vl 10000 b ∧ out.length ≤ max a.length b.length + 1 ∧ s.hp = ⟨h.rows, none, h.mods⟩) ?_ (fun s ⟨out, htk, hdg, hv, hlen, hhp⟩ => ?_)
 ·refine ww_seq (ww_reg (fun n k => by simp -implicitDefEqProofs (disch := omega) only [go_sem, reduceIte, Nat.reduceEqDiff]; rfl) ?_)
  refine ww_for (fun m s => ∃ i n out, m + i = max a.length b.length + 1 ∧ gt s.tm 0 = va ∧ gt s.tm 1 = vb ∧ gt s.tm 7 = .int .i64 (.ofNat i) ∧ gt s.tm 6 = .int .i64 (.ofNat n) ∧ Tk s.loc 48 (gt s.tm 5) .i64 out ∧ out.length = i ∧ Dg 10000 out ∧ n ≤ 1 ∧ (i ≤ max a.length b.length ∨ n = 0) ∧ vl 10000 out + 10000 ^ i * n = vl 10000 (a.take i) + vl 10000 (b.take i) ∧ s.hp = ⟨h.rows, none, h.mods⟩) (max a.length b.length + 1) ⟨0, 0, [], rfl, (by simp -implicitDefEqProofs (disch := omega) only [go_sem, reduceIte, Nat.reduceEqDiff, gt_start, List.getD_cons_zero, List.getD_cons_succ]), (by simp -implicitDefEqProofs (disch := omega) only [go_sem, reduceIte, Nat.reduceEqDiff, gt_start, List.getD_cons_zero, List.getD_cons_succ]), (by simp -implicitDefEqProofs (disch := omega) only [go_sem, reduceIte, Nat.reduceEqDiff]), (by simp -implicitDefEqProofs (disch := omega) only [go_sem, reduceIte, Nat.reduceEqDiff]), .inl ⟨rfl, (by simp -implicitDefEqProofs (disch := omega) only [go_sem, reduceIte, Nat.reduceEqDiff])⟩, rfl, Dg.nil _, by decide, .inl (Nat.zero_le _), by simp [vl], rfl⟩ ?_
  intro m s ⟨i, n, out, hm, h0, h1, h7, h6, htk, hlen, hdg, hn1, hin, hv, hhp⟩
  refine ww_seq (ww_join (M := fun s' => gt s'.tm 21 = .bool (decide (i < a.length ∨ i < b.length ∨ 0 < n)) ∧ Kp [0, 1, 5, 6, 7] s.tm s'.tm ∧ s'.loc = s.loc ∧ s'.hp = s.hp) ?_ (fun s' ⟨k21, kk, kl, kh⟩ => ?_))
  ·by_cases c1 : i < a.length
   ·refine ww_reg (fun n k => by simp -implicitDefEqProofs (disch := omega) only [go_sem, reduceIte, Nat.reduceEqDiff, h0, h7, len_sl ha, decide_eq_true c1]; rfl) ?_
    exact ⟨by rw [decide_eq_true (.inl c1)]; exact (by simp -implicitDefEqProofs (disch := omega) only [go_sem, reduceIte, Nat.reduceEqDiff]), (by (try dsimp only); repeat (first | with_reducible exact Kp_refl _ _ | with_reducible refine Kp_pt (by decide) ?_)), rfl, rfl⟩
   ·by_cases c2 : i < b.length
    ·refine ww_reg (fun n k => by simp -implicitDefEqProofs (disch := omega) only [go_sem, reduceIte, Nat.reduceEqDiff, h0, h1, h7, len_sl ha, len_sl hb, decide_eq_false c1, decide_eq_true c2]; rfl) ?_
     exact ⟨by rw [decide_eq_true (.inr (.inl c2))]; exact (by simp -implicitDefEqProofs (disch := omega) only [go_sem, reduceIte, Nat.reduceEqDiff]), (by (try dsimp only); repeat (first | with_reducible exact Kp_refl _ _ | with_reducible refine Kp_pt (by decide) ?_)), rfl, rfl⟩
    ·refine ww_reg (fun n k => by simp -implicitDefEqProofs (disch := omega) only [go_sem, reduceIte, Nat.reduceEqDiff, h0, h1, h6, h7, len_sl ha, len_sl hb, decide_eq_false c1, decide_eq_false c2]; rfl) ?_
     exact ⟨by rw [show decide (i < a.length ∨ i < b.length ∨ 0 < n) = decide (0 < n) by congr 1; apply propext; omega]; exact (by simp -implicitDefEqProofs (disch := omega) only [go_sem, reduceIte, Nat.reduceEqDiff]), (by (try dsimp only); repeat (first | with_reducible exact Kp_refl _ _ | with_reducible refine Kp_pt (by decide) ?_)), rfl, rfl⟩
  ·have k0 := (kk 0 (by decide)).trans h0; have k1 := (kk 1 (by decide)).trans h1; have k6 := (kk 6 (by decide)).trans h6; have k7 := (kk 7 (by decide)).trans h7; have k5 := kk 5 (by decide)
   refine ww_if k21 (fun hc => ww_skip ?_) (fun hc => ww_exit ?_)
   ·have hx : a.getD i 0 < 10000 := da.get (by decide) i
    have hy : b.getD i 0 < 10000 := db.get (by decide) i
    obtain ⟨v5, l5, happ, htk5, hfr⟩ := a74_10_4 [(n + a.getD i 0 + b.getD i 0) % 10000] none true htk (by simp) (by simp; omega)
    refine ww_seq (ww_block ?_)
    refine ww_join (M := fun s1 => gt s1.tm 6 = .int .i64 (.ofNat (n + a.getD i 0)) ∧ Kp [0, 1, 5, 7] s'.tm s1.tm ∧ s1.loc = s.loc ∧ s1.hp = s.hp) ?_ (fun s1 ⟨a6, ak, al, ah⟩ => ?_)
    ·refine ww_seq (ww_reg (fun n k => by simp -implicitDefEqProofs (disch := omega) only [go_sem, reduceIte, Nat.reduceEqDiff, k0, k7, len_sl ha]; rfl) ?_)
     refine ww_if (by simp only [gt_pt, reduceIte]; rfl) (fun hia => ?_) (fun hia => ww_skip ?_)
     ·refine ww_reg (fun n k => by simp -implicitDefEqProofs (disch := omega) only [go_sem, reduceIte, Nat.reduceEqDiff, k0, k6, k7, ia29 ha]; rfl) ?_
      exact ⟨(by simp -implicitDefEqProofs (disch := omega) only [go_sem, reduceIte, Nat.reduceEqDiff]), (by (try dsimp only); repeat (first | with_reducible exact Kp_refl _ _ | with_reducible refine Kp_pt (by decide) ?_)), kl, kh⟩
     ·exact ⟨(by simp -implicitDefEqProofs (disch := omega) only [go_sem, reduceIte, Nat.reduceEqDiff, k6, getD_ge hia, Nat.add_zero]), (by (try dsimp only); repeat (first | with_reducible exact Kp_refl _ _ | with_reducible refine Kp_pt (by decide) ?_)), kl, kh⟩
    have a1 := (ak 1 (by decide)).trans k1; have a7 := (ak 7 (by decide)).trans k7; have a5 := (ak 5 (by decide)).trans k5
    refine ww_join (M := fun s2 => gt s2.tm 6 = .int .i64 (.ofNat (n + a.getD i 0 + b.getD i 0)) ∧ Kp [0, 1, 5, 7] s1.tm s2.tm ∧ s2.loc = s.loc ∧ s2.hp = s.hp) ?_ (fun s2 ⟨b6, bk, bl, bh⟩ => ?_)
    ·refine ww_seq (ww_reg (fun n k => by simp -implicitDefEqProofs (disch := omega) only [go_sem, reduceIte, Nat.reduceEqDiff, a1, a7, len_sl hb]; rfl) ?_)
     refine ww_if (by simp only [gt_pt, reduceIte]; rfl) (fun hia => ?_) (fun hia => ww_skip ?_)
     ·refine ww_reg (fun n k => by simp -implicitDefEqProofs (disch := omega) only [go_sem, reduceIte, Nat.reduceEqDiff, a1, a6, a7, ia29 hb]; rfl) ?_
      exact ⟨(by simp -implicitDefEqProofs (disch := omega) only [go_sem, reduceIte, Nat.reduceEqDiff]), (by (try dsimp only); repeat (first | with_reducible exact Kp_refl _ _ | with_reducible refine Kp_pt (by decide) ?_)), al, ah⟩
     ·exact ⟨(by simp -implicitDefEqProofs (disch := omega) only [go_sem, reduceIte, Nat.reduceEqDiff, a6, getD_ge hia, Nat.add_zero]), (by (try dsimp only); repeat (first | with_reducible exact Kp_refl _ _ | with_reducible refine Kp_pt (by decide) ?_)), al, ah⟩
    have b5 := (bk 5 (by decide)).trans a5; have b7 := (bk 7 (by decide)).trans a7
    refine ww_seq (ww_reg (fun n k => by simp -implicitDefEqProofs (disch := omega) only [go_sem, reduceIte, Nat.reduceEqDiff, b6, b5, bl, bs29, happ]; rfl) ?_)
    refine ww_reg (fun n k => by simp -implicitDefEqProofs (disch := omega) only [go_sem, reduceIte, Nat.reduceEqDiff, b6]; rfl) ?_
    refine ww_reg (fun n k => by simp -implicitDefEqProofs (disch := omega) only [go_sem, reduceIte, Nat.reduceEqDiff, b7]; rfl) ?_
    refine ⟨m - 1, by omega, i + 1, (n + a.getD i 0 + b.getD i 0) / 10000, out ++ [(n + a.getD i 0 + b.getD i 0) % 10000], by omega, (by simp -implicitDefEqProofs (disch := omega) only [go_sem, reduceIte, Nat.reduceEqDiff, bk 0 (by decide), ak 0 (by decide), k0]), (by simp -implicitDefEqProofs (disch := omega) only [go_sem, reduceIte, Nat.reduceEqDiff, bk 1 (by decide), a1]), (by simp -implicitDefEqProofs (disch := omega) only [go_sem, reduceIte, Nat.reduceEqDiff]), (by simp -implicitDefEqProofs (disch := omega) only [go_sem, reduceIte, Nat.reduceEqDiff]), ?_, by simp [hlen], hdg.snoc (Nat.mod_lt _ (by decide)), by omega, ?_, ?_, bh.trans hhp⟩
    ·have e : ∀ x y, gt (pt (pt (pt s2.tm 5 v5) 6 x) 7 y) 5 = v5 := fun x y => (by simp -implicitDefEqProofs (disch := omega) only [go_sem, reduceIte, Nat.reduceEqDiff])
     rw [e]; exact htk5
    ·rcases Nat.lt_or_ge i (max a.length b.length) with q | q
     ·exact .inl q
     ·right
      rw [getD_ge (by omega), getD_ge (by omega)]
      omega
    ·rw [vl_take_next, vl_take_next]
     exact plusR_step hlen hv (by omega)
   ·rw [if_pos rfl]
    refine ⟨out, by rw [kl, k5]; exact htk, hdg, ?_, by omega, kh.trans hhp⟩
    have en : n = 0 := by omega
    subst en
    rw [List.take_of_length_le (by omega), List.take_of_length_le (by omega)] at hv
    simpa using hv
 ·obtain ⟨v', hsl, hex⟩ := htk.out
  refine ww_seq (ww_reg (fun n k => by simp -implicitDefEqProofs (disch := omega) only [go_sem, reduceIte, Nat.reduceEqDiff]; rfl) ?_)
  exact ww_ret (hQ _ _ (fin_tmp (v := gt s.tm 5) (by simp -implicitDefEqProofs (disch := omega) only [go_sem, reduceIte, Nat.reduceEqDiff]) (hex _) (by rw [hhp]) hsl.noRefs) ⟨out, hsl, hdg, hv, hlen⟩)
end Go.AM.S
end
section
namespace Go.AM.S
open Go Go.AM Go.Proofs NumL
open _root_.Go.AM.G (R)
set_option maxRecDepth 100000
theorem wrapZ {z : Int} (h1 : -9223372036854775808 ≤ z) (h2 : z ≤ 9223372036854775807) : F.wrapI .i64 z = z := by
 rw [F.wrapI_eq]
 show (if (true && decide (z % 18446744073709551616 ≥ 9223372036854775808)) = true then z % 18446744073709551616 - 18446744073709551616 else z % 18446744073709551616) = _
 by_cases h : z % 18446744073709551616 ≥ 9223372036854775808
 ·rw [decide_eq_true h]
  show z % 18446744073709551616 - 18446744073709551616 = z
  omega
 ·rw [decide_eq_false h]
  show z % 18446744073709551616 = z
  omega
theorem iZ_sub {x y : Int} (h1 : -9223372036854775808 ≤ x - y) (h2 : x - y ≤ 9223372036854775807) : G.int2 .sub .i64 x y = some (.int .i64 (x - y)) := by
 show some (V.int .i64 (F.wrapI .i64 (x - y))) = _
 rw [wrapZ h1 h2]
theorem iZ_add {x y : Int} (h1 : -9223372036854775808 ≤ x + y) (h2 : x + y ≤ 9223372036854775807) : G.int2 .add .i64 x y = some (.int .i64 (x + y)) := by
 show some (V.int .i64 (F.wrapI .i64 (x + y))) = _
 rw [wrapZ h1 h2]
theorem iZ_lss (k : IntKind) (x y : Int) : G.int2 .lss k x y = some (.bool (decide (x < y))) := by
 show some (V.bool (F.ltI x y)) = _
 rw [F.ltI_eq]
theorem minusR_step {D : Nat} {out : List Nat} {i n x y d c p q : Nat} (hl : out.length = i) (hv : p + D ^ i * n = vl D out + q) (he : x + D * c = d + y + n) : (p + D ^ i * x) + D ^ (i + 1) * c = vl D (out ++ [d]) + (q + D ^ i * y) := by
 rw [vl_append, vl_one, hl, Nat.pow_succ, Nat.mul_assoc]
 have h1 : D ^ i * (x + D * c) = D ^ i * (d + y + n) := by rw [he]
 simp only [Nat.mul_add] at h1
 omega
theorem minusR_spec {va vb : V} {a b : List Nat} (ha : Sl .i64 va a) (hb : Sl .i64 vb b) (da : Dg 10000 a) (db : Dg 10000 b) (la : a.length ≤ 1000000) (lb : b.length ≤ a.length) (hle : vl 10000 b ≤ vl 10000 a) :
  Gives 76 [va, vb] fun r => ∃ c, Sl .i64 r c ∧ Dg 10000 c ∧ vl 10000 c + vl 10000 b = vl 10000 a ∧ c.length ≤ a.length := by
 refine gives_of tbl76 fun h Q hQ => ?_
 unfold rc76
 refine ww_seq (ww_reg (fun n k => by simp -implicitDefEqProofs (disch := omega) only [go_sem, reduceIte, Nat.reduceEqDiff]; rfl) ?_)
 refine ww_seq (ww_reg (fun n k => by simp -implicitDefEqProofs (disch := omega) only [go_sem, reduceIte, Nat.reduceEqDiff]; rfl) ?_)
 refine ww_seq (ww_reg (fun n k => by simp -implicitDefEqProofs (disch := omega) only [go_sem, reduceIte, Nat.reduceEqDiff]; rfl) ?_)
 refine ww_join (M := fun s => ∃ out, Tk s.loc 38 (gt s.tm 5) .i64 out ∧ Dg 10000 out ∧ vl 10000 out + vl 10000 b = vl 10000 a ∧ out.length ≤ a.length ∧ s.hp = ⟨h.rows, none, h.mods⟩) ?_ (fun s ⟨out, htk, hdg, hv, hlen, hhp⟩ => ?_)
 ·refine ww_seq (ww_reg (fun n k => by simp -implicitDefEqProofs (disch := omega) only [go_sem, reduceIte, Nat.reduceEqDiff]; rfl) ?_)
  refine ww_for (fun m s => ∃ i w out, m + i = a.length ∧ gt s.tm 0 = va ∧ gt s.tm 1 = vb ∧ gt s.tm 7 = .int .i64 (.ofNat i) ∧ gt s.tm 6 = .int .i64 (.ofNat w) ∧ Tk s.loc 38 (gt s.tm 5) .i64 out ∧ out.length = i ∧ Dg 10000 out ∧ w ≤ 1 ∧ vl 10000 (a.take i) + 10000 ^ i * w = vl 10000 out + vl 10000 (b.take i) ∧ s.hp = ⟨h.rows, none, h.mods⟩) a.length ⟨0, 0, [], rfl, (by simp -implicitDefEqProofs (disch := omega) only [go_sem, reduceIte, Nat.reduceEqDiff, gt_start, List.getD_cons_zero, List.getD_cons_succ]), (by simp -implicitDefEqProofs (disch := omega) only [go_sem, reduceIte, Nat.reduceEqDiff, gt_start, List.getD_cons_zero, List.getD_cons_succ]), (by simp -implicitDefEqProofs (disch := omega) only [go_sem, reduceIte, Nat.reduceEqDiff]), (by simp -implicitDefEqProofs (disch := omega) only [go_sem, reduceIte, Nat.reduceEqDiff]), .inl ⟨rfl, (by simp -implicitDefEqProofs (disch := omega) only [go_sem, reduceIte, Nat.reduceEqDiff])⟩, rfl, Dg.nil _, by decide, by simp [vl], rfl⟩ ?_
  intro m s ⟨i, w, out, hm, h0, h1, h7, h6, htk, hlen, hdg, hn1, hv, hhp⟩
  refine ww_seq (ww_seq (ww_reg (fun n k => by simp -implicitDefEqProofs (disch := omega) only [go_sem, reduceIte, Nat.reduceEqDiff, h0, h7, len_sl ha]; rfl) ?_))
  refine ww_if (by simp only [gt_pt, reduceIte]; rfl) (fun hi => ww_skip ?_) (fun hi => ww_exit ?_)
  ·have hx : a.getD i 0 < 10000 := da.get (by decide) i
   have hy : b.getD i 0 < 10000 := db.get (by decide) i
   have s1 := iZ_sub (x := Int.ofNat (a.getD i 0)) (y := Int.ofNat w) (by show _ ≤ ((a.getD i 0 : Nat) : Int) - (w : Int); omega) (by show ((a.getD i 0 : Nat) : Int) - (w : Int) ≤ _; omega)
   have s2 := iZ_sub (x := Int.ofNat (a.getD i 0) - Int.ofNat w) (y := Int.ofNat (b.getD i 0)) (by show _ ≤ ((a.getD i 0 : Nat) : Int) - (w : Int) - ((b.getD i 0 : Nat) : Int); omega) (by show ((a.getD i 0 : Nat) : Int) - (w : Int) - ((b.getD i 0 : Nat) : Int) ≤ _; omega)
   have s3 := iZ_add (x := Int.ofNat (a.getD i 0) - Int.ofNat w - Int.ofNat (b.getD i 0)) (y := Int.ofNat 10000) (by show _ ≤ ((a.getD i 0 : Nat) : Int) - (w : Int) - ((b.getD i 0 : Nat) : Int) + 10000; omega) (by show ((a.getD i 0 : Nat) : Int) - (w : Int) - ((b.getD i 0 : Nat) : Int) + 10000 ≤ _; omega)
   refine ww_seq (ww_block ?_)
   have s1' : bin Pg .sub 3 false (.int .i64 (.ofNat (a.getD i 0))) (.int .i64 (.ofNat w)) = some (.int .i64 (Int.ofNat (a.getD i 0) - Int.ofNat w)) := by rw [bin_n, s1]
   refine ww_seq (ww_reg (fun n k => by simp -implicitDefEqProofs (disch := omega) only [go_sem, reduceIte, Nat.reduceEqDiff, h0, h6, h7, ia29 ha, s1']; rfl) ?_)
   refine ww_join (M := fun s1 => gt s1.tm 8 = .int .i64 (Int.ofNat (a.getD i 0) - Int.ofNat w - Int.ofNat (b.getD i 0)) ∧ Kp [0, 1, 5, 7] s.tm s1.tm ∧ s1.loc = s.loc ∧ s1.hp = s.hp) ?_ (fun s1 ⟨a8, ak, al, ah⟩ => ?_)
   ·refine ww_seq (ww_reg (fun n k => by simp -implicitDefEqProofs (disch := omega) only [go_sem, reduceIte, Nat.reduceEqDiff, h1, h7, len_sl hb]; rfl) ?_)
    refine ww_if (by simp only [gt_pt, reduceIte]; rfl) (fun hib => ?_) (fun hib => ww_skip ?_)
    ·have s2' : bin Pg .sub 3 false (.int .i64 (Int.ofNat (a.getD i 0) - Int.ofNat w)) (.int .i64 (.ofNat (b.getD i 0))) = some (.int .i64 (Int.ofNat (a.getD i 0) - Int.ofNat w - Int.ofNat (b.getD i 0))) := by rw [bin_n, s2]
     refine ww_reg (fun n k => by simp -implicitDefEqProofs (disch := omega) only [go_sem, reduceIte, Nat.reduceEqDiff, h1, h7, ia29 hb, s2']; rfl) ?_
     exact ⟨(by simp -implicitDefEqProofs (disch := omega) only [go_sem, reduceIte, Nat.reduceEqDiff]), (by (try dsimp only); repeat (first | with_reducible exact Kp_refl _ _ | with_reducible refine Kp_pt (by decide) ?_)), rfl, rfl⟩
    ·refine ⟨?_, (by (try dsimp only); repeat (first | with_reducible exact Kp_refl _ _ | with_reducible refine Kp_pt (by decide) ?_)), rfl, rfl⟩
     rw [getD_ge hib, show Int.ofNat (a.getD i 0) - Int.ofNat w - Int.ofNat 0 = Int.ofNat (a.getD i 0) - Int.ofNat w from Int.sub_zero _]
     exact (by simp -implicitDefEqProofs (disch := omega) only [go_sem, reduceIte, Nat.reduceEqDiff])
   ·have a0 := (ak 0 (by decide)).trans h0; have a1 := (ak 1 (by decide)).trans h1; have a7 := (ak 7 (by decide)).trans h7; have a5 := ak 5 (by decide)
    refine ww_seq (ww_reg (fun n k => by simp -implicitDefEqProofs (disch := omega) only [go_sem, reduceIte, Nat.reduceEqDiff]; rfl) ?_)
    refine ww_join (M := fun s2 => ∃ d c, gt s2.tm 8 = .int .i64 (.ofNat d) ∧ gt s2.tm 6 = .int .i64 (.ofNat c) ∧ d < 10000 ∧ c ≤ 1 ∧ a.getD i 0 + 10000 * c = d + b.getD i 0 + w ∧ Kp [0, 1, 5, 7] s1.tm s2.tm ∧ s2.loc = s.loc ∧ s2.hp = s.hp) ?_ (fun s2 ⟨d, c, b8, b6, hd, hc, heq, bk, bl, bh⟩ => ?_)
    ·have cmp : bin Pg .lss 3 true (.int .i64 (Int.ofNat (a.getD i 0) - Int.ofNat w - Int.ofNat (b.getD i 0))) (.int .i64 (.ofNat 0)) = some (.bool (decide (Int.ofNat (a.getD i 0) - Int.ofNat w - Int.ofNat (b.getD i 0) < Int.ofNat 0))) := by rw [bin_n, iZ_lss]
     refine ww_seq (ww_reg (fun n k => by simp -implicitDefEqProofs (disch := omega) only [go_sem, reduceIte, Nat.reduceEqDiff, a8, cmp]; rfl) ?_)
     refine ww_if (by simp only [gt_pt, reduceIte]; rfl) (fun hneg => ?_) (fun hneg => ww_skip ?_)
     ·have hneg' : ((a.getD i 0 : Nat) : Int) - (w : Int) - ((b.getD i 0 : Nat) : Int) < 0 := hneg
      have s3' : bin Pg .add 3 true (.int .i64 (Int.ofNat (a.getD i 0) - Int.ofNat w - Int.ofNat (b.getD i 0))) (.int .i64 (.ofNat 10000)) = some (.int .i64 (Int.ofNat (a.getD i 0) - Int.ofNat w - Int.ofNat (b.getD i 0) + Int.ofNat 10000)) := by rw [bin_n, s3]
      refine ww_reg (fun n k => by simp -implicitDefEqProofs (disch := omega) only [go_sem, reduceIte, Nat.reduceEqDiff, a8, s3']; rfl) ?_
      refine ⟨a.getD i 0 + 10000 - w - b.getD i 0, 1, ?_, (by simp -implicitDefEqProofs (disch := omega) only [go_sem, reduceIte, Nat.reduceEqDiff]), by omega, by decide, by omega, (by (try dsimp only); repeat (first | with_reducible exact Kp_refl _ _ | with_reducible refine Kp_pt (by decide) ?_)), al, ah⟩
      have e : Int.ofNat (a.getD i 0) - Int.ofNat w - Int.ofNat (b.getD i 0) + Int.ofNat 10000 = Int.ofNat (a.getD i 0 + 10000 - w - b.getD i 0) := by
       show ((a.getD i 0 : Nat) : Int) - (w : Int) - ((b.getD i 0 : Nat) : Int) + 10000 = ((a.getD i 0 + 10000 - w - b.getD i 0 : Nat) : Int)
       omega
      rw [← e]
      exact (by simp -implicitDefEqProofs (disch := omega) only [go_sem, reduceIte, Nat.reduceEqDiff])
     ·have hneg' : ¬ ((a.getD i 0 : Nat) : Int) - (w : Int) - ((b.getD i 0 : Nat) : Int) < 0 := hneg
      refine ⟨a.getD i 0 - w - b.getD i 0, 0, ?_, (by simp -implicitDefEqProofs (disch := omega) only [go_sem, reduceIte, Nat.reduceEqDiff]), by omega, by decide, by omega, (by (try dsimp only); repeat (first | with_reducible exact Kp_refl _ _ | with_reducible refine Kp_pt (by decide) ?_)), al, ah⟩
      have e : Int.ofNat (a.getD i 0) - Int.ofNat w - Int.ofNat (b.getD i 0) = Int.ofNat (a.getD i 0 - w - b.getD i 0) := by
       show ((a.getD i 0 : Nat) : Int) - (w : Int) - ((b.getD i 0 : Nat) : Int) = ((a.getD i 0 - w - b.getD i 0 : Nat) : Int)
       omega
      rw [← e]
      exact (by simp -implicitDefEqProofs (disch := omega) only [go_sem, reduceIte, Nat.reduceEqDiff, a8])
    ·have b5 := (bk 5 (by decide)).trans a5; have b7 := (bk 7 (by decide)).trans a7
     obtain ⟨v5, l5, happ, htk5, hfr⟩ := a76_12_3 [d] none true htk (by simp) (by simp; omega)
     refine ww_reg (fun n k => by simp -implicitDefEqProofs (disch := omega) only [go_sem, reduceIte, Nat.reduceEqDiff, b8, b5, bl, bs29, happ]; rfl) ?_
     refine ww_reg (fun n k => by simp -implicitDefEqProofs (disch := omega) only [go_sem, reduceIte, Nat.reduceEqDiff, b7]; rfl) ?_
     refine ⟨m - 1, by omega, i + 1, c, out ++ [d], by omega, (by simp -implicitDefEqProofs (disch := omega) only [go_sem, reduceIte, Nat.reduceEqDiff, bk 0 (by decide), a0]), (by simp -implicitDefEqProofs (disch := omega) only [go_sem, reduceIte, Nat.reduceEqDiff, bk 1 (by decide), a1]), (by simp -implicitDefEqProofs (disch := omega) only [go_sem, reduceIte, Nat.reduceEqDiff]), (by simp -implicitDefEqProofs (disch := omega) only [go_sem, reduceIte, Nat.reduceEqDiff, b6]), ?_, by simp [hlen], hdg.snoc hd, hc, ?_, bh.trans hhp⟩
     ·have e : ∀ y, gt (pt (pt s2.tm 5 v5) 7 y) 5 = v5 := fun y => (by simp -implicitDefEqProofs (disch := omega) only [go_sem, reduceIte, Nat.reduceEqDiff])
      rw [e]; exact htk5
     ·rw [vl_take_next, vl_take_next]
      exact minusR_step hlen hv heq
  ·rw [if_pos rfl]
   have ei : i = a.length := by omega
   have hout : vl 10000 (a.take i) + 10000 ^ i * w = vl 10000 out + vl 10000 (b.take i) := hv
   rw [List.take_of_length_le (by omega), List.take_of_length_le (by omega)] at hout
   have hw0 : w = 0 := by
    have hlt := vl_lt_of (B := 10000) (by decide) hdg (k := i) (by omega)
    rcases Nat.eq_zero_or_pos w with q | q
    ·exact q
    ·exfalso
     have e1 : w = 1 := by omega
     subst e1
     omega
   subst hw0
   refine ⟨out, ?_, hdg, by simpa using hout.symm, by omega, hhp⟩
   have e : ∀ y, gt (pt s.tm 12 y) 5 = gt s.tm 5 := fun y => (by simp -implicitDefEqProofs (disch := omega) only [go_sem, reduceIte, Nat.reduceEqDiff])
   rw [e]; exact htk
 ·obtain ⟨v', hsl, hex⟩ := htk.out
  refine ww_seq (ww_reg (fun n k => by simp -implicitDefEqProofs (disch := omega) only [go_sem, reduceIte, Nat.reduceEqDiff]; rfl) ?_)
  exact ww_ret (hQ _ _ (fin_tmp (v := gt s.tm 5) (by simp -implicitDefEqProofs (disch := omega) only [go_sem, reduceIte, Nat.reduceEqDiff]) (hex _) (by rw [hhp]) hsl.noRefs) ⟨out, hsl, hdg, hv, hlen⟩)
end Go.AM.S
end
section
namespace Go.AM.S
open Go Go.AM Go.Proofs NumL
open _root_.Go.AM.G (R)
set_option maxRecDepth 100000
theorem lessR_spec {va vb : V} {a b : List Nat} (ha : Sl .i64 va a) (hb : Sl .i64 vb b) (da : Dg 10000 a) (db : Dg 10000 b) (ca : Cn a) (cb : Cn b) (la : a.length ≤ 1000000000) (lb : b.length ≤ 1000000000) :
  Gives 75 [va, vb] fun r => r = .int .i64 (cmpI (vl 10000 a) (vl 10000 b)) := by
 refine gives_of tbl75 fun h Q hQ => ?_
 have done : ∀ (st : St) (z : Int), z = cmpI (vl 10000 a) (vl 10000 b) → gt st.tm 4 = .int .i64 z → st.hp = ⟨h.rows, none, h.mods⟩ → Q st := by
  intro st z e h4 hh
  exact hQ st _ (fin_tmpD h4 (Ex1.int _ _) (by rw [hh]; exact fun x hx => by cases hx) rfl) (by rw [e])
 unfold rc75
 refine ww_seq (ww_reg (fun n k => by simp -implicitDefEqProofs (disch := omega) only [go_sem, reduceIte, Nat.reduceEqDiff]; rfl) ?_)
 have hneq : ∀ (x y : Nat), bin Pg .neq 3 false (.int .i64 (.ofNat x)) (.int .i64 (.ofNat y)) = some (.bool (decide (x ≠ y))) := fun x y => by rw [bin_n, i_neq]
 rcases Nat.lt_trichotomy a.length b.length with hl | hl | hl
 ·refine ww_seq (ww_seq (ww_reg (fun n k => by simp -implicitDefEqProofs (disch := omega) only [go_sem, reduceIte, Nat.reduceEqDiff, gt_start, List.getD_cons_zero, List.getD_cons_succ, len_sl ha, len_sl hb, hneq, decide_eq_true (show a.length ≠ b.length by omega)]; rfl) ?_))
  refine ww_true (by simp -implicitDefEqProofs (disch := omega) only [go_sem, reduceIte, Nat.reduceEqDiff]) ?_
  refine ww_seq (ww_seq (ww_reg (fun n k => by simp -implicitDefEqProofs (disch := omega) only [go_sem, reduceIte, Nat.reduceEqDiff, gt_start, List.getD_cons_zero, List.getD_cons_succ, len_sl ha, len_sl hb, d_true]; rfl) ?_))
  refine ww_true (by simp -implicitDefEqProofs (disch := omega) only [go_sem, reduceIte, Nat.reduceEqDiff]) ?_
  refine ww_seq (ww_reg (fun n k => by simp -implicitDefEqProofs (disch := omega) only [go_sem, reduceIte, Nat.reduceEqDiff]; rfl) ?_)
  refine ww_ret (done _ (.negSucc 0) ?_ (by simp -implicitDefEqProofs (disch := omega) only [go_sem, reduceIte, Nat.reduceEqDiff]) rfl)
  unfold cmpI
  rw [if_pos (vl_lt_len (by decide) da cb hl)]
 ·refine ww_seq (ww_seq (ww_reg (fun n k => by simp -implicitDefEqProofs (disch := omega) only [go_sem, reduceIte, Nat.reduceEqDiff, gt_start, List.getD_cons_zero, List.getD_cons_succ, len_sl ha, len_sl hb, hneq, decide_eq_false (show ¬ a.length ≠ b.length by omega)]; rfl) ?_))
  refine ww_false (by simp -implicitDefEqProofs (disch := omega) only [go_sem, reduceIte, Nat.reduceEqDiff]) (ww_skip ?_)
  refine ww_seq (ww_seq (ww_reg (fun n k => by simp -implicitDefEqProofs (disch := omega) only [go_sem, reduceIte, Nat.reduceEqDiff, gt_start, List.getD_cons_zero, List.getD_cons_succ, len_sl ha, i_dec]; rfl) ?_))
  refine ww_for (fun m s => m ≤ a.length ∧ gt s.tm 5 = .int .i64 (dn m) ∧ a.drop m = b.drop m ∧ gt s.tm 0 = va ∧ gt s.tm 1 = vb ∧ s.hp = ⟨h.rows, none, h.mods⟩) a.length ⟨Nat.le_refl _, (by simp -implicitDefEqProofs (disch := omega) only [go_sem, reduceIte, Nat.reduceEqDiff]), ?_, (by simp -implicitDefEqProofs (disch := omega) only [go_sem, reduceIte, Nat.reduceEqDiff, gt_start, List.getD_cons_zero, List.getD_cons_succ]), (by simp -implicitDefEqProofs (disch := omega) only [go_sem, reduceIte, Nat.reduceEqDiff, gt_start, List.getD_cons_zero, List.getD_cons_succ]), rfl⟩ ?_
  ·rw [List.drop_eq_nil_of_le (Nat.le_refl _), List.drop_eq_nil_of_le (by omega)]
  intro m s ⟨hm, h5, he, h0, h1, hhp⟩
  cases m with
  | zero =>
   refine ww_seq (ww_seq (ww_reg (fun n k => by simp -implicitDefEqProofs (disch := omega) only [go_sem, reduceIte, Nat.reduceEqDiff, h5, dn]; rfl) ?_))
   refine ww_false (by simp -implicitDefEqProofs (disch := omega) only [go_sem, reduceIte, Nat.reduceEqDiff]) (ww_exit ?_)
   rw [if_pos rfl]
   refine ww_seq (ww_reg (fun n k => by simp -implicitDefEqProofs (disch := omega) only [go_sem, reduceIte, Nat.reduceEqDiff]; rfl) ?_)
   refine ww_ret (done _ (.ofNat 0) ?_ (by simp -implicitDefEqProofs (disch := omega) only [go_sem, reduceIte, Nat.reduceEqDiff]) hhp)
   have e : a = b := by simpa using he
   subst e
   simp [cmpI]
  | succ i =>
   have h5' : gt s.tm 5 = .int .i64 (.ofNat i) := h5
   refine ww_seq (ww_seq (ww_reg (fun n k => by simp -implicitDefEqProofs (disch := omega) only [go_sem, reduceIte, Nat.reduceEqDiff, h5', d_true]; rfl) ?_))
   refine ww_true (by simp -implicitDefEqProofs (disch := omega) only [go_sem, reduceIte, Nat.reduceEqDiff]) (ww_skip ?_)
   refine ww_seq (ww_block ?_)
   refine ww_seq (ww_seq (ww_reg (fun n k => by simp -implicitDefEqProofs (disch := omega) only [go_sem, reduceIte, Nat.reduceEqDiff, h0, h1, h5', ia29 ha, ia29 hb]; rfl) ?_))
   refine ww_if (by simp only [gt_pt, reduceIte]; rfl) (fun hx => ?_) (fun hx => ww_skip ?_)
   ·refine ww_seq (ww_reg (fun n k => by simp -implicitDefEqProofs (disch := omega) only [go_sem, reduceIte, Nat.reduceEqDiff]; rfl) ?_)
    refine ww_ret (done _ (.negSucc 0) ?_ (by simp -implicitDefEqProofs (disch := omega) only [go_sem, reduceIte, Nat.reduceEqDiff]) hhp)
    unfold cmpI
    rw [if_pos (vl_lt_at (by decide) da (by omega) (by omega) he hx)]
   ·refine ww_seq (ww_reg (fun n k => by simp -implicitDefEqProofs (disch := omega) only [go_sem, reduceIte, Nat.reduceEqDiff, h0, h1, h5', ia29 ha, ia29 hb]; rfl) ?_)
    refine ww_if (by simp only [gt_pt, reduceIte]; rfl) (fun hy => ?_) (fun hy => ww_skip ?_)
    ·refine ww_seq (ww_reg (fun n k => by simp -implicitDefEqProofs (disch := omega) only [go_sem, reduceIte, Nat.reduceEqDiff]; rfl) ?_)
     refine ww_ret (done _ (.ofNat 1) ?_ (by simp -implicitDefEqProofs (disch := omega) only [go_sem, reduceIte, Nat.reduceEqDiff]) hhp)
     have hlt := vl_lt_at (B := 10000) (by decide) db (by omega) (by omega) he.symm hy
     unfold cmpI
     rw [if_neg (by omega), if_pos hlt]
    ·refine ww_reg (fun n k => by simp -implicitDefEqProofs (disch := omega) only [go_sem, reduceIte, Nat.reduceEqDiff, h5', i_dec]; rfl) ?_
     refine ⟨i, by omega, by omega, (by simp -implicitDefEqProofs (disch := omega) only [go_sem, reduceIte, Nat.reduceEqDiff]), ?_, (by simp -implicitDefEqProofs (disch := omega) only [go_sem, reduceIte, Nat.reduceEqDiff, h0]), (by simp -implicitDefEqProofs (disch := omega) only [go_sem, reduceIte, Nat.reduceEqDiff, h1]), hhp⟩
     rw [getD_drop a i, getD_drop b i, if_pos (by omega), if_pos (by omega), he]
     congr 1
     omega
 ·refine ww_seq (ww_seq (ww_reg (fun n k => by simp -implicitDefEqProofs (disch := omega) only [go_sem, reduceIte, Nat.reduceEqDiff, gt_start, List.getD_cons_zero, List.getD_cons_succ, len_sl ha, len_sl hb, hneq, decide_eq_true (show a.length ≠ b.length by omega)]; rfl) ?_))
  refine ww_true (by simp -implicitDefEqProofs (disch := omega) only [go_sem, reduceIte, Nat.reduceEqDiff]) ?_
  refine ww_seq (ww_seq (ww_reg (fun n k => by simp -implicitDefEqProofs (disch := omega) only [go_sem, reduceIte, Nat.reduceEqDiff, gt_start, List.getD_cons_zero, List.getD_cons_succ, len_sl ha, len_sl hb, d_false]; rfl) ?_))
  refine ww_false (by simp -implicitDefEqProofs (disch := omega) only [go_sem, reduceIte, Nat.reduceEqDiff]) (ww_skip ?_)
  refine ww_seq (ww_reg (fun n k => by simp -implicitDefEqProofs (disch := omega) only [go_sem, reduceIte, Nat.reduceEqDiff]; rfl) ?_)
  refine ww_ret (done _ (.ofNat 1) ?_ (by simp -implicitDefEqProofs (disch := omega) only [go_sem, reduceIte, Nat.reduceEqDiff]) rfl)
  have hlt := vl_lt_len (B := 10000) (by decide) db ca hl
  unfold cmpI
  rw [if_neg (by omega), if_pos hlt]
end Go.AM.S
end
section
namespace Go.AM.S
open Go Go.AM Go.Proofs NumL
open _root_.Go.AM.G (R)
set_option maxRecDepth 100000
theorem tbl26 : tbl 26 = some ⟨rc26, [.cell 4 31]⟩ := by kernel_rfl
theorem tbl28 : tbl 28 = some ⟨rc28, [.cell 4 31]⟩ := by kernel_rfl
theorem tbl32 : tbl 32 = some ⟨rc32, [.cell 2 31]⟩ := by kernel_rfl
theorem tbl34 : tbl 34 = some ⟨rc34, [.tmp 4]⟩ := by kernel_rfl
theorem tbl36 : tbl 36 = some ⟨rc36, [.tmp 2]⟩ := by kernel_rfl
theorem zr_same {d e f : List Nat} {b : Bool} (hf : vl 10000 f = vl 10000 d + vl 10000 e) : zr f (b && !f.isEmpty) = zr d b + zr e b := by
 cases b with
 | false => simp only [zr, Bool.false_and, cond_false]; omega
 | true =>
  cases f with
  | nil => simp only [vl] at hf; simp only [zr, Bool.true_and, List.isEmpty_nil, Bool.not_true, cond_false, cond_true, vl]; omega
  | cons x l => simp only [zr, Bool.true_and, List.isEmpty_cons, Bool.not_false, cond_true]; omega
theorem zr_diff {d e f : List Nat} {b : Bool} (hf : vl 10000 f + vl 10000 e = vl 10000 d) : zr f (b && !f.isEmpty) = zr d b + zr e (!b) := by
 cases b with
 | false => simp only [zr, Bool.false_and, cond_false, Bool.not_false, cond_true]; omega
 | true =>
  cases f with
  | nil => simp only [vl] at hf; simp only [zr, Bool.true_and, List.isEmpty_nil, Bool.not_true, cond_false, cond_true, vl]; omega
  | cons x l => simp only [zr, Bool.true_and, List.isEmpty_cons, Bool.not_false, cond_true, Bool.not_true, cond_false]; omega
theorem addR_spec {k l : Nat} {va vb : V} {x y : Int} (ha : IsR k va x) (hb : IsR l vb y) (hk : k ≤ 1000000) (hl : l ≤ 1000000) : Gives 26 [va, vb] fun r => IsR (max k l + 1) r (x + y) := by
 obtain ⟨d, b, ⟨⟨s, rfl, hs⟩, dd, cd, h0⟩, rfl, hdl⟩ := ha
 obtain ⟨e, c, ⟨⟨u, rfl, hu⟩, de, ce, he0⟩, rfl, hel⟩ := hb
 refine gives_of tbl26 fun h Q hQ => ?_
 unfold rc26
 refine ww_seq (ww_reg (fun n k => by simp -implicitDefEqProofs (disch := omega) only [go_sem, reduceIte, Nat.reduceEqDiff, gt_start, List.getD_cons_zero, List.getD_cons_succ]; rfl) ?_)
 have fin : ∀ (s2 : V) (f : List Nat) (g : Bool) (st : St), NR (.agg [.bool g, s2]) f g → zr f g = zr d b + zr e c → f.length ≤ max k l + 1 → gt st.tm 4 = .ptr (.loc 4 1) 0 → lg st.loc 4 = (1, .cells false [.bool g, s2]) → st.hp = ⟨h.rows, none, h.mods⟩ → Q st := by
  intro s2 f g st hn hz hf h4 hr hh
  obtain ⟨⟨s3, e3, hs3⟩, q⟩ := hn
  obtain rfl : s2 = s3 := by simpa using e3
  exact hQ _ _ (fin_cell (x := .bool g) (y := s2) (f := false) (d := 4) (g := 1) (by kernel_rfl) h4 hr (Pl.bool _) hs3.pl (by rw [hh])) ⟨f, g, ⟨⟨s2, rfl, hs3⟩, q⟩, hz.symm, hf⟩
 by_cases hbc : b = c
 ·subst hbc
  have eqb : bin Pg .eql 4 false (.bool b) (.bool b) = some (.bool true) := by rw [bin_eqb 4 false b b U4, beq_self_eq_true]
  refine ww_seq (ww_seq (ww_reg (fun n k => by simp -implicitDefEqProofs (disch := omega) only [go_sem, reduceIte, Nat.reduceEqDiff, gt_start, List.getD_cons_zero, List.getD_cons_succ, ldc_fst L4, eqb]; rfl) ?_))
  refine ww_true (by simp -implicitDefEqProofs (disch := omega) only [go_sem, reduceIte, Nat.reduceEqDiff]) ?_
  obtain ⟨p, hp, m, hm, dm, hvm, hlm⟩ := plusR_spec hs hu dd de (by omega) (by omega) ⟨h.rows, none, h.mods⟩
  obtain ⟨r, hr, f, ⟨⟨s2, rfl, hs2⟩, df, cf, hf0⟩, ht⟩ := trim_spec hm dm (by omega) b ⟨h.rows, none, h.mods⟩
  have hlen := ht.len
  refine ww_seq (ww_call (hp.and hr) (fun n hn k => by
   simp -implicitDefEqProofs (disch := omega) only [go_sem, reduceIte, Nat.reduceEqDiff, gt_start, List.getD_cons_zero, List.getD_cons_succ, ldc_snd L29, ldc_fst L4, cld2 hn.1 hs.ex hu.ex hs.quiet hu.quiet, cld2 hn.2 (Ex1.bool _) hm.ex rfl hm.quiet, stc_two N31 1 (.bool (b && !f.isEmpty)) s2 (.bool false) .nils _ rfl hs2.pl.ok]
   exact finD_ok (by kernel_rfl)) ?_)
  exact ww_ret (fin s2 f _ _ ⟨⟨s2, rfl, hs2⟩, df, cf, hf0⟩ (zr_same (by rw [ht.vl, hvm])) (by omega) (by simp -implicitDefEqProofs (disch := omega) only [go_sem, reduceIte, Nat.reduceEqDiff]) (by simp -implicitDefEqProofs (disch := omega) only [go_sem, reduceIte, Nat.reduceEqDiff]) rfl)
 ·have ec : c = !b := by cases b <;> cases c <;> first | rfl | exact absurd rfl hbc
  have eqb : bin Pg .eql 4 false (.bool b) (.bool c) = some (.bool false) := by
   rw [bin_eqb 4 false b c U4, ec]; cases b <;> rfl
  refine ww_seq (ww_seq (ww_reg (fun n k => by simp -implicitDefEqProofs (disch := omega) only [go_sem, reduceIte, Nat.reduceEqDiff, gt_start, List.getD_cons_zero, List.getD_cons_succ, ldc_fst L4, eqb]; rfl) ?_))
  refine ww_false (by simp -implicitDefEqProofs (disch := omega) only [go_sem, reduceIte, Nat.reduceEqDiff]) (ww_skip ?_)
  obtain ⟨q, hq, rfl⟩ := lessR_spec hs hu dd de cd ce (by omega) (by omega) ⟨h.rows, none, h.mods⟩
  rcases Nat.lt_or_ge (vl 10000 d) (vl 10000 e) with hlt | hge
  ·have hcmp : cmpI (vl 10000 d) (vl 10000 e) = .negSucc 0 := by unfold cmpI; rw [if_pos hlt]
   rw [hcmp] at hq
   refine ww_seq (ww_seq (ww_call (hq) (fun n hn k => by simp -implicitDefEqProofs (disch := omega) only [go_sem, reduceIte, Nat.reduceEqDiff, gt_start, List.getD_cons_zero, List.getD_cons_succ, ldc_snd L29, clc2 hn hs.ex hu.ex]; rfl) ?_))
   refine ww_false (by simp -implicitDefEqProofs (disch := omega) only [go_sem, reduceIte, Nat.reduceEqDiff]) (ww_skip ?_)
   have hle : d.length ≤ e.length := by
    rcases Nat.lt_or_ge e.length d.length with h1 | h1
    ·have := vl_lt_len (B := 10000) (by decide) de cd h1; omega
    ·exact h1
   obtain ⟨p, hp, m, hm, dm, hvm, hlm⟩ := minusR_spec hu hs de dd (by omega) hle (by omega) ⟨h.rows, none, h.mods⟩
   obtain ⟨r, hr, f, ⟨⟨s2, rfl, hs2⟩, df, cf, hf0⟩, ht⟩ := trim_spec hm dm (by omega) c ⟨h.rows, none, h.mods⟩
   have hlen := ht.len
   refine ww_seq (ww_call (hp.and hr) (fun n hn k => by
    simp -implicitDefEqProofs (disch := omega) only [go_sem, reduceIte, Nat.reduceEqDiff, gt_start, List.getD_cons_zero, List.getD_cons_succ, ldc_snd L29, ldc_fst L4, cld2 hn.1 hu.ex hs.ex hu.quiet hs.quiet, cld2 hn.2 (Ex1.bool _) hm.ex rfl hm.quiet, stc_two N31 1 (.bool (c && !f.isEmpty)) s2 (.bool false) .nils _ rfl hs2.pl.ok]
    exact finD_ok (by kernel_rfl)) ?_)
   refine ww_ret (fin s2 f _ _ ⟨⟨s2, rfl, hs2⟩, df, cf, hf0⟩ ?_ (by omega) (by simp -implicitDefEqProofs (disch := omega) only [go_sem, reduceIte, Nat.reduceEqDiff]) (by simp -implicitDefEqProofs (disch := omega) only [go_sem, reduceIte, Nat.reduceEqDiff]) rfl)
   rw [zr_diff (d := e) (e := d) (by rw [ht.vl, hvm]), ec, Int.add_comm]
   cases b <;> rfl
  ·have hcmp : ∃ n, cmpI (vl 10000 d) (vl 10000 e) = .ofNat n := by unfold cmpI; rw [if_neg (by omega)]; split <;> exact ⟨_, rfl⟩
   obtain ⟨n0, hcmp⟩ := hcmp
   rw [hcmp] at hq
   refine ww_seq (ww_seq (ww_call (hq) (fun n hn k => by simp -implicitDefEqProofs (disch := omega) only [go_sem, reduceIte, Nat.reduceEqDiff, gt_start, List.getD_cons_zero, List.getD_cons_succ, ldc_snd L29, clc2 hn hs.ex hu.ex, d_true]; rfl) ?_))
   refine ww_true (by simp -implicitDefEqProofs (disch := omega) only [go_sem, reduceIte, Nat.reduceEqDiff]) ?_
   have hle : e.length ≤ d.length := by
    rcases Nat.lt_or_ge d.length e.length with h1 | h1
    ·have := vl_lt_len (B := 10000) (by decide) dd ce h1; omega
    ·exact h1
   obtain ⟨p, hp, m, hm, dm, hvm, hlm⟩ := minusR_spec hs hu dd de (by omega) hle (by omega) ⟨h.rows, none, h.mods⟩
   obtain ⟨r, hr, f, ⟨⟨s2, rfl, hs2⟩, df, cf, hf0⟩, ht⟩ := trim_spec hm dm (by omega) b ⟨h.rows, none, h.mods⟩
   have hlen := ht.len
   refine ww_seq (ww_call (hp.and hr) (fun n hn k => by
    simp -implicitDefEqProofs (disch := omega) only [go_sem, reduceIte, Nat.reduceEqDiff, gt_start, List.getD_cons_zero, List.getD_cons_succ, ldc_snd L29, ldc_fst L4, cld2 hn.1 hs.ex hu.ex hs.quiet hu.quiet, cld2 hn.2 (Ex1.bool _) hm.ex rfl hm.quiet, stc_two N31 1 (.bool (b && !f.isEmpty)) s2 (.bool false) .nils _ rfl hs2.pl.ok]
    exact finD_ok (by kernel_rfl)) ?_)
   refine ww_ret (fin s2 f _ _ ⟨⟨s2, rfl, hs2⟩, df, cf, hf0⟩ ?_ (by omega) (by simp -implicitDefEqProofs (disch := omega) only [go_sem, reduceIte, Nat.reduceEqDiff]) (by simp -implicitDefEqProofs (disch := omega) only [go_sem, reduceIte, Nat.reduceEqDiff]) rfl)
   rw [zr_diff (d := d) (e := e) (by rw [ht.vl, hvm]), ec]
theorem IsR.form {k : Nat} {v : V} {x : Int} (h : IsR k v x) : ∃ s b, v = .agg [.bool b, s] ∧ Pl s ∧ Ex1 v ∧ AM.quiet v = true := by
 obtain ⟨d, b, hn, _, _⟩ := h
 have h1 := hn.ex; have h2 := hn.quiet
 obtain ⟨⟨s, rfl, hs⟩, _⟩ := hn
 exact ⟨s, b, rfl, hs.pl, h1, h2⟩
theorem negR_spec {k : Nat} {va : V} {x : Int} (ha : IsR k va x) (hk : k ≤ 1000000) : Gives 32 [va] fun r => IsR k r (-x) := by
 obtain ⟨d, b, ⟨⟨s, rfl, hs⟩, dd, cd, h0⟩, hx, hl⟩ := ha
 refine gives_of tbl32 fun h Q hQ => ?_
 unfold rc32
 refine ww_seq (ww_reg (fun n k => by simp -implicitDefEqProofs (disch := omega) only [go_sem, reduceIte, Nat.reduceEqDiff, gt_start, List.getD_cons_zero, List.getD_cons_succ]; rfl) ?_)
 have fin : ∀ (st : St) (g : Bool), g = (!b && decide (0 < d.length)) → gt st.tm 2 = .ptr (.loc 2 1) 0 → lg st.loc 2 = (1, .cells false [.bool g, s]) → st.hp = ⟨h.rows, none, h.mods⟩ → Q st := by
  intro st g hg h2 hr hh
  refine hQ _ _ (fin_cell (x := .bool g) (y := s) (f := false) (d := 2) (g := 1) (by kernel_rfl) h2 hr (Pl.bool _) hs.pl (by rw [hh])) ⟨d, g, ⟨⟨s, rfl, hs⟩, dd, cd, fun e => by rw [hg, e]; simp⟩, ?_, hl⟩
  subst hx; subst hg
  unfold zr
  cases b with
  | true => simp only [Bool.not_true, Bool.false_and, cond_true, cond_false, Int.neg_neg]
  | false =>
   cases d with
   | nil => rfl
   | cons x l => simp
 cases b with
 | true =>
  refine ww_seq (ww_reg (fun n k => by simp -implicitDefEqProofs (disch := omega) only [go_sem, reduceIte, Nat.reduceEqDiff, ldc_fst L4, ldc_snd L29, b32_1_11 (Pl.bool _) hs.pl, stc_two N31 1 (.bool false) s (.bool false) .nils _ rfl hs.pl.ok]; rfl) ?_)
  exact ww_ret (fin _ false (by simp) (by simp -implicitDefEqProofs (disch := omega) only [go_sem, reduceIte, Nat.reduceEqDiff]) (by simp -implicitDefEqProofs (disch := omega) only [go_sem, reduceIte, Nat.reduceEqDiff]) rfl)
 | false =>
  refine ww_seq (ww_reg (fun n k => by simp -implicitDefEqProofs (disch := omega) only [go_sem, reduceIte, Nat.reduceEqDiff, ldc_fst L4, ldc_snd L29, len_sl hs, b32_1_11 (Pl.bool _) hs.pl, stc_two N31 1 (.bool (decide (0 < d.length))) s (.bool false) .nils _ rfl hs.pl.ok]; rfl) ?_)
  exact ww_ret (fin _ (decide (0 < d.length)) (by simp) (by simp -implicitDefEqProofs (disch := omega) only [go_sem, reduceIte, Nat.reduceEqDiff]) (by simp -implicitDefEqProofs (disch := omega) only [go_sem, reduceIte, Nat.reduceEqDiff]) rfl)
theorem subR_spec {k l : Nat} {va vb : V} {x y : Int} (ha : IsR k va x) (hb : IsR l vb y) (hk : k ≤ 1000000) (hl : l ≤ 1000000) : Gives 28 [va, vb] fun r => IsR (max k l + 1) r (x - y) := by
 obtain ⟨s, b, rfl, ps, es, qs⟩ := ha.form
 obtain ⟨u, c, rfl, pu, eu, qu⟩ := hb.form
 refine gives_of tbl28 fun h Q hQ => ?_
 unfold rc28
 refine ww_seq (ww_reg (fun n k => by simp -implicitDefEqProofs (disch := omega) only [go_sem, reduceIte, Nat.reduceEqDiff, gt_start, List.getD_cons_zero, List.getD_cons_succ]; rfl) ?_)
 obtain ⟨p, hp, hpI⟩ := negR_spec hb hl ⟨h.rows, none, h.mods⟩
 obtain ⟨r, hr, hrI⟩ := addR_spec ha hpI hk hl ⟨h.rows, none, h.mods⟩
 obtain ⟨s1, b1, rfl, ps1, es1, qs1⟩ := hpI.form
 obtain ⟨s2, b2, rfl, ps2, es2, qs2⟩ := hrI.form
 refine ww_seq (ww_call (hp.and hr) (fun n hn k => by simp -implicitDefEqProofs (disch := omega) only [go_sem, reduceIte, Nat.reduceEqDiff, gt_start, List.getD_cons_zero, List.getD_cons_succ, ldc_two L31, cld1 hn.1 eu qu, cld2 hn.2 es es1 qs qs1, stc_two N31 1 (.bool b2) s2 (.bool false) .nils _ rfl ps2.ok]; exact finD_ok (by kernel_rfl)) ?_)
 exact ww_ret (hQ _ _ (fin_cell (x := .bool b2) (y := s2) (f := false) (d := 4) (g := 1) (by kernel_rfl) (by simp -implicitDefEqProofs (disch := omega) only [go_sem, reduceIte, Nat.reduceEqDiff]) (by simp -implicitDefEqProofs (disch := omega) only [go_sem, reduceIte, Nat.reduceEqDiff]) (Pl.bool _) ps2 rfl) (by rw [Int.sub_eq_add_neg]; exact hrI))
theorem signR_spec {k : Nat} {va : V} {x : Int} (ha : IsR k va x) (hk : k ≤ 1000000) : Gives 36 [va] fun r => r = .int .i64 (sgn x) := by
 obtain ⟨d, b, ⟨⟨s, rfl, hs⟩, dd, cd, h0⟩, hx, hl⟩ := ha
 refine gives_of tbl36 fun h Q hQ => ?_
 have done : ∀ (st : St) (z : Int), z = sgn x → gt st.tm 2 = .int .i64 z → st.hp = ⟨h.rows, none, h.mods⟩ → Q st := by
  intro st z e h4 hh
  exact hQ st _ (fin_tmpD h4 (Ex1.int _ _) (by rw [hh]; exact fun x hx => by cases hx) rfl) (by rw [e])
 unfold rc36
 refine ww_seq (ww_reg (fun n k => by simp -implicitDefEqProofs (disch := omega) only [go_sem, reduceIte, Nat.reduceEqDiff, gt_start, List.getD_cons_zero, List.getD_cons_succ]; rfl) ?_)
 refine ww_seq (ww_block ?_)
 rcases Nat.eq_zero_or_pos d.length with e0 | e0
 ·have e : d = [] := List.length_eq_zero_iff.1 e0
  have eb := h0 e
  refine ww_seq (ww_reg (fun n k => by simp -implicitDefEqProofs (disch := omega) only [go_sem, reduceIte, Nat.reduceEqDiff, ldc_snd L29, len_sl hs, e0, d_true]; rfl) ?_)
  refine ww_true (by simp -implicitDefEqProofs (disch := omega) only [go_sem, reduceIte, Nat.reduceEqDiff]) ?_
  refine ww_seq (ww_reg (fun n k => by simp -implicitDefEqProofs (disch := omega) only [go_sem, reduceIte, Nat.reduceEqDiff]; rfl) ?_)
  refine ww_ret (done _ (.ofNat 0) ?_ (by simp -implicitDefEqProofs (disch := omega) only [go_sem, reduceIte, Nat.reduceEqDiff]) rfl)
  subst e; subst eb; subst hx
  rfl
 ·have hne : d ≠ [] := fun e => by subst e; simp at e0
  have hpos := vl_pos_of (B := 10000) cd hne (by decide)
  refine ww_seq (ww_reg (fun n k => by simp -implicitDefEqProofs (disch := omega) only [go_sem, reduceIte, Nat.reduceEqDiff, ldc_snd L29, len_sl hs, decide_eq_false (show ¬ d.length = 0 by omega)]; rfl) ?_)
  refine ww_false (by simp -implicitDefEqProofs (disch := omega) only [go_sem, reduceIte, Nat.reduceEqDiff]) ?_
  cases b with
  | true =>
   refine ww_seq (ww_reg (fun n k => by simp -implicitDefEqProofs (disch := omega) only [go_sem, reduceIte, Nat.reduceEqDiff, ldc_fst L4]; rfl) ?_)
   refine ww_true (by simp -implicitDefEqProofs (disch := omega) only [go_sem, reduceIte, Nat.reduceEqDiff]) ?_
   refine ww_seq (ww_reg (fun n k => by simp -implicitDefEqProofs (disch := omega) only [go_sem, reduceIte, Nat.reduceEqDiff]; rfl) ?_)
   refine ww_ret (done _ (.negSucc 0) ?_ (by simp -implicitDefEqProofs (disch := omega) only [go_sem, reduceIte, Nat.reduceEqDiff]) rfl)
   subst hx
   unfold sgn cmpZ zr
   rw [cond_true, if_pos (by omega)]
  | false =>
   refine ww_seq (ww_reg (fun n k => by simp -implicitDefEqProofs (disch := omega) only [go_sem, reduceIte, Nat.reduceEqDiff, ldc_fst L4]; rfl) ?_)
   refine ww_false (by simp -implicitDefEqProofs (disch := omega) only [go_sem, reduceIte, Nat.reduceEqDiff]) (ww_skip ?_)
   refine ww_seq (ww_reg (fun n k => by simp -implicitDefEqProofs (disch := omega) only [go_sem, reduceIte, Nat.reduceEqDiff]; rfl) ?_)
   refine ww_ret (done _ (.ofNat 1) ?_ (by simp -implicitDefEqProofs (disch := omega) only [go_sem, reduceIte, Nat.reduceEqDiff]) rfl)
   subst hx
   unfold sgn cmpZ zr
   rw [cond_false, if_neg (by omega), if_pos (by omega)]
theorem cmpZ_sgn (x y : Int) : sgn (x - y) = cmpZ x y := by
 unfold sgn cmpZ
 rcases Int.lt_trichotomy x y with h | h | h
 ·rw [if_pos (by omega), if_pos h]
 ·rw [if_neg (by omega), if_neg (by omega), if_neg (by omega), if_neg (by omega)]
 ·rw [if_neg (by omega), if_pos (by omega), if_neg (by omega), if_pos h]
theorem cmpR_spec {k l : Nat} {va vb : V} {x y : Int} (ha : IsR k va x) (hb : IsR l vb y) (hk : k ≤ 100000) (hl : l ≤ 100000) : Gives 34 [va, vb] fun r => r = .int .i64 (cmpZ x y) := by
 obtain ⟨s, b, rfl, ps, es, qs⟩ := ha.form
 obtain ⟨u, c, rfl, pu, eu, qu⟩ := hb.form
 refine gives_of tbl34 fun h Q hQ => ?_
 unfold rc34
 refine ww_seq (ww_reg (fun n k => by simp -implicitDefEqProofs (disch := omega) only [go_sem, reduceIte, Nat.reduceEqDiff, gt_start, List.getD_cons_zero, List.getD_cons_succ]; rfl) ?_)
 obtain ⟨p, hp, hpI⟩ := subR_spec ha hb (by omega) (by omega) ⟨h.rows, none, h.mods⟩
 obtain ⟨_, hr, rfl⟩ := signR_spec hpI (by omega) ⟨h.rows, none, h.mods⟩
 refine ww_seq (ww_call (hp.and hr) (fun n hn k => by simp -implicitDefEqProofs (disch := omega) only [go_sem, reduceIte, Nat.reduceEqDiff, gt_start, List.getD_cons_zero, List.getD_cons_succ, ldc_two L31, clc2 hn.1 es eu, clc1 hn.2 hpI.ex]; rfl) ?_)
 exact ww_ret (hQ _ _ (fin_tmp (v := .int .i64 (sgn (x - y))) (by simp -implicitDefEqProofs (disch := omega) only [go_sem, reduceIte, Nat.reduceEqDiff]) (Ex1.int _ _ _) rfl rfl) (by rw [cmpZ_sgn]))
end Go.AM.S
end
section
namespace Go.AM.S
open Go Go.AM Go.Proofs NumL
open _root_.Go.AM.G (R)
set_option maxRecDepth 100000
end Go.AM.S
end
section
namespace Go.AM.S
open Go Go.AM Go.Proofs NumL
open _root_.Go.AM.G (R)
set_option maxRecDepth 100000
theorem tbl70 : tbl 70 = some ⟨rc70, [.cell 2 31]⟩ := by kernel_rfl
theorem mustR_spec {l : List Nat} (hd : Dg 256 l) (hl : l.length ≤ 1000) : Gives 70 [.str (sl l)] fun r => IsR 252 r (zOf l) := by
 refine gives_of tbl70 fun h Q hQ => ?_
 obtain ⟨_, hp, v, rfl, hI⟩ := parseR_spec hd hl ⟨h.rows, none, h.mods⟩
 obtain ⟨s, b, rfl, ps, es, qs⟩ := hI.form
 unfold rc70
 refine ww_seq (ww_reg (fun n k => by simp -implicitDefEqProofs (disch := omega) only [go_sem, reduceIte, Nat.reduceEqDiff]; rfl) ?_)
 refine ww_seq (ww_call (hp) (fun n hn k => by simp -implicitDefEqProofs (disch := omega) only [go_sem, reduceIte, Nat.reduceEqDiff, gt_start, List.getD_cons_zero, List.getD_cons_succ, clc1 hn (Ex1.str _), ext_tuple, stc_two N31 1 (.bool b) s (.bool false) .nils _ rfl ps.ok]; rfl) ?_)
 refine ww_seq (ww_reg (fun n k => by simp -implicitDefEqProofs (disch := omega) only [go_sem, reduceIte, Nat.reduceEqDiff, ldc_two L31, stc_two N31 1 (.bool b) s (.bool false) .nils _ rfl ps.ok]; rfl) ?_)
 exact ww_ret (hQ _ _ (fin_cell (x := .bool b) (y := s) (f := false) (d := 2) (g := 1) (by kernel_rfl) (by simp -implicitDefEqProofs (disch := omega) only [go_sem, reduceIte, Nat.reduceEqDiff]) (by simp -implicitDefEqProofs (disch := omega) only [go_sem, reduceIte, Nat.reduceEqDiff]) (Pl.bool _) ps rfl) hI)
end Go.AM.S
end
section
namespace Go.AM.S
open Go Go.AM Go.Proofs NumL
open _root_.Go.AM.G (R)
set_option maxRecDepth 100000
theorem tbl30 : tbl 30 = some ⟨rc30, [.cell 4 31]⟩ := by kernel_rfl
theorem cl_xarr {call : CallF} {f : FuncId} {d g : Nat} {li : Option Nat} {k : IntKind} {l : List Nat} {f0 : Bool} {w : V} {tm : Tm} {loc : Lo} {hp h' : Hp} {j : V → Lo → Hp → R} {r : V} {n : Nat} (hn : n = l.length) (h : lg loc d = (g, .cells f0 (nl k l)))
  (hc : call f [w, .slice none false 1 (nl k l)] hp = some (.val r h')) (hw : Ex1 w) : cl call f [w, .arr (.loc d g) 0 n li 1 false] tm loc hp j = j r (lp loc d (g, .cells true (nl k l))) h' := by
 subst hn
 refine cl_val (st := ⟨.lf, lp loc d (g, .cells true (nl k l)), hp⟩) (l := [w, .slice none false 1 (nl k l)]) ?_ hc
 unfold exps
 rw [hw]
 simp only [exps, exp_arr h]
structure IMulR (s u : V) (b c : Bool) (N : Nat) (h : Hp) (out : List Nat) (st : St) : Prop where
 h2 : gt st.tm 2 = .ptr (.loc 2 1) 0
 h3 : gt st.tm 3 = .ptr (.loc 3 1) 0
 h4 : gt st.tm 4 = .ptr (.loc 4 1) 0
 h5 : gt st.tm 5 = .arr (.loc 17 1) 0 N (some N) 1 false
 l2 : lg st.loc 2 = (1, .cells false [.bool b, s])
 l3 : lg st.loc 3 = (1, .cells false [.bool c, u])
 l4 : lg st.loc 4 = (1, .cells false [.bool false, .nils])
 l17 : lg st.loc 17 = (1, .cells false (nl .i64 out))
 len : out.length = N
 dg : Dg 10000 out
 hp : st.hp = h
theorem mulR_spec {k l : Nat} {va vb : V} {x y : Int} (ha : IsR k va x) (hb : IsR l vb y) (hk : k ≤ 1000000) (hl : l ≤ 1000000) : Gives 30 [va, vb] fun r => IsR (k + l) r (x * y) := by
 obtain ⟨d, b, ⟨⟨s, rfl, hs⟩, dd, cd, h0⟩, rfl, hdl⟩ := ha
 obtain ⟨e, c, ⟨⟨u, rfl, hu⟩, de, ce, he0⟩, rfl, hel⟩ := hb
 refine gives_of tbl30 fun h Q hQ => ?_
 unfold rc30
 refine ww_seq (ww_reg (fun n k => by simp -implicitDefEqProofs (disch := omega) only [go_sem, reduceIte, Nat.reduceEqDiff, gt_start, List.getD_cons_zero, List.getD_cons_succ]; rfl) ?_)
 refine ww_seq (ww_reg (fun n k => by simp -implicitDefEqProofs (disch := omega) only [go_sem, reduceIte, Nat.reduceEqDiff, gt_start, List.getD_cons_zero, List.getD_cons_succ, ldc_snd L29, len_sl hs, len_sl hu]; rfl) ?_)
 refine ww_join (M := fun st => ∃ out, IMulR s u b c (d.length + e.length) ⟨h.rows, none, h.mods⟩ out st ∧ vl 10000 out = vl 10000 d * vl 10000 e) ?_ (fun st ⟨out, H, hv⟩ => ?_)
 ·refine ww_seq (ww_reg (fun n k => by simp -implicitDefEqProofs (disch := omega) only [go_sem, reduceIte, Nat.reduceEqDiff]; rfl) ?_)
  refine ww_for (fun m st => ∃ i out, m + i = d.length ∧ IMulR s u b c (d.length + e.length) ⟨h.rows, none, h.mods⟩ out st ∧ gt st.tm 6 = .int .i64 (.ofNat i) ∧ vl 10000 out = vl 10000 (d.take i) * vl 10000 e ∧ ∀ j, i + e.length ≤ j → out.getD j 0 = 0) d.length ⟨0, List.replicate (d.length + e.length) 0, rfl, ⟨(by simp -implicitDefEqProofs (disch := omega) only [go_sem, reduceIte, Nat.reduceEqDiff]), (by simp -implicitDefEqProofs (disch := omega) only [go_sem, reduceIte, Nat.reduceEqDiff]), (by simp -implicitDefEqProofs (disch := omega) only [go_sem, reduceIte, Nat.reduceEqDiff]), (by simp -implicitDefEqProofs (disch := omega) only [go_sem, reduceIte, Nat.reduceEqDiff]), (by simp -implicitDefEqProofs (disch := omega) only [go_sem, reduceIte, Nat.reduceEqDiff]), (by simp -implicitDefEqProofs (disch := omega) only [go_sem, reduceIte, Nat.reduceEqDiff]), (by simp -implicitDefEqProofs (disch := omega) only [go_sem, reduceIte, Nat.reduceEqDiff]), (by simp -implicitDefEqProofs (disch := omega) only [go_sem, reduceIte, Nat.reduceEqDiff]), by simp, fun x hx => by rw [List.eq_of_mem_replicate hx]; decide, rfl⟩, (by simp -implicitDefEqProofs (disch := omega) only [go_sem, reduceIte, Nat.reduceEqDiff]), by rw [vl_zeros]; simp [vl], fun j _ => by rw [List.getD_eq_getElem?_getD, List.getElem?_replicate]; split <;> rfl⟩ ?_
  intro m st ⟨i, out, hm, H, h6, hv, hz⟩
  obtain ⟨h2, h3, h4, h5, l2, l3, l4, l17, hlen, hdg, hhp⟩ := H
  refine ww_seq (ww_seq (ww_reg (fun n k => by simp -implicitDefEqProofs (disch := omega) only [go_sem, reduceIte, Nat.reduceEqDiff, h6, h2, l2, ldc_snd L29, len_sl hs]; rfl) ?_))
  refine ww_if (by simp only [gt_pt, reduceIte]; rfl) (fun hi => ww_skip ?_) (fun hi => ww_exit ?_)
  ·have hx : d.getD i 0 < 10000 := dd.get (by decide) i
   refine ww_seq (ww_block ?_)
   refine ww_seq (ww_reg (fun n k => by simp -implicitDefEqProofs (disch := omega) only [go_sem, reduceIte, Nat.reduceEqDiff]; rfl) ?_)
   refine ww_seq (ww_reg (fun n k => by simp -implicitDefEqProofs (disch := omega) only [go_sem, reduceIte, Nat.reduceEqDiff]; rfl) ?_)
   refine ww_for (fun m2 s1 => ∃ k o2 w, m2 + k = e.length + 1 ∧ IMulR s u b c (d.length + e.length) ⟨h.rows, none, h.mods⟩ o2 s1 ∧ gt s1.tm 6 = .int .i64 (.ofNat i) ∧ gt s1.tm 7 = .int .i64 (.ofNat w) ∧ gt s1.tm 8 = .int .i64 (.ofNat k) ∧ w < 10000 ∧ vl 10000 o2 + 10000 ^ (i + k) * w = vl 10000 out + 10000 ^ i * (d.getD i 0 * vl 10000 (e.take k)) ∧ (∀ j, i + 1 + e.length ≤ j → o2.getD j 0 = 0) ∧ ((k ≤ e.length ∧ o2.getD (i + e.length) 0 = 0) ∨ (k = e.length + 1 ∧ w = 0))) (e.length + 1) ⟨0, out, 0, rfl, ⟨(by simp -implicitDefEqProofs (disch := omega) only [go_sem, reduceIte, Nat.reduceEqDiff, h2]), (by simp -implicitDefEqProofs (disch := omega) only [go_sem, reduceIte, Nat.reduceEqDiff, h3]), (by simp -implicitDefEqProofs (disch := omega) only [go_sem, reduceIte, Nat.reduceEqDiff, h4]), (by simp -implicitDefEqProofs (disch := omega) only [go_sem, reduceIte, Nat.reduceEqDiff, h5]), (by simp -implicitDefEqProofs (disch := omega) only [go_sem, reduceIte, Nat.reduceEqDiff, l2]), (by simp -implicitDefEqProofs (disch := omega) only [go_sem, reduceIte, Nat.reduceEqDiff, l3]), (by simp -implicitDefEqProofs (disch := omega) only [go_sem, reduceIte, Nat.reduceEqDiff, l4]), (by simp -implicitDefEqProofs (disch := omega) only [go_sem, reduceIte, Nat.reduceEqDiff, l17]), hlen, hdg, hhp⟩, (by simp -implicitDefEqProofs (disch := omega) only [go_sem, reduceIte, Nat.reduceEqDiff, h6]), (by simp -implicitDefEqProofs (disch := omega) only [go_sem, reduceIte, Nat.reduceEqDiff]), (by simp -implicitDefEqProofs (disch := omega) only [go_sem, reduceIte, Nat.reduceEqDiff]), by decide, by simp [vl], fun j hj => hz j (by omega), .inl ⟨Nat.zero_le _, hz _ (Nat.le_refl _)⟩⟩ ?_
   intro m2 s1 ⟨k, o2, w, hm2, H2, j6, j7, j8, hw, hv2, hz2, hcase⟩
   obtain ⟨i2, i3, i4, i5, k2, k3, k4, k17, hlen2, hdg2, hhp2⟩ := H2
   refine ww_seq (ww_join (M := fun s2 => gt s2.tm 33 = .bool (decide (k < e.length ∨ 0 < w)) ∧ Kp [2, 3, 4, 5, 6, 7, 8] s1.tm s2.tm ∧ s2.loc = s1.loc ∧ s2.hp = s1.hp) ?_ (fun s2 ⟨g33, gk, gl, gh⟩ => ?_))
   ·by_cases c1 : k < e.length
    ·refine ww_reg (fun n k => by simp -implicitDefEqProofs (disch := omega) only [go_sem, reduceIte, Nat.reduceEqDiff, i3, k3, j8, ldc_snd L29, len_sl hu, decide_eq_true c1]; rfl) ?_
     exact ⟨by rw [decide_eq_true (.inl c1)]; exact (by simp -implicitDefEqProofs (disch := omega) only [go_sem, reduceIte, Nat.reduceEqDiff]), (by (try dsimp only); repeat (first | with_reducible exact Kp_refl _ _ | with_reducible refine Kp_pt (by decide) ?_)), rfl, rfl⟩
    ·refine ww_reg (fun n k => by simp -implicitDefEqProofs (disch := omega) only [go_sem, reduceIte, Nat.reduceEqDiff, i3, k3, j7, j8, ldc_snd L29, len_sl hu, decide_eq_false c1]; rfl) ?_
     exact ⟨by rw [show decide (k < e.length ∨ 0 < w) = decide (0 < w) by congr 1; apply propext; omega]; exact (by simp -implicitDefEqProofs (disch := omega) only [go_sem, reduceIte, Nat.reduceEqDiff]), (by (try dsimp only); repeat (first | with_reducible exact Kp_refl _ _ | with_reducible refine Kp_pt (by decide) ?_)), rfl, rfl⟩
   ·have p2 := (gk 2 (by decide)).trans i2; have p3 := (gk 3 (by decide)).trans i3; have p4 := (gk 4 (by decide)).trans i4; have p5 := (gk 5 (by decide)).trans i5
    have p6 := (gk 6 (by decide)).trans j6; have p7 := (gk 7 (by decide)).trans j7; have p8 := (gk 8 (by decide)).trans j8
    rw [← gl] at k2 k3 k4 k17
    refine ww_if g33 (fun hcont => ww_skip ?_) (fun hcont => ww_exit ?_)
    ·have hy : e.getD k 0 < 10000 := de.get (by decide) k
     have ho : o2.getD (i + k) 0 < 10000 := hdg2.get (by decide) _
     have hxy : d.getD i 0 * e.getD k 0 ≤ 9999 * 9999 := Nat.mul_le_mul (by omega) (by omega)
     have hik : i + k < d.length + e.length := by omega
     refine ww_seq (ww_block ?_)
     refine ww_seq (ww_reg (fun n k => by simp -implicitDefEqProofs (disch := omega) only [go_sem, reduceIte, Nat.reduceEqDiff, p5, p6, p7, p8, k17, ldc_nl L3]; rfl) ?_)
     refine ww_join (M := fun s3 => gt s3.tm 9 = .int .i64 (.ofNat (o2.getD (i + k) 0 + w + d.getD i 0 * e.getD k 0)) ∧ Kp [2, 3, 4, 5, 6, 7, 8] s2.tm s3.tm ∧ s3.loc = s2.loc ∧ s3.hp = s2.hp) ?_ (fun s3 ⟨q9, qk, ql, qh⟩ => ?_)
     ·refine ww_seq (ww_reg (fun n k => by simp -implicitDefEqProofs (disch := omega) only [go_sem, reduceIte, Nat.reduceEqDiff, p3, k3, p8, ldc_snd L29, len_sl hu]; rfl) ?_)
      refine ww_if (by simp only [gt_pt, reduceIte]; rfl) (fun c1 => ?_) (fun c1 => ww_skip ?_)
      ·refine ww_reg (fun n k => by simp -implicitDefEqProofs (disch := omega) only [go_sem, reduceIte, Nat.reduceEqDiff, p2, p3, k2, k3, p6, p8, ldc_snd L29, ia29 hs, ia29 hu]; rfl) ?_
       exact ⟨(by simp -implicitDefEqProofs (disch := omega) only [go_sem, reduceIte, Nat.reduceEqDiff]), (by (try dsimp only); repeat (first | with_reducible exact Kp_refl _ _ | with_reducible refine Kp_pt (by decide) ?_)), rfl, rfl⟩
      ·exact ⟨(by simp -implicitDefEqProofs (disch := omega) only [go_sem, reduceIte, Nat.reduceEqDiff, getD_ge c1, Nat.mul_zero, Nat.add_zero]), (by (try dsimp only); repeat (first | with_reducible exact Kp_refl _ _ | with_reducible refine Kp_pt (by decide) ?_)), rfl, rfl⟩
     ·have r2 := (qk 2 (by decide)).trans p2; have r3 := (qk 3 (by decide)).trans p3; have r4 := (qk 4 (by decide)).trans p4; have r5 := (qk 5 (by decide)).trans p5
      have r6 := (qk 6 (by decide)).trans p6; have r8 := (qk 8 (by decide)).trans p8
      rw [← ql] at k2 k3 k4 k17
      refine ww_reg (fun n k => by simp -implicitDefEqProofs (disch := omega) only [go_sem, reduceIte, Nat.reduceEqDiff, r5, r6, r8, q9, k17, stc_nl N3]; rfl) ?_
      refine ww_reg (fun n k => by simp -implicitDefEqProofs (disch := omega) only [go_sem, reduceIte, Nat.reduceEqDiff, r8]; rfl) ?_
      refine ⟨m2 - 1, by omega, k + 1, o2.set (i + k) ((o2.getD (i + k) 0 + w + d.getD i 0 * e.getD k 0) % 10000), (o2.getD (i + k) 0 + w + d.getD i 0 * e.getD k 0) / 10000, by omega, ⟨(by simp -implicitDefEqProofs (disch := omega) only [go_sem, reduceIte, Nat.reduceEqDiff, r2]), (by simp -implicitDefEqProofs (disch := omega) only [go_sem, reduceIte, Nat.reduceEqDiff, r3]), (by simp -implicitDefEqProofs (disch := omega) only [go_sem, reduceIte, Nat.reduceEqDiff, r4]), (by simp -implicitDefEqProofs (disch := omega) only [go_sem, reduceIte, Nat.reduceEqDiff, r5]), (by simp -implicitDefEqProofs (disch := omega) only [go_sem, reduceIte, Nat.reduceEqDiff, k2]), (by simp -implicitDefEqProofs (disch := omega) only [go_sem, reduceIte, Nat.reduceEqDiff, k3]), (by simp -implicitDefEqProofs (disch := omega) only [go_sem, reduceIte, Nat.reduceEqDiff, k4]), (by simp -implicitDefEqProofs (disch := omega) only [go_sem, reduceIte, Nat.reduceEqDiff]), by simp [hlen2], hdg2.set _ (Nat.mod_lt _ (by decide)), by rw [← hhp2, ← gh, ← qh]⟩, (by simp -implicitDefEqProofs (disch := omega) only [go_sem, reduceIte, Nat.reduceEqDiff, r6]), (by simp -implicitDefEqProofs (disch := omega) only [go_sem, reduceIte, Nat.reduceEqDiff]), (by simp -implicitDefEqProofs (disch := omega) only [go_sem, reduceIte, Nat.reduceEqDiff]), by omega, ?_, fun j hj => by rw [getD_set_ne _ _ _ _ (by omega)]; exact hz2 j hj, ?_⟩
      ·rw [vl_take_next]
       exact mul_step (vl_set 10000 o2 (i + k) _ (by omega)) (by omega) hv2
      ·by_cases c1 : k < e.length
       ·left
        refine ⟨by omega, ?_⟩
        rw [getD_set_ne _ _ _ _ (by omega)]
        rcases hcase with q | q
        ·exact q.2
        ·omega
       ·right
        have hl2 : k = e.length ∧ o2.getD (i + e.length) 0 = 0 := by
         rcases hcase with q | q
         ·exact ⟨by omega, q.2⟩
         ·omega
        obtain ⟨ek, ho0⟩ := hl2
        refine ⟨by omega, ?_⟩
        have e0 : e.getD k 0 = 0 := getD_ge (by omega)
        have o0 : o2.getD (i + k) 0 = 0 := by rw [ek]; exact ho0
        rw [e0, Nat.mul_zero, o0]
        omega
    ·rw [if_pos rfl]
     have hw0 : w = 0 ∧ e.length ≤ k := by omega
     obtain ⟨rfl, hke⟩ := hw0
     rw [Nat.mul_zero, Nat.add_zero, List.take_of_length_le hke] at hv2
     refine ww_reg (fun n k => by simp -implicitDefEqProofs (disch := omega) only [go_sem, reduceIte, Nat.reduceEqDiff, p6]; rfl) ?_
     refine ⟨m - 1, by omega, i + 1, o2, by omega, ⟨(by simp -implicitDefEqProofs (disch := omega) only [go_sem, reduceIte, Nat.reduceEqDiff, p2]), (by simp -implicitDefEqProofs (disch := omega) only [go_sem, reduceIte, Nat.reduceEqDiff, p3]), (by simp -implicitDefEqProofs (disch := omega) only [go_sem, reduceIte, Nat.reduceEqDiff, p4]), (by simp -implicitDefEqProofs (disch := omega) only [go_sem, reduceIte, Nat.reduceEqDiff, p5]), k2, k3, k4, k17, hlen2, hdg2, gh.trans hhp2⟩, (by simp -implicitDefEqProofs (disch := omega) only [go_sem, reduceIte, Nat.reduceEqDiff]), ?_, fun j hj => hz2 j (by omega)⟩
     rw [hv2, vl_take_next, Nat.add_mul, ← hv, Nat.mul_assoc]
  ·rw [if_pos rfl]
   have ei : i = d.length := by omega
   subst ei
   rw [List.take_length] at hv
   exact ⟨out, ⟨(by simp -implicitDefEqProofs (disch := omega) only [go_sem, reduceIte, Nat.reduceEqDiff, h2]), (by simp -implicitDefEqProofs (disch := omega) only [go_sem, reduceIte, Nat.reduceEqDiff, h3]), (by simp -implicitDefEqProofs (disch := omega) only [go_sem, reduceIte, Nat.reduceEqDiff, h4]), (by simp -implicitDefEqProofs (disch := omega) only [go_sem, reduceIte, Nat.reduceEqDiff, h5]), (by simp -implicitDefEqProofs (disch := omega) only [go_sem, reduceIte, Nat.reduceEqDiff, l2]), (by simp -implicitDefEqProofs (disch := omega) only [go_sem, reduceIte, Nat.reduceEqDiff, l3]), (by simp -implicitDefEqProofs (disch := omega) only [go_sem, reduceIte, Nat.reduceEqDiff, l4]), (by simp -implicitDefEqProofs (disch := omega) only [go_sem, reduceIte, Nat.reduceEqDiff, l17]), hlen, hdg, hhp⟩, hv⟩
 ·obtain ⟨h2, h3, h4, h5, l2, l3, l4, l17, hlen, hdg, hhp⟩ := H
  obtain ⟨r, hr, f, ⟨⟨s2, rfl, hs2⟩, df, cf, hf0⟩, ht⟩ := trim_spec (va := .slice none false 1 (nl .i64 out)) (a := out) (.inl ⟨false, rfl⟩) hdg (by omega) (!(b == c)) ⟨h.rows, none, h.mods⟩
  have hlen3 := ht.len
  refine ww_seq (ww_call (hr) (fun n hn k => by simp -implicitDefEqProofs (disch := omega) only [go_sem, reduceIte, Nat.reduceEqDiff, h2, h3, h4, h5, l2, l3, l4, hhp, ldc_fst L4, bin_neb 4 false b c U4, cl_xarr hlen.symm l17 hn (Ex1.bool _), stc_two N31 1 (.bool (!(b == c) && !f.isEmpty)) s2 (.bool false) .nils _ rfl hs2.pl.ok]; rfl) ?_)
  refine ww_ret (hQ _ _ (fin_cell (x := .bool (!(b == c) && !f.isEmpty)) (y := s2) (f := false) (d := 4) (g := 1) (by kernel_rfl) (by simp -implicitDefEqProofs (disch := omega) only [go_sem, reduceIte, Nat.reduceEqDiff, h4]) (by simp -implicitDefEqProofs (disch := omega) only [go_sem, reduceIte, Nat.reduceEqDiff]) (Pl.bool _) hs2.pl rfl) ⟨f, _, ⟨⟨s2, rfl, hs2⟩, df, cf, hf0⟩, ?_, by omega⟩)
  have e3 := ht.vl 10000
  rw [hv] at e3
  have e4 : (vl 10000 f : Int) = (vl 10000 d : Int) * (vl 10000 e : Int) := by rw [e3]; simp
  cases f with
  | nil =>
   have e5 : (vl 10000 d : Int) * (vl 10000 e : Int) = 0 := by rw [← e4]; rfl
   cases b <;> cases c <;> simp only [zr, vl, cond_true, cond_false, Int.neg_mul, Int.mul_neg, Int.neg_neg, e5] <;> rfl
  | cons x0 l0 => cases b <;> cases c <;> simp only [zr, cond_true, cond_false, Int.neg_mul, Int.mul_neg, Int.neg_neg, e4] <;> simp [e4]
end Go.AM.S
end
section
namespace Go.AM.S
open Go Go.AM Go.Proofs NumL
open _root_.Go.AM.G (R)
set_option maxRecDepth 100000
section
variable {C : Cfg} {P : Program} {call : CallF} {gl : Nat → Bool} {o : Oper} {t' tm : Tm} {loc : Lo} {hp : Hp}
theorem genD_text {d x s0 g n : Nat} {li : Option Nat} {s t e : TypeId} {l : List Nat} {J : JD} {X : XD} (hd : o.dst = some d) (ho : o.op = .convert s t (.tmp x)) (h1 : P.underlying s = some (.slice e)) (h2 : P.underlying t = some .string) (h3 : P.underlying e = some (.int .u8))
  (hx : gt t' x = .arr (.loc s0 g) 0 n li 1 false) (hi : itemsOf ⟨t', loc, hp⟩ (.arr (.loc s0 g) 0 n li 1 false) = some (nl .u8 l)) (hl : Dg 256 l) :
  genD P C call gl o t' loc hp J X = J (.str (sl l)) ⟨[s0], [], false, false, false, false⟩ loc hp := by
 have hp1 : locV P C gl (⟨t', loc, hp⟩ : St).ρ (⟨t', loc, hp⟩ : St).lc o = none := by
  unfold locV
  simp only [ho, pureV, opd_gt, hx, convV, h1, h2]
  rfl
 have hf : footV P C gl (⟨t', loc, hp⟩ : St).ρ (⟨t', loc, hp⟩ : St).lc o = some ⟨[s0], [], false, false, false, false⟩ := by
  unfold footV
  rw [hp1]
  simp only [ho, opd_gt, hx]
  unfold convFoot
  rw [h2]
 have hs : stepV P C gl ⟨t', loc, hp⟩ o = some (.val (.str (sl l)) ⟨t', loc, hp⟩) := by
  unfold stepV
  rw [hp1]
  unfold stepG
  simp only [ho, hd, convS, h1, h2, h3, opd_gt, hx, hi, bytesOf_nl, Option.map_some, ofL_bytes hl]
 unfold genD
 rw [F.e_footV, F.e_oneV, F.e_rho, F.e_lcf, hf]
 show G.onSome (oneV P C call gl ⟨t', loc, hp⟩ o) _ none = _
 unfold oneV
 rw [hs]
 have e1 : F.settle hp hp ⟨[s0], [], false, false, false, false⟩ = ⟨[s0], [], false, false, false, false⟩ := by
  unfold F.settle
  rw [Nat.beq_refl, Nat.beq_refl]; rfl
 simp only [putV, hd]
 show J (gt (aset t' d (V.str (sl l))) d) (F.settle hp hp ⟨[s0], [], false, false, false, false⟩) loc hp = _
 rw [gt_eq, aget_aset, if_pos rfl, e1]
end
theorem dt24 {s0 g n : Nat} {li : Option Nat} {l : List Nat} {lo : Lo} {h : Hp} (hi : ∀ tm, itemsOf ⟨tm, lo, h⟩ (.arr (.loc s0 g) 0 n li 1 false) = some (nl .u8 l)) (hl : Dg 256 l) (c : CallF) (t : Tm) (J : JD) (X : XD) :
  gD Try.f24 24 12 2 c (pt t 58 (.arr (.loc s0 g) 0 n li 1 false)) lo h J X = J (.str (sl l)) ⟨[s0], [], false, false, false, false⟩ lo h :=
 genD_text (C := Cg) (gl := Cg.glob 24) (call := c) (o := opA Try.f24 12 2) (d := 59) (x := 58) (s := 51) (t := 9) (e := 5) (by kernel_rfl) (by kernel_rfl) U51 U9 U5 (by rw [gt_pt, if_pos rfl]) (hi _) hl
theorem tx24 {l : Lo} {h : Hp} {w : V} {d : List Nat} (hw : ∀ q, w ≠ .str q) (hi : ∀ tm, itemsOf ⟨tm, l, h⟩ w = some (nl .u8 d)) (hd : Dg 256 d) (c : CallF) (t : Tm) (j : V → Lo → Hp → R) : go1 Try.f24 24 11 1 52 w c t l h j = j (.str (sl d)) l h :=
 gen_text (C := Cg) (gl := Cg.glob 24) (call := c) (tm := t) (loc := l) (hp := h) (j := j) (x := 52) (o := opA Try.f24 11 1) (d := 53) (s := 51) (t := 9) (e := 5) (by kernel_rfl) (by kernel_rfl) U51 U9 U5 hw hi hd
end Go.AM.S
end
section
namespace Go.AM.S
open Go Go.AM Go.Proofs NumL
open _root_.Go.AM.G (R)
section
variable {P : Program} {C : Cfg} {call : CallF} {gl : Nat → Bool} {o : Oper} {loc : Lo} {hp : Hp}
theorem gen_growY {d d1 x y t e b : Nat} (h1 : d1 ≠ d) (hi : ApI P o d x y t) (hA : C.isArr t = true) (hg : gl d = false) (he : elemT P t = some e) (hl : layE P e = some (1, false)) (hb : byteE P e = some b) (hxy : x ≠ y)
    {k : IntKind} {l ys : List Nat} {v w : V} (hv : (l = [] ∧ v = .nils) ∨ (l ≠ [] ∧ ∃ g, v = .arr (.loc d1 g) 0 l.length (some l.length) 1 false ∧ lg loc d1 = (g, .cells false (nl k l)))) (hw : ∀ tm hp, itemsOf ⟨tm, loc, hp⟩ w = some (nl k ys)) (hys : ys ≠ []) (hn : (l.length + ys.length) * b ≤ 70368744177664) :
    ∃ v' loc', (∀ (call : CallF) (tm : Tm) (hp : Hp) (j : V → Lo → Hp → R), gen P C call gl o (pt (pt .lf x v) y w) tm loc hp j = j v' loc' hp) ∧ Ar loc' d v' k (l ++ ys) ∧ ∀ i, i ≠ d → i ≠ d1 → lg loc' i = lg loc i := by
  obtain ⟨hd, c, ho, hc, ha, hty, hni⟩ := hi
  have hx : gt (pt (pt .lf x v) y w) x = v := by rw [gt_pt, if_neg (Ne.symm hxy), gt_pt, if_pos rfl]
  have hy : gt (pt (pt .lf x v) y w) y = w := by rw [gt_pt, if_pos rfl]
  have hp1 : ∀ (tm : Tm) hp, locV P C gl (⟨tm, loc, hp⟩ : St).ρ (⟨tm, loc, hp⟩ : St).lc o = none := by
    intro tm hp
    unfold locV
    simp only [ho, pureV, hc, ha, Option.map_none]
  have hne : ∀ {q : Prop}, nl k ys = [] → q := fun h => absurd (by simpa [nl] using h) hys
  have hmb : ∀ n, n ≤ 70368744177664 → Nat.ble n maxBytes = true := fun n h => by rw [Nat.ble_eq]; exact h
  rcases hv with ⟨rfl, rfl⟩ | ⟨hl0, g, rfl, hrow⟩
  · refine ⟨.arr (.loc d ((lg loc d).1 + 1)) 0 ys.length none 1 false, lp loc d ((lg loc d).1 + 1, .cells false (nl k ys)), fun call tm hp j => gen_val (st := ⟨pt (pt .lf x .nils) y w, lp loc d ((lg loc d).1 + 1, .cells false (nl k ys)), hp⟩) hd ?_, .inr ⟨by simpa using hys, (lg loc d).1 + 1, by simp, by rw [lg_lp, if_pos rfl]; simp⟩, fun i hi _ => by rw [lg_lp, if_neg (Ne.symm hi)]⟩
    unfold stepV
    rw [hp1]
    unfold stepG
    simp only [ho, callS, hc, hty, hd, opds, ha, List.map_cons, List.map_nil, opd_gt, hx, hy, hni, cond_true, appendV, he, hl, hb, hw, fits_nl]
    split
    · rename_i h0; exact hne h0
    · rw [hmb _ (by simpa [nl_length] using hn)]
      simp only [cond_true, hA, growArr, hg, Bool.false_and, cond_false, addRow, lc_lg, aset_lp, flat_nl, nl_length]
  · have hrow' : ∀ tm hp, getRow ⟨tm, loc, hp⟩ (.loc d1 g) = some (.cells false (nl k l)) := fun tm hp => getRow_loc hrow
    refine ⟨.arr (.loc d ((lg loc d).1 + 1)) 0 (l ++ ys).length none 1 false, lp loc d ((lg loc d).1 + 1, .cells false (nl k (l ++ ys))), fun call tm hp j => gen_val (st := ⟨pt (pt .lf x (.arr (.loc d1 g) 0 l.length (some l.length) 1 false)) y w, lp loc d ((lg loc d).1 + 1, .cells false (nl k (l ++ ys))), hp⟩) hd ?_, .inr ⟨by simp [hl0], _, rfl, by rw [lg_lp, if_pos rfl]⟩, fun i hi hj => by rw [lg_lp, if_neg (Ne.symm hi)]⟩
    · unfold stepV
      rw [hp1]
      unfold stepG
      simp only [ho, callS, hc, hty, hd, opds, ha, List.map_cons, List.map_nil, opd_gt, hx, hy, hni, cond_true, appendV, he, hl, hb, hw, fits_nl, hrow', nl_length, Nat.beq_refl, beq_self_eq_true, Bool.and_self, Nat.zero_add, Nat.mul_one]
      rw [show Nat.ble l.length l.length = true from by rw [Nat.ble_eq]; exact Nat.le_refl _, hmb _ hn]
      simp only [Bool.and_self, cond_true]
      split
      · rename_i h0; exact hne h0
      · simp only [isLoc, Bool.not_true, Bool.false_and, cond_false]
        rw [show Nat.ble (l.length + ys.length) l.length = false from by
          cases hb : Nat.ble (l.length + ys.length) l.length with
          | false => rfl
          | true => rw [Nat.ble_eq] at hb; have : ys.length ≠ 0 := by simpa using hys
                    omega]
        simp only [cond_false, growArr, hg, Bool.false_and, setRow_loc, addRow, lc_lg, lg_lp, if_neg h1, aset_lp, flat_nl, nl_append, List.length_append, cond_true]
        rw [List.drop_zero, show List.take l.length (nl k l) = nl k l from by rw [← nl_length k l, List.take_length]]
end
end Go.AM.S
end
section
namespace Go.AM.S
open Go Go.AM Go.Proofs NumL
open _root_.Go.AM.G (R)
set_option maxRecDepth 100000
theorem fin_cells2 {h : Hp} {a t d g a2 t2 d2 g2 : Nat} {f f2 : Bool} {s : St} {x y x2 y2 : V} (hl : layE Pg t = some (2, true)) (hl2 : layE Pg t2 = some (2, true)) (hv : gt s.tm a = .ptr (.loc d g) 0) (hv2 : gt s.tm a2 = .ptr (.loc d2 g2) 0) (hr : lg s.loc d = (g, .cells f [x, y])) (hr2 : lg s.loc d2 = (g2, .cells f2 [x2, y2])) (hx : Pl x) (hy : Pl y) (hx2 : Pl x2) (hy2 : Pl y2) (hc : DG h.rows.length s.hp) :
  fin Pg h [.cell a t, .cell a2 t2] s = some (.val (.tuple [.agg [x, y], .agg [x2, y2]]) h) := by
 unfold fin
 have e1 : resV Pg s [.cell a t, .cell a2 t2] = some [.agg [x, y], .agg [x2, y2]] := by
  simp only [resV, rho_gt, hv, hv2, getRow_loc hr, getRow_loc hr2, partV, hl, hl2, Option.map_some]
  rfl
 rw [e1]
 have e2 := exps_ex [.agg [x, y], .agg [x2, y2]] s ⟨exp_agg (cs := [x, y]) (by intro v hv; simp at hv; rcases hv with rfl | rfl <;> assumption), exp_agg (cs := [x2, y2]) (by intro v hv; simp at hv; rcases hv with rfl | rfl <;> assumption), trivial⟩
 simp only [e2]
 unfold backHp
 rw [clean_dg hc]
 simp only [V.noRefsL, V.noRefs, hx.refs, hy.refs, hx2.refs, hy2.refs, Bool.and_self, cond_true]
theorem a24_10 {g : Nat} {loc : Lo} {w : V} {ys : List Nat} (hrow : lg loc 48 = (g, .cells false (nl .u8 [45]))) (hw : ∀ (tm : Tm) (hp : Hp), itemsOf ⟨tm, loc, hp⟩ w = some (nl .u8 ys)) (hys : ys ≠ []) (hn : ys.length ≤ 1000000) :
  ∃ v' loc', (∀ (c : CallF) (tm : Tm) (hp : Hp) (j : V → Lo → Hp → R), go2 Try.f24 24 10 2 48 49 (.arr (.loc 48 g) 0 1 (some 1) 1 false) w c tm loc hp j = j v' loc' hp) ∧ Ar loc' 50 v' .u8 (45 :: ys) ∧ ∀ i, i ≠ 50 → i ≠ 48 → lg loc' i = lg loc i :=
 gen_growY (k := .u8) (l := [45]) (d1 := 48) (C := Cg) (gl := Cg.glob 24) (by decide) i24_10_2 (by kernel_rfl) (by kernel_rfl) (e := 5) (by kernel_rfl) (by kernel_rfl) (b := 1) (by kernel_rfl) (by decide) (.inr ⟨by simp, g, rfl, hrow⟩) hw hys (by simp; omega)
end Go.AM.S
end
section
namespace Go.AM.S
open Go Go.AM Go.Proofs NumL
open _root_.Go.AM.G (R)
set_option maxRecDepth 100000
theorem tbl24 : tbl 24 = some ⟨rc24, [.cell 2 26, .cell 3 31]⟩ := by kernel_rfl
theorem of24_spec {l : List Nat} (hd : Dg 256 l) (hl : l.length ≤ 300) : Gives 24 [.str (sl l)] fun r => ∃ v w z, r = .tuple [v, w] ∧ IsI 1002 v z ∧ IsR 252 w z := by
 refine gives_of tbl24 fun h Q hQ => ?_
 unfold rc24
 refine ww_seq (ww_reg (fun n k => by simp -implicitDefEqProofs (disch := omega) only [go_sem, reduceIte, Nat.reduceEqDiff]; rfl) ?_)
 refine ww_seq (ww_reg (fun n k => by simp -implicitDefEqProofs (disch := omega) only [go_sem, reduceIte, Nat.reduceEqDiff]; rfl) ?_)
 refine ww_join (M := fun s => ∃ v4 out, gt s.tm 4 = v4 ∧ Ar s.loc 40 v4 .u8 out ∧ Dg 256 out ∧ out.length ≤ l.length ∧ gt s.tm 0 = .str (sl l) ∧ gt s.tm 2 = .ptr (.loc 2 1) 0 ∧ gt s.tm 3 = .ptr (.loc 3 1) 0 ∧ lg s.loc 2 = (1, .cells false [.nils, .bool false]) ∧ lg s.loc 3 = (1, .cells false [.bool false, .nils]) ∧ s.hp = ⟨h.rows, none, h.mods⟩) ?_ (fun s ⟨v4, out, a4, aar, adg, alen, a0, a2, a3, al2, al3, ah⟩ => ?_)
 ·refine ww_seq (ww_reg (fun n k => by simp -implicitDefEqProofs (disch := omega) only [go_sem, reduceIte, Nat.reduceEqDiff]; rfl) ?_)
  refine ww_for (fun m s => ∃ i v4 out, m + i = l.length ∧ gt s.tm 5 = .int .i64 (.ofNat i) ∧ gt s.tm 4 = v4 ∧ Ar s.loc 40 v4 .u8 out ∧ Dg 256 out ∧ out.length ≤ i ∧ gt s.tm 0 = .str (sl l) ∧ gt s.tm 2 = .ptr (.loc 2 1) 0 ∧ gt s.tm 3 = .ptr (.loc 3 1) 0 ∧ lg s.loc 2 = (1, .cells false [.nils, .bool false]) ∧ lg s.loc 3 = (1, .cells false [.bool false, .nils]) ∧ s.hp = ⟨h.rows, none, h.mods⟩) l.length ⟨0, .nils, [], rfl, (by simp -implicitDefEqProofs (disch := omega) only [go_sem, reduceIte, Nat.reduceEqDiff]), (by simp -implicitDefEqProofs (disch := omega) only [go_sem, reduceIte, Nat.reduceEqDiff]), .inl ⟨rfl, rfl⟩, Dg.nil _, Nat.le_refl _, (by simp -implicitDefEqProofs (disch := omega) only [go_sem, reduceIte, Nat.reduceEqDiff, gt_start, List.getD_cons_zero, List.getD_cons_succ]), (by simp -implicitDefEqProofs (disch := omega) only [go_sem, reduceIte, Nat.reduceEqDiff]), (by simp -implicitDefEqProofs (disch := omega) only [go_sem, reduceIte, Nat.reduceEqDiff]), (by simp -implicitDefEqProofs (disch := omega) only [go_sem, reduceIte, Nat.reduceEqDiff]), (by simp -implicitDefEqProofs (disch := omega) only [go_sem, reduceIte, Nat.reduceEqDiff]), rfl⟩ ?_
  intro m s ⟨i, v4, out, hm, a5, a4, aar, adg, alen, a0, a2, a3, al2, al3, ah⟩
  refine ww_seq (ww_seq (ww_reg (fun n k => by simp -implicitDefEqProofs (disch := omega) only [go_sem, reduceIte, Nat.reduceEqDiff, a0, a5]; rfl) ?_))
  refine ww_if (by simp only [gt_pt, reduceIte]; rfl) (fun hi => ww_skip ?_) (fun hi => ww_exit ?_)
  ·have hx : l.getD i 0 < 256 := hd.get (by decide) i
   refine ww_seq (ww_block ?_)
   refine ww_mono (N := fun s2 => ∃ v4 out, gt s2.tm 4 = v4 ∧ Ar s2.loc 40 v4 .u8 out ∧ Dg 256 out ∧ out.length ≤ i + 1 ∧ Kp [0, 2, 3, 5] s.tm s2.tm ∧ lg s2.loc 2 = (1, .cells false [.nils, .bool false]) ∧ lg s2.loc 3 = (1, .cells false [.bool false, .nils]) ∧ s2.hp = s.hp) (X := fun _ _ => False) (Q := fun _ => False) ?_ ?_ (fun _ _ h => h.elim) (fun _ h => h.elim)
   ·refine ww_join (M := fun s2 => ∃ B : Bool, gt s2.tm 34 = .bool B ∧ Kp [0, 2, 3, 4, 5] s.tm s2.tm ∧ s2.loc = s.loc ∧ s2.hp = s.hp) ?_ (fun s2 ⟨B0, g34, gk, gl, gh⟩ => ?_)
    ·by_cases c1 : 48 ≤ l.getD i 0
     ·by_cases c2 : l.getD i 0 ≤ 57
      ·by_cases c3 : 0 < out.length
       ·refine ww_reg (fun n k => by simp -implicitDefEqProofs (disch := omega) only [go_sem, reduceIte, Nat.reduceEqDiff, a0, a5, a4, idx_sl hd, aar.len, decide_eq_true c1, decide_eq_true c2, decide_eq_true c3]; rfl) ?_
        exact ⟨true, (by simp -implicitDefEqProofs (disch := omega) only [go_sem, reduceIte, Nat.reduceEqDiff]), (by (try dsimp only); repeat (first | with_reducible exact Kp_refl _ _ | with_reducible refine Kp_pt (by decide) ?_)), rfl, rfl⟩
       ·refine ww_reg (fun n k => by simp -implicitDefEqProofs (disch := omega) only [go_sem, reduceIte, Nat.reduceEqDiff, a0, a5, a4, idx_sl hd, aar.len, decide_eq_true c1, decide_eq_true c2, decide_eq_false c3]; rfl) ?_
        exact ⟨decide (48 < l.getD i 0), (by simp -implicitDefEqProofs (disch := omega) only [go_sem, reduceIte, Nat.reduceEqDiff]), (by (try dsimp only); repeat (first | with_reducible exact Kp_refl _ _ | with_reducible refine Kp_pt (by decide) ?_)), rfl, rfl⟩
      ·refine ww_reg (fun n k => by simp -implicitDefEqProofs (disch := omega) only [go_sem, reduceIte, Nat.reduceEqDiff, a0, a5, idx_sl hd, decide_eq_true c1, decide_eq_false c2]; rfl) ?_
       exact ⟨false, (by simp -implicitDefEqProofs (disch := omega) only [go_sem, reduceIte, Nat.reduceEqDiff]), (by (try dsimp only); repeat (first | with_reducible exact Kp_refl _ _ | with_reducible refine Kp_pt (by decide) ?_)), rfl, rfl⟩
     ·refine ww_reg (fun n k => by simp -implicitDefEqProofs (disch := omega) only [go_sem, reduceIte, Nat.reduceEqDiff, a0, a5, idx_sl hd, decide_eq_false c1]; rfl) ?_
      exact ⟨false, (by simp -implicitDefEqProofs (disch := omega) only [go_sem, reduceIte, Nat.reduceEqDiff]), (by (try dsimp only); repeat (first | with_reducible exact Kp_refl _ _ | with_reducible refine Kp_pt (by decide) ?_)), rfl, rfl⟩
    ·have g0 := (gk 0 (by decide)).trans a0; have g4 := (gk 4 (by decide)).trans a4; have g5 := (gk 5 (by decide)).trans a5
     cases B0 with
     | true =>
      refine ww_true g34 ?_
      obtain ⟨v6, l6, happ, har6, hfr6⟩ := a24_6_5 (l.getD i 0) aar (by omega)
      refine ww_reg (fun n k => by simp -implicitDefEqProofs (disch := omega) only [go_sem, reduceIte, Nat.reduceEqDiff, g0, g4, g5, gl, idx_sl hd, happ]; rfl) ?_
      exact ⟨v6, _, (by simp -implicitDefEqProofs (disch := omega) only [go_sem, reduceIte, Nat.reduceEqDiff]), har6, adg.snoc hx, by simp; omega, (fun j hj => by rw [gt_pt, if_neg (by intro e; subst e; simp at hj)]; exact gk j (by simp at hj ⊢; omega)), by rw [hfr6 2 (by decide) (by decide)]; exact al2, by rw [hfr6 3 (by decide) (by decide)]; exact al3, gh⟩
     | false =>
      refine ww_false g34 (ww_skip ?_)
      exact ⟨v4, out, g4, by rw [gl]; exact aar, adg, by omega, fun j hj => gk j (by simp at hj ⊢; omega), by rw [gl]; exact al2, by rw [gl]; exact al3, gh⟩
   ·intro s2 ⟨v6, out6, b4, bar, bdg, blen, bk, bl2, bl3, bh⟩
    have b5 := (bk 5 (by decide)).trans a5
    refine ww_reg (fun n k => by simp -implicitDefEqProofs (disch := omega) only [go_sem, reduceIte, Nat.reduceEqDiff, b5]; rfl) ?_
    exact ⟨m - 1, by omega, i + 1, v6, out6, by omega, (by simp -implicitDefEqProofs (disch := omega) only [go_sem, reduceIte, Nat.reduceEqDiff]), (by simp -implicitDefEqProofs (disch := omega) only [go_sem, reduceIte, Nat.reduceEqDiff, b4]), bar, bdg, blen, (by simp -implicitDefEqProofs (disch := omega) only [go_sem, reduceIte, Nat.reduceEqDiff, bk 0 (by decide), a0]), (by simp -implicitDefEqProofs (disch := omega) only [go_sem, reduceIte, Nat.reduceEqDiff, bk 2 (by decide), a2]), (by simp -implicitDefEqProofs (disch := omega) only [go_sem, reduceIte, Nat.reduceEqDiff, bk 3 (by decide), a3]), bl2, bl3, bh.trans ah⟩
  ·rw [if_pos rfl]
   exact ⟨v4, out, (by simp -implicitDefEqProofs (disch := omega) only [go_sem, reduceIte, Nat.reduceEqDiff, a4]), aar, adg, by omega, (by simp -implicitDefEqProofs (disch := omega) only [go_sem, reduceIte, Nat.reduceEqDiff, a0]), (by simp -implicitDefEqProofs (disch := omega) only [go_sem, reduceIte, Nat.reduceEqDiff, a2]), (by simp -implicitDefEqProofs (disch := omega) only [go_sem, reduceIte, Nat.reduceEqDiff, a3]), al2, al3, ah⟩
 ·refine ww_join (M := fun s2 => ∃ σ g li t, (σ = 44 ∨ σ = 40 ∨ σ = 50) ∧ gt s2.tm 4 = .arr (.loc σ g) 0 t.length li 1 false ∧ lg s2.loc σ = (g, .cells false (nl .u8 t)) ∧ Dg 256 t ∧ t.length ≤ 301 ∧ gt s2.tm 2 = .ptr (.loc 2 1) 0 ∧ gt s2.tm 3 = .ptr (.loc 3 1) 0 ∧ lg s2.loc 2 = (1, .cells false [.nils, .bool false]) ∧ lg s2.loc 3 = (1, .cells false [.bool false, .nils]) ∧ s2.hp = ⟨h.rows, none, h.mods⟩) ?_ (fun s2 ⟨σ, g, li, t, hσ, b4, hrow, tdg, tlen, b2, b3, bl2, bl3, bh⟩ => ?_)
  ·rcases Nat.eq_zero_or_pos out.length with e | e
   ·refine ww_seq (ww_reg (fun n k => by simp -implicitDefEqProofs (disch := omega) only [go_sem, reduceIte, Nat.reduceEqDiff, a4, aar.len, decide_eq_true e]; rfl) ?_)
    refine ww_true (by simp -implicitDefEqProofs (disch := omega) only [go_sem, reduceIte, Nat.reduceEqDiff]) ?_
    refine ww_reg (fun n k => by simp -implicitDefEqProofs (disch := omega) only [go_sem, reduceIte, Nat.reduceEqDiff]; rfl) ?_
    exact ⟨44, (lg s.loc 44).1 + 1, some 1, [48], .inl rfl, (by simp -implicitDefEqProofs (disch := omega) only [go_sem, reduceIte, Nat.reduceEqDiff, List.length_cons, List.length_nil]), (by simp -implicitDefEqProofs (disch := omega) only [go_sem, reduceIte, Nat.reduceEqDiff]), (by intro x hx; simp at hx; subst hx; decide), by simp, (by simp -implicitDefEqProofs (disch := omega) only [go_sem, reduceIte, Nat.reduceEqDiff, a2]), (by simp -implicitDefEqProofs (disch := omega) only [go_sem, reduceIte, Nat.reduceEqDiff, a3]), (by simp -implicitDefEqProofs (disch := omega) only [go_sem, reduceIte, Nat.reduceEqDiff, al2]), (by simp -implicitDefEqProofs (disch := omega) only [go_sem, reduceIte, Nat.reduceEqDiff, al3]), ah⟩
   ·refine ww_seq (ww_reg (fun n k => by simp -implicitDefEqProofs (disch := omega) only [go_sem, reduceIte, Nat.reduceEqDiff, a4, aar.len, decide_eq_false (show ¬ out.length = 0 by omega)]; rfl) ?_)
    refine ww_false (by simp -implicitDefEqProofs (disch := omega) only [go_sem, reduceIte, Nat.reduceEqDiff]) ?_
    have hl0 : 0 < l.length := by omega
    rcases aar with ⟨e0, _⟩ | ⟨hne, g, rfl, hrow⟩
    ·subst e0; simp at e
    refine ww_seq (ww_reg (fun n k => by simp -implicitDefEqProofs (disch := omega) only [go_sem, reduceIte, Nat.reduceEqDiff, a0, idx_sl hd]; rfl) ?_)
    refine ww_if (by simp only [gt_pt, reduceIte]; rfl) (fun h45 => ?_) (fun h45 => ww_skip ?_)
    ·obtain ⟨v6, l6, happ, har, hfr⟩ := a24_10 (w := .arr (.loc 40 g) 0 out.length none 1 false) (ys := out) (loc := lp s.loc 48 ((lg s.loc 48).1 + 1, .cells false (nl .u8 [45]))) (g := (lg s.loc 48).1 + 1) (by rw [lg_lp, if_pos rfl]) (fun tm hp => getRow_arr (by rw [lg_lp, if_neg (by decide)]; exact hrow)) hne (by omega)
     refine ww_reg (fun n k => by simp -implicitDefEqProofs (disch := omega) only [go_sem, reduceIte, Nat.reduceEqDiff, a4, happ]; rfl) ?_
     rcases har with ⟨q, _⟩ | ⟨_, g5, rfl, hr5⟩
     ·simp at q
     exact ⟨50, g5, none, 45 :: out, .inr (.inr rfl), (by simp -implicitDefEqProofs (disch := omega) only [go_sem, reduceIte, Nat.reduceEqDiff]), hr5, (by intro x hx; rcases List.mem_cons.1 hx with rfl | hx; decide; exact adg x hx), by simp; omega, (by simp -implicitDefEqProofs (disch := omega) only [go_sem, reduceIte, Nat.reduceEqDiff, a2]), (by simp -implicitDefEqProofs (disch := omega) only [go_sem, reduceIte, Nat.reduceEqDiff, a3]), by rw [hfr 2 (by decide) (by decide)]; exact (by simp -implicitDefEqProofs (disch := omega) only [go_sem, reduceIte, Nat.reduceEqDiff, al2]), by rw [hfr 3 (by decide) (by decide)]; exact (by simp -implicitDefEqProofs (disch := omega) only [go_sem, reduceIte, Nat.reduceEqDiff, al3]), ah⟩
    ·exact ⟨40, g, none, out, .inr (.inl rfl), (by simp -implicitDefEqProofs (disch := omega) only [go_sem, reduceIte, Nat.reduceEqDiff, a4]), hrow, adg, by omega, (by simp -implicitDefEqProofs (disch := omega) only [go_sem, reduceIte, Nat.reduceEqDiff, a2]), (by simp -implicitDefEqProofs (disch := omega) only [go_sem, reduceIte, Nat.reduceEqDiff, a3]), al2, al3, ah⟩
  ·obtain ⟨_, hp1, v, rfl, hvI⟩ := parse_spec tdg (by omega) ⟨h.rows, none, h.mods⟩
   obtain ⟨w, hp2, hwR⟩ := mustR_spec tdg (by omega) ⟨h.rows, none, h.mods⟩
   obtain ⟨sv, bv, rfl, pv, ev, qv⟩ := hvI.form
   obtain ⟨sw, bw, rfl, pw, ew, qw⟩ := hwR.form
   refine ww_seq (ww_call (hp1) (fun n hn k => by simp -implicitDefEqProofs (disch := omega) only [go_sem, reduceIte, Nat.reduceEqDiff, b4, bh, tx24 (l := s2.loc) (h := ⟨h.rows, none, h.mods⟩) (w := .arr (.loc σ g) 0 t.length li 1 false) (fun q e => by cases e) (fun tm => getRow_arr hrow) tdg, clc1 hn (Ex1.str _), ext_tuple, stc_two N26 ((lg s2.loc 6).1 + 1) sv (.bool bv) .nils (.bool false) _ pv.ok rfl]; rfl) ?_)
   have hσ6 : σ ≠ 6 := by omega
   have hF : ∀ x : R, finD (rgA Try.f24 12).toList [] [(0, 3)] [⟨[3], [3], false, false, false, false⟩, ⟨[2], [2], false, false, false, false⟩, ⟨[], [], true, false, false, false⟩, ⟨[σ], [], false, false, false, false⟩, ft0, ⟨[6], [], false, false, false, false⟩] x = x := by
    intro x
    rcases hσ with rfl | rfl | rfl
    ·exact finD_ok (by kernel_rfl)
    ·exact finD_ok (by kernel_rfl)
    ·exact finD_ok (by kernel_rfl)
   refine ww_seq (ww_call hp2 (fun n hn k => by
    simp -implicitDefEqProofs (disch := omega) only [go_sem, reduceIte, Nat.reduceEqDiff, b2, b3, b4, bl2, bl3, ldc_two L26, dt24 (lo := lp (lp s2.loc 6 ((lg s2.loc 6).1 + 1, .cells false [.nils, .bool false])) 6 ((lg s2.loc 6).1 + 1, .cells false [sv, .bool bv])) (h := ⟨h.rows, none, h.mods⟩) (s0 := σ) (g := g) (n := t.length) (li := li) (fun tm => getRow_arr (by rw [lg_lp, if_neg (Ne.symm hσ6), lg_lp, if_neg (Ne.symm hσ6)]; exact hrow)) tdg, cld1 hn (Ex1.str _) rfl, stc_two N26 1 sv (.bool bv) .nils (.bool false) _ pv.ok rfl, stc_two N31 1 (.bool bw) sw (.bool false) .nils _ rfl pw.ok]
    exact hF _) ?_)
   exact ww_ret (hQ _ _ (fin_cells2 (x := sv) (y := .bool bv) (x2 := .bool bw) (y2 := sw) (d := 2) (g := 1) (d2 := 3) (g2 := 1) (f := false) (f2 := false) (by kernel_rfl) (by kernel_rfl) (by simp -implicitDefEqProofs (disch := omega) only [go_sem, reduceIte, Nat.reduceEqDiff, b2]) (by simp -implicitDefEqProofs (disch := omega) only [go_sem, reduceIte, Nat.reduceEqDiff, b3]) (by simp -implicitDefEqProofs (disch := omega) only [go_sem, reduceIte, Nat.reduceEqDiff]) (by simp -implicitDefEqProofs (disch := omega) only [go_sem, reduceIte, Nat.reduceEqDiff]) pv (Pl.bool _) (Pl.bool _) pw (fun x hx => by cases hx)) ⟨_, _, zOf t, rfl, hvI, hwR⟩)
end Go.AM.S
end
section
namespace Go.AM.S
open Go Go.AM Go.Proofs NumL
open _root_.Go.AM.G (R)
set_option maxRecDepth 100000
theorem known_any (n : Nat) : fn Pg kn0 tbl (n + 40) 13 [] noHp = some (.val (.bool true) noHp) := by kernel_rfl
theorem known_runs : Runs Pg kn0 tbl 13 [] noHp (.val (.bool true) noHp) := ⟨40, fun n hn => by
 obtain ⟨m, rfl⟩ := Nat.exists_eq_add_of_le hn
 rw [Nat.add_comm]; exact known_any m⟩
end Go.AM.S
end
section
namespace Go.AM.S
open Go Go.AM Go.Proofs NumL
open _root_.Go.AM.G (R)
set_option maxRecDepth 100000
theorem iZ_eql (k : IntKind) (x : Int) : G.int2 .eql k x x = some (.bool true) := by
 show some (V.bool (F.eqI x x)) = _
 rw [F.eqI_eq]
 simp
end Go.AM.S
end
section
namespace Go.AM.S
open Go Go.AM Go.Proofs NumL
open _root_.Go.AM.G (R)
set_option maxRecDepth 100000
theorem tbl4 : tbl 4 = some ⟨rc4, [.tmp 4]⟩ := by kernel_rfl
theorem bs79two (s t : Str) : bs Pg 79 2 [(0, .str s), (1, .str t)] = some (.slice none true 1 [.str s, .str t]) := by
 unfold bs
 rw [E79]
 change G.onSome (F.layE Pg 9) (fun p => G.onSome (F.zeroV Pg 9) (fun z => bif (Nat.mul 2 p.fst).ble 16777216 && F.noRefsR z && z.live && (F.lenR z.cells).beq p.fst then G.onSome (filE p.fst [(0, V.str s), (1, V.str t)] (F.repR 2 z)) (fun l => some (V.slice none true p.fst l)) none else none) none) none = _
 rw [L9]
 change G.onSome (F.zeroV Pg 9) (fun z => bif (Nat.mul 2 1).ble 16777216 && F.noRefsR z && z.live && (F.lenR z.cells).beq 1 then G.onSome (filE 1 [(0, V.str s), (1, V.str t)] (F.repR 2 z)) (fun l => some (V.slice none true 1 l)) none else none) none = _
 rw [Z9]
 rfl
theorem un_cmp (x y : Int) : G.un .neg (.int .i64 (cmpZ y x)) = some (.int .i64 (cmpZ x y)) := by
 unfold cmpZ
 rcases Int.lt_trichotomy x y with h | h | h
 ·rw [if_neg (by omega), if_pos h, if_pos h]; rfl
 ·rw [if_neg (by omega), if_neg (by omega), if_neg (by omega), if_neg (by omega)]; rfl
 ·rw [if_pos h, if_neg (by omega), if_pos h]; rfl
theorem law4 {l m : List Nat} (hd : Dg 256 l) (hm : Dg 256 m) : Runs Pg kn0 tbl 4 [.str (sl l), .str (sl m)] noHp (.val (.bool true) noHp) := by
 suffices hw : WW Pg kn0 tbl rc4 ⟨startTm [.str (sl l), .str (sl m)], .lf, ⟨noHp.rows, none, noHp.mods⟩⟩ (fun _ => False) (fun _ _ => False) (fun s => ∃ o, fin Pg noHp [.tmp 4] s = some o ∧ o = .val (.bool true) noHp) by
  obtain ⟨o, h1, h2⟩ := runs_ex (kn := kn0) (h := noHp) rfl tbl4 (ww_mono hw (fun s hs => hs.elim) (fun _ _ h => h) (fun s h => h))
  subst h2
  exact h1
 have done : ∀ (st : St), gt st.tm 4 = .bool true → st.hp = noHp → ∃ o, fin Pg noHp [.tmp 4] st = some o ∧ o = .val (.bool true) noHp := by
  intro st h4 hh
  exact ⟨_, fin_tmpD h4 (Ex1.bool _) (by rw [hh]; exact fun x hx => by cases hx) rfl, rfl⟩
 have ehp : (⟨noHp.rows, none, noHp.mods⟩ : Hp) = noHp := rfl
 rw [ehp]
 unfold rc4
 refine ww_seq (ww_reg (fun n k => by simp -implicitDefEqProofs (disch := omega) only [go_sem, reduceIte, Nat.reduceEqDiff]; rfl) ?_)
 refine ww_seq (ww_seq (ww_call (known_runs) (fun n hn k => by simp -implicitDefEqProofs (disch := omega) only [go_sem, reduceIte, Nat.reduceEqDiff, clc0 hn]; rfl) ?_))
 refine ww_false (by simp -implicitDefEqProofs (disch := omega) only [go_sem, reduceIte, Nat.reduceEqDiff]) (ww_skip ?_)
 obtain ⟨_, hlt0, rfl⟩ := light_spec true [sl l, sl m] (by simp) noHp
 have eall : ([sl l, sl m].all fun s => decide (s.n ≤ 300)) = decide (l.length ≤ 300 ∧ m.length ≤ 300) := by
  show (decide (l.length ≤ 300) && (decide (m.length ≤ 300) && true)) = _
  rw [Bool.and_true, Bool.decide_and]
 rw [eall] at hlt0
 have hlt : Runs Pg kn0 tbl 14 [.slice none true 1 [.str (sl l), .str (sl m)]] noHp (.val (.bool (decide (l.length ≤ 300 ∧ m.length ≤ 300))) noHp) := hlt0
 refine ww_seq (ww_seq (ww_call (hlt) (fun n hn k => by simp -implicitDefEqProofs (disch := omega) only [go_sem, reduceIte, Nat.reduceEqDiff, gt_start, List.getD_cons_zero, List.getD_cons_succ, bs79two, clc1 hn (fun _ => rfl)]; rfl) ?_))
 by_cases hl : l.length ≤ 300 ∧ m.length ≤ 300
 ·rw [decide_eq_true hl]
  refine ww_false (by simp -implicitDefEqProofs (disch := omega) only [go_sem, reduceIte, Nat.reduceEqDiff]) (ww_skip ?_)
  obtain ⟨_, hp1, v, w, x, rfl, hvI, hwR⟩ := of24_spec hd hl.1 noHp
  obtain ⟨_, hp2, v2, w2, y, rfl, hvI2, hwR2⟩ := of24_spec hm hl.2 noHp
  obtain ⟨r1, A1, I1⟩ := add_spec hvI hvI2 (by omega) (by omega) noHp
  obtain ⟨q1, B1, J1⟩ := addR_spec hwR hwR2 (by omega) (by omega) noHp
  obtain ⟨_, S1, rfl⟩ := same_spec I1 J1 (by omega) (by omega) noHp
  obtain ⟨r2, A2, I2⟩ := sub_spec hvI hvI2 (by omega) (by omega) noHp
  obtain ⟨q2, B2, J2⟩ := subR_spec hwR hwR2 (by omega) (by omega) noHp
  obtain ⟨_, S2, rfl⟩ := same_spec I2 J2 (by omega) (by omega) noHp
  obtain ⟨r3, A3, I3⟩ := mul_spec hvI hvI2 (by omega) (by omega) noHp
  obtain ⟨q3, B3, J3⟩ := mulR_spec hwR hwR2 (by omega) (by omega) noHp
  obtain ⟨_, S3, rfl⟩ := same_spec I3 J3 (by omega) (by omega) noHp
  obtain ⟨r4, A4, I4⟩ := neg_spec hvI (by omega) noHp
  obtain ⟨q4, B4, J4⟩ := negR_spec hwR (by omega) noHp
  obtain ⟨_, S4, rfl⟩ := same_spec I4 J4 (by omega) (by omega) noHp
  obtain ⟨_, A5, rfl⟩ := cmp_spec hvI hvI2 (by omega) (by omega) noHp
  obtain ⟨_, B5, rfl⟩ := cmpR_spec hwR hwR2 (by omega) (by omega) noHp
  obtain ⟨_, A6, rfl⟩ := sign_spec hvI (by omega) noHp
  obtain ⟨_, B6, rfl⟩ := signR_spec hwR (by omega) noHp
  obtain ⟨_, A7, rfl⟩ := cmp_spec hvI2 hvI (by omega) (by omega) noHp
  rw [decide_eq_true rfl] at S1 S2 S3 S4
  have ev := hvI.ex; have ev2 := hvI2.ex; have ew := hwR.ex; have ew2 := hwR2.ex
  have qv := hvI.quiet; have qv2 := hvI2.quiet; have qw := hwR.quiet; have qw2 := hwR2.quiet
  have x1 := I1.ex; have x2 := I2.ex; have x3 := I3.ex; have x4 := I4.ex; have y1 := J1.ex; have y2 := J2.ex; have y3 := J3.ex; have y4 := J4.ex
  have u1 := I1.quiet; have u2 := I2.quiet; have u3 := I3.quiet; have u4 := I4.quiet; have z1 := J1.quiet; have z2 := J2.quiet; have z3 := J3.quiet; have z4 := J4.quiet
  obtain ⟨s1, b1, rfl, p1, _, _⟩ := hvI.form
  obtain ⟨s2, b2, rfl, p2, _, _⟩ := hvI2.form
  obtain ⟨s3, b3, rfl, p3, _, _⟩ := hwR.form
  obtain ⟨s4, b4, rfl, p4, _, _⟩ := hwR2.form
  refine ww_seq (ww_call (hp1) (fun n hn k => by simp -implicitDefEqProofs (disch := omega) only [go_sem, reduceIte, Nat.reduceEqDiff, gt_start, List.getD_cons_zero, List.getD_cons_succ, clc1 hn (Ex1.str _), ext_tuple, stc_two N26 1 s1 (.bool b1) .nils (.bool false) _ p1.ok rfl, stc_two N31 1 (.bool b3) s3 (.bool false) .nils _ rfl p3.ok]; rfl) ?_)
  refine ww_seq (ww_call (hp2) (fun n hn k => by simp -implicitDefEqProofs (disch := omega) only [go_sem, reduceIte, Nat.reduceEqDiff, gt_start, List.getD_cons_zero, List.getD_cons_succ, clc1 hn (Ex1.str _), ext_tuple, stc_two N26 1 s2 (.bool b2) .nils (.bool false) _ p2.ok rfl, stc_two N31 1 (.bool b4) s4 (.bool false) .nils _ rfl p4.ok]; rfl) ?_)
  refine ww_seq (ww_call (((((A1.and B1).and S1).and ((A2.and B2).and S2)).and (((A3.and B3).and S3).and ((A4.and B4).and S4))).and (((A5.and B5).and (A6.and B6)).and A7)) (fun n hn k => by simp -implicitDefEqProofs (disch := omega) only [go_sem, reduceIte, Nat.reduceEqDiff, ldc_two L26, ldc_two L31, un_cmp, iZ_eql, ↓cld2 hn.1.1.1.1.1 ev ev2 qv qv2, ↓cld2 hn.1.1.1.1.2 ew ew2 qw qw2, ↓cld2 hn.1.1.1.2 x1 y1 u1 z1, ↓cld2 hn.1.1.2.1.1 ev ev2 qv qv2, ↓cld2 hn.1.1.2.1.2 ew ew2 qw qw2, ↓cld2 hn.1.1.2.2 x2 y2 u2 z2, ↓cld2 hn.1.2.1.1.1 ev ev2 qv qv2, ↓cld2 hn.1.2.1.1.2 ew ew2 qw qw2, ↓cld2 hn.1.2.1.2 x3 y3 u3 z3, ↓cld1 hn.1.2.2.1.1 ev qv, ↓cld1 hn.1.2.2.1.2 ew qw, ↓cld2 hn.1.2.2.2 x4 y4 u4 z4, ↓cld2 hn.2.1.1.1 ev ev2 qv qv2, ↓cld2 hn.2.1.1.2 ew ew2 qw qw2, ↓cld1 hn.2.1.2.1 ev qv, ↓cld1 hn.2.1.2.2 ew qw, ↓cld2 hn.2.2 ev2 ev qv2 qv]; exact finD_ok (by kernel_rfl)) ?_)
  exact ww_ret (done _ (by simp -implicitDefEqProofs (disch := omega) only [go_sem, reduceIte, Nat.reduceEqDiff]) rfl)
 ·rw [decide_eq_false hl]
  refine ww_true (by simp -implicitDefEqProofs (disch := omega) only [go_sem, reduceIte, Nat.reduceEqDiff]) ?_
  refine ww_seq (ww_reg (fun n k => by simp -implicitDefEqProofs (disch := omega) only [go_sem, reduceIte, Nat.reduceEqDiff]; rfl) ?_)
  exact ww_ret (done _ (by simp -implicitDefEqProofs (disch := omega) only [go_sem, reduceIte, Nat.reduceEqDiff]) rfl)
end Go.AM.S
end
section
namespace Go.AM.S
open Go Go.AM Go.Proofs
set_option maxRecDepth 100000
theorem ok4 : FOk Pg Cg 4 ⟨rc4, Try.f4.results.toList⟩ := fok (kp := kp4) rfl Try.func4 (by kernel_rfl) (by kernel_rfl) (by kernel_rfl)
theorem ok16 : FOk Pg Cg 16 ⟨rc16, Try.f16.results.toList⟩ := fok (kp := kp16) rfl Try.func16 (by kernel_rfl) (by kernel_rfl) (by kernel_rfl)
theorem ok23 : FOk Pg Cg 23 ⟨rc23, Try.f23.results.toList⟩ := fok (kp := kp23) rfl Try.func23 (by kernel_rfl) (by kernel_rfl) (by kernel_rfl)
theorem ok27 : FOk Pg Cg 27 ⟨rc27, Try.f27.results.toList⟩ := fok (kp := kp27) rfl Try.func27 (by kernel_rfl) (by kernel_rfl) (by kernel_rfl)
theorem ok31 : FOk Pg Cg 31 ⟨rc31, Try.f31.results.toList⟩ := fok (kp := kp31) rfl Try.func31 (by kernel_rfl) (by kernel_rfl) (by kernel_rfl)
theorem ok35 : FOk Pg Cg 35 ⟨rc35, Try.f35.results.toList⟩ := fok (kp := kp35) rfl Try.func35 (by kernel_rfl) (by kernel_rfl) (by kernel_rfl)
theorem ok65 : FOk Pg Cg 65 ⟨rc65, Try.f65.results.toList⟩ := fok (kp := kp65) rfl Try.func65 (by kernel_rfl) (by kernel_rfl) (by kernel_rfl)
theorem ok69 : FOk Pg Cg 69 ⟨rc69, Try.f69.results.toList⟩ := fok (kp := kp69) rfl Try.func69 (by kernel_rfl) (by kernel_rfl) (by kernel_rfl)
theorem ok73 : FOk Pg Cg 73 ⟨rc73, Try.f73.results.toList⟩ := fok (kp := kp73) rfl Try.func73 (by kernel_rfl) (by kernel_rfl) (by kernel_rfl)
theorem ok77 : FOk Pg Cg 77 ⟨rc77, Try.f77.results.toList⟩ := fok (kp := kp77) rfl Try.func77 (by kernel_rfl) (by kernel_rfl) (by kernel_rfl)
theorem ok85 : FOk Pg Cg 85 ⟨rc85, Try.f85.results.toList⟩ := fok (kp := kp85) rfl Try.func85 (by kernel_rfl) (by kernel_rfl) (by kernel_rfl)
end Go.AM.S
end
section
namespace Go.AM.S
open Go Go.AM Go.Proofs
set_option maxRecDepth 100000
theorem ok13 : FOk Pg Cg 13 ⟨rc13, Try.f13.results.toList⟩ := fok (kp := kp13) rfl Try.func13 (by kernel_rfl) (by kernel_rfl) (by kernel_rfl)
theorem ok17 : FOk Pg Cg 17 ⟨rc17, Try.f17.results.toList⟩ := fok (kp := kp17) rfl Try.func17 (by kernel_rfl) (by kernel_rfl) (by kernel_rfl)
theorem ok24 : FOk Pg Cg 24 ⟨rc24, Try.f24.results.toList⟩ := fok (kp := kp24) rfl Try.func24 (by kernel_rfl) (by kernel_rfl) (by kernel_rfl)
theorem ok28 : FOk Pg Cg 28 ⟨rc28, Try.f28.results.toList⟩ := fok (kp := kp28) rfl Try.func28 (by kernel_rfl) (by kernel_rfl) (by kernel_rfl)
theorem ok32 : FOk Pg Cg 32 ⟨rc32, Try.f32.results.toList⟩ := fok (kp := kp32) rfl Try.func32 (by kernel_rfl) (by kernel_rfl) (by kernel_rfl)
theorem ok36 : FOk Pg Cg 36 ⟨rc36, Try.f36.results.toList⟩ := fok (kp := kp36) rfl Try.func36 (by kernel_rfl) (by kernel_rfl) (by kernel_rfl)
theorem ok66 : FOk Pg Cg 66 ⟨rc66, Try.f66.results.toList⟩ := fok (kp := kp66) rfl Try.func66 (by kernel_rfl) (by kernel_rfl) (by kernel_rfl)
theorem ok70 : FOk Pg Cg 70 ⟨rc70, Try.f70.results.toList⟩ := fok (kp := kp70) rfl Try.func70 (by kernel_rfl) (by kernel_rfl) (by kernel_rfl)
theorem ok74 : FOk Pg Cg 74 ⟨rc74, Try.f74.results.toList⟩ := fok (kp := kp74) rfl Try.func74 (by kernel_rfl) (by kernel_rfl) (by kernel_rfl)
theorem ok78 : FOk Pg Cg 78 ⟨rc78, Try.f78.results.toList⟩ := fok (kp := kp78) rfl Try.func78 (by kernel_rfl) (by kernel_rfl) (by kernel_rfl)
theorem ok86 : FOk Pg Cg 86 ⟨rc86, Try.f86.results.toList⟩ := fok (kp := kp86) rfl Try.func86 (by kernel_rfl) (by kernel_rfl) (by kernel_rfl)
end Go.AM.S
end
section
namespace Go.AM.S
open Go Go.AM Go.Proofs
set_option maxRecDepth 100000
theorem ok14 : FOk Pg Cg 14 ⟨rc14, Try.f14.results.toList⟩ := fok (kp := kp14) rfl Try.func14 (by kernel_rfl) (by kernel_rfl) (by kernel_rfl)
theorem ok18 : FOk Pg Cg 18 ⟨rc18, Try.f18.results.toList⟩ := fok (kp := kp18) rfl Try.func18 (by kernel_rfl) (by kernel_rfl) (by kernel_rfl)
theorem ok25 : FOk Pg Cg 25 ⟨rc25, Try.f25.results.toList⟩ := fok (kp := kp25) rfl Try.func25 (by kernel_rfl) (by kernel_rfl) (by kernel_rfl)
theorem ok29 : FOk Pg Cg 29 ⟨rc29, Try.f29.results.toList⟩ := fok (kp := kp29) rfl Try.func29 (by kernel_rfl) (by kernel_rfl) (by kernel_rfl)
theorem ok33 : FOk Pg Cg 33 ⟨rc33, Try.f33.results.toList⟩ := fok (kp := kp33) rfl Try.func33 (by kernel_rfl) (by kernel_rfl) (by kernel_rfl)
theorem ok37 : FOk Pg Cg 37 ⟨rc37, Try.f37.results.toList⟩ := fok (kp := kp37) rfl Try.func37 (by kernel_rfl) (by kernel_rfl) (by kernel_rfl)
theorem ok67 : FOk Pg Cg 67 ⟨rc67, Try.f67.results.toList⟩ := fok (kp := kp67) rfl Try.func67 (by kernel_rfl) (by kernel_rfl) (by kernel_rfl)
theorem ok71 : FOk Pg Cg 71 ⟨rc71, Try.f71.results.toList⟩ := fok (kp := kp71) rfl Try.func71 (by kernel_rfl) (by kernel_rfl) (by kernel_rfl)
theorem ok75 : FOk Pg Cg 75 ⟨rc75, Try.f75.results.toList⟩ := fok (kp := kp75) rfl Try.func75 (by kernel_rfl) (by kernel_rfl) (by kernel_rfl)
theorem ok83 : FOk Pg Cg 83 ⟨rc83, Try.f83.results.toList⟩ := fok (kp := kp83) rfl Try.func83 (by kernel_rfl) (by kernel_rfl) (by kernel_rfl)
theorem ok87 : FOk Pg Cg 87 ⟨rc87, Try.f87.results.toList⟩ := fok (kp := kp87) rfl Try.func87 (by kernel_rfl) (by kernel_rfl) (by kernel_rfl)
end Go.AM.S
end
section
namespace Go.AM.S
open Go Go.AM Go.Proofs
set_option maxRecDepth 100000
theorem ok15 : FOk Pg Cg 15 ⟨rc15, Try.f15.results.toList⟩ := fok (kp := kp15) rfl Try.func15 (by kernel_rfl) (by kernel_rfl) (by kernel_rfl)
theorem ok21 : FOk Pg Cg 21 ⟨rc21, Try.f21.results.toList⟩ := fok (kp := kp21) rfl Try.func21 (by kernel_rfl) (by kernel_rfl) (by kernel_rfl)
theorem ok26 : FOk Pg Cg 26 ⟨rc26, Try.f26.results.toList⟩ := fok (kp := kp26) rfl Try.func26 (by kernel_rfl) (by kernel_rfl) (by kernel_rfl)
theorem ok30 : FOk Pg Cg 30 ⟨rc30, Try.f30.results.toList⟩ := fok (kp := kp30) rfl Try.func30 (by kernel_rfl) (by kernel_rfl) (by kernel_rfl)
theorem ok34 : FOk Pg Cg 34 ⟨rc34, Try.f34.results.toList⟩ := fok (kp := kp34) rfl Try.func34 (by kernel_rfl) (by kernel_rfl) (by kernel_rfl)
theorem ok64 : FOk Pg Cg 64 ⟨rc64, Try.f64.results.toList⟩ := fok (kp := kp64) rfl Try.func64 (by kernel_rfl) (by kernel_rfl) (by kernel_rfl)
theorem ok68 : FOk Pg Cg 68 ⟨rc68, Try.f68.results.toList⟩ := fok (kp := kp68) rfl Try.func68 (by kernel_rfl) (by kernel_rfl) (by kernel_rfl)
theorem ok72 : FOk Pg Cg 72 ⟨rc72, Try.f72.results.toList⟩ := fok (kp := kp72) rfl Try.func72 (by kernel_rfl) (by kernel_rfl) (by kernel_rfl)
theorem ok76 : FOk Pg Cg 76 ⟨rc76, Try.f76.results.toList⟩ := fok (kp := kp76) rfl Try.func76 (by kernel_rfl) (by kernel_rfl) (by kernel_rfl)
theorem ok84 : FOk Pg Cg 84 ⟨rc84, Try.f84.results.toList⟩ := fok (kp := kp84) rfl Try.func84 (by kernel_rfl) (by kernel_rfl) (by kernel_rfl)
theorem ok89 : FOk Pg Cg 89 ⟨rc89, Try.f89.results.toList⟩ := fok (kp := kp89) rfl Try.func89 (by kernel_rfl) (by kernel_rfl) (by kernel_rfl)
end Go.AM.S
end
section
namespace Go.AM.S
open Go Go.AM Go.Proofs
set_option maxRecDepth 100000
theorem tbl_ok : ∀ p ∈ tblL, FOk Pg Cg p.1 p.2 := by
 unfold tblL
 simp only [List.forall_mem_cons, List.not_mem_nil, false_imp_iff, implies_true, and_true]
 exact ⟨ok4, ok13, ok14, ok15, ok16, ok17, ok18, ok21, ok23, ok24, ok25, ok26, ok27, ok28, ok29, ok30, ok31, ok32, ok33, ok34, ok35, ok36, ok37, ok64, ok65, ok66, ok67, ok68, ok69, ok70, ok71, ok72, ok73, ok74, ok75, ok76, ok77, ok78, ok83, ok84, ok85, ok86, ok87, ok89⟩
theorem use_ok : tblL.map (·.1) = cUse := rfl
theorem seat_eq (kn : Kn) (n : Nat) : S.fn Pg kn tbl n = fnV Pg Cg kn n := by
 refine fn_eq (fun f fc h => ⟨?_, ?_⟩) (fun f h => ?_) n
 ·have := lkL_mem h
  show cUse.contains f = true
  rw [← use_ok, List.contains_iff_mem]
  exact List.mem_map.2 ⟨(f, fc), this, rfl⟩
 ·exact tbl_ok _ (lkL_mem h)
 ·have := lkL_none h
  show cUse.contains f = false
  rw [← use_ok]
  cases hb : (tblL.map (·.1)).contains f with
  | false => rfl
  | true => exact absurd (List.contains_iff_mem.1 hb) this
end Go.AM.S
end
section
namespace Go.AM.S
open Go Go.AM Go.Proofs
set_option maxRecDepth 100000
theorem prog_ok : progOk Pg Cg = true := by kernel_rfl
end Go.AM.S
end
