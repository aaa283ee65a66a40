/- Part W of the proof: what it says stands at its theorems. -/
import Derived.Test.YtjldfkldmfmkiaaDoorTb
import Derived.Test.YtjldfkldmfmkiaaDoorAw
import Derived.KernelRfl
import Derived.Test.YtjldfkldmfmkiaaDoorSe
set_option linter.unusedVariables false
set_option linter.unusedSimpArgs false
set_option linter.unusedSectionVars false
section
/- What the walks by hand rewrite with: slots, types, operations. Printed by genTV.py. -/
namespace Go.AM.S
open Go Go.AM Go.Proofs
open _root_.Go.AM.G (R)
set_option maxRecDepth 100000
set_option linter.defProp false
noncomputable section
def go1 (F : Func) (f id i x : Nat) (v : V) (c : CallF) (t : Tm) (l : Lo) (h : Hp) (j : V → Lo → Hp → R) : R := gn F f id i c (pt .lf x v) t l h j
def go2 (F : Func) (f id i x y : Nat) (v w : V) (c : CallF) (t : Tm) (l : Lo) (h : Hp) (j : V → Lo → Hp → R) : R := gn F f id i c (pt (pt .lf x v) y w) t l h j
theorem gn_go1 {F : Func} {f id i x : Nat} {c : CallF} {t' t : Tm} {l : Lo} {h : Hp} {j : V → Lo → Hp → R} (ht : tmpsOf (opA F id i) = [x]) : gn F f id i c t' t l h j = go1 F f id i x (gt t' x) c t l h j :=
  gen_slots (fun y hy => by rw [ht] at hy; rw [List.mem_singleton.1 hy, gt_pt, if_pos rfl])
theorem gn_go1' {F : Func} {f id i x : Nat} {c : CallF} {t' t : Tm} {l : Lo} {h : Hp} {j : V → Lo → Hp → R} (ht : tmpsOf (opA F id i) = [x, x]) : gn F f id i c t' t l h j = go1 F f id i x (gt t' x) c t l h j :=
  gen_slots (fun y hy => by
    rw [ht] at hy
    have : y = x := by simpa using hy
    rw [this, gt_pt, if_pos rfl])
theorem gn_go2 {F : Func} {f id i x y : Nat} {c : CallF} {t' t : Tm} {l : Lo} {h : Hp} {j : V → Lo → Hp → R} (ht : tmpsOf (opA F id i) = [x, y]) (hxy : x ≠ y) : gn F f id i c t' t l h j = go2 F f id i x y (gt t' x) (gt t' y) c t l h j :=
  gen_slots (fun q hq => by
    rw [ht] at hq
    rcases List.mem_cons.1 hq with rfl | hq
    · rw [gt_pt, if_neg (Ne.symm hxy), gt_pt, if_pos rfl]
    · rw [List.mem_singleton.1 hq, gt_pt, if_pos rfl])
theorem sto_loc (t s g off : Nat) (x : V) (loc : Lo) (hp : Hp) (j : V → Lo → Hp → R) (slow : R) : sto t (.ptr (.loc s g) off) x loc hp j slow = stL Pg t s g off x loc (fun loc => j (.tuple []) loc hp) := rfl
theorem sto_glob (t r off : Nat) (x : V) (loc : Lo) (hp : Hp) (j : V → Lo → Hp → R) (slow : R) : sto t (.ptr (.glob r) off) x loc hp j slow = slow := rfl
theorem jE_eq (c : List (Nat × V)) (f : List (Nat × V) → R) : jE c f = f c := rfl
theorem jF_eq (c : List Foot) (f : List Foot → R) : jF c f = f c := rfl
theorem I_eq (n : Nat) : I n = .int .i64 (.ofNat n) := rfl
end
attribute [go_sem] sto_loc sto_glob I_eq jE_eq jF_eq
theorem g0_ : ∀ t : Tm, g0 t = gt t 0 := fun _ => rfl
theorem g1_ : ∀ t : Tm, g1 t = gt t 1 := fun _ => rfl
theorem g3_ : ∀ t : Tm, g3 t = gt t 3 := fun _ => rfl
theorem g4_ : ∀ t : Tm, g4 t = gt t 4 := fun _ => rfl
theorem g5_ : ∀ t : Tm, g5 t = gt t 5 := fun _ => rfl
theorem g6_ : ∀ t : Tm, g6 t = gt t 6 := fun _ => rfl
theorem g7_ : ∀ t : Tm, g7 t = gt t 7 := fun _ => rfl
theorem g8_ : ∀ t : Tm, g8 t = gt t 8 := fun _ => rfl
theorem g9_ : ∀ t : Tm, g9 t = gt t 9 := fun _ => rfl
theorem g10_ : ∀ t : Tm, g10 t = gt t 10 := fun _ => rfl
theorem p1_ : ∀ (t : Tm) (v : V), p1 t v = pt t 1 v := fun _ _ => rfl
theorem p2_ : ∀ (t : Tm) (v : V), p2 t v = pt t 2 v := fun _ _ => rfl
theorem p3_ : ∀ (t : Tm) (v : V), p3 t v = pt t 3 v := fun _ _ => rfl
theorem p4_ : ∀ (t : Tm) (v : V), p4 t v = pt t 4 v := fun _ _ => rfl
theorem p5_ : ∀ (t : Tm) (v : V), p5 t v = pt t 5 v := fun _ _ => rfl
theorem p6_ : ∀ (t : Tm) (v : V), p6 t v = pt t 6 v := fun _ _ => rfl
theorem p7_ : ∀ (t : Tm) (v : V), p7 t v = pt t 7 v := fun _ _ => rfl
theorem p8_ : ∀ (t : Tm) (v : V), p8 t v = pt t 8 v := fun _ _ => rfl
theorem p9_ : ∀ (t : Tm) (v : V), p9 t v = pt t 9 v := fun _ _ => rfl
theorem p10_ : ∀ (t : Tm) (v : V), p10 t v = pt t 10 v := fun _ _ => rfl
theorem p12_ : ∀ (t : Tm) (v : V), p12 t v = pt t 12 v := fun _ _ => rfl
theorem p15_ : ∀ (t : Tm) (v : V), p15 t v = pt t 15 v := fun _ _ => rfl
theorem p17_ : ∀ (t : Tm) (v : V), p17 t v = pt t 17 v := fun _ _ => rfl
theorem p20_ : ∀ (t : Tm) (v : V), p20 t v = pt t 20 v := fun _ _ => rfl
theorem p26_ : ∀ (t : Tm) (v : V), p26 t v = pt t 26 v := fun _ _ => rfl
theorem p43_ : ∀ (t : Tm) (v : V), p43 t v = pt t 43 v := fun _ _ => rfl
theorem U2 : Pg.underlying 2 = some (.int .i64) := by kernel_rfl
theorem L2 : F.layE Pg 2 = some (1, false) := by kernel_rfl
theorem Z2 : F.zeroV Pg 2 = some (.int .i64 (.ofNat 0)) := by kernel_rfl
theorem S2 : F.szOf Pg 2 = some 1 := by kernel_rfl
theorem N2 : F.lenIs Pg 2 1 = true := by kernel_rfl
theorem B2 : F.byteE Pg 2 = some 8 := by kernel_rfl
theorem U3 : Pg.underlying 3 = some (.int .i64) := by kernel_rfl
theorem L3 : F.layE Pg 3 = some (1, false) := by kernel_rfl
theorem Z3 : F.zeroV Pg 3 = some (.int .i64 (.ofNat 0)) := by kernel_rfl
theorem S3 : F.szOf Pg 3 = some 1 := by kernel_rfl
theorem N3 : F.lenIs Pg 3 1 = true := by kernel_rfl
theorem B3 : F.byteE Pg 3 = some 8 := by kernel_rfl
theorem U5 : Pg.underlying 5 = some (.int .u8) := by kernel_rfl
theorem L5 : F.layE Pg 5 = some (1, false) := by kernel_rfl
theorem Z5 : F.zeroV Pg 5 = some (.int .u8 (.ofNat 0)) := by kernel_rfl
theorem S5 : F.szOf Pg 5 = some 1 := by kernel_rfl
theorem N5 : F.lenIs Pg 5 1 = true := by kernel_rfl
theorem B5 : F.byteE Pg 5 = some 1 := by kernel_rfl
theorem U9 : Pg.underlying 9 = some .string := by kernel_rfl
theorem L9 : F.layE Pg 9 = some (1, false) := by kernel_rfl
theorem Z9 : F.zeroV Pg 9 = some (.str ⟨0, 0⟩) := by kernel_rfl
theorem S9 : F.szOf Pg 9 = some 1 := by kernel_rfl
theorem N9 : F.lenIs Pg 9 1 = true := by kernel_rfl
theorem B9 : F.byteE Pg 9 = some 16 := by kernel_rfl
theorem U21 : Pg.underlying 21 = some (.int .i32) := by kernel_rfl
theorem L21 : F.layE Pg 21 = some (1, false) := by kernel_rfl
theorem Z21 : F.zeroV Pg 21 = some (.int .i32 (.ofNat 0)) := by kernel_rfl
theorem S21 : F.szOf Pg 21 = some 1 := by kernel_rfl
theorem N21 : F.lenIs Pg 21 1 = true := by kernel_rfl
theorem B21 : F.byteE Pg 21 = some 4 := by kernel_rfl
theorem U24 : Pg.underlying 24 = some (.slice 30) := by kernel_rfl
theorem E24 : F.elemT Pg 24 = some 30 := by kernel_rfl
theorem L24 : F.layE Pg 24 = some (1, false) := by kernel_rfl
theorem Z24 : F.zeroV Pg 24 = some .nils := by kernel_rfl
theorem S24 : F.szOf Pg 24 = some 1 := by kernel_rfl
theorem N24 : F.lenIs Pg 24 1 = true := by kernel_rfl
theorem B24 : F.byteE Pg 24 = some 24 := by kernel_rfl
theorem L29 : F.layE Pg 29 = some (3, true) := by kernel_rfl
theorem Z29 : F.zeroV Pg 29 = some (.agg [(.int .i64 (.ofNat 0)), (.str ⟨0, 0⟩), (.int .i64 (.ofNat 0))]) := by kernel_rfl
theorem S29 : F.szOf Pg 29 = some 3 := by kernel_rfl
theorem N29 : F.lenIs Pg 29 3 = true := by kernel_rfl
theorem B29 : F.byteE Pg 29 = some 32 := by kernel_rfl
theorem L30 : F.layE Pg 30 = some (3, true) := by kernel_rfl
theorem Z30 : F.zeroV Pg 30 = some (.agg [(.int .i64 (.ofNat 0)), (.str ⟨0, 0⟩), (.int .i64 (.ofNat 0))]) := by kernel_rfl
theorem S30 : F.szOf Pg 30 = some 3 := by kernel_rfl
theorem N30 : F.lenIs Pg 30 3 = true := by kernel_rfl
theorem B30 : F.byteE Pg 30 = some 32 := by kernel_rfl
theorem U31 : Pg.underlying 31 = some (.slice 9) := by kernel_rfl
theorem E31 : F.elemT Pg 31 = some 9 := by kernel_rfl
theorem L31 : F.layE Pg 31 = some (1, false) := by kernel_rfl
theorem Z31 : F.zeroV Pg 31 = some .nils := by kernel_rfl
theorem S31 : F.szOf Pg 31 = some 1 := by kernel_rfl
theorem N31 : F.lenIs Pg 31 1 = true := by kernel_rfl
theorem B31 : F.byteE Pg 31 = some 24 := by kernel_rfl
theorem L51 : F.layE Pg 51 = some (1, false) := by kernel_rfl
theorem Z51 : F.zeroV Pg 51 = some .nilp := by kernel_rfl
theorem S51 : F.szOf Pg 51 = some 1 := by kernel_rfl
theorem N51 : F.lenIs Pg 51 1 = true := by kernel_rfl
theorem B51 : F.byteE Pg 51 = some 8 := by kernel_rfl
theorem L80 : F.layE Pg 80 = some (1, false) := by kernel_rfl
theorem Z80 : F.zeroV Pg 80 = some .nilf := by kernel_rfl
theorem S80 : F.szOf Pg 80 = some 1 := by kernel_rfl
theorem N80 : F.lenIs Pg 80 1 = true := by kernel_rfl
theorem B80 : F.byteE Pg 80 = some 8 := by kernel_rfl
theorem L86 : F.layE Pg 86 = some (1, false) := by kernel_rfl
theorem Z86 : F.zeroV Pg 86 = some .nili := by kernel_rfl
theorem S86 : F.szOf Pg 86 = some 1 := by kernel_rfl
theorem N86 : F.lenIs Pg 86 1 = true := by kernel_rfl
theorem B86 : F.byteE Pg 86 = some 16 := by kernel_rfl
theorem FA30_0 : ∀ (r : Ref) (o : Nat), fa Pg 30 (.ptr r o) 0 = some (.ptr r (o + 0)) := fun r o => by kernel_rfl
theorem FA30_1 : ∀ (r : Ref) (o : Nat), fa Pg 30 (.ptr r o) 1 = some (.ptr r (o + 1)) := fun r o => by kernel_rfl
theorem ia31 {k : IntKind} {v : V} {d : List Nat} (h : Sl k v d) (k' : IntKind) (i : Nat) (hi : i < d.length) : ia Pg 31 v (.int k' (.ofNat i)) = some (.iptr [.int k (.ofNat (d.getD i 0))]) := ia_sl E31 L9 h k' i hi
theorem sl31 {k : IntKind} {v : V} {d : List Nat} (h : Sl k v d) (k' : IntKind) (i : Nat) (hi : i < d.length) : slc Pg 31 v none (some (.int k' (.ofNat i))) none = some (.slice none false 1 (nl k (d.take i))) := slc_sl E31 L9 h k' i hi
def r_ld_iptr_L2 := ld_iptr L2
def r_ldc_fst_L2 := ldc_fst L2
def r_ldc_snd_L2 := ldc_snd L2
def r_ldc_nl_L2 := ldc_nl L2
def r_ldg_cells_L2 := ldg_cells L2
def r_stc_nl_N2 := stc_nl N2
def r_ld_iptr_L3 := ld_iptr L3
def r_ldc_fst_L3 := ldc_fst L3
def r_ldc_snd_L3 := ldc_snd L3
def r_ldc_nl_L3 := ldc_nl L3
def r_ldg_cells_L3 := ldg_cells L3
def r_stc_nl_N3 := stc_nl N3
def r_ld_iptr_L5 := ld_iptr L5
def r_ldc_fst_L5 := ldc_fst L5
def r_ldc_snd_L5 := ldc_snd L5
def r_ldc_nl_L5 := ldc_nl L5
def r_ldg_cells_L5 := ldg_cells L5
def r_stc_nl_N5 := stc_nl N5
def r_ld_iptr_L9 := ld_iptr L9
def r_ldc_fst_L9 := ldc_fst L9
def r_ldc_snd_L9 := ldc_snd L9
def r_ldc_nl_L9 := ldc_nl L9
def r_ldg_cells_L9 := ldg_cells L9
def r_stc_nl_N9 := stc_nl N9
def r_ld_iptr_L21 := ld_iptr L21
def r_ldc_fst_L21 := ldc_fst L21
def r_ldc_snd_L21 := ldc_snd L21
def r_ldc_nl_L21 := ldc_nl L21
def r_ldg_cells_L21 := ldg_cells L21
def r_stc_nl_N21 := stc_nl N21
def r_ld_iptr_L24 := ld_iptr L24
def r_ldc_fst_L24 := ldc_fst L24
def r_ldc_snd_L24 := ldc_snd L24
def r_ldc_nl_L24 := ldc_nl L24
def r_ldg_cells_L24 := ldg_cells L24
def r_stc_nl_N24 := stc_nl N24
def r_ia_slice_E31_L9 := ia_slice E31 L9
def r_ia_arr_E31_L9 := ia_arr E31 L9
def r_slc_init_E31_L9 := slc_init E31 L9
def r_slc_arr_E31_L9 := slc_arr E31 L9
def r_ld_iptr_L31 := ld_iptr L31
def r_ldc_fst_L31 := ldc_fst L31
def r_ldc_snd_L31 := ldc_snd L31
def r_ldc_nl_L31 := ldc_nl L31
def r_ldg_cells_L31 := ldg_cells L31
def r_stc_nl_N31 := stc_nl N31
def r_ld_iptr_L51 := ld_iptr L51
def r_ldc_fst_L51 := ldc_fst L51
def r_ldc_snd_L51 := ldc_snd L51
def r_ldc_nl_L51 := ldc_nl L51
def r_ldg_cells_L51 := ldg_cells L51
def r_stc_nl_N51 := stc_nl N51
def r_ld_iptr_L80 := ld_iptr L80
def r_ldc_fst_L80 := ldc_fst L80
def r_ldc_snd_L80 := ldc_snd L80
def r_ldc_nl_L80 := ldc_nl L80
def r_ldg_cells_L80 := ldg_cells L80
def r_stc_nl_N80 := stc_nl N80
def r_ld_iptr_L86 := ld_iptr L86
def r_ldc_fst_L86 := ldc_fst L86
def r_ldc_snd_L86 := ldc_snd L86
def r_ldc_nl_L86 := ldc_nl L86
def r_ldg_cells_L86 := ldg_cells L86
def r_stc_nl_N86 := stc_nl N86
attribute [go_sem] g0_ g1_ g3_ g4_ g5_ g6_ g7_ g8_ g9_ g10_ p1_ p2_ p3_ p4_ p5_ p6_ p7_ p8_ p9_ p10_ p12_ p15_ p17_ p20_ p26_ p43_ U2 U3 U5 U9 U21 U24 U31 r_ld_iptr_L2 r_ldc_fst_L2 r_ldc_snd_L2 r_ldc_nl_L2 r_ldg_cells_L2 r_stc_nl_N2 r_ld_iptr_L3 r_ldc_fst_L3 r_ldc_snd_L3 r_ldc_nl_L3 r_ldg_cells_L3 r_stc_nl_N3 r_ld_iptr_L5 r_ldc_fst_L5 r_ldc_snd_L5 r_ldc_nl_L5 r_ldg_cells_L5 r_stc_nl_N5 r_ld_iptr_L9 r_ldc_fst_L9 r_ldc_snd_L9 r_ldc_nl_L9 r_ldg_cells_L9 r_stc_nl_N9 r_ld_iptr_L21 r_ldc_fst_L21 r_ldc_snd_L21 r_ldc_nl_L21 r_ldg_cells_L21 r_stc_nl_N21 r_ld_iptr_L24 r_ldc_fst_L24 r_ldc_snd_L24 r_ldc_nl_L24 r_ldg_cells_L24 r_stc_nl_N24 r_ia_slice_E31_L9 r_ia_arr_E31_L9 r_slc_init_E31_L9 r_slc_arr_E31_L9 r_ld_iptr_L31 r_ldc_fst_L31 r_ldc_snd_L31 r_ldc_nl_L31 r_ldg_cells_L31 r_stc_nl_N31 r_ld_iptr_L51 r_ldc_fst_L51 r_ldc_snd_L51 r_ldc_nl_L51 r_ldg_cells_L51 r_stc_nl_N51 r_ld_iptr_L80 r_ldc_fst_L80 r_ldc_snd_L80 r_ldc_nl_L80 r_ldg_cells_L80 r_stc_nl_N80 r_ld_iptr_L86 r_ldc_fst_L86 r_ldc_snd_L86 r_ldc_nl_L86 r_ldg_cells_L86 r_stc_nl_N86 FA30_0 FA30_1
end Go.AM.S
end

section
/- Rows of digits, and the numbers that they make: plain lists, no program. -/
namespace NumL
/-- the number that digits make by a base, the lowest first -/
def vl (B : Nat) : List Nat → Nat
  | [] => 0
  | x :: l => x + B * vl B l
def Dg (B : Nat) (l : List Nat) : Prop := ∀ x ∈ l, x < B
theorem vl_append (B : Nat) (a b : List Nat) : vl B (a ++ b) = vl B a + B ^ a.length * vl B b := by
  induction a with
  | nil => simp [vl]
  | cons x a ih =>
    simp only [List.cons_append, vl, ih, List.length_cons, Nat.pow_succ, Nat.mul_add]
    have : B * (B ^ a.length * vl B b) = B ^ a.length * B * vl B b := by rw [← Nat.mul_assoc, Nat.mul_comm B]
    omega
theorem vl_one (B x : Nat) : vl B [x] = x := by simp [vl]
theorem vl_lt {B : Nat} (hB : 0 < B) {l : List Nat} (h : Dg B l) : vl B l < B ^ l.length := by
  induction l with
  | nil => simp [vl]
  | cons x l ih =>
    have h1 : x < B := h x (by simp)
    have h2 := ih (fun y hy => h y (by simp [hy]))
    simp only [vl, List.length_cons, Nat.pow_succ]
    have h3 : B * vl B l + B ≤ B * B ^ l.length := by
      have := Nat.mul_le_mul_left B (Nat.succ_le_of_lt h2)
      rw [Nat.mul_succ] at this; exact this
    rw [Nat.mul_comm (B ^ l.length)]
    omega
theorem vl_take_succ (B : Nat) (l : List Nat) (i : Nat) (h : i < l.length) : vl B (l.take (i + 1)) = vl B (l.take i) + B ^ i * l.getD i 0 := by
  have e : l.take (i + 1) = l.take i ++ [l.getD i 0] := by
    rw [List.take_add_one, List.getD_eq_getElem?_getD, List.getElem?_eq_getElem h]; simp
  rw [e, vl_append, vl_one, List.length_take, Nat.min_eq_left (Nat.le_of_lt h)]
theorem Dg.nil (B : Nat) : Dg B [] := fun x hx => by simp at hx
theorem Dg.snoc {B : Nat} {l : List Nat} (h : Dg B l) {x : Nat} (hx : x < B) : Dg B (l ++ [x]) := by
  intro y hy
  rcases List.mem_append.1 hy with h1 | h1
  · exact h y h1
  · rw [List.mem_singleton.1 h1]; exact hx
theorem Dg.get {B : Nat} (hB : 0 < B) {l : List Nat} (h : Dg B l) (i : Nat) : l.getD i 0 < B := by
  rw [List.getD_eq_getElem?_getD]
  cases he : l[i]? with
  | none => exact hB
  | some x => exact h x (List.mem_of_getElem? he)
theorem Dg.take {B : Nat} {l : List Nat} (h : Dg B l) (n : Nat) : Dg B (l.take n) := fun x hx => h x (List.mem_of_mem_take hx)
theorem Dg.drop {B : Nat} {l : List Nat} (h : Dg B l) (n : Nat) : Dg B (l.drop n) := fun x hx => h x (List.mem_of_mem_drop hx)
theorem Dg.set {B : Nat} {l : List Nat} (h : Dg B l) (i : Nat) {x : Nat} (hx : x < B) : Dg B (l.set i x) := by
  intro y hy
  rcases List.mem_or_eq_of_mem_set hy with h1 | h1
  · exact h y h1
  · rw [h1]; exact hx
theorem vl_take_ge (B : Nat) (l : List Nat) (i : Nat) (h : l.length ≤ i) : vl B (l.take i) = vl B l := by rw [List.take_of_length_le h]
theorem getD_ge {a : List Nat} {i : Nat} (h : ¬ i < a.length) : a.getD i 0 = 0 := by rw [List.getD_eq_getElem?_getD, List.getElem?_eq_none (by omega)]; rfl
theorem vl_take_next (B : Nat) (a : List Nat) (i : Nat) : vl B (a.take (i + 1)) = vl B (a.take i) + B ^ i * a.getD i 0 := by
  by_cases h : i < a.length
  · exact vl_take_succ B a i h
  · rw [List.take_of_length_le (by omega), List.take_of_length_le (by omega), getD_ge h]; simp
theorem plus_step {B : Nat} (hB : 0 < B) {out : List Nat} {i n x y p q : Nat} (hl : out.length = i) (hv : vl B out + B ^ i * n = p + q) : vl B (out ++ [(n + x + y) % B]) + B ^ (i + 1) * ((n + x + y) / B) = (p + B ^ i * x) + (q + B ^ i * y) := by
  rw [vl_append, vl_one, hl, Nat.pow_succ, Nat.mul_assoc, Nat.add_assoc, ← Nat.mul_add, Nat.mod_add_div, Nat.mul_add, Nat.mul_add]
  omega
theorem top_none {B : Nat} {v w k n i : Nat} (hi : i = k + 1) (hB : 2 ≤ B) (h1 : v < B ^ k) (h2 : w < B ^ k) {u : Nat} (h : u + B ^ i * n = v + w) : n = 0 := by
  rcases Nat.eq_zero_or_pos n with h0 | h0
  · exact h0
  · exfalso
    subst hi
    have h3 : B ^ (k + 1) * 1 ≤ B ^ (k + 1) * n := Nat.mul_le_mul_left _ h0
    rw [Nat.mul_one, Nat.pow_succ] at h3
    have h4 : B ^ k * 2 ≤ B ^ k * B := Nat.mul_le_mul_left _ hB
    rw [Nat.pow_succ] at h
    omega
theorem vl_lt_of {B : Nat} (hB : 0 < B) {l : List Nat} (h : Dg B l) {k : Nat} (hk : l.length ≤ k) : vl B l < B ^ k := Nat.lt_of_lt_of_le (vl_lt hB h) (Nat.pow_le_pow_right hB hk)
end NumL
end

section
/- Seat of the lexer's laws: runs of a function followed step by step, the rest by the kernel. -/
namespace Go.AM.S
open Go Go.AM Go.Proofs NumL
open _root_.Go.AM.G (R)
set_option linter.unusedVariables false
set_option linter.unusedSimpArgs false
/-- what a function's body makes of a run's end -/
noncomputable def FIN (P : Program) (h : Hp) (res : List ResultVar) (p : Ex × St) : Option Out := Ex.rec (motive := fun _ => St → Option Out)
    (fun st => G.onSome (F.resV P st res) (fun l => G.onSome (F.exps false st l) (fun q => match q.1 with
      | [v] => some (.val v (F.backHp h q.2.hp [v]))
      | vs => some (.val (.tuple vs) (F.backHp h q.2.hp vs))) none) none)
    (fun _ _ => none)
    (fun st => G.onSome (F.resV P st res) (fun l => G.onSome (F.exps false st l) (fun q => match q.1 with
      | [v] => some (.val v (F.backHp h q.2.hp [v]))
      | vs => some (.val (.tuple vs) (F.backHp h q.2.hp vs))) none) none)
    (fun v st => some (.panic v (F.backHp h st.hp [v]))) p.1 p.2
section
variable {P : Program} {kn : Kn} {tbl : Nat → Option Fc} {h0 : Hp} {res : List ResultVar} {o : Out} {s : St}
variable (P kn tbl h0 res o) in
/-- from some fuel on, the code's run comes to this -/
def Z (c : RC) (s : St) : Prop := Ev fun n => G.onSome (run (fn P kn tbl n) n c s.tm s.loc s.hp done) (FIN P h0 res) none = some o
theorem runs_z {f : FuncId} {fc : Fc} {args : List V} (hk : kn f = none) (ht : tbl f = some fc) (hw : Z P kn tbl h0 fc.res o fc.rc ⟨startTm args, .lf, { h0 with dirty := none }⟩) : Runs P kn tbl f args h0 o := by
  refine (Ev.next hw).mono fun n ⟨m, hm, h1⟩ => ?_
  subst hm
  show G.onSome (kn f) (fun k => k (fn P kn tbl m) args h0) (body P tbl (fn P kn tbl m) m f args h0) = _
  rw [hk]
  show body P tbl (fn P kn tbl m) m f args h0 = _
  unfold body
  rw [ht]
  show G.onSome (run (fn P kn tbl m) m fc.rc (F.startTm args) .lf { h0 with dirty := none } done) _ none = _
  rw [F.e_startTm]
  exact h1
theorem z_assoc {a b c : RC} (hz : Z P kn tbl h0 res o (.seq a (.seq b c)) s) : Z P kn tbl h0 res o (.seq (.seq a b) c) s := hz.mono fun n hn => hn
theorem z_reg {p : Nat → Prop} (hp : Ev p) {f : CallF → Tm → Lo → Hp → K → R} {b : RC} {tm' : Tm} {loc' : Lo} {hp' : Hp} (h : ∀ n, p n → ∀ k, f (fn P kn tbl n) s.tm s.loc s.hp k = k tm' loc' hp') (hz : Z P kn tbl h0 res o b ⟨tm', loc', hp'⟩) : Z P kn tbl h0 res o (.seq (.reg f) b) s := by
  refine (hp.and hz).mono fun n ⟨h1, h2⟩ => ?_
  show G.onSome (f (fn P kn tbl n) s.tm s.loc s.hp (fun tm loc hp => run (fn P kn tbl n) n b tm loc hp done)) _ none = _
  rw [h n h1]
  exact h2
theorem z_cond {t : Nat} {a b c : RC} {q : Bool} (hx : gt s.tm t = .bool q) (hz : Z P kn tbl h0 res o (.seq (bif q then a else b) c) s) : Z P kn tbl h0 res o (.seq (.cond (.tmp t) a b) c) s := by
  refine hz.mono fun n hn => ?_
  show G.onSome (G.onBool (lk [] s.tm (.tmp t)) (fun b' => Bool.rec (motive := fun _ => R) (run (fn P kn tbl n) n b s.tm s.loc s.hp _) (run (fn P kn tbl n) n a s.tm s.loc s.hp _) b') none) _ none = _
  have e : lk [] s.tm (.tmp t) = .bool q := hx
  rw [e]
  cases q <;> exact hn
theorem z_skip {c : RC} (hz : Z P kn tbl h0 res o c s) : Z P kn tbl h0 res o (.seq .skip c) s := hz.mono fun n hn => hn
theorem z_kern {c : RC} (M : Nat) (h : ∀ n, G.onSome (run (fn P kn tbl (n + M)) (n + M) c s.tm s.loc s.hp done) (FIN P h0 res) none = some o) : Z P kn tbl h0 res o c s :=
  ⟨M, fun n hn => by obtain ⟨m, rfl⟩ := Nat.exists_eq_add_of_le hn; rw [Nat.add_comm]; exact h m⟩
end
theorem back_id (h h' : Hp) (vs : List V) (h1 : h'.dirty = none) (h2 : V.noRefsL vs = true) : backHp h h' vs = h := by
  unfold backHp cleanB
  rw [h1, h2]; rfl
section
variable {P : Program} {kn : Kn} {tbl : Nat → Option Fc}
theorem ww_if {t : Nat} {a b : RC} {s : St} {N : St → Prop} {X : Nat → St → Prop} {Q : St → Prop} {p : Prop} [Decidable p] (hx : gt s.tm t = .bool (decide p)) (h1 : p → WW P kn tbl a s N X Q) (h2 : ¬ p → WW P kn tbl b s N X Q) : WW P kn tbl (.cond (.tmp t) a b) s N X Q := by
  by_cases h : p
  · exact ww_true (by rw [hx, decide_eq_true h]) (h1 h)
  · exact ww_false (by rw [hx, decide_eq_false h]) (h2 h)
theorem ww_for {c : RC} {id : Nat} {s : St} {N : St → Prop} {X : Nat → St → Prop} {Q : St → Prop} (I : Nat → St → Prop) (m : Nat) (hi : I m s)
    (hb : ∀ m s, I m s → WW P kn tbl c s (fun s' => ∃ m', m' < m ∧ I m' s') (fun i s => if i = id then N s else X i s) Q) : WW P kn tbl (.block id (.loop c)) s N X Q :=
  ww_block (ww_loop I hb m hi)
theorem runs_of_ww {f : FuncId} {rc : RC} {res : List ResultVar} {args : List V} {h : Hp} {o : Out} (hk : kn f = none) (ht : tbl f = some ⟨rc, res⟩)
    (hw : WW P kn tbl rc ⟨startTm args, .lf, ⟨h.rows, none, h.mods⟩⟩ (fun _ => False) (fun _ _ => False) (fun s => fin P h res s = some o)) : Runs P kn tbl f args h o := by
  obtain ⟨o', h1, rfl⟩ := runs_ex (Post := fun o' => o' = o) hk ht (ww_mono hw (fun s hs => hs.elim) (fun _ _ h => h) (fun s hs => ⟨_, hs, rfl⟩))
  exact h1
end
theorem fin_tmp {h : Hp} {t : Nat} {s : St} {v v' : V} {st : St} (hv : gt s.tm t = v) (he : AM.exp false s v = some (v', st)) (hh : st.hp.dirty = none) (hr : v'.noRefs = true) : fin Pg h [.tmp t] s = some (.val v' h) := by
  unfold fin
  simp only [resV, rho_gt, hv, Option.map_some, exps, he]
  rw [back_id h st.hp [v'] hh (by simp [V.noRefsL, hr])]
theorem bin_str (t : TypeId) (cn : Bool) (a b : Str) : bin Pg .eql t cn (.str a) (.str b) = some (.bool (a.same b)) := rfl
end Go.AM.S
end

section
namespace Go.AM.S
open Go Go.AM Go.Proofs NumL
open _root_.Go.AM.G (R)
set_option linter.unusedVariables false
set_option linter.unusedSimpArgs false
set_option maxRecDepth 100000
open Go.Proofs.YtjldfkldmfmkiaaDoor
def wds : List Str := [⟨3, 7628140⟩, ⟨3, 6514034⟩, ⟨3, 6710642⟩, ⟨2, 28265⟩, ⟨2, 29545⟩, ⟨2, 26217⟩, ⟨4, 1852139636⟩, ⟨4, 1702063205⟩, ⟨3, 7959156⟩, ⟨4, 1752459639⟩, ⟨5, 435727982962⟩, ⟨6, 128034677158753⟩, ⟨3, 6581359⟩, ⟨8, 8315178084276987250⟩, ⟨7, 32481164592901733⟩, ⟨9, 2128685862185089590628⟩, ⟨3, 7630441⟩, ⟨4, 1819242338⟩, ⟨4, 1953066613⟩, ⟨4, 1702195828⟩, ⟨5, 435728179558⟩, ⟨3, 7630702⟩, ⟨4, 1701999952⟩, ⟨5, 435744240723⟩, ⟨3, 7239749⟩, ⟨3, 7105601⟩, ⟨3, 7760196⟩]
def wds9 : List Str := [⟨3, 7628140⟩, ⟨3, 6514034⟩, ⟨3, 6710642⟩, ⟨2, 29545⟩, ⟨2, 28265⟩, ⟨2, 26217⟩, ⟨4, 1852139636⟩, ⟨4, 1702063205⟩, ⟨3, 7959156⟩, ⟨4, 1752459639⟩, ⟨5, 435727982962⟩, ⟨6, 128034677158753⟩, ⟨3, 6581359⟩, ⟨8, 8315178084276987250⟩, ⟨7, 32481164592901733⟩, ⟨9, 2128685862185089590628⟩, ⟨3, 7630441⟩, ⟨4, 1819242338⟩, ⟨4, 1953066613⟩, ⟨4, 1702195828⟩, ⟨5, 435728179558⟩, ⟨3, 7630702⟩, ⟨4, 1701999952⟩, ⟨5, 435744240723⟩, ⟨3, 7239749⟩, ⟨3, 7105601⟩, ⟨3, 7760196⟩]
theorem wds_all : ∀ w ∈ wds9, w ∈ wds := by simp [wds, wds9]
variable {L : List (Nat × Int × Int)}
theorem tbl9 : tbl 9 = some ⟨rc9, [.tmp 2]⟩ := by kernel_rfl
theorem tbl10 : tbl 10 = some ⟨rc10, [.tmp 2]⟩ := by kernel_rfl
theorem kn9 : kn L 9 = none := by kernel_rfl
theorem kn10 : kn L 10 = none := by kernel_rfl
theorem word9_no {s : Str} (hs : ∀ w ∈ wds, s.same w = false) (h : Hp) : Runs Pg (kn L) tbl 9 [.str s] h (.val (.bool false) h) := by
  refine runs_of_ww kn9 tbl9 ?_
  unfold rc9
  refine sR ?_
  refine sQG ?_
  have e0 : s.same ⟨3, 7628140⟩ = false := hs _ (by simp [wds])
  have e1 : s.same ⟨3, 6514034⟩ = false := hs _ (by simp [wds])
  have e2 : s.same ⟨3, 6710642⟩ = false := hs _ (by simp [wds])
  have e3 : s.same ⟨2, 29545⟩ = false := hs _ (by simp [wds])
  have e4 : s.same ⟨2, 28265⟩ = false := hs _ (by simp [wds])
  have e5 : s.same ⟨2, 26217⟩ = false := hs _ (by simp [wds])
  have e6 : s.same ⟨4, 1852139636⟩ = false := hs _ (by simp [wds])
  have e7 : s.same ⟨4, 1702063205⟩ = false := hs _ (by simp [wds])
  have e8 : s.same ⟨3, 7959156⟩ = false := hs _ (by simp [wds])
  have e9 : s.same ⟨4, 1752459639⟩ = false := hs _ (by simp [wds])
  have e10 : s.same ⟨5, 435727982962⟩ = false := hs _ (by simp [wds])
  have e11 : s.same ⟨6, 128034677158753⟩ = false := hs _ (by simp [wds])
  have e12 : s.same ⟨3, 6581359⟩ = false := hs _ (by simp [wds])
  have e13 : s.same ⟨8, 8315178084276987250⟩ = false := hs _ (by simp [wds])
  have e14 : s.same ⟨7, 32481164592901733⟩ = false := hs _ (by simp [wds])
  have e15 : s.same ⟨9, 2128685862185089590628⟩ = false := hs _ (by simp [wds])
  have e16 : s.same ⟨3, 7630441⟩ = false := hs _ (by simp [wds])
  have e17 : s.same ⟨4, 1819242338⟩ = false := hs _ (by simp [wds])
  have e18 : s.same ⟨4, 1953066613⟩ = false := hs _ (by simp [wds])
  have e19 : s.same ⟨4, 1702195828⟩ = false := hs _ (by simp [wds])
  have e20 : s.same ⟨5, 435728179558⟩ = false := hs _ (by simp [wds])
  have e21 : s.same ⟨3, 7630702⟩ = false := hs _ (by simp [wds])
  have e22 : s.same ⟨4, 1701999952⟩ = false := hs _ (by simp [wds])
  have e23 : s.same ⟨5, 435744240723⟩ = false := hs _ (by simp [wds])
  have e24 : s.same ⟨3, 7239749⟩ = false := hs _ (by simp [wds])
  have e25 : s.same ⟨3, 7105601⟩ = false := hs _ (by simp [wds])
  have e26 : s.same ⟨3, 7760196⟩ = false := hs _ (by simp [wds])
  refine ww_block ?_
  refine ww_seq (ww_seq (ww_reg (fun n k => by simp -implicitDefEqProofs (disch := omega) only [go_sem, reduceIte, Nat.reduceEqDiff, gt_start, List.getD_cons_zero, List.getD_cons_succ, bin_str, e0]; rfl) ?_))
  refine ww_false sS ?_
  refine ww_seq (ww_reg (fun n k => by simp -implicitDefEqProofs (disch := omega) only [go_sem, reduceIte, Nat.reduceEqDiff, gt_start, List.getD_cons_zero, List.getD_cons_succ, bin_str, e1]; rfl) ?_)
  refine ww_false sS ?_
  refine ww_seq (ww_reg (fun n k => by simp -implicitDefEqProofs (disch := omega) only [go_sem, reduceIte, Nat.reduceEqDiff, gt_start, List.getD_cons_zero, List.getD_cons_succ, bin_str, e2]; rfl) ?_)
  refine ww_false sS ?_
  refine ww_seq (ww_reg (fun n k => by simp -implicitDefEqProofs (disch := omega) only [go_sem, reduceIte, Nat.reduceEqDiff, gt_start, List.getD_cons_zero, List.getD_cons_succ, bin_str, e3]; rfl) ?_)
  refine ww_false sS ?_
  refine ww_seq (ww_reg (fun n k => by simp -implicitDefEqProofs (disch := omega) only [go_sem, reduceIte, Nat.reduceEqDiff, gt_start, List.getD_cons_zero, List.getD_cons_succ, bin_str, e4]; rfl) ?_)
  refine ww_false sS ?_
  refine ww_seq (ww_reg (fun n k => by simp -implicitDefEqProofs (disch := omega) only [go_sem, reduceIte, Nat.reduceEqDiff, gt_start, List.getD_cons_zero, List.getD_cons_succ, bin_str, e5]; rfl) ?_)
  refine ww_false sS ?_
  refine ww_seq (ww_reg (fun n k => by simp -implicitDefEqProofs (disch := omega) only [go_sem, reduceIte, Nat.reduceEqDiff, gt_start, List.getD_cons_zero, List.getD_cons_succ, bin_str, e6]; rfl) ?_)
  refine ww_false sS ?_
  refine ww_seq (ww_reg (fun n k => by simp -implicitDefEqProofs (disch := omega) only [go_sem, reduceIte, Nat.reduceEqDiff, gt_start, List.getD_cons_zero, List.getD_cons_succ, bin_str, e7]; rfl) ?_)
  refine ww_false sS ?_
  refine ww_seq (ww_reg (fun n k => by simp -implicitDefEqProofs (disch := omega) only [go_sem, reduceIte, Nat.reduceEqDiff, gt_start, List.getD_cons_zero, List.getD_cons_succ, bin_str, e8]; rfl) ?_)
  refine ww_false sS ?_
  refine ww_seq (ww_reg (fun n k => by simp -implicitDefEqProofs (disch := omega) only [go_sem, reduceIte, Nat.reduceEqDiff, gt_start, List.getD_cons_zero, List.getD_cons_succ, bin_str, e9]; rfl) ?_)
  refine ww_false sS ?_
  refine ww_seq (ww_reg (fun n k => by simp -implicitDefEqProofs (disch := omega) only [go_sem, reduceIte, Nat.reduceEqDiff, gt_start, List.getD_cons_zero, List.getD_cons_succ, bin_str, e10]; rfl) ?_)
  refine ww_false sS ?_
  refine ww_seq (ww_reg (fun n k => by simp -implicitDefEqProofs (disch := omega) only [go_sem, reduceIte, Nat.reduceEqDiff, gt_start, List.getD_cons_zero, List.getD_cons_succ, bin_str, e11]; rfl) ?_)
  refine ww_false sS ?_
  refine ww_seq (ww_reg (fun n k => by simp -implicitDefEqProofs (disch := omega) only [go_sem, reduceIte, Nat.reduceEqDiff, gt_start, List.getD_cons_zero, List.getD_cons_succ, bin_str, e12]; rfl) ?_)
  refine ww_false sS ?_
  refine ww_seq (ww_reg (fun n k => by simp -implicitDefEqProofs (disch := omega) only [go_sem, reduceIte, Nat.reduceEqDiff, gt_start, List.getD_cons_zero, List.getD_cons_succ, bin_str, e13]; rfl) ?_)
  refine ww_false sS ?_
  refine ww_seq (ww_reg (fun n k => by simp -implicitDefEqProofs (disch := omega) only [go_sem, reduceIte, Nat.reduceEqDiff, gt_start, List.getD_cons_zero, List.getD_cons_succ, bin_str, e14]; rfl) ?_)
  refine ww_false sS ?_
  refine ww_seq (ww_reg (fun n k => by simp -implicitDefEqProofs (disch := omega) only [go_sem, reduceIte, Nat.reduceEqDiff, gt_start, List.getD_cons_zero, List.getD_cons_succ, bin_str, e15]; rfl) ?_)
  refine ww_false sS ?_
  refine ww_seq (ww_reg (fun n k => by simp -implicitDefEqProofs (disch := omega) only [go_sem, reduceIte, Nat.reduceEqDiff, gt_start, List.getD_cons_zero, List.getD_cons_succ, bin_str, e16]; rfl) ?_)
  refine ww_false sS ?_
  refine ww_seq (ww_reg (fun n k => by simp -implicitDefEqProofs (disch := omega) only [go_sem, reduceIte, Nat.reduceEqDiff, gt_start, List.getD_cons_zero, List.getD_cons_succ, bin_str, e17]; rfl) ?_)
  refine ww_false sS ?_
  refine ww_seq (ww_reg (fun n k => by simp -implicitDefEqProofs (disch := omega) only [go_sem, reduceIte, Nat.reduceEqDiff, gt_start, List.getD_cons_zero, List.getD_cons_succ, bin_str, e18]; rfl) ?_)
  refine ww_false sS ?_
  refine ww_seq (ww_reg (fun n k => by simp -implicitDefEqProofs (disch := omega) only [go_sem, reduceIte, Nat.reduceEqDiff, gt_start, List.getD_cons_zero, List.getD_cons_succ, bin_str, e19]; rfl) ?_)
  refine ww_false sS ?_
  refine ww_seq (ww_reg (fun n k => by simp -implicitDefEqProofs (disch := omega) only [go_sem, reduceIte, Nat.reduceEqDiff, gt_start, List.getD_cons_zero, List.getD_cons_succ, bin_str, e20]; rfl) ?_)
  refine ww_false sS ?_
  refine ww_seq (ww_reg (fun n k => by simp -implicitDefEqProofs (disch := omega) only [go_sem, reduceIte, Nat.reduceEqDiff, gt_start, List.getD_cons_zero, List.getD_cons_succ, bin_str, e21]; rfl) ?_)
  refine ww_false sS ?_
  refine ww_seq (ww_reg (fun n k => by simp -implicitDefEqProofs (disch := omega) only [go_sem, reduceIte, Nat.reduceEqDiff, gt_start, List.getD_cons_zero, List.getD_cons_succ, bin_str, e22]; rfl) ?_)
  refine ww_false sS ?_
  refine ww_seq (ww_reg (fun n k => by simp -implicitDefEqProofs (disch := omega) only [go_sem, reduceIte, Nat.reduceEqDiff, gt_start, List.getD_cons_zero, List.getD_cons_succ, bin_str, e23]; rfl) ?_)
  refine ww_false sS ?_
  refine ww_seq (ww_reg (fun n k => by simp -implicitDefEqProofs (disch := omega) only [go_sem, reduceIte, Nat.reduceEqDiff, gt_start, List.getD_cons_zero, List.getD_cons_succ, bin_str, e24]; rfl) ?_)
  refine ww_false sS ?_
  refine ww_seq (ww_reg (fun n k => by simp -implicitDefEqProofs (disch := omega) only [go_sem, reduceIte, Nat.reduceEqDiff, gt_start, List.getD_cons_zero, List.getD_cons_succ, bin_str, e25]; rfl) ?_)
  refine ww_false sS ?_
  refine ww_reg (fun n k => by simp -implicitDefEqProofs (disch := omega) only [go_sem, reduceIte, Nat.reduceEqDiff, gt_start, List.getD_cons_zero, List.getD_cons_succ, bin_str, e26]; rfl) ?_
  refine ww_false sS (ww_skip ?_)
  refine sR ?_
  exact ww_ret (fin_tmp (v := .bool false) sS rfl rfl rfl)
theorem same_comm (a b : Str) : a.same b = b.same a := by
  rw [Bool.eq_iff_iff, Str.same_spec, Str.same_spec]; exact eq_comm
theorem len10 : wds.length = 27 := rfl
theorem ia_any {P : Program} {t e : TypeId} {ag : Bool} (he : F.elemT P t = some e) (hl : F.layE P e = some (1, ag)) (tok : Option Ref) (f : Bool) (k' : IntKind) (l : List V) (i : Nat) (v : V) (h : l[i]? = some v) (hc : v.cells = [v]) :
    ia P t (.slice tok f 1 l) (.int k' (.ofNat i)) = some (.iptr [v]) := by
  show G.onSome (F.elemT P t) _ none = _
  rw [he]
  show G.onSome (F.layE P e) _ none = _
  rw [hl]
  show (bif Nat.blt i (F.lenR l) then G.onSome (F.nthR l i) _ none else none) = _
  have hi : i < l.length := by
    rcases Nat.lt_or_ge i l.length with q | q
    · exact q
    · rw [List.getElem?_eq_none q] at h; cases h
  rw [F.lenR_eq, show Nat.blt i l.length = true from by rw [Nat.blt_eq]; exact hi, F.nthR_eq, h]
  show some (V.iptr v.cells) = _
  rw [hc]
theorem word10_no {s : Str} (hs : ∀ w ∈ wds, s.same w = false) (h : Hp) : Runs Pg (kn L) tbl 10 [.str s] h (.val (.bool false) h) := by
  refine runs_of_ww kn10 tbl10 ?_
  unfold rc10
  refine sR ?_
  have hb' : bs Pg 31 27 [(0, (.str ⟨3, 7628140⟩)), (1, (.str ⟨3, 6514034⟩)), (2, (.str ⟨3, 6710642⟩)), (3, (.str ⟨2, 28265⟩)), (4, (.str ⟨2, 29545⟩)), (5, (.str ⟨2, 26217⟩)), (6, (.str ⟨4, 1852139636⟩)), (7, (.str ⟨4, 1702063205⟩)), (8, (.str ⟨3, 7959156⟩)), (9, (.str ⟨4, 1752459639⟩)), (10, (.str ⟨5, 435727982962⟩)), (11, (.str ⟨6, 128034677158753⟩)), (12, (.str ⟨3, 6581359⟩)), (13, (.str ⟨8, 8315178084276987250⟩)), (14, (.str ⟨7, 32481164592901733⟩)), (15, (.str ⟨9, 2128685862185089590628⟩)), (16, (.str ⟨3, 7630441⟩)), (17, (.str ⟨4, 1819242338⟩)), (18, (.str ⟨4, 1953066613⟩)), (19, (.str ⟨4, 1702195828⟩)), (20, (.str ⟨5, 435728179558⟩)), (21, (.str ⟨3, 7630702⟩)), (22, (.str ⟨4, 1701999952⟩)), (23, (.str ⟨5, 435744240723⟩)), (24, (.str ⟨3, 7239749⟩)), (25, (.str ⟨3, 7105601⟩)), (26, (.str ⟨3, 7760196⟩))] = some (.slice none true 1 (wds.map .str)) := by kernel_rfl
  refine sR1 hb' ?_
  refine ww_joinX (fun s' => s'.hp = ⟨h.rows, none, h.mods⟩) ?_ (fun s' ah => ?_)
  · refine sR ?_
    refine ww_for (fun m s' => ∃ i, m + i = 27 ∧ gt s'.tm 0 = .str s ∧ gt s'.tm 3 = .slice none true 1 (wds.map .str) ∧ gt s'.tm 4 = .int .i64 (.ofNat i) ∧ s'.hp = ⟨h.rows, none, h.mods⟩) 27 ⟨0, rfl, sSG, sS, sS, rfl⟩ ?_
    intro m s' ⟨i, hm, h0, h3, h4, hh⟩
    refine ww_seq (ww_seq (ww_reg (fun n k => by simp -implicitDefEqProofs (disch := omega) only [go_sem, reduceIte, Nat.reduceEqDiff, h0, h3, h4, len_slice, List.length_map, len10]; rfl) ?_))
    refine ww_if (by simp only [gt_pt, reduceIte]; rfl) (fun hi => ww_skip ?_) (fun hi => ww_exit ?_)
    · have hl : i < wds.length := hi
      have hx : (wds.map V.str)[i]? = some (.str wds[i]) := by simp [hl]
      have hw : wds[i].same s = false := by rw [same_comm]; exact hs _ (List.getElem_mem _)
      refine ww_seq (ww_block ?_)
      refine ww_seq (ww_reg (fun n k => by simp -implicitDefEqProofs (disch := omega) only [go_sem, reduceIte, Nat.reduceEqDiff, h0, h3, h4, ia_any E31 L9 none true .i64 (wds.map .str) i (.str wds[i]) hx rfl, bin_str, hw]; rfl) ?_)
      refine ww_false sS (ww_skip ?_)
      refine sE1 h4 ?_
      exact ⟨m - 1, by omega, i + 1, by omega, (sS1 h0), (sS1 h3), sS, hh⟩
    · rw [if_pos rfl]
      exact hh
  · refine sR ?_
    exact ww_ret (fin_tmp (v := .bool false) sS rfl (by rw [ah]) rfl)
theorem word9_yes (n : Nat) : ∀ w ∈ wds, fn Pg (kn L) tbl (n + 40) 9 [.str w] ⟨[], none, 0⟩ = some (.val (.bool true) ⟨[], none, 0⟩) := by
  simp only [wds, List.forall_mem_cons, List.not_mem_nil, false_imp_iff, implies_true, and_true]
  refine ⟨?_, ?_, ?_, ?_, ?_, ?_, ?_, ?_, ?_, ?_, ?_, ?_, ?_, ?_, ?_, ?_, ?_, ?_, ?_, ?_, ?_, ?_, ?_, ?_, ?_, ?_, ?_⟩ <;> kernel_rfl
theorem word10_yes (n : Nat) : ∀ w ∈ wds, fn Pg (kn L) tbl (n + 40) 10 [.str w] ⟨[], none, 0⟩ = some (.val (.bool true) ⟨[], none, 0⟩) := by
  simp only [wds, List.forall_mem_cons, List.not_mem_nil, false_imp_iff, implies_true, and_true]
  refine ⟨?_, ?_, ?_, ?_, ?_, ?_, ?_, ?_, ?_, ?_, ?_, ?_, ?_, ?_, ?_, ?_, ?_, ?_, ?_, ?_, ?_, ?_, ?_, ?_, ?_, ?_, ?_⟩ <;> kernel_rfl
end Go.AM.S
end

section
namespace Go.AM.S
open Go Go.AM Go.Proofs NumL
open _root_.Go.AM.G (R)
set_option linter.unusedVariables false
set_option linter.unusedSimpArgs false
set_option maxRecDepth 100000
open Go.Proofs.YtjldfkldmfmkiaaDoor
theorem tbl4 : tbl 4 = some ⟨rc4, [.tmp 4]⟩ := by kernel_rfl
theorem kn4 {L : List (Nat × Int × Int)} : kn L 4 = none := by kernel_rfl
theorem kn7 {L : List (Nat × Int × Int)} : Runs Pg (kn L) tbl 7 [] noHp (.val (.bool true) noHp) := runs_known (k := cached (.val (.bool true) noHp)) (by kernel_rfl) (fun _ => rfl)
theorem runs_any {f : FuncId} {L : List (Nat × Int × Int)} {args : List V} {o : Out} {h : Hp} (hr : ∀ n, fn Pg (kn L) tbl (n + 40) f args h = some o) : Runs Pg (kn L) tbl f args h o :=
  ⟨40, fun n hn => by obtain ⟨m, rfl⟩ := Nat.exists_eq_add_of_le hn; rw [Nat.add_comm]; exact hr m⟩
/-- the two say the same of any text -/
theorem words_same {L : List (Nat × Int × Int)} (s : Str) (hn : ∀ w ∈ wds, s.same w = true → s = w) : ∃ b, Runs Pg (kn L) tbl 9 [.str s] noHp (.val (.bool b) noHp) ∧ Runs Pg (kn L) tbl 10 [.str s] noHp (.val (.bool b) noHp) := by
  by_cases h : ∃ w ∈ wds, s.same w = true
  · obtain ⟨w, hw, he⟩ := h
    obtain rfl := hn w hw he
    exact ⟨true, runs_any (fun n => word9_yes n s hw), runs_any (fun n => word10_yes n s hw)⟩
  · have hs : ∀ w ∈ wds, s.same w = false := fun w hw => by
      cases hq : s.same w with
      | false => rfl
      | true => exact absurd ⟨w, hw, hq⟩ h
    exact ⟨false, word9_no hs noHp, word10_no hs noHp⟩
theorem lexWords_run (s : Str) (hn : ∀ w ∈ wds, s.same w = true → s = w) (d : Int) (hd : d = 0 ∨ d = 1 ∨ d = 2 ∨ d = 3 ∨ d = 4 ∨ d = 5 ∨ d = 6 ∨ d = 7 ∨ d = 8) : Runs Pg (kn [(0, 9, d)]) tbl 4 [.str s, .sym 0] noHp (.val (.bool true) noHp) := by
  refine runs_z kn4 tbl4 ?_
  show Z Pg (kn [(0, 9, d)]) tbl noHp [.tmp 4] (.val (.bool true) noHp) rc4 ⟨startTm [.str s, .sym 0], .lf, noHp⟩
  unfold rc4
  refine z_reg (Ev.of (p := fun _ => True) fun _ => trivial) (fun n hn k => by simp -implicitDefEqProofs only [go_sem, reduceIte, Nat.reduceEqDiff]; rfl) ?_
  refine z_assoc (z_reg (kn7 (L := [(0, 9, d)])) (fun n hn k => by simp -implicitDefEqProofs only [go_sem, reduceIte, Nat.reduceEqDiff, clc0 hn]; rfl) ?_)
  refine z_cond (q := false) (by simp -implicitDefEqProofs (disch := omega) only [go_sem, reduceIte, Nat.reduceEqDiff, Bool.not_true]) (z_skip ?_)
  refine z_assoc (z_reg (Ev.of (p := fun _ => True) fun _ => trivial) (fun n hn k => by simp -implicitDefEqProofs only [go_sem, reduceIte, Nat.reduceEqDiff, gt_start, List.getD_cons_zero, List.getD_cons_succ]; rfl) ?_)
  by_cases hl : 100 < s.n
  · rw [decide_eq_true hl]
    exact z_kern 40 (fun n => by kernel_rfl)
  rw [decide_eq_false hl]
  refine z_cond (q := false) sS (z_skip ?_)
  obtain ⟨b, h9, h10⟩ := words_same (L := [(0, 9, d)]) s hn
  have hne : bin Pg .neq 4 false (.bool b) (.bool b) = some (.bool false) := by cases b <;> kernel_rfl
  refine z_assoc (z_reg (h9.and h10) (fun n hn k => by simp -implicitDefEqProofs only [go_sem, reduceIte, Nat.reduceEqDiff, gt_start, List.getD_cons_zero, List.getD_cons_succ, clc1 hn.1 (Ex1.str _), clc1 hn.2 (Ex1.str _), hne]; rfl) ?_)
  rcases hd with rfl | rfl | rfl | rfl | rfl | rfl | rfl | rfl | rfl
  all_goals exact z_kern 3000 (fun n => by kernel_rfl)
end Go.AM.S
end
