/- Part Wb of the proof: what it says stands at its theorems. -/
import Derived.Test.YtjldfkldmfmkiaaDoorTc
import Derived.Test.YtjldfkldmfmkiaaDoorAw
import Derived.KernelRfl
import Derived.Test.YtjldfkldmfmkiaaDoorSd
set_option linter.unusedVariables false
set_option linter.unusedSimpArgs false
set_option linter.unusedSectionVars false
section
/- What the walks by hand rewrite with: slots, types, operations. Printed by genTV.py. -/
namespace Go.AM.S
open Go Go.AM Go.Proofs
open _root_.Go.AM.G (R)
set_option maxRecDepth 100000
set_option linter.defProp false
noncomputable section
def go1 (F : Func) (f id i x : Nat) (v : V) (c : CallF) (t : Tm) (l : Lo) (h : Hp) (j : V → Lo → Hp → R) : R := gn F f id i c (pt .lf x v) t l h j
def go2 (F : Func) (f id i x y : Nat) (v w : V) (c : CallF) (t : Tm) (l : Lo) (h : Hp) (j : V → Lo → Hp → R) : R := gn F f id i c (pt (pt .lf x v) y w) t l h j
theorem gn_go1 {F : Func} {f id i x : Nat} {c : CallF} {t' t : Tm} {l : Lo} {h : Hp} {j : V → Lo → Hp → R} (ht : tmpsOf (opA F id i) = [x]) : gn F f id i c t' t l h j = go1 F f id i x (gt t' x) c t l h j :=
  gen_slots (fun y hy => by rw [ht] at hy; rw [List.mem_singleton.1 hy, gt_pt, if_pos rfl])
theorem gn_go1' {F : Func} {f id i x : Nat} {c : CallF} {t' t : Tm} {l : Lo} {h : Hp} {j : V → Lo → Hp → R} (ht : tmpsOf (opA F id i) = [x, x]) : gn F f id i c t' t l h j = go1 F f id i x (gt t' x) c t l h j :=
  gen_slots (fun y hy => by
    rw [ht] at hy
    have : y = x := by simpa using hy
    rw [this, gt_pt, if_pos rfl])
theorem gn_go2 {F : Func} {f id i x y : Nat} {c : CallF} {t' t : Tm} {l : Lo} {h : Hp} {j : V → Lo → Hp → R} (ht : tmpsOf (opA F id i) = [x, y]) (hxy : x ≠ y) : gn F f id i c t' t l h j = go2 F f id i x y (gt t' x) (gt t' y) c t l h j :=
  gen_slots (fun q hq => by
    rw [ht] at hq
    rcases List.mem_cons.1 hq with rfl | hq
    · rw [gt_pt, if_neg (Ne.symm hxy), gt_pt, if_pos rfl]
    · rw [List.mem_singleton.1 hq, gt_pt, if_pos rfl])
theorem sto_loc (t s g off : Nat) (x : V) (loc : Lo) (hp : Hp) (j : V → Lo → Hp → R) (slow : R) : sto t (.ptr (.loc s g) off) x loc hp j slow = stL Pg t s g off x loc (fun loc => j (.tuple []) loc hp) := rfl
theorem sto_glob (t r off : Nat) (x : V) (loc : Lo) (hp : Hp) (j : V → Lo → Hp → R) (slow : R) : sto t (.ptr (.glob r) off) x loc hp j slow = slow := rfl
theorem jE_eq (c : List (Nat × V)) (f : List (Nat × V) → R) : jE c f = f c := rfl
theorem jF_eq (c : List Foot) (f : List Foot → R) : jF c f = f c := rfl
theorem I_eq (n : Nat) : I n = .int .i64 (.ofNat n) := rfl
end
attribute [go_sem] sto_loc sto_glob I_eq jE_eq jF_eq
theorem g0_ : ∀ t : Tm, g0 t = gt t 0 := fun _ => rfl
theorem g1_ : ∀ t : Tm, g1 t = gt t 1 := fun _ => rfl
theorem g2_ : ∀ t : Tm, g2 t = gt t 2 := fun _ => rfl
theorem g3_ : ∀ t : Tm, g3 t = gt t 3 := fun _ => rfl
theorem g4_ : ∀ t : Tm, g4 t = gt t 4 := fun _ => rfl
theorem g7_ : ∀ t : Tm, g7 t = gt t 7 := fun _ => rfl
theorem g8_ : ∀ t : Tm, g8 t = gt t 8 := fun _ => rfl
theorem g10_ : ∀ t : Tm, g10 t = gt t 10 := fun _ => rfl
theorem g11_ : ∀ t : Tm, g11 t = gt t 11 := fun _ => rfl
theorem g12_ : ∀ t : Tm, g12 t = gt t 12 := fun _ => rfl
theorem g13_ : ∀ t : Tm, g13 t = gt t 13 := fun _ => rfl
theorem g14_ : ∀ t : Tm, g14 t = gt t 14 := fun _ => rfl
theorem g15_ : ∀ t : Tm, g15 t = gt t 15 := fun _ => rfl
theorem g16_ : ∀ t : Tm, g16 t = gt t 16 := fun _ => rfl
theorem g17_ : ∀ t : Tm, g17 t = gt t 17 := fun _ => rfl
theorem p0_ : ∀ (t : Tm) (v : V), p0 t v = pt t 0 v := fun _ _ => rfl
theorem p1_ : ∀ (t : Tm) (v : V), p1 t v = pt t 1 v := fun _ _ => rfl
theorem p2_ : ∀ (t : Tm) (v : V), p2 t v = pt t 2 v := fun _ _ => rfl
theorem p3_ : ∀ (t : Tm) (v : V), p3 t v = pt t 3 v := fun _ _ => rfl
theorem p4_ : ∀ (t : Tm) (v : V), p4 t v = pt t 4 v := fun _ _ => rfl
theorem p6_ : ∀ (t : Tm) (v : V), p6 t v = pt t 6 v := fun _ _ => rfl
theorem p7_ : ∀ (t : Tm) (v : V), p7 t v = pt t 7 v := fun _ _ => rfl
theorem p8_ : ∀ (t : Tm) (v : V), p8 t v = pt t 8 v := fun _ _ => rfl
theorem p10_ : ∀ (t : Tm) (v : V), p10 t v = pt t 10 v := fun _ _ => rfl
theorem p11_ : ∀ (t : Tm) (v : V), p11 t v = pt t 11 v := fun _ _ => rfl
theorem p12_ : ∀ (t : Tm) (v : V), p12 t v = pt t 12 v := fun _ _ => rfl
theorem p13_ : ∀ (t : Tm) (v : V), p13 t v = pt t 13 v := fun _ _ => rfl
theorem p14_ : ∀ (t : Tm) (v : V), p14 t v = pt t 14 v := fun _ _ => rfl
theorem p15_ : ∀ (t : Tm) (v : V), p15 t v = pt t 15 v := fun _ _ => rfl
theorem p16_ : ∀ (t : Tm) (v : V), p16 t v = pt t 16 v := fun _ _ => rfl
theorem p17_ : ∀ (t : Tm) (v : V), p17 t v = pt t 17 v := fun _ _ => rfl
theorem p19_ : ∀ (t : Tm) (v : V), p19 t v = pt t 19 v := fun _ _ => rfl
theorem p26_ : ∀ (t : Tm) (v : V), p26 t v = pt t 26 v := fun _ _ => rfl
theorem p28_ : ∀ (t : Tm) (v : V), p28 t v = pt t 28 v := fun _ _ => rfl
theorem p30_ : ∀ (t : Tm) (v : V), p30 t v = pt t 30 v := fun _ _ => rfl
theorem p35_ : ∀ (t : Tm) (v : V), p35 t v = pt t 35 v := fun _ _ => rfl
theorem p36_ : ∀ (t : Tm) (v : V), p36 t v = pt t 36 v := fun _ _ => rfl
theorem p38_ : ∀ (t : Tm) (v : V), p38 t v = pt t 38 v := fun _ _ => rfl
theorem p40_ : ∀ (t : Tm) (v : V), p40 t v = pt t 40 v := fun _ _ => rfl
theorem p50_ : ∀ (t : Tm) (v : V), p50 t v = pt t 50 v := fun _ _ => rfl
theorem p52_ : ∀ (t : Tm) (v : V), p52 t v = pt t 52 v := fun _ _ => rfl
theorem p61_ : ∀ (t : Tm) (v : V), p61 t v = pt t 61 v := fun _ _ => rfl
theorem p62_ : ∀ (t : Tm) (v : V), p62 t v = pt t 62 v := fun _ _ => rfl
theorem p66_ : ∀ (t : Tm) (v : V), p66 t v = pt t 66 v := fun _ _ => rfl
theorem p71_ : ∀ (t : Tm) (v : V), p71 t v = pt t 71 v := fun _ _ => rfl
theorem p73_ : ∀ (t : Tm) (v : V), p73 t v = pt t 73 v := fun _ _ => rfl
theorem p84_ : ∀ (t : Tm) (v : V), p84 t v = pt t 84 v := fun _ _ => rfl
theorem U2 : Pg.underlying 2 = some (.int .i64) := by kernel_rfl
theorem L2 : F.layE Pg 2 = some (1, false) := by kernel_rfl
theorem Z2 : F.zeroV Pg 2 = some (.int .i64 (.ofNat 0)) := by kernel_rfl
theorem S2 : F.szOf Pg 2 = some 1 := by kernel_rfl
theorem N2 : F.lenIs Pg 2 1 = true := by kernel_rfl
theorem B2 : F.byteE Pg 2 = some 8 := by kernel_rfl
theorem U3 : Pg.underlying 3 = some (.int .i64) := by kernel_rfl
theorem L3 : F.layE Pg 3 = some (1, false) := by kernel_rfl
theorem Z3 : F.zeroV Pg 3 = some (.int .i64 (.ofNat 0)) := by kernel_rfl
theorem S3 : F.szOf Pg 3 = some 1 := by kernel_rfl
theorem N3 : F.lenIs Pg 3 1 = true := by kernel_rfl
theorem B3 : F.byteE Pg 3 = some 8 := by kernel_rfl
theorem U5 : Pg.underlying 5 = some (.int .u8) := by kernel_rfl
theorem L5 : F.layE Pg 5 = some (1, false) := by kernel_rfl
theorem Z5 : F.zeroV Pg 5 = some (.int .u8 (.ofNat 0)) := by kernel_rfl
theorem S5 : F.szOf Pg 5 = some 1 := by kernel_rfl
theorem N5 : F.lenIs Pg 5 1 = true := by kernel_rfl
theorem B5 : F.byteE Pg 5 = some 1 := by kernel_rfl
theorem U9 : Pg.underlying 9 = some .string := by kernel_rfl
theorem L9 : F.layE Pg 9 = some (1, false) := by kernel_rfl
theorem Z9 : F.zeroV Pg 9 = some (.str ⟨0, 0⟩) := by kernel_rfl
theorem S9 : F.szOf Pg 9 = some 1 := by kernel_rfl
theorem N9 : F.lenIs Pg 9 1 = true := by kernel_rfl
theorem B9 : F.byteE Pg 9 = some 16 := by kernel_rfl
theorem U21 : Pg.underlying 21 = some (.int .i32) := by kernel_rfl
theorem L21 : F.layE Pg 21 = some (1, false) := by kernel_rfl
theorem Z21 : F.zeroV Pg 21 = some (.int .i32 (.ofNat 0)) := by kernel_rfl
theorem S21 : F.szOf Pg 21 = some 1 := by kernel_rfl
theorem N21 : F.lenIs Pg 21 1 = true := by kernel_rfl
theorem B21 : F.byteE Pg 21 = some 4 := by kernel_rfl
theorem U22 : Pg.underlying 22 = some (.slice 5) := by kernel_rfl
theorem E22 : F.elemT Pg 22 = some 5 := by kernel_rfl
theorem L22 : F.layE Pg 22 = some (1, false) := by kernel_rfl
theorem Z22 : F.zeroV Pg 22 = some .nils := by kernel_rfl
theorem S22 : F.szOf Pg 22 = some 1 := by kernel_rfl
theorem N22 : F.lenIs Pg 22 1 = true := by kernel_rfl
theorem B22 : F.byteE Pg 22 = some 24 := by kernel_rfl
theorem U24 : Pg.underlying 24 = some (.slice 30) := by kernel_rfl
theorem E24 : F.elemT Pg 24 = some 30 := by kernel_rfl
theorem L24 : F.layE Pg 24 = some (1, false) := by kernel_rfl
theorem Z24 : F.zeroV Pg 24 = some .nils := by kernel_rfl
theorem S24 : F.szOf Pg 24 = some 1 := by kernel_rfl
theorem N24 : F.lenIs Pg 24 1 = true := by kernel_rfl
theorem B24 : F.byteE Pg 24 = some 24 := by kernel_rfl
theorem L29 : F.layE Pg 29 = some (3, true) := by kernel_rfl
theorem Z29 : F.zeroV Pg 29 = some (.agg [(.int .i64 (.ofNat 0)), (.str ⟨0, 0⟩), (.int .i64 (.ofNat 0))]) := by kernel_rfl
theorem S29 : F.szOf Pg 29 = some 3 := by kernel_rfl
theorem N29 : F.lenIs Pg 29 3 = true := by kernel_rfl
theorem B29 : F.byteE Pg 29 = some 32 := by kernel_rfl
theorem L30 : F.layE Pg 30 = some (3, true) := by kernel_rfl
theorem Z30 : F.zeroV Pg 30 = some (.agg [(.int .i64 (.ofNat 0)), (.str ⟨0, 0⟩), (.int .i64 (.ofNat 0))]) := by kernel_rfl
theorem S30 : F.szOf Pg 30 = some 3 := by kernel_rfl
theorem N30 : F.lenIs Pg 30 3 = true := by kernel_rfl
theorem B30 : F.byteE Pg 30 = some 32 := by kernel_rfl
theorem L47 : F.layE Pg 47 = some (2, true) := by kernel_rfl
theorem Z47 : F.zeroV Pg 47 = some (.agg [(.str ⟨0, 0⟩), (.int .i64 (.ofNat 0))]) := by kernel_rfl
theorem S47 : F.szOf Pg 47 = some 2 := by kernel_rfl
theorem N47 : F.lenIs Pg 47 2 = true := by kernel_rfl
theorem B47 : F.byteE Pg 47 = some 24 := by kernel_rfl
theorem L51 : F.layE Pg 51 = some (1, false) := by kernel_rfl
theorem Z51 : F.zeroV Pg 51 = some .nilp := by kernel_rfl
theorem S51 : F.szOf Pg 51 = some 1 := by kernel_rfl
theorem N51 : F.lenIs Pg 51 1 = true := by kernel_rfl
theorem B51 : F.byteE Pg 51 = some 8 := by kernel_rfl
theorem L80 : F.layE Pg 80 = some (1, false) := by kernel_rfl
theorem Z80 : F.zeroV Pg 80 = some .nilf := by kernel_rfl
theorem S80 : F.szOf Pg 80 = some 1 := by kernel_rfl
theorem N80 : F.lenIs Pg 80 1 = true := by kernel_rfl
theorem B80 : F.byteE Pg 80 = some 8 := by kernel_rfl
theorem L86 : F.layE Pg 86 = some (1, false) := by kernel_rfl
theorem Z86 : F.zeroV Pg 86 = some .nili := by kernel_rfl
theorem S86 : F.szOf Pg 86 = some 1 := by kernel_rfl
theorem N86 : F.lenIs Pg 86 1 = true := by kernel_rfl
theorem B86 : F.byteE Pg 86 = some 16 := by kernel_rfl
theorem FA30_2 : ∀ (r : Ref) (o : Nat), fa Pg 30 (.ptr r o) 2 = some (.ptr r (o + 2)) := fun r o => by kernel_rfl
theorem FA47_0 : ∀ (r : Ref) (o : Nat), fa Pg 47 (.ptr r o) 0 = some (.ptr r (o + 0)) := fun r o => by kernel_rfl
theorem FA47_1 : ∀ (r : Ref) (o : Nat), fa Pg 47 (.ptr r o) 1 = some (.ptr r (o + 1)) := fun r o => by kernel_rfl
theorem ia22 {k : IntKind} {v : V} {d : List Nat} (h : Sl k v d) (k' : IntKind) (i : Nat) (hi : i < d.length) : ia Pg 22 v (.int k' (.ofNat i)) = some (.iptr [.int k (.ofNat (d.getD i 0))]) := ia_sl E22 L5 h k' i hi
theorem sl22 {k : IntKind} {v : V} {d : List Nat} (h : Sl k v d) (k' : IntKind) (i : Nat) (hi : i < d.length) : slc Pg 22 v none (some (.int k' (.ofNat i))) none = some (.slice none false 1 (nl k (d.take i))) := slc_sl E22 L5 h k' i hi
theorem m6_4_1 : ∀ (c : CallF) (t' t : Tm) (l : Lo) (h : Hp) (j : V → Lo → Hp → R), gn Tryd.f6 6 4 1 c t' t l h j = go1 Tryd.f6 6 4 1 26 (gt t' 26) c t l h j := fun _ _ _ _ _ _ => gn_go1' (by kernel_rfl)
theorem q6_4_1 : ∀ (c : CallF) (t : Tm) (l : Lo) (h : Hp) (j : V → Lo → Hp → R) (k : IntKind) (n : Nat), n ≤ 1000000000 → go1 Tryd.f6 6 4 1 26 (.int k (.ofNat n)) c t l h j = j (.arr (.loc 27 ((lg l 27).1 + 1)) 0 n (some n) 1 false) (lp l 27 ((lg l 27).1 + 1, .cells false (nl .u8 (List.replicate n 0)))) h := fun c t l h j k n hn => gen_make (C := Cg) (gl := Cg.glob 6) (call := c) (tm := t) (loc := l) (hp := h) (j := j) (t' := pt .lf 26 (.int k (.ofNat n))) (k1 := k) (n := n) (o := opA Tryd.f6 4 1) (d := 27) (x := 26) (t := 22) (e := 5) (b := 1) (by kernel_rfl) (by kernel_rfl) (by kernel_rfl) (by kernel_rfl) (by kernel_rfl) (by kernel_rfl) (by kernel_rfl) (by rw [gt_pt, if_pos rfl]) (by omega) (by omega)
theorem m6_11_1 : ∀ (c : CallF) (t' t : Tm) (l : Lo) (h : Hp) (j : V → Lo → Hp → R), gn Tryd.f6 6 11 1 c t' t l h j = go1 Tryd.f6 6 11 1 40 (gt t' 40) c t l h j := fun _ _ _ _ _ _ => gn_go1 (by kernel_rfl)
theorem m6_20_1 : ∀ (c : CallF) (t' t : Tm) (l : Lo) (h : Hp) (j : V → Lo → Hp → R), gn Tryd.f6 6 20 1 c t' t l h j = go1 Tryd.f6 6 20 1 62 (gt t' 62) c t l h j := fun _ _ _ _ _ _ => gn_go1' (by kernel_rfl)
theorem q6_20_1 : ∀ (c : CallF) (t : Tm) (l : Lo) (h : Hp) (j : V → Lo → Hp → R) (k : IntKind) (n : Nat), n ≤ 1000000000 → go1 Tryd.f6 6 20 1 62 (.int k (.ofNat n)) c t l h j = j (.arr (.loc 63 ((lg l 63).1 + 1)) 0 n (some n) 1 false) (lp l 63 ((lg l 63).1 + 1, .cells false (nl .u8 (List.replicate n 0)))) h := fun c t l h j k n hn => gen_make (C := Cg) (gl := Cg.glob 6) (call := c) (tm := t) (loc := l) (hp := h) (j := j) (t' := pt .lf 62 (.int k (.ofNat n))) (k1 := k) (n := n) (o := opA Tryd.f6 20 1) (d := 63) (x := 62) (t := 22) (e := 5) (b := 1) (by kernel_rfl) (by kernel_rfl) (by kernel_rfl) (by kernel_rfl) (by kernel_rfl) (by kernel_rfl) (by kernel_rfl) (by rw [gt_pt, if_pos rfl]) (by omega) (by omega)
theorem m6_25_1 : ∀ (c : CallF) (t' t : Tm) (l : Lo) (h : Hp) (j : V → Lo → Hp → R), gn Tryd.f6 6 25 1 c t' t l h j = go1 Tryd.f6 6 25 1 73 (gt t' 73) c t l h j := fun _ _ _ _ _ _ => gn_go1 (by kernel_rfl)
theorem m16_8_7 : ∀ (c : CallF) (t' t : Tm) (l : Lo) (h : Hp) (j : V → Lo → Hp → R), gn Tryd.f16 16 8 7 c t' t l h j = go2 Tryd.f16 16 8 7 40 38 (gt t' 40) (gt t' 38) c t l h j := fun _ _ _ _ _ _ => gn_go2 (by kernel_rfl) (by decide)
theorem w16_8_7 {r off n : Nat} {d : List Nat} {h : Hp} (hr : h.rows[r]? = some (.cells false (nl .i64 d))) (ho : off < d.length) (c : CallF) (t : Tm) (l : Lo) (j : V → Lo → Hp → R) : go2 Tryd.f16 16 8 7 40 38 (.ptr (.glob r) off) (.int .i64 (.ofNat n)) c t l h j = j (.tuple []) l (hset h r (.cells false (nl .i64 (d.set off n)))) := gen_store_glob (C := Cg) (gl := Cg.glob 16) (call := c) (o := opA Tryd.f16 8 7) (t := 3) (by kernel_rfl) (by kernel_rfl) (by decide) (by kernel_rfl) hr ho
theorem n31_2_2 : ∀ (c : CallF) (t' t : Tm) (l : Lo) (h : Hp) (j : V → Lo → Hp → R), gn Tryd.f31 31 2 2 c t' t l h j = cvt .i32 (gt t' 12) (fun v => j v l h) := fun _ _ _ _ _ _ => gen_convert' (o := opA Tryd.f31 2 2) (d := 13) (s := 5) (t := 21) (by kernel_rfl) (by kernel_rfl) U5 U21
def r_ld_iptr_L2 := ld_iptr L2
def r_ldc_fst_L2 := ldc_fst L2
def r_ldc_snd_L2 := ldc_snd L2
def r_ldc_nl_L2 := ldc_nl L2
def r_ldg_cells_L2 := ldg_cells L2
def r_stc_nl_N2 := stc_nl N2
def r_ld_iptr_L3 := ld_iptr L3
def r_ldc_fst_L3 := ldc_fst L3
def r_ldc_snd_L3 := ldc_snd L3
def r_ldc_nl_L3 := ldc_nl L3
def r_ldg_cells_L3 := ldg_cells L3
def r_stc_nl_N3 := stc_nl N3
def r_ld_iptr_L5 := ld_iptr L5
def r_ldc_fst_L5 := ldc_fst L5
def r_ldc_snd_L5 := ldc_snd L5
def r_ldc_nl_L5 := ldc_nl L5
def r_ldg_cells_L5 := ldg_cells L5
def r_stc_nl_N5 := stc_nl N5
def r_ld_iptr_L9 := ld_iptr L9
def r_ldc_fst_L9 := ldc_fst L9
def r_ldc_snd_L9 := ldc_snd L9
def r_ldc_nl_L9 := ldc_nl L9
def r_ldg_cells_L9 := ldg_cells L9
def r_stc_nl_N9 := stc_nl N9
def r_ld_iptr_L21 := ld_iptr L21
def r_ldc_fst_L21 := ldc_fst L21
def r_ldc_snd_L21 := ldc_snd L21
def r_ldc_nl_L21 := ldc_nl L21
def r_ldg_cells_L21 := ldg_cells L21
def r_stc_nl_N21 := stc_nl N21
def r_ia_slice_E22_L5 := ia_slice E22 L5
def r_ia_arr_E22_L5 := ia_arr E22 L5
def r_slc_init_E22_L5 := slc_init E22 L5
def r_slc_arr_E22_L5 := slc_arr E22 L5
def r_ld_iptr_L22 := ld_iptr L22
def r_ldc_fst_L22 := ldc_fst L22
def r_ldc_snd_L22 := ldc_snd L22
def r_ldc_nl_L22 := ldc_nl L22
def r_ldg_cells_L22 := ldg_cells L22
def r_stc_nl_N22 := stc_nl N22
def r_ld_iptr_L24 := ld_iptr L24
def r_ldc_fst_L24 := ldc_fst L24
def r_ldc_snd_L24 := ldc_snd L24
def r_ldc_nl_L24 := ldc_nl L24
def r_ldg_cells_L24 := ldg_cells L24
def r_stc_nl_N24 := stc_nl N24
def r_ldc_two_L47 := ldc_two L47
def r_stc_two_N47 := stc_two N47
def r_ld_iptr_L51 := ld_iptr L51
def r_ldc_fst_L51 := ldc_fst L51
def r_ldc_snd_L51 := ldc_snd L51
def r_ldc_nl_L51 := ldc_nl L51
def r_ldg_cells_L51 := ldg_cells L51
def r_stc_nl_N51 := stc_nl N51
def r_ld_iptr_L80 := ld_iptr L80
def r_ldc_fst_L80 := ldc_fst L80
def r_ldc_snd_L80 := ldc_snd L80
def r_ldc_nl_L80 := ldc_nl L80
def r_ldg_cells_L80 := ldg_cells L80
def r_stc_nl_N80 := stc_nl N80
def r_ld_iptr_L86 := ld_iptr L86
def r_ldc_fst_L86 := ldc_fst L86
def r_ldc_snd_L86 := ldc_snd L86
def r_ldc_nl_L86 := ldc_nl L86
def r_ldg_cells_L86 := ldg_cells L86
def r_stc_nl_N86 := stc_nl N86
attribute [go_sem] g0_ g1_ g2_ g3_ g4_ g7_ g8_ g10_ g11_ g12_ g13_ g14_ g15_ g16_ g17_ p0_ p1_ p2_ p3_ p4_ p6_ p7_ p8_ p10_ p11_ p12_ p13_ p14_ p15_ p16_ p17_ p19_ p26_ p28_ p30_ p35_ p36_ p38_ p40_ p50_ p52_ p61_ p62_ p66_ p71_ p73_ p84_ U2 U3 U5 U9 U21 U22 U24 r_ld_iptr_L2 r_ldc_fst_L2 r_ldc_snd_L2 r_ldc_nl_L2 r_ldg_cells_L2 r_stc_nl_N2 r_ld_iptr_L3 r_ldc_fst_L3 r_ldc_snd_L3 r_ldc_nl_L3 r_ldg_cells_L3 r_stc_nl_N3 r_ld_iptr_L5 r_ldc_fst_L5 r_ldc_snd_L5 r_ldc_nl_L5 r_ldg_cells_L5 r_stc_nl_N5 r_ld_iptr_L9 r_ldc_fst_L9 r_ldc_snd_L9 r_ldc_nl_L9 r_ldg_cells_L9 r_stc_nl_N9 r_ld_iptr_L21 r_ldc_fst_L21 r_ldc_snd_L21 r_ldc_nl_L21 r_ldg_cells_L21 r_stc_nl_N21 r_ia_slice_E22_L5 r_ia_arr_E22_L5 r_slc_init_E22_L5 r_slc_arr_E22_L5 r_ld_iptr_L22 r_ldc_fst_L22 r_ldc_snd_L22 r_ldc_nl_L22 r_ldg_cells_L22 r_stc_nl_N22 r_ld_iptr_L24 r_ldc_fst_L24 r_ldc_snd_L24 r_ldc_nl_L24 r_ldg_cells_L24 r_stc_nl_N24 r_ldc_two_L47 r_stc_two_N47 r_ld_iptr_L51 r_ldc_fst_L51 r_ldc_snd_L51 r_ldc_nl_L51 r_ldg_cells_L51 r_stc_nl_N51 r_ld_iptr_L80 r_ldc_fst_L80 r_ldc_snd_L80 r_ldc_nl_L80 r_ldg_cells_L80 r_stc_nl_N80 r_ld_iptr_L86 r_ldc_fst_L86 r_ldc_snd_L86 r_ldc_nl_L86 r_ldg_cells_L86 r_stc_nl_N86 FA30_2 FA47_0 FA47_1 m6_4_1 q6_4_1 m6_11_1 m6_20_1 q6_20_1 m6_25_1 m16_8_7 n31_2_2
end Go.AM.S
end

section
/- Rows of digits, and the numbers that they make: plain lists, no program. -/
namespace NumL
/-- the number that digits make by a base, the lowest first -/
def vl (B : Nat) : List Nat → Nat
  | [] => 0
  | x :: l => x + B * vl B l
def Dg (B : Nat) (l : List Nat) : Prop := ∀ x ∈ l, x < B
theorem vl_append (B : Nat) (a b : List Nat) : vl B (a ++ b) = vl B a + B ^ a.length * vl B b := by
  induction a with
  | nil => simp [vl]
  | cons x a ih =>
    simp only [List.cons_append, vl, ih, List.length_cons, Nat.pow_succ, Nat.mul_add]
    have : B * (B ^ a.length * vl B b) = B ^ a.length * B * vl B b := by rw [← Nat.mul_assoc, Nat.mul_comm B]
    omega
theorem vl_one (B x : Nat) : vl B [x] = x := by simp [vl]
theorem vl_lt {B : Nat} (hB : 0 < B) {l : List Nat} (h : Dg B l) : vl B l < B ^ l.length := by
  induction l with
  | nil => simp [vl]
  | cons x l ih =>
    have h1 : x < B := h x (by simp)
    have h2 := ih (fun y hy => h y (by simp [hy]))
    simp only [vl, List.length_cons, Nat.pow_succ]
    have h3 : B * vl B l + B ≤ B * B ^ l.length := by
      have := Nat.mul_le_mul_left B (Nat.succ_le_of_lt h2)
      rw [Nat.mul_succ] at this; exact this
    rw [Nat.mul_comm (B ^ l.length)]
    omega
theorem vl_take_succ (B : Nat) (l : List Nat) (i : Nat) (h : i < l.length) : vl B (l.take (i + 1)) = vl B (l.take i) + B ^ i * l.getD i 0 := by
  have e : l.take (i + 1) = l.take i ++ [l.getD i 0] := by
    rw [List.take_add_one, List.getD_eq_getElem?_getD, List.getElem?_eq_getElem h]; simp
  rw [e, vl_append, vl_one, List.length_take, Nat.min_eq_left (Nat.le_of_lt h)]
theorem Dg.nil (B : Nat) : Dg B [] := fun x hx => by simp at hx
theorem Dg.snoc {B : Nat} {l : List Nat} (h : Dg B l) {x : Nat} (hx : x < B) : Dg B (l ++ [x]) := by
  intro y hy
  rcases List.mem_append.1 hy with h1 | h1
  · exact h y h1
  · rw [List.mem_singleton.1 h1]; exact hx
theorem Dg.get {B : Nat} (hB : 0 < B) {l : List Nat} (h : Dg B l) (i : Nat) : l.getD i 0 < B := by
  rw [List.getD_eq_getElem?_getD]
  cases he : l[i]? with
  | none => exact hB
  | some x => exact h x (List.mem_of_getElem? he)
theorem Dg.take {B : Nat} {l : List Nat} (h : Dg B l) (n : Nat) : Dg B (l.take n) := fun x hx => h x (List.mem_of_mem_take hx)
theorem Dg.drop {B : Nat} {l : List Nat} (h : Dg B l) (n : Nat) : Dg B (l.drop n) := fun x hx => h x (List.mem_of_mem_drop hx)
theorem Dg.set {B : Nat} {l : List Nat} (h : Dg B l) (i : Nat) {x : Nat} (hx : x < B) : Dg B (l.set i x) := by
  intro y hy
  rcases List.mem_or_eq_of_mem_set hy with h1 | h1
  · exact h y h1
  · rw [h1]; exact hx
theorem vl_take_ge (B : Nat) (l : List Nat) (i : Nat) (h : l.length ≤ i) : vl B (l.take i) = vl B l := by rw [List.take_of_length_le h]
theorem getD_ge {a : List Nat} {i : Nat} (h : ¬ i < a.length) : a.getD i 0 = 0 := by rw [List.getD_eq_getElem?_getD, List.getElem?_eq_none (by omega)]; rfl
theorem vl_take_next (B : Nat) (a : List Nat) (i : Nat) : vl B (a.take (i + 1)) = vl B (a.take i) + B ^ i * a.getD i 0 := by
  by_cases h : i < a.length
  · exact vl_take_succ B a i h
  · rw [List.take_of_length_le (by omega), List.take_of_length_le (by omega), getD_ge h]; simp
theorem plus_step {B : Nat} (hB : 0 < B) {out : List Nat} {i n x y p q : Nat} (hl : out.length = i) (hv : vl B out + B ^ i * n = p + q) : vl B (out ++ [(n + x + y) % B]) + B ^ (i + 1) * ((n + x + y) / B) = (p + B ^ i * x) + (q + B ^ i * y) := by
  rw [vl_append, vl_one, hl, Nat.pow_succ, Nat.mul_assoc, Nat.add_assoc, ← Nat.mul_add, Nat.mod_add_div, Nat.mul_add, Nat.mul_add]
  omega
theorem top_none {B : Nat} {v w k n i : Nat} (hi : i = k + 1) (hB : 2 ≤ B) (h1 : v < B ^ k) (h2 : w < B ^ k) {u : Nat} (h : u + B ^ i * n = v + w) : n = 0 := by
  rcases Nat.eq_zero_or_pos n with h0 | h0
  · exact h0
  · exfalso
    subst hi
    have h3 : B ^ (k + 1) * 1 ≤ B ^ (k + 1) * n := Nat.mul_le_mul_left _ h0
    rw [Nat.mul_one, Nat.pow_succ] at h3
    have h4 : B ^ k * 2 ≤ B ^ k * B := Nat.mul_le_mul_left _ hB
    rw [Nat.pow_succ] at h
    omega
theorem vl_lt_of {B : Nat} (hB : 0 < B) {l : List Nat} (h : Dg B l) {k : Nat} (hk : l.length ≤ k) : vl B l < B ^ k := Nat.lt_of_lt_of_le (vl_lt hB h) (Nat.pow_le_pow_right hB hk)
end NumL
end

section
/- Seat of the lexer's laws: runs of a function followed step by step, the rest by the kernel. -/
namespace Go.AM.S
open Go Go.AM Go.Proofs NumL
open _root_.Go.AM.G (R)
set_option linter.unusedVariables false
set_option linter.unusedSimpArgs false
/-- what a function's body makes of a run's end -/
noncomputable def FIN (P : Program) (h : Hp) (res : List ResultVar) (p : Ex × St) : Option Out := Ex.rec (motive := fun _ => St → Option Out)
    (fun st => G.onSome (F.resV P st res) (fun l => G.onSome (F.exps false st l) (fun q => match q.1 with
      | [v] => some (.val v (F.backHp h q.2.hp [v]))
      | vs => some (.val (.tuple vs) (F.backHp h q.2.hp vs))) none) none)
    (fun _ _ => none)
    (fun st => G.onSome (F.resV P st res) (fun l => G.onSome (F.exps false st l) (fun q => match q.1 with
      | [v] => some (.val v (F.backHp h q.2.hp [v]))
      | vs => some (.val (.tuple vs) (F.backHp h q.2.hp vs))) none) none)
    (fun v st => some (.panic v (F.backHp h st.hp [v]))) p.1 p.2
section
variable {P : Program} {kn : Kn} {tbl : Nat → Option Fc} {h0 : Hp} {res : List ResultVar} {o : Out} {s : St}
variable (P kn tbl h0 res o) in
/-- from some fuel on, the code's run comes to this -/
def Z (c : RC) (s : St) : Prop := Ev fun n => G.onSome (run (fn P kn tbl n) n c s.tm s.loc s.hp done) (FIN P h0 res) none = some o
theorem runs_z {f : FuncId} {fc : Fc} {args : List V} (hk : kn f = none) (ht : tbl f = some fc) (hw : Z P kn tbl h0 fc.res o fc.rc ⟨startTm args, .lf, { h0 with dirty := none }⟩) : Runs P kn tbl f args h0 o := by
  refine (Ev.next hw).mono fun n ⟨m, hm, h1⟩ => ?_
  subst hm
  show G.onSome (kn f) (fun k => k (fn P kn tbl m) args h0) (body P tbl (fn P kn tbl m) m f args h0) = _
  rw [hk]
  show body P tbl (fn P kn tbl m) m f args h0 = _
  unfold body
  rw [ht]
  show G.onSome (run (fn P kn tbl m) m fc.rc (F.startTm args) .lf { h0 with dirty := none } done) _ none = _
  rw [F.e_startTm]
  exact h1
theorem z_assoc {a b c : RC} (hz : Z P kn tbl h0 res o (.seq a (.seq b c)) s) : Z P kn tbl h0 res o (.seq (.seq a b) c) s := hz.mono fun n hn => hn
theorem z_reg {p : Nat → Prop} (hp : Ev p) {f : CallF → Tm → Lo → Hp → K → R} {b : RC} {tm' : Tm} {loc' : Lo} {hp' : Hp} (h : ∀ n, p n → ∀ k, f (fn P kn tbl n) s.tm s.loc s.hp k = k tm' loc' hp') (hz : Z P kn tbl h0 res o b ⟨tm', loc', hp'⟩) : Z P kn tbl h0 res o (.seq (.reg f) b) s := by
  refine (hp.and hz).mono fun n ⟨h1, h2⟩ => ?_
  show G.onSome (f (fn P kn tbl n) s.tm s.loc s.hp (fun tm loc hp => run (fn P kn tbl n) n b tm loc hp done)) _ none = _
  rw [h n h1]
  exact h2
theorem z_cond {t : Nat} {a b c : RC} {q : Bool} (hx : gt s.tm t = .bool q) (hz : Z P kn tbl h0 res o (.seq (bif q then a else b) c) s) : Z P kn tbl h0 res o (.seq (.cond (.tmp t) a b) c) s := by
  refine hz.mono fun n hn => ?_
  show G.onSome (G.onBool (lk [] s.tm (.tmp t)) (fun b' => Bool.rec (motive := fun _ => R) (run (fn P kn tbl n) n b s.tm s.loc s.hp _) (run (fn P kn tbl n) n a s.tm s.loc s.hp _) b') none) _ none = _
  have e : lk [] s.tm (.tmp t) = .bool q := hx
  rw [e]
  cases q <;> exact hn
theorem z_skip {c : RC} (hz : Z P kn tbl h0 res o c s) : Z P kn tbl h0 res o (.seq .skip c) s := hz.mono fun n hn => hn
theorem z_kern {c : RC} (M : Nat) (h : ∀ n, G.onSome (run (fn P kn tbl (n + M)) (n + M) c s.tm s.loc s.hp done) (FIN P h0 res) none = some o) : Z P kn tbl h0 res o c s :=
  ⟨M, fun n hn => by obtain ⟨m, rfl⟩ := Nat.exists_eq_add_of_le hn; rw [Nat.add_comm]; exact h m⟩
end
theorem back_id (h h' : Hp) (vs : List V) (h1 : h'.dirty = none) (h2 : V.noRefsL vs = true) : backHp h h' vs = h := by
  unfold backHp cleanB
  rw [h1, h2]; rfl
section
variable {P : Program} {kn : Kn} {tbl : Nat → Option Fc}
theorem ww_if {t : Nat} {a b : RC} {s : St} {N : St → Prop} {X : Nat → St → Prop} {Q : St → Prop} {p : Prop} [Decidable p] (hx : gt s.tm t = .bool (decide p)) (h1 : p → WW P kn tbl a s N X Q) (h2 : ¬ p → WW P kn tbl b s N X Q) : WW P kn tbl (.cond (.tmp t) a b) s N X Q := by
  by_cases h : p
  · exact ww_true (by rw [hx, decide_eq_true h]) (h1 h)
  · exact ww_false (by rw [hx, decide_eq_false h]) (h2 h)
theorem ww_for {c : RC} {id : Nat} {s : St} {N : St → Prop} {X : Nat → St → Prop} {Q : St → Prop} (I : Nat → St → Prop) (m : Nat) (hi : I m s)
    (hb : ∀ m s, I m s → WW P kn tbl c s (fun s' => ∃ m', m' < m ∧ I m' s') (fun i s => if i = id then N s else X i s) Q) : WW P kn tbl (.block id (.loop c)) s N X Q :=
  ww_block (ww_loop I hb m hi)
theorem runs_of_ww {f : FuncId} {rc : RC} {res : List ResultVar} {args : List V} {h : Hp} {o : Out} (hk : kn f = none) (ht : tbl f = some ⟨rc, res⟩)
    (hw : WW P kn tbl rc ⟨startTm args, .lf, ⟨h.rows, none, h.mods⟩⟩ (fun _ => False) (fun _ _ => False) (fun s => fin P h res s = some o)) : Runs P kn tbl f args h o := by
  obtain ⟨o', h1, rfl⟩ := runs_ex (Post := fun o' => o' = o) hk ht (ww_mono hw (fun s hs => hs.elim) (fun _ _ h => h) (fun s hs => ⟨_, hs, rfl⟩))
  exact h1
end
theorem fin_tmp {h : Hp} {t : Nat} {s : St} {v v' : V} {st : St} (hv : gt s.tm t = v) (he : AM.exp false s v = some (v', st)) (hh : st.hp.dirty = none) (hr : v'.noRefs = true) : fin Pg h [.tmp t] s = some (.val v' h) := by
  unfold fin
  simp only [resV, rho_gt, hv, Option.map_some, exps, he]
  rw [back_id h st.hp [v'] hh (by simp [V.noRefsL, hr])]
theorem bin_str (t : TypeId) (cn : Bool) (a b : Str) : bin Pg .eql t cn (.str a) (.str b) = some (.bool (a.same b)) := rfl
end Go.AM.S
end

section
/- Texts as rows of bytes; single operations on them. -/
namespace Go.AM.S
open Go Go.AM Go.Proofs NumL
open _root_.Go.AM.G (R)
set_option linter.unusedVariables false
set_option linter.unusedSimpArgs false
/-- the text of these bytes -/
def sl (l : List Nat) : Str := ⟨l.length, vl 256 l⟩
theorem p8_pow (n : Nat) : AM.p8 n = 256 ^ n := by
  show 2 ^ (8 * n) = _
  rw [show (256 : Nat) = 2 ^ 8 from rfl, ← Nat.pow_mul]
theorem vl_div (B : Nat) (hB : 0 < B) (l : List Nat) (h : Dg B l) (i : Nat) : vl B l / B ^ i = vl B (l.drop i) := by
  by_cases hi : i ≤ l.length
  · conv => lhs; rw [← List.take_append_drop i l]
    rw [vl_append, List.length_take, Nat.min_eq_left hi, Nat.add_mul_div_left _ _ (Nat.pow_pos hB), Nat.div_eq_of_lt (vl_lt_of hB (h.take i) (by simp; omega)), Nat.zero_add]
  · rw [List.drop_eq_nil_of_le (by omega), Nat.div_eq_of_lt (vl_lt_of hB h (by omega))]; rfl
theorem vl_mod (B : Nat) (hB : 0 < B) (l : List Nat) (h : Dg B l) (i : Nat) : vl B l % B ^ i = vl B (l.take i) := by
  by_cases hi : i ≤ l.length
  · conv => lhs; rw [← List.take_append_drop i l]
    rw [vl_append, List.length_take, Nat.min_eq_left hi, Nat.add_mul_mod_self_left, Nat.mod_eq_of_lt (vl_lt_of hB (h.take i) (by simp; omega))]
  · rw [List.take_of_length_le (by omega), Nat.mod_eq_of_lt (vl_lt_of hB h (by omega))]
theorem sl_n (l : List Nat) : (sl l).n = l.length := rfl
theorem sl_get {l : List Nat} (h : Dg 256 l) (i : Nat) : (sl l).get i = l.getD i 0 := by
  show Nat.mod (Nat.shiftRight (vl 256 l) (Nat.mul 8 i)) 256 = _
  rw [shr8, p8_pow, vl_div 256 (by decide) l h i]
  by_cases hi : i < l.length
  · rw [List.drop_eq_getElem_cons hi]
    simp only [vl]
    have e : l[i] = l.getD i 0 := by rw [List.getD_eq_getElem?_getD, List.getElem?_eq_getElem hi]; rfl
    rw [e]
    have : l.getD i 0 < 256 := h.get (by decide) i
    show (l.getD i 0 + 256 * vl 256 (l.drop (i + 1))) % 256 = _
    omega
  · rw [List.drop_eq_nil_of_le (by omega), List.getD_eq_getElem?_getD, List.getElem?_eq_none (by omega)]; rfl
theorem sl_cut {l : List Nat} (h : Dg 256 l) (k m : Nat) (hk : k ≤ m) (hm : m ≤ l.length) : (sl l).cut k m = sl ((l.take m).drop k) := by
  unfold Str.cut sl
  congr 1
  · simp; omega
  · show Nat.mod (Nat.shiftRight (vl 256 l) (Nat.mul 8 k)) (AM.p8 (Nat.sub m k)) = _
    rw [shr8, p8_pow, p8_pow, vl_div 256 (by decide) l h k]
    show vl 256 (l.drop k) % 256 ^ (m - k) = _
    rw [vl_mod 256 (by decide) _ (h.drop k), List.drop_take]
theorem sl_app {a b : List Nat} (ha : Dg 256 a) : (sl a).app (sl b) = sl (a ++ b) := by
  unfold Str.app sl
  congr 1
  · simp
  · show Nat.mod (vl 256 a) (AM.p8 a.length) + Nat.shiftLeft (vl 256 b) (Nat.mul 8 a.length) = _
    rw [shl8, p8_pow, vl_append, Nat.mul_comm (vl 256 b)]
    congr 1
    exact Nat.mod_eq_of_lt (vl_lt (by decide) ha)
theorem vl_inj' (B : Nat) : ∀ (a b : List Nat), Dg B a → Dg B b → a.length = b.length → vl B a = vl B b → a = b := by
  intro a
  induction a with
  | nil => intro b _ _ hl _; exact (List.length_eq_zero_iff.1 hl.symm).symm
  | cons x a ih =>
    intro b da db hl hv
    cases b with
    | nil => simp at hl
    | cons y b =>
      have hx : x < B := da x (by simp)
      have hy : y < B := db y (by simp)
      simp only [vl] at hv
      have e1 : x = y := by
        have h1 : (x + B * vl B a) % B = (y + B * vl B b) % B := by rw [hv]
        rwa [Nat.add_mul_mod_self_left, Nat.add_mul_mod_self_left, Nat.mod_eq_of_lt hx, Nat.mod_eq_of_lt hy] at h1
      subst e1
      have e2 : vl B a = vl B b := by
        have h1 : B * vl B a = B * vl B b := by omega
        exact Nat.eq_of_mul_eq_mul_left (by omega) h1
      rw [ih b (fun z hz => da z (by simp [hz])) (fun z hz => db z (by simp [hz])) (by simpa using hl) e2]
theorem sl_same {a b : List Nat} (ha : Dg 256 a) (hb : Dg 256 b) : (sl a).same (sl b) = decide (a = b) := by
  rw [Bool.eq_iff_iff, decide_eq_true_iff]
  unfold Str.same sl
  rw [Bool.and_eq_true, Nat.beq_eq, Nat.beq_eq]
  show _ ∧ vl 256 a % AM.p8 a.length = vl 256 b % AM.p8 b.length ↔ _
  rw [p8_pow, p8_pow, Nat.mod_eq_of_lt (vl_lt (by decide) ha), Nat.mod_eq_of_lt (vl_lt (by decide) hb)]
  constructor
  · intro ⟨h1, h2⟩; exact vl_inj' 256 a b ha hb h1 h2
  · intro h; subst h; exact ⟨rfl, rfl⟩
theorem pk_vl (l : List UInt8) : pk l = vl 256 (l.map UInt8.toNat) := by
  induction l with
  | nil => rfl
  | cons b l ih => simp only [pk, List.map_cons, vl, ih]
theorem ofL_sl (l : List UInt8) : Str.ofL l = sl (l.map UInt8.toNat) := by
  unfold Str.ofL sl
  rw [pk_vl, List.length_map]
theorem of_sl (s : ByteArray) : Str.of s = sl (s.data.toList.map UInt8.toNat) := by
  unfold Str.of sl
  rw [pk_vl, List.length_map, Array.length_toList]; rfl
theorem bytes_dg (l : List UInt8) : Dg 256 (l.map UInt8.toNat) := by
  intro x hx
  obtain ⟨b, _, rfl⟩ := List.mem_map.1 hx
  exact b.toNat_lt
theorem rune_ascii {l : List Nat} (h : Dg 256 l) (i : Nat) (ha : l.getD i 0 < 128) : (sl l).rune i = (l.getD i 0, 1) := by
  unfold Str.rune
  rw [sl_get h i, show Nat.blt (l.getD i 0) 128 = true from by rw [Nat.blt_eq]; exact ha]
  rfl
theorem rune_big {l : List Nat} (h : Dg 256 l) (i : Nat) (hi : i < l.length) (ha : ¬ l.getD i 0 < 128) : 128 ≤ ((sl l).rune i).1 ∧ ((sl l).rune i).1 < 2147483648 := by
  have hs := Str.rune_spec (sl l) (i := i) hi
  rw [hs]
  obtain ⟨b, h1, h2⟩ := (sl l).get_spec hi
  rw [sl_get h i] at h2
  have h3 : ((sl l).bytes.get! (i + 0)).toNat = l.getD i 0 := by
    have : (sl l).bytes.data[i]? = some b := by rw [← Array.getElem?_toList]; exact h1
    have h4 : (sl l).bytes.get! (i + 0) = b := by
      show (sl l).bytes.data[i + 0]! = b
      rw [Nat.add_zero, getElem!_def, this]
    rw [h4]; exact h2.symm
  unfold Utf8.decode
  simp only [h3]
  rw [if_neg ha]
  have b1 : ∀ k, ((sl l).bytes.get! (i + k)).toNat < 256 := fun k => ((sl l).bytes.get! (i + k)).toNat_lt
  have c1 := b1 1; have c2 := b1 2; have c3 := b1 3
  have e : Utf8.runeError = 65533 := rfl
  have hl : l.getD i 0 < 256 := h.get (by decide) i
  split
  · split
    · rename_i hc; exact ⟨hc, by show _ < 2147483648; omega⟩
    · rw [e]; exact ⟨by decide, by decide⟩
  · split
    · split
      · rename_i hc
        simp only [Bool.and_eq_true, decide_eq_true_eq] at hc
        exact ⟨by have := hc.1; show 128 ≤ _; omega, by show _ < 2147483648; omega⟩
      · rw [e]; exact ⟨by decide, by decide⟩
    · split
      · split
        · rename_i hc
          simp only [Bool.and_eq_true, decide_eq_true_eq] at hc
          exact ⟨by have := hc.1; show 128 ≤ _; omega, by show _ < 2147483648; omega⟩
        · rw [e]; exact ⟨by decide, by decide⟩
      · rw [e]; exact ⟨by decide, by decide⟩

section
variable {P : Program} {C : Cfg} {call : CallF} {gl : Nat → Bool} {o : Oper} {tm : Tm} {loc : Lo} {hp : Hp} {j : V → Lo → Hp → R}
theorem gen_range {d x : Nat} {t : TypeId} {s : Str} (hd : o.dst = some d) (ho : o.op = .range t (.tmp x)) (hu : P.underlying t = some .string) (hg : gl d = false) :
    gen P C call gl o (pt .lf x (.str s)) tm loc hp j = j (.ptr (.loc d ((lg loc d).1 + 1)) 0) (lp loc d ((lg loc d).1 + 1, .iter s 0)) hp := by
  refine gen_val (v := .ptr (.loc d ((lg loc d).1 + 1)) 0) (st := ⟨pt .lf x (.str s), lp loc d ((lg loc d).1 + 1, .iter s 0), hp⟩) hd ?_
  have hx : gt (pt .lf x (.str s)) x = .str s := by rw [gt_pt, if_pos rfl]
  have hp1 : locV P C gl (⟨pt .lf x (.str s), loc, hp⟩ : St).ρ (⟨pt .lf x (.str s), loc, hp⟩ : St).lc o = some (.ptr (.loc d ((lg loc d).1 + 1)) 0, some (d, (lg loc d).1 + 1, .iter s 0)) := by
    unfold locV
    simp only [ho, hu, opd_gt, hx, hd, hg, cond_false, lc_lg]
  unfold stepV
  rw [hp1]
  simp only [applyL, aset_lp]
theorem gen_next {d x s g pos : Nat} {u : Str} (hd : o.dst = some d) (ho : o.op = .next (.tmp x) true) (hr : lg loc s = (g, .iter u pos)) (hlt : pos < u.n) :
    gen P C call gl o (pt .lf x (.ptr (.loc s g) 0)) tm loc hp j = j (.tuple [.bool true, .int .i64 (.ofNat pos), .int .i32 (.ofNat (u.rune pos).1)]) (lp loc s (g, .iter u (pos + (u.rune pos).2))) hp := by
  have hx : gt (pt .lf x (.ptr (.loc s g) 0)) x = .ptr (.loc s g) 0 := by rw [gt_pt, if_pos rfl]
  refine gen_val (v := .tuple [.bool true, .int .i64 (.ofNat pos), .int .i32 (.ofNat (u.rune pos).1)]) (st := ⟨pt .lf x (.ptr (.loc s g) 0), lp loc s (g, .iter u (pos + (u.rune pos).2)), hp⟩) hd ?_
  have hp1 : locV P C gl (⟨pt .lf x (.ptr (.loc s g) 0), loc, hp⟩ : St).ρ (⟨pt .lf x (.ptr (.loc s g) 0), loc, hp⟩ : St).lc o = none := by
    unfold locV
    simp only [ho, pureV, Option.map_none]
  unfold stepV
  rw [hp1]
  unfold stepG
  have hrow : getRow ⟨pt .lf x (.ptr (.loc s g) 0), loc, hp⟩ (.loc s g) = some (.iter u pos) := getRow_loc hr
  simp only [ho, opd_gt, hx, hrow]
  rw [show Nat.blt pos u.n = true from by rw [Nat.blt_eq]; exact hlt]
  simp only [cond_true, setRow_loc]
  rfl
theorem gen_next_end {d x s g pos : Nat} {u : Str} (hd : o.dst = some d) (ho : o.op = .next (.tmp x) true) (hr : lg loc s = (g, .iter u pos)) (hlt : ¬ pos < u.n) :
    gen P C call gl o (pt .lf x (.ptr (.loc s g) 0)) tm loc hp j = j (.tuple [.bool false]) loc hp := by
  have hx : gt (pt .lf x (.ptr (.loc s g) 0)) x = .ptr (.loc s g) 0 := by rw [gt_pt, if_pos rfl]
  refine gen_val (v := .tuple [.bool false]) (st := ⟨pt .lf x (.ptr (.loc s g) 0), loc, hp⟩) hd ?_
  have hp1 : locV P C gl (⟨pt .lf x (.ptr (.loc s g) 0), loc, hp⟩ : St).ρ (⟨pt .lf x (.ptr (.loc s g) 0), loc, hp⟩ : St).lc o = none := by
    unfold locV
    simp only [ho, pureV, Option.map_none]
  unfold stepV
  rw [hp1]
  unfold stepG
  have hrow : getRow ⟨pt .lf x (.ptr (.loc s g) 0), loc, hp⟩ (.loc s g) = some (.iter u pos) := getRow_loc hr
  simp only [ho, opd_gt, hx, hrow]
  rw [show Nat.blt pos u.n = false from by
    cases h : Nat.blt pos u.n with
    | false => rfl
    | true => exact absurd (by rwa [Nat.blt_eq] at h) hlt]
  rfl
theorem bytesOf_nl (l : List Nat) : bytesOf (nl .u8 l) = some (l.map UInt8.ofNat) := by
  unfold nl
  induction l with
  | nil => rfl
  | cons x l ih => simp only [List.map_cons, bytesOf, ih, Option.map_some]; rfl
theorem ofL_bytes {l : List Nat} (h : Dg 256 l) : Str.ofL (l.map UInt8.ofNat) = sl l := by
  rw [ofL_sl]
  congr 1
  rw [List.map_map]
  conv => rhs; rw [← List.map_id l]
  refine List.map_congr_left (fun x hx => ?_)
  have : x < 256 := h x hx
  show (UInt8.ofNat x).toNat = x
  rw [UInt8.toNat_ofNat']
  exact Nat.mod_eq_of_lt this
/-- a text made of bytes -/
theorem gen_text {d x : Nat} {s t e : TypeId} {w : V} {l : List Nat} (hd : o.dst = some d) (ho : o.op = .convert s t (.tmp x)) (h1 : P.underlying s = some (.slice e)) (h2 : P.underlying t = some .string) (h3 : P.underlying e = some (.int .u8)) (hw : ∀ q, w ≠ .str q)
    (hi : ∀ tm, itemsOf ⟨tm, loc, hp⟩ w = some (nl .u8 l)) (hl : Dg 256 l) :
    gen P C call gl o (pt .lf x w) tm loc hp j = j (.str (sl l)) loc hp := by
  have hx : gt (pt .lf x w) x = w := by rw [gt_pt, if_pos rfl]
  refine gen_val (v := .str (sl l)) (st := ⟨pt .lf x w, loc, hp⟩) hd ?_
  have hp1 : locV P C gl (⟨pt .lf x w, loc, hp⟩ : St).ρ (⟨pt .lf x w, loc, hp⟩ : St).lc o = none := by
    unfold locV
    simp only [ho, pureV, opd_gt, hx, convV, h1, h2]
    rfl
  unfold stepV
  rw [hp1]
  unfold stepG
  simp only [ho, hd, convS, h1, h2, h3, opd_gt, hx, hi]
  cases w with
  | str q => exact absurd rfl (hw q)
  | _ => simp only [bytesOf_nl, Option.map_some, ofL_bytes hl]
end
theorem idx_sl {l : List Nat} (h : Dg 256 l) (k : IntKind) (i : Nat) (hi : i < l.length) : idx Pg 9 (.str (sl l)) (.int k (.ofNat i)) = some (.int .u8 (.ofNat (l.getD i 0))) := by
  have hu : G.isStr (Pg.underlying 9) = true := by rw [U9]; rfl
  show (bif G.isStr (Pg.underlying 9) then (bif Nat.blt i l.length then some (V.int .u8 (.ofNat ((sl l).get i))) else none) else none) = _
  rw [hu, show Nat.blt i l.length = true from by rw [Nat.blt_eq]; exact hi, sl_get h i]
  rfl
theorem slc_str' {P : Program} {t : TypeId} (hu : P.underlying t = some .string) {l : List Nat} (h : Dg 256 l) (k : IntKind) (i : Nat) (hi : i ≤ l.length) : slc P t (.str (sl l)) (some (.int k (.ofNat i))) none none = some (.str (sl (l.drop i))) := by
  have e0 : slc P t (.str (sl l)) (some (.int k (.ofNat i))) none none = F.sliceV P t (.str (sl l)) (some (.ofNat i)) none none := rfl
  rw [e0]
  unfold F.sliceV
  simp only [hu]
  unfold F.sliceStr
  simp only [Option.getD_none, Option.getD_some, F.toNatLe, sl_n]
  have e1 : Nat.ble l.length l.length = true := by rw [Nat.ble_eq]; exact Nat.le_refl _
  have e2 : Nat.ble i l.length = true := by rw [Nat.ble_eq]; exact hi
  show (match (bif Nat.ble l.length l.length then some l.length else none) with
    | none => none
    | some h => match (bif Nat.ble i h then some i else none) with
      | none => none
      | some k => some (V.str ((sl l).cut k h))) = _
  rw [e1]
  simp only [cond_true, e2]
  rw [sl_cut h i l.length hi (Nat.le_refl _), List.take_length]
theorem slc_str {l : List Nat} (h : Dg 256 l) (k : IntKind) (i : Nat) (hi : i ≤ l.length) : slc Pg 9 (.str (sl l)) (some (.int k (.ofNat i))) none none = some (.str (sl (l.drop i))) := slc_str' U9 h k i hi
theorem eq_str (t : TypeId) (cn : Bool) {a b : List Nat} (ha : Dg 256 a) (hb : Dg 256 b) : bin Pg .eql t cn (.str (sl a)) (.str (sl b)) = some (.bool (decide (a = b))) := by
  show some (V.bool ((sl a).same (sl b))) = _
  rw [sl_same ha hb]
theorem eq_nil (t : TypeId) (cn : Bool) {a : List Nat} (ha : Dg 256 a) : bin Pg .eql t cn (.str (sl a)) (.str ⟨0, 0⟩) = some (.bool (decide (a = []))) := eq_str t cn ha (b := []) (Dg.nil 256)
theorem add_str0 (t : TypeId) (cn : Bool) (x y : Str) : bin Pg .add t cn (.str x) (.str y) = strOp .add x y := rfl
theorem str_add (x y : Str) (h : Nat.ble (Nat.add x.n y.n) 4611686018427387904 = true) : strOp .add x y = some (.str (x.app y)) := by
  unfold strOp
  rw [h]; rfl
theorem add_str (t : TypeId) (cn : Bool) {a b : List Nat} (ha : Dg 256 a) (hl : a.length + b.length ≤ 4611686018427387904) : bin Pg .add t cn (.str (sl a)) (.str (sl b)) = some (.str (sl (a ++ b))) := by
  rw [add_str0, str_add _ _ (Nat.ble_eq_true_of_le hl), sl_app ha]
attribute [go_sem] sl_n
end Go.AM.S
end

section
namespace Go.AM.S
open Go Go.AM Go.Proofs NumL
open _root_.Go.AM.G (R)
set_option linter.unusedVariables false
set_option linter.unusedSimpArgs false
set_option maxRecDepth 100000
open Go.Proofs.YtjldfkldmfmkiaaDoor
variable {L : List (Nat × Int × Int)}
theorem runs_any {f : FuncId} {args : List V} {o : Out} {h : Hp} (hr : ∀ n, fn Pg (kn L) tbl (n + 40) f args h = some o) : Runs Pg (kn L) tbl f args h o :=
  ⟨40, fun n hn => by obtain ⟨m, rfl⟩ := Nat.exists_eq_add_of_le hn; rw [Nat.add_comm]; exact hr m⟩
theorem tbl31 : tbl 31 = some ⟨rc31, [.tmp 2, .tmp 3]⟩ := by kernel_rfl
theorem tbl32 : tbl 32 = some ⟨rc32, [.tmp 4]⟩ := by kernel_rfl
theorem tbl21 : tbl 21 = some ⟨rc21, [.tmp 4]⟩ := by kernel_rfl
theorem tbl23 : tbl 23 = some ⟨rc23, [.tmp 2]⟩ := by kernel_rfl
theorem tbl16 : tbl 16 = some ⟨rc16, [.tmp 2]⟩ := by kernel_rfl
theorem kn31 : kn L 31 = none := by kernel_rfl
theorem kn32 : kn L 32 = none := by kernel_rfl
theorem kn21 : kn L 21 = none := by kernel_rfl
theorem kn23 : kn L 23 = none := by kernel_rfl
theorem kn16 : kn L 16 = none := by kernel_rfl
theorem kind33 (h : Hp) : Runs Pg (kn L) tbl 33 [.int .i32 (.ofNat 32), .int .i64 (.ofNat 1)] h (.val (.int .i64 (.ofNat 1)) h) := runs_any (fun n => by kernel_rfl)
theorem ne_nil (t : TypeId) (cn : Bool) {a : List Nat} (ha : Dg 256 a) (h : a ≠ []) : bin Pg .neq t cn (.str (sl a)) (.str ⟨0, 0⟩) = some (.bool true) := by
  show some (V.bool (!((sl a).same (sl [])))) = _
  rw [sl_same ha (Dg.nil 256), decide_eq_false h]; rfl
theorem head_len {l : List Nat} (h : l.getD 0 0 = 32) : 0 < l.length := by
  rcases Nat.lt_or_ge 0 l.length with q | q
  · exact q
  · have : l = [] := List.length_eq_zero_iff.1 (by omega)
    subst this; simp at h
theorem dec31 {l : List Nat} (hd : Dg 256 l) (h0 : l.getD 0 0 = 32) (h : Hp) : Runs Pg (kn L) tbl 31 [.str (sl l)] h (.val (.tuple [.int .i32 (.ofNat 32), .int .i64 (.ofNat 1)]) h) := by
  have hl := head_len h0
  have hne : l ≠ [] := by intro e; subst e; simp at hl
  have e1 := ne_nil 9 true hd hne
  have e2 : idx Pg 9 (.str (sl l)) (.int .i64 (.ofNat 0)) = some (.int .u8 (.ofNat 32)) := by rw [idx_sl hd .i64 0 hl, h0]
  have e3 : decide (32 < 128) = true := by decide
  refine runs_of_ww kn31 tbl31 ?_
  unfold rc31
  refine sR ?_
  refine sQG3 e1 e2 e3 ?_
  refine ww_true sS ?_
  refine sRG1 e2 ?_
  exact ww_ret (fin_two (v := .int .i32 (.ofNat 32)) (w := .int .i64 (.ofNat 1)) sS sS (Ex1.int _ _) (Ex1.int _ _) rfl rfl rfl)
theorem slc_hi {P : Program} {t : TypeId} (hu : P.underlying t = some .string) {l : List Nat} (h : Dg 256 l) (k : IntKind) (i : Nat) (hi : i ≤ l.length) : slc P t (.str (sl l)) none (some (.int k (.ofNat i))) none = some (.str (sl (l.take i))) := by
  have e0 : slc P t (.str (sl l)) none (some (.int k (.ofNat i))) none = F.sliceV P t (.str (sl l)) none (some (.ofNat i)) none := rfl
  rw [e0]
  unfold F.sliceV
  simp only [hu]
  unfold F.sliceStr
  simp only [Option.getD_none, Option.getD_some, F.toNatLe, sl_n]
  have e2 : Nat.ble i l.length = true := by rw [Nat.ble_eq]; exact hi
  have e3 : Nat.ble 0 i = true := by rw [Nat.ble_eq]; exact Nat.zero_le _
  show (match (bif Nat.ble i l.length then some i else none) with
    | none => none
    | some h => match (bif Nat.ble 0 h then some 0 else none) with
      | none => none
      | some k => some (V.str ((sl l).cut k h))) = _
  rw [e2]
  simp only [cond_true, e3]
  rw [sl_cut h 0 i (Nat.zero_le _) hi, List.drop_zero]
theorem eq_open (t : TypeId) (cn : Bool) {a : List Nat} (ha : Dg 256 a) (h : a.getD 0 0 = 32) : bin Pg .eql t cn (.str (sl a)) (.str ⟨2, 10792⟩) = some (.bool false) := by
  have := eq_str t cn ha (b := [40, 42]) (by intro x hx; simp at hx; omega)
  rw [show (⟨2, 10792⟩ : Str) = sl [40, 42] from rfl, this, decide_eq_false (by intro e; rw [e] at h; simp at h)]
theorem pre32 {l : List Nat} (hd : Dg 256 l) (h0 : l.getD 0 0 = 32) (h : Hp) : Runs Pg (kn L) tbl 32 [.str (sl l), .str ⟨2, 10792⟩] h (.val (.bool false) h) := by
  have hl := head_len h0
  refine runs_of_ww kn32 tbl32 ?_
  unfold rc32
  refine sR ?_
  by_cases h2 : 2 ≤ l.length
  · have e1 := slc_hi (t := 9) U9 hd .i64 2 h2
    have e2 := eq_open 9 false (hd.take 2) (by rw [List.getD_eq_getElem?_getD, List.getElem?_take_of_lt (by decide), ← List.getD_eq_getElem?_getD]; exact h0)
    have e3 : decide (2 ≤ l.length) = true := decide_eq_true h2
    refine sRG3 e1 e2 e3 ?_
    exact ww_ret (fin_tmp (v := .bool false) sS rfl rfl rfl)
  · have e3 : decide (2 ≤ l.length) = false := decide_eq_false h2
    refine ww_seq (ww_reg (fun n k => by simp -implicitDefEqProofs (disch := omega) only [go_sem, reduceIte, Nat.reduceEqDiff, gt_start, List.getD_cons_zero, List.getD_cons_succ, e3, Bool.not_false]; rfl) ?_)
    exact ww_ret (fin_tmp (v := .bool false) sS rfl rfl rfl)
theorem pre21 {l : List Nat} (hd : Dg 256 l) (h0 : l.getD 0 0 = 32) (h : Hp) : Runs Pg (kn L) tbl 21 [.str (sl l), .str ⟨2, 10792⟩] h (.val (.bool false) h) := by
  refine runs_of_ww kn21 tbl21 ?_
  unfold rc21
  refine sR ?_
  refine ww_seq (ww_call (pre32 (L := L) hd h0 ⟨h.rows, none, h.mods⟩) (fun n hn k => by simp -implicitDefEqProofs (disch := omega) only [go_sem, reduceIte, Nat.reduceEqDiff, gt_start, List.getD_cons_zero, List.getD_cons_succ, clc2 hn (Ex1.str _) (Ex1.str _)]; rfl) ?_)
  exact ww_ret (fin_tmp (v := .bool false) sS rfl rfl rfl)
theorem nilC_ptr (r : Ref) (o : Nat) : nilC (.ptr r o) = some (.ptr r o) := rfl
/-- the lexer's row: its text, how far it was read -/
def LxR (l : List Nat) (i : Nat) : Row := .cells false [.str (sl l), .int .i64 (.ofNat i)]
theorem first23 {l : List Nat} (hd : Dg 256 l) {i : Nat} (hi : i ≤ l.length) (h0 : (l.drop i).getD 0 0 = 32) {h : Hp} {r : Nat} (hr : h.rows[r]? = some (LxR l i)) : Runs Pg (kn L) tbl 23 [.ptr (.glob r) 0] h (.val (.int .i64 (.ofNat 1)) h) := by
  have hr' : F.nthR h.rows r = some (.cells false [.str (sl l), .int .i64 (.ofNat i)]) := by rw [F.nthR_eq]; exact hr
  refine runs_of_ww kn23 tbl23 ?_
  unfold rc23
  refine sR ?_
  refine ww_seq (ww_call (dec31 (L := L) (hd.drop i) h0 ⟨h.rows, none, h.mods⟩) (fun n hn k => by simp -implicitDefEqProofs (disch := omega) only [go_sem, reduceIte, Nat.reduceEqDiff, gt_start, List.getD_cons_zero, List.getD_cons_succ, nilC_ptr, hr', slc_str hd .i64 i hi, cld1 hn (Ex1.str _) rfl]; exact finD_ok (by kernel_rfl)) ?_)
  refine ww_seq (ww_call (kind33 (L := L) ⟨h.rows, none, h.mods⟩) (fun n hn k => by simp -implicitDefEqProofs (disch := omega) only [go_sem, reduceIte, Nat.reduceEqDiff, clc2 hn (Ex1.int _ _) (Ex1.int _ _)]; rfl) ?_)
  exact ww_ret (fin_tmp (v := .int .i64 (.ofNat 1)) sS rfl rfl rfl)
section
variable {P : Program} {C : Cfg} {call : CallF} {gl : Nat → Bool} {o : Oper} {loc : Lo} {hp : Hp} {t' tm : Tm} {j : V → Lo → Hp → R}
theorem gen_store_one {t : TypeId} {a x r off : Nat} {k : IntKind} {n : Int} {cs cs' : List V} (ho : o.op = .store t (.tmp a) (.tmp x)) (hd : o.dst = none) (hl : lenIs P t 1 = true)
    (ha : gt t' a = .ptr (.glob r) off) (hx : gt t' x = .int k n) (hr : hp.rows[r]? = some (.cells false cs)) (hs : setAt cs off [.int k n] = some cs') :
    gen P C call gl o t' tm loc hp j = j (.tuple []) loc (hset hp r (.cells false cs')) := by
  refine gen_none (v := .tuple []) (st := ⟨t', loc, hset hp r (.cells false cs')⟩) hd ?_
  have hp1 : locV P C gl (⟨t', loc, hp⟩ : St).ρ (⟨t', loc, hp⟩ : St).lc o = none := by
    unfold locV
    simp only [ho, opd_gt, ha]
  unfold stepV
  rw [hp1]
  unfold stepG
  have he : exp false ⟨t', loc, hp⟩ (.int k n) = some (.int k n, ⟨t', loc, hp⟩) := rfl
  simp only [ho, opd_gt, ha, hx, hr, he, V.cells, List.all_cons, V.cellOk, List.all_nil, Bool.and_self, List.length_cons, List.length_nil, Nat.zero_add, hl, cond_true, hs, setRow_glob]
end
theorem st16 {hp : Hp} {r i : Nat} {l : List Nat} (hr : hp.rows[r]? = some (LxR l i)) (x : Nat) (c : CallF) (t0 : Tm) (lo : Lo) (j : V → Lo → Hp → R) :
    go2 Tryd.f16 16 8 7 40 38 (.ptr (.glob r) 1) (.int .i64 (.ofNat x)) c t0 lo hp j = j (.tuple []) lo (hset hp r (LxR l x)) :=
  gen_store_one (t := 3) (a := 40) (x := 38) (by kernel_rfl) (by kernel_rfl) (by kernel_rfl) (by rw [gt_pt, if_neg (by decide), gt_pt, if_pos rfl]) (by rw [gt_pt, if_pos rfl]) hr rfl
theorem fin_any {h : Hp} {t : Nat} {s : St} {v : V} (hv : gt s.tm t = v) (he : Ex1 v) : fin Pg h [.tmp t] s = some (.val v (backHp h s.hp [v])) := by
  unfold fin
  simp only [resV, rho_gt, hv, Option.map_some, exps, he s]
def HPi (h : Hp) (r : Nat) (l : List Nat) (i : Nat) : Hp := ⟨h.rows.set r (LxR l i), if i = 0 then none else some r, h.mods + i⟩
theorem set_self {l : List Row} {i : Nat} {x : Row} (h : l[i]? = some x) : l.set i x = l := by
  refine List.ext_getElem? fun k => ?_
  rw [List.getElem?_set]
  by_cases e : i = k
  · subst e
    rw [if_pos rfl]
    split
    · exact h.symm
    · rename_i q; rw [List.getElem?_eq_none (by omega)]
  · rw [if_neg e]
theorem HPi_at {h : Hp} {r : Nat} (hr : r < h.rows.length) (l : List Nat) (i : Nat) : (HPi h r l i).rows[r]? = some (LxR l i) := by
  show (h.rows.set r (LxR l i))[r]? = _
  rw [List.getElem?_set_self hr]
theorem HPi_set (h : Hp) (r : Nat) (l : List Nat) (i : Nat) : hset (HPi h r l i) r (LxR l (i + 1)) = HPi h r l (i + 1) := by
  unfold hset HPi
  simp only [List.set_set, Nat.add_eq_zero_iff, Nat.one_ne_zero, and_false, if_false, Hp.mk.injEq, true_and]
  refine ⟨?_, by omega⟩
  by_cases h0 : i = 0
  · rw [if_pos h0]; rfl
  · rw [if_neg h0]; show some (min r r) = _; rw [Nat.min_self]
theorem blanks16 {m : Nat} (hm1 : 0 < m) (hm : m ≤ 65536) {h : Hp} {r : Nat} (hr : h.rows[r]? = some (LxR (List.replicate m 32) 0)) : Runs Pg (kn L) tbl 16 [.ptr (.glob r) 0] h (.val .nili (backHp h (HPi h r (List.replicate m 32) m) [.nili])) := by
  have hlen : r < h.rows.length := by
    rcases Nat.lt_or_ge r h.rows.length with q | q
    · exact q
    · rw [List.getElem?_eq_none q] at hr; cases hr
  have hd : Dg 256 (List.replicate m 32) := by intro x hx; rw [List.mem_replicate] at hx; omega
  have h00 : (⟨h.rows, none, h.mods⟩ : Hp) = HPi h r (List.replicate m 32) 0 := by
    unfold HPi
    rw [if_pos rfl, Nat.add_zero]
    congr 1
    exact (set_self hr).symm
  have hll : (List.replicate m 32).length = m := List.length_replicate
  refine runs_of_ww kn16 tbl16 ?_
  rw [h00]
  unfold rc16
  refine sR ?_
  refine ww_joinX (fun s => s.hp = HPi h r (List.replicate m 32) m) ?_ (fun s ah => ?_)
  · refine ww_for (fun q s => ∃ i, q + i = m ∧ gt s.tm 0 = .ptr (.glob r) 0 ∧ s.hp = HPi h r (List.replicate m 32) i) m ⟨0, rfl, sSG, rfl⟩ ?_
    intro q s ⟨i, hq, h0, hh⟩
    obtain ⟨tm, loc, hp⟩ := s
    subst hh
    have h0 : gt tm 0 = .ptr (.glob r) 0 := h0
    have hrow := HPi_at hlen (List.replicate m 32) i
    have hrow' : F.nthR (HPi h r (List.replicate m 32) i).rows r = some (.cells false [.str (sl (List.replicate m 32)), .int .i64 (.ofNat i)]) := by rw [F.nthR_eq]; exact hrow
    refine ww_seq (ww_seq (ww_reg (fun n k => by simp -implicitDefEqProofs (disch := omega) only [go_sem, reduceIte, Nat.reduceEqDiff, h0, nilC_ptr, hrow', hll]; rfl) ?_))
    refine ww_if (by simp only [gt_pt, reduceIte]; rfl) (fun hi => ww_skip ?_) (fun hi => ww_exit ?_)
    · have h32 : ((List.replicate m 32).drop i).getD 0 0 = 32 := by
        rw [List.drop_replicate, show m - i = (m - i - 1) + 1 by omega, List.replicate_succ]; rfl
      refine ww_block (ww_block ?_)
      refine ww_seq (ww_call (pre21 (L := L) (hd.drop i) h32 (HPi h r (List.replicate m 32) i)) (fun n hn k => by simp -implicitDefEqProofs (disch := omega) only [go_sem, reduceIte, Nat.reduceEqDiff, h0, nilC_ptr, hrow', slc_str hd .i64 i (by rw [hll]; omega), cld2 hn (Ex1.str _) (Ex1.str _) rfl rfl]; exact finD_ok (by kernel_rfl)) ?_)
      refine ww_false sS ?_
      refine ww_seq (ww_call (first23 (L := L) hd (by rw [hll]; omega) h32 hrow) (fun n hn k => by simp -implicitDefEqProofs (disch := omega) only [go_sem, reduceIte, Nat.reduceEqDiff, h0, clc1 hn (fun _ => rfl)]; rfl) ?_)
      refine ww_true sS ?_
      refine ww_reg (fun n k => by simp -implicitDefEqProofs (disch := omega) only [go_sem, reduceIte, Nat.reduceEqDiff, h0, nilC_ptr, hrow', st16 hrow]; rfl) ?_
      exact ⟨q - 1, by omega, i + 1, by omega, (sS1 h0), HPi_set _ _ _ _⟩
    · rw [if_pos rfl]
      have : i = m := by omega
      subst this; rfl
  · refine sR ?_
    have e := fin_any (h := h) (t := 2) (s := ⟨pt s.tm 2 .nili, s.loc, s.hp⟩) (v := .nili) sS (fun _ => rfl)
    rw [ah] at e
    exact ww_ret (by rw [ah]; exact e)
end Go.AM.S
end

section
namespace Go.AM.S
open Go Go.AM Go.Proofs NumL
open _root_.Go.AM.G (R)
set_option linter.unusedVariables false
set_option linter.unusedSimpArgs false
set_option maxRecDepth 100000
open Go.Proofs.YtjldfkldmfmkiaaDoor
section
variable {P : Program} {kn : Kn} {tbl : Nat → Option Fc} {h0 : Hp} {res : List ResultVar} {o : Out} {s : St}
variable (P kn tbl h0 res o) in
/-- from some fuel on, the code's run returns, and that comes to this -/
def ZR (c : RC) (s : St) : Prop := Ev fun n => ∃ s', (∀ k, run (fn P kn tbl n) n c s.tm s.loc s.hp k = some (.ret, s')) ∧ FIN P h0 res (.ret, s') = some o
theorem runs_zr {f : FuncId} {fc : Fc} {args : List V} (hk : kn f = none) (ht : tbl f = some fc) (hw : ZR P kn tbl h0 fc.res o fc.rc ⟨startTm args, .lf, { h0 with dirty := none }⟩) : Runs P kn tbl f args h0 o :=
  runs_z hk ht (hw.mono fun n ⟨s', h1, h2⟩ => by
    show G.onSome (run (fn P kn tbl n) n fc.rc (startTm args) .lf { h0 with dirty := none } done) (FIN P h0 fc.res) none = some o
    have h1 := h1 done
    simp only at h1
    rw [h1]; exact h2)
theorem zr_assoc {a b c : RC} (hz : ZR P kn tbl h0 res o (.seq a (.seq b c)) s) : ZR P kn tbl h0 res o (.seq (.seq a b) c) s := hz.mono fun n hn => hn
theorem zr_first {a b : RC} (hz : ZR P kn tbl h0 res o a s) : ZR P kn tbl h0 res o (.seq a b) s := hz.mono fun n ⟨s', h1, h2⟩ => ⟨s', fun k => h1 _, h2⟩
theorem zr_reg {p : Nat → Prop} (hp : Ev p) {f : CallF → Tm → Lo → Hp → K → R} {b : RC} {tm' : Tm} {loc' : Lo} {hp' : Hp} (h : ∀ n, p n → ∀ k, f (fn P kn tbl n) s.tm s.loc s.hp k = k tm' loc' hp') (hz : ZR P kn tbl h0 res o b ⟨tm', loc', hp'⟩) : ZR P kn tbl h0 res o (.seq (.reg f) b) s := by
  refine (hp.and hz).mono fun n ⟨h1, s', h2, h3⟩ => ⟨s', fun k => ?_, h3⟩
  show f (fn P kn tbl n) s.tm s.loc s.hp (fun tm loc hp => run (fn P kn tbl n) n b tm loc hp k) = _
  rw [h n h1]
  exact h2 k
theorem zr_cond {t : Nat} {a b c : RC} {q : Bool} (hx : gt s.tm t = .bool q) (hz : ZR P kn tbl h0 res o (.seq (bif q then a else b) c) s) : ZR P kn tbl h0 res o (.seq (.cond (.tmp t) a b) c) s := by
  refine hz.mono fun n ⟨s', h1, h2⟩ => ⟨s', fun k => ?_, h2⟩
  show G.onBool (lk [] s.tm (.tmp t)) (fun b' => Bool.rec (motive := fun _ => R) (run (fn P kn tbl n) n b s.tm s.loc s.hp _) (run (fn P kn tbl n) n a s.tm s.loc s.hp _) b') none = _
  have e : lk [] s.tm (.tmp t) = .bool q := hx
  rw [e]
  cases q <;> exact h1 k
theorem zr_skip {c : RC} (hz : ZR P kn tbl h0 res o c s) : ZR P kn tbl h0 res o (.seq .skip c) s := hz.mono fun n hn => hn
theorem zr_block {i : Nat} {b : RC} (hz : ZR P kn tbl h0 res o b s) : ZR P kn tbl h0 res o (.block i b) s := hz.mono fun n ⟨s', h1, h2⟩ => ⟨s', fun k => by
  have key : run (fn P kn tbl n) n (.block i b) s.tm s.loc s.hp k = G.onSome (run (fn P kn tbl n) n b s.tm s.loc s.hp done) (fun p => Ex.rec (motive := fun _ => Nat → K → St → R) (fun _ k st => k st.tm st.loc st.hp)
      (fun i id k st => bif Nat.beq i id then k st.tm st.loc st.hp else some (.exit i, st)) (fun _ _ st => some (.ret, st)) (fun v _ _ st => some (.panic v, st)) p.1 i k p.2) none := rfl
  rw [key, h1]; rfl, h2⟩
theorem zr_loop {b : RC} (hz : ZR P kn tbl h0 res o b s) : ZR P kn tbl h0 res o (.loop b) s := by
  refine (Ev.and ⟨1, fun n hn => hn⟩ hz).mono fun n ⟨hn, s', h1, h2⟩ => ⟨s', fun k => ?_, h2⟩
  obtain ⟨m, rfl⟩ : ∃ m, n = m + 1 := ⟨n - 1, by omega⟩
  exact h1 _
theorem zr_ret (h2 : FIN P h0 res (.ret, s) = some o) : ZR P kn tbl h0 res o .ret s := Ev.of fun n => ⟨s, fun k => rfl, h2⟩
theorem ev_true : Ev fun _ => True := Ev.of fun _ => trivial
end
theorem p5_ : ∀ (t : Tm) (v : V), p5 t v = pt t 5 v := fun _ _ => rfl
theorem p27_ : ∀ (t : Tm) (v : V), p27 t v = pt t 27 v := fun _ _ => rfl
theorem p32_ : ∀ (t : Tm) (v : V), p32 t v = pt t 32 v := fun _ _ => rfl
theorem p37_ : ∀ (t : Tm) (v : V), p37 t v = pt t 37 v := fun _ _ => rfl
theorem p42_ : ∀ (t : Tm) (v : V), p42 t v = pt t 42 v := fun _ _ => rfl
theorem p44_ : ∀ (t : Tm) (v : V), p44 t v = pt t 44 v := fun _ _ => rfl
theorem p53_ : ∀ (t : Tm) (v : V), p53 t v = pt t 53 v := fun _ _ => rfl
theorem p55_ : ∀ (t : Tm) (v : V), p55 t v = pt t 55 v := fun _ _ => rfl
theorem g5_ : ∀ t : Tm, g5 t = gt t 5 := fun _ => rfl
theorem g6_ : ∀ t : Tm, g6 t = gt t 6 := fun _ => rfl
attribute [go_sem] p5_ p27_ p32_ p37_ p42_ p44_ p53_ p55_ g5_ g6_
variable {L : List (Nat × Int × Int)}
theorem tbl8 : tbl 8 = some ⟨rc8, [.tmp 2, .tmp 3]⟩ := by kernel_rfl
theorem kn8 : kn L 8 = none := by kernel_rfl
theorem r8_3 (X : Str) (R0 : List Row) (M : Nat) (c : CallF) (t t0 : Tm) (l : Lo) (j : V → Lo → Hp → R) : gn Tryd.f8 8 3 1 c (pt t 13 (.str X)) t0 l ⟨R0, none, M⟩ j = j (.agg [.str X, .int .i64 (.ofNat 0)]) l ⟨R0, none, M⟩ := by
  refine (gen_slots (t2 := pt .lf 13 (.str X)) (fun x hx => ?_)).trans ?_
  · have : x = 13 := by
      have e : tmpsOf (opA Tryd.f8 3 1) = [13] := by kernel_rfl
      rw [e] at hx; simpa using hx
    subst this
    rw [gt_pt, if_pos rfl, gt_pt, if_pos rfl]
  · kernel_rfl
section
variable {P : Program} {C : Cfg} {call : CallF} {gl : Nat → Bool} {o : Oper} {loc : Lo} {hp : Hp} {t' tm : Tm} {j : V → Lo → Hp → R}
theorem gen_boxG {t : TypeId} {d x : Nat} {cs : List V} (hd : o.dst = some d) (ho : o.op = .box t (.tmp x)) (ha : C.isArr t = false) (hg : gl d = true) (hv : gt t' x = .agg cs) (he : AM.exp false ⟨t', loc, hp⟩ (.agg cs) = some (.agg cs, ⟨t', loc, hp⟩)) :
    gen P C call gl o t' tm loc hp j = j (.ptr (.glob hp.rows.length) 0) loc ⟨hp.rows ++ [.cells false cs], hp.dirty, hp.mods⟩ := by
  refine gen_val (v := .ptr (.glob hp.rows.length) 0) (st := ⟨t', loc, ⟨hp.rows ++ [.cells false cs], hp.dirty, hp.mods⟩⟩) hd ?_
  have hp1 : locV P C gl (⟨t', loc, hp⟩ : St).ρ (⟨t', loc, hp⟩ : St).lc o = none := by
    unfold locV
    simp only [ho, ha, cond_false, hd, hg, Bool.true_or, cond_true]
  unfold stepV
  rw [hp1]
  unfold stepG
  simp only [ho, hd, opd_gt, hv, he, hg, cond_true, addRow, V.cells]
end
theorem r8_3b (X : Str) (R0 : List Row) (M : Nat) (c : CallF) (t t0 : Tm) (l : Lo) (j : V → Lo → Hp → R) : gn Tryd.f8 8 3 2 c (pt t 14 (.agg [.str X, .int .i64 (.ofNat 0)])) t0 l ⟨R0, none, M⟩ j = j (.ptr (.glob R0.length) 0) l ⟨R0 ++ [.cells false [.str X, .int .i64 (.ofNat 0)]], none, M⟩ :=
  gen_boxG (t := 47) (d := 15) (x := 14) (by kernel_rfl) (by kernel_rfl) (by kernel_rfl) (by kernel_rfl) (by rw [gt_pt, if_pos rfl]) (exp_agg (by intro v hv; simp at hv; rcases hv with rfl | rfl; exact Pl.str _; exact Pl.int _ _) _)
theorem back16 {h : Hp} {r : Nat} (hr : r < h.rows.length) (hd : h.dirty = none) (l : List Nat) {m : Nat} (hm : 0 < m) : backHp h (HPi h r l m) [.nili] = HPi h r l m := by
  have e : (HPi h r l m).dirty = some r := by unfold HPi; rw [if_neg (by omega)]
  have hc : cleanB h (HPi h r l m) = false := by
    unfold cleanB
    rw [e]
    show Nat.ble h.rows.length r = false
    rw [← Bool.not_eq_true, Nat.ble_eq]; omega
  unfold backHp
  rw [hc, cond_false, e, hd]
  show (⟨(HPi h r l m).rows, some r, (HPi h r l m).mods⟩ : Hp) = _
  rw [← e]
theorem r8_9a (m : Nat) (c : CallF) (t t0 : Tm) (l : Lo) (h : Hp) (j : V → Lo → Hp → R) : gn Tryd.f8 8 9 3 c (pt t 30 (.int .i64 (.ofNat m))) t0 l h j = j (.agg [.int .i64 (.ofNat 0), .str ⟨0, 0⟩, .int .i64 (.ofNat m)]) l h := by
  refine (gen_slots (t2 := pt .lf 30 (.int .i64 (.ofNat m))) (fun x hx => ?_)).trans ?_
  · have : x = 30 := by
      have e : tmpsOf (opA Tryd.f8 9 3) = [30] := by kernel_rfl
      rw [e] at hx; simpa using hx
    subst this
    rw [gt_pt, if_pos rfl, gt_pt, if_pos rfl]
  · kernel_rfl
theorem bs8_9 (m : Nat) : bs Pg 24 1 [(0, .agg [.int .i64 (.ofNat 0), .str ⟨0, 0⟩, .int .i64 (.ofNat m)])] = some (.slice none true 3 [.agg [.int .i64 (.ofNat 0), .str ⟨0, 0⟩, .int .i64 (.ofNat m)]]) := by kernel_rfl
theorem r8_9b (m : Nat) (c : CallF) (t t0 : Tm) (h : Hp) (j : V → Lo → Hp → R) : gn Tryd.f8 8 9 5 c (pt (pt t 28 .nils) 32 (.slice none true 3 [.agg [.int .i64 (.ofNat 0), .str ⟨0, 0⟩, .int .i64 (.ofNat m)]])) t0 .lf h j = j (.slice (some (.loc 33 1)) false 3 [.agg [.int .i64 (.ofNat 0), .str ⟨0, 0⟩, .int .i64 (.ofNat m)]]) (lp .lf 33 (1, .tok)) h := by
  refine (gen_slots (t2 := pt (pt .lf 28 .nils) 32 (.slice none true 3 [.agg [.int .i64 (.ofNat 0), .str ⟨0, 0⟩, .int .i64 (.ofNat m)]])) (fun x hx => ?_)).trans ?_
  · have : x = 28 ∨ x = 32 := by
      have e : tmpsOf (opA Tryd.f8 9 5) = [28, 32] := by kernel_rfl
      rw [e] at hx; simpa using hx
    rcases this with rfl | rfl
    · rw [gt_pt, if_neg (by decide), gt_pt, if_pos rfl, gt_pt, if_neg (by decide), gt_pt, if_pos rfl]
    · rw [gt_pt, if_pos rfl, gt_pt, if_pos rfl]
  · kernel_rfl
/-- what the tokens of so many blanks are -/
def endT (m : Nat) : V := .slice none false 3 [.agg [.int .i64 (.ofNat 0), .str ⟨0, 0⟩, .int .i64 (.ofNat m)]]
theorem fin_tok {H : Hp} {s : St} {m : Nat} (h2 : gt s.tm 2 = .slice (some (.loc 33 1)) false 3 [.agg [.int .i64 (.ofNat 0), .str ⟨0, 0⟩, .int .i64 (.ofNat m)]]) (h3 : gt s.tm 3 = .nili) (hc : cleanB H s.hp = true) : FIN Pg H [.tmp 2, .tmp 3] (.ret, s) = some (.val (.tuple [endT m, .nili]) H) := by
  have e := finS (P := Pg) H [.tmp 2, .tmp 3] s
  refine (show FIN Pg H [.tmp 2, .tmp 3] (.ret, s) = fin Pg H [.tmp 2, .tmp 3] s from e).trans ?_
  unfold fin
  have e1 : resV Pg s [.tmp 2, .tmp 3] = some [.slice (some (.loc 33 1)) false 3 [.agg [.int .i64 (.ofNat 0), .str ⟨0, 0⟩, .int .i64 (.ofNat m)]], .nili] := by simp only [resV, rho_gt, h2, h3, Option.map_some]
  have e2 : exps false s [.slice (some (.loc 33 1)) false 3 [.agg [.int .i64 (.ofNat 0), .str ⟨0, 0⟩, .int .i64 (.ofNat m)]], .nili] = some ([endT m, .nili], s) := rfl
  have e3 : backHp H s.hp [endT m, .nili] = H := by unfold backHp; rw [hc]; rfl
  rw [e1]
  simp only [e2, e3]
theorem tok8 (H : Hp) (hH : H.dirty = none) {m : Nat} (hm1 : 0 < m) (hm : m ≤ 65536) : Runs Pg (kn L) tbl 8 [.str (sl (List.replicate m 32))] H (.val (.tuple [endT m, .nili]) H) := by
  refine runs_zr kn8 tbl8 ?_
  have hlm : (List.replicate m 32).length = m := List.length_replicate
  show ZR Pg (kn L) tbl H [.tmp 2, .tmp 3] _ rc8 ⟨startTm [.str (sl (List.replicate m 32))], .lf, ⟨H.rows, none, H.mods⟩⟩
  unfold rc8
  refine zr_reg ev_true (fun n hn k => by simp -implicitDefEqProofs only [go_sem, reduceIte, Nat.reduceEqDiff]; rfl) ?_
  refine zr_assoc (zr_reg ev_true (fun n hn k => by simp -implicitDefEqProofs only [go_sem, reduceIte, Nat.reduceEqDiff, gt_start, List.getD_cons_zero, hlm, decide_eq_false (show ¬ 65536 < m by omega)]; rfl) ?_)
  refine zr_cond (q := false) sS (zr_skip ?_)
  refine zr_reg (tm' := pt (pt (pt (pt (startTm [.str (sl (List.replicate m 32))]) 2 .nils) 3 .nili) 11 (.bool false)) 4 (.ptr (.glob H.rows.length) 0)) (loc' := .lf) (hp' := ⟨H.rows ++ [LxR (List.replicate m 32) 0], none, H.mods⟩) ev_true (fun n hn k => by simp -implicitDefEqProofs only [go_sem, reduceIte, Nat.reduceEqDiff, gt_start, List.getD_cons_zero, r8_3, r8_3b]; rfl) ?_
  obtain ⟨h1, eh1⟩ : ∃ h1 : Hp, h1 = ⟨H.rows ++ [LxR (List.replicate m 32) 0], none, H.mods⟩ := ⟨_, rfl⟩
  rw [← eh1]
  have hrow : h1.rows[H.rows.length]? = some (LxR (List.replicate m 32) 0) := by rw [eh1]; simp
  have hlt : H.rows.length < h1.rows.length := by rw [eh1]; simp
  have hb := blanks16 (L := L) hm1 hm hrow
  rw [back16 hlt (by rw [eh1]) _ hm1] at hb
  have hrow2 : F.nthR (HPi h1 H.rows.length (List.replicate m 32) m).rows H.rows.length = some (.cells false [.str (sl (List.replicate m 32)), .int .i64 (.ofNat m)]) := by rw [F.nthR_eq]; exact HPi_at hlt _ _
  refine zr_reg ev_true (fun n hn k => by simp -implicitDefEqProofs only [go_sem, reduceIte, Nat.reduceEqDiff]; rfl) ?_
  refine zr_block (zr_loop (zr_block ?_))
  refine zr_assoc (zr_reg hb (fun n hn k => by simp -implicitDefEqProofs only [go_sem, reduceIte, Nat.reduceEqDiff, clc1 hn (fun _ => rfl)]; rfl) ?_)
  have en : bin Pg .neq 26 true .nili .nili = some (.bool false) := by kernel_rfl
  refine zr_assoc (zr_reg ev_true (fun n hn k => by simp -implicitDefEqProofs only [go_sem, reduceIte, Nat.reduceEqDiff, en]; rfl) ?_)
  refine zr_cond (q := false) sS (zr_skip ?_)
  have ed : decide (m = m) = true := decide_eq_true rfl
  refine zr_assoc (zr_reg ev_true (fun n hn k => by simp -implicitDefEqProofs only [go_sem, reduceIte, Nat.reduceEqDiff, gt_start, List.getD_cons_zero, nilC_ptr, hrow2, hlm, ed]; rfl) ?_)
  refine zr_cond (q := true) sS (zr_assoc ?_)
  refine zr_reg ev_true (fun n hn k => by simp -implicitDefEqProofs only [go_sem, reduceIte, Nat.reduceEqDiff, gt_start, List.getD_cons_zero, hlm, r8_9a, bs8_9, r8_9b]; rfl) ?_
  refine zr_first (zr_ret ?_)
  refine fin_tok sS sS ?_
  show cleanB H (HPi h1 H.rows.length (List.replicate m 32) m) = true
  unfold cleanB HPi
  rw [if_neg (by omega)]
  show Nat.ble H.rows.length H.rows.length = true
  rw [Nat.ble_eq]; exact Nat.le_refl _
end Go.AM.S
end
