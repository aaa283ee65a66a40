/- Part Wa of the proof: what it says stands at its theorems. -/
import Derived.Test.YtjldfkldmfmkiaaDoorTc
import Derived.Test.YtjldfkldmfmkiaaDoorAw
import Derived.KernelRfl
import Derived.Test.YtjldfkldmfmkiaaDoorSd
import Derived.Lib.RuneCountTail
import Derived.Lib.RuneCount
import Derived.Lib.QuoteLoop
import Derived.Laws.RangeAny
set_option linter.unusedVariables false
set_option linter.unusedSimpArgs false
set_option linter.unusedSectionVars false
section
namespace Go.AM.S
open Go Go.AM Go.Proofs
open _root_.Go.AM.G (R)
set_option maxRecDepth 100000
set_option linter.defProp false
noncomputable section
def go1 (F : Func) (f id i x : Nat) (v : V) (c : CallF) (t : Tm) (l : Lo) (h : Hp) (j : V → Lo → Hp → R) : R := gn F f id i c (pt .lf x v) t l h j
def go2 (F : Func) (f id i x y : Nat) (v w : V) (c : CallF) (t : Tm) (l : Lo) (h : Hp) (j : V → Lo → Hp → R) : R := gn F f id i c (pt (pt .lf x v) y w) t l h j
theorem gn_go1 {F : Func} {f id i x : Nat} {c : CallF} {t' t : Tm} {l : Lo} {h : Hp} {j : V → Lo → Hp → R} (ht : tmpsOf (opA F id i) = [x]) : gn F f id i c t' t l h j = go1 F f id i x (gt t' x) c t l h j :=
 gen_slots (fun y hy => by rw [ht] at hy; rw [List.mem_singleton.1 hy, gt_pt, if_pos rfl])
theorem gn_go1' {F : Func} {f id i x : Nat} {c : CallF} {t' t : Tm} {l : Lo} {h : Hp} {j : V → Lo → Hp → R} (ht : tmpsOf (opA F id i) = [x, x]) : gn F f id i c t' t l h j = go1 F f id i x (gt t' x) c t l h j :=
 gen_slots (fun y hy => by
  rw [ht] at hy
  have : y = x := by simpa using hy
  rw [this, gt_pt, if_pos rfl])
theorem gn_go2 {F : Func} {f id i x y : Nat} {c : CallF} {t' t : Tm} {l : Lo} {h : Hp} {j : V → Lo → Hp → R} (ht : tmpsOf (opA F id i) = [x, y]) (hxy : x ≠ y) : gn F f id i c t' t l h j = go2 F f id i x y (gt t' x) (gt t' y) c t l h j :=
 gen_slots (fun q hq => by
  rw [ht] at hq
  rcases List.mem_cons.1 hq with rfl | hq
  ·rw [gt_pt, if_neg (Ne.symm hxy), gt_pt, if_pos rfl]
  ·rw [List.mem_singleton.1 hq, gt_pt, if_pos rfl])
theorem sto_loc (t s g off : Nat) (x : V) (loc : Lo) (hp : Hp) (j : V → Lo → Hp → R) (slow : R) : sto t (.ptr (.loc s g) off) x loc hp j slow = stL Pg t s g off x loc (fun loc => j (.tuple []) loc hp) := rfl
theorem sto_glob (t r off : Nat) (x : V) (loc : Lo) (hp : Hp) (j : V → Lo → Hp → R) (slow : R) : sto t (.ptr (.glob r) off) x loc hp j slow = slow := rfl
theorem jE_eq (c : List (Nat × V)) (f : List (Nat × V) → R) : jE c f = f c := rfl
theorem jF_eq (c : List Foot) (f : List Foot → R) : jF c f = f c := rfl
theorem I_eq (n : Nat) : I n = .int .i64 (.ofNat n) := rfl
end
attribute [go_sem] sto_loc sto_glob I_eq jE_eq jF_eq
theorem g0_ : ∀ t : Tm, g0 t = gt t 0 := fun _ => rfl
theorem g1_ : ∀ t : Tm, g1 t = gt t 1 := fun _ => rfl
theorem g2_ : ∀ t : Tm, g2 t = gt t 2 := fun _ => rfl
theorem g3_ : ∀ t : Tm, g3 t = gt t 3 := fun _ => rfl
theorem g4_ : ∀ t : Tm, g4 t = gt t 4 := fun _ => rfl
theorem g5_ : ∀ t : Tm, g5 t = gt t 5 := fun _ => rfl
theorem g6_ : ∀ t : Tm, g6 t = gt t 6 := fun _ => rfl
theorem g7_ : ∀ t : Tm, g7 t = gt t 7 := fun _ => rfl
theorem g8_ : ∀ t : Tm, g8 t = gt t 8 := fun _ => rfl
theorem g9_ : ∀ t : Tm, g9 t = gt t 9 := fun _ => rfl
theorem g10_ : ∀ t : Tm, g10 t = gt t 10 := fun _ => rfl
theorem g11_ : ∀ t : Tm, g11 t = gt t 11 := fun _ => rfl
theorem g12_ : ∀ t : Tm, g12 t = gt t 12 := fun _ => rfl
theorem g13_ : ∀ t : Tm, g13 t = gt t 13 := fun _ => rfl
theorem g14_ : ∀ t : Tm, g14 t = gt t 14 := fun _ => rfl
theorem g15_ : ∀ t : Tm, g15 t = gt t 15 := fun _ => rfl
theorem g16_ : ∀ t : Tm, g16 t = gt t 16 := fun _ => rfl
theorem g17_ : ∀ t : Tm, g17 t = gt t 17 := fun _ => rfl
theorem g18_ : ∀ t : Tm, g18 t = gt t 18 := fun _ => rfl
theorem g19_ : ∀ t : Tm, g19 t = gt t 19 := fun _ => rfl
theorem g20_ : ∀ t : Tm, g20 t = gt t 20 := fun _ => rfl
theorem g97_ : ∀ t : Tm, g97 t = gt t 97 := fun _ => rfl
theorem p2_ : ∀ (t : Tm) (v : V), p2 t v = pt t 2 v := fun _ _ => rfl
theorem p3_ : ∀ (t : Tm) (v : V), p3 t v = pt t 3 v := fun _ _ => rfl
theorem p4_ : ∀ (t : Tm) (v : V), p4 t v = pt t 4 v := fun _ _ => rfl
theorem p5_ : ∀ (t : Tm) (v : V), p5 t v = pt t 5 v := fun _ _ => rfl
theorem p6_ : ∀ (t : Tm) (v : V), p6 t v = pt t 6 v := fun _ _ => rfl
theorem p7_ : ∀ (t : Tm) (v : V), p7 t v = pt t 7 v := fun _ _ => rfl
theorem p8_ : ∀ (t : Tm) (v : V), p8 t v = pt t 8 v := fun _ _ => rfl
theorem p9_ : ∀ (t : Tm) (v : V), p9 t v = pt t 9 v := fun _ _ => rfl
theorem p10_ : ∀ (t : Tm) (v : V), p10 t v = pt t 10 v := fun _ _ => rfl
theorem p11_ : ∀ (t : Tm) (v : V), p11 t v = pt t 11 v := fun _ _ => rfl
theorem p12_ : ∀ (t : Tm) (v : V), p12 t v = pt t 12 v := fun _ _ => rfl
theorem p13_ : ∀ (t : Tm) (v : V), p13 t v = pt t 13 v := fun _ _ => rfl
theorem p14_ : ∀ (t : Tm) (v : V), p14 t v = pt t 14 v := fun _ _ => rfl
theorem p15_ : ∀ (t : Tm) (v : V), p15 t v = pt t 15 v := fun _ _ => rfl
theorem p16_ : ∀ (t : Tm) (v : V), p16 t v = pt t 16 v := fun _ _ => rfl
theorem p17_ : ∀ (t : Tm) (v : V), p17 t v = pt t 17 v := fun _ _ => rfl
theorem p18_ : ∀ (t : Tm) (v : V), p18 t v = pt t 18 v := fun _ _ => rfl
theorem p19_ : ∀ (t : Tm) (v : V), p19 t v = pt t 19 v := fun _ _ => rfl
theorem p20_ : ∀ (t : Tm) (v : V), p20 t v = pt t 20 v := fun _ _ => rfl
theorem p21_ : ∀ (t : Tm) (v : V), p21 t v = pt t 21 v := fun _ _ => rfl
theorem p22_ : ∀ (t : Tm) (v : V), p22 t v = pt t 22 v := fun _ _ => rfl
theorem p23_ : ∀ (t : Tm) (v : V), p23 t v = pt t 23 v := fun _ _ => rfl
theorem p24_ : ∀ (t : Tm) (v : V), p24 t v = pt t 24 v := fun _ _ => rfl
theorem p25_ : ∀ (t : Tm) (v : V), p25 t v = pt t 25 v := fun _ _ => rfl
theorem p26_ : ∀ (t : Tm) (v : V), p26 t v = pt t 26 v := fun _ _ => rfl
theorem p27_ : ∀ (t : Tm) (v : V), p27 t v = pt t 27 v := fun _ _ => rfl
theorem p28_ : ∀ (t : Tm) (v : V), p28 t v = pt t 28 v := fun _ _ => rfl
theorem p29_ : ∀ (t : Tm) (v : V), p29 t v = pt t 29 v := fun _ _ => rfl
theorem p30_ : ∀ (t : Tm) (v : V), p30 t v = pt t 30 v := fun _ _ => rfl
theorem p31_ : ∀ (t : Tm) (v : V), p31 t v = pt t 31 v := fun _ _ => rfl
theorem p32_ : ∀ (t : Tm) (v : V), p32 t v = pt t 32 v := fun _ _ => rfl
theorem p33_ : ∀ (t : Tm) (v : V), p33 t v = pt t 33 v := fun _ _ => rfl
theorem p34_ : ∀ (t : Tm) (v : V), p34 t v = pt t 34 v := fun _ _ => rfl
theorem p37_ : ∀ (t : Tm) (v : V), p37 t v = pt t 37 v := fun _ _ => rfl
theorem p38_ : ∀ (t : Tm) (v : V), p38 t v = pt t 38 v := fun _ _ => rfl
theorem p40_ : ∀ (t : Tm) (v : V), p40 t v = pt t 40 v := fun _ _ => rfl
theorem p41_ : ∀ (t : Tm) (v : V), p41 t v = pt t 41 v := fun _ _ => rfl
theorem p42_ : ∀ (t : Tm) (v : V), p42 t v = pt t 42 v := fun _ _ => rfl
theorem p44_ : ∀ (t : Tm) (v : V), p44 t v = pt t 44 v := fun _ _ => rfl
theorem p46_ : ∀ (t : Tm) (v : V), p46 t v = pt t 46 v := fun _ _ => rfl
theorem p48_ : ∀ (t : Tm) (v : V), p48 t v = pt t 48 v := fun _ _ => rfl
theorem p49_ : ∀ (t : Tm) (v : V), p49 t v = pt t 49 v := fun _ _ => rfl
theorem p50_ : ∀ (t : Tm) (v : V), p50 t v = pt t 50 v := fun _ _ => rfl
theorem p53_ : ∀ (t : Tm) (v : V), p53 t v = pt t 53 v := fun _ _ => rfl
theorem p55_ : ∀ (t : Tm) (v : V), p55 t v = pt t 55 v := fun _ _ => rfl
theorem p57_ : ∀ (t : Tm) (v : V), p57 t v = pt t 57 v := fun _ _ => rfl
theorem p68_ : ∀ (t : Tm) (v : V), p68 t v = pt t 68 v := fun _ _ => rfl
theorem p76_ : ∀ (t : Tm) (v : V), p76 t v = pt t 76 v := fun _ _ => rfl
theorem p84_ : ∀ (t : Tm) (v : V), p84 t v = pt t 84 v := fun _ _ => rfl
theorem p92_ : ∀ (t : Tm) (v : V), p92 t v = pt t 92 v := fun _ _ => rfl
theorem p97_ : ∀ (t : Tm) (v : V), p97 t v = pt t 97 v := fun _ _ => rfl
theorem p103_ : ∀ (t : Tm) (v : V), p103 t v = pt t 103 v := fun _ _ => rfl
theorem p109_ : ∀ (t : Tm) (v : V), p109 t v = pt t 109 v := fun _ _ => rfl
theorem p110_ : ∀ (t : Tm) (v : V), p110 t v = pt t 110 v := fun _ _ => rfl
theorem p111_ : ∀ (t : Tm) (v : V), p111 t v = pt t 111 v := fun _ _ => rfl
theorem p113_ : ∀ (t : Tm) (v : V), p113 t v = pt t 113 v := fun _ _ => rfl
theorem p115_ : ∀ (t : Tm) (v : V), p115 t v = pt t 115 v := fun _ _ => rfl
theorem p118_ : ∀ (t : Tm) (v : V), p118 t v = pt t 118 v := fun _ _ => rfl
theorem p131_ : ∀ (t : Tm) (v : V), p131 t v = pt t 131 v := fun _ _ => rfl
theorem p138_ : ∀ (t : Tm) (v : V), p138 t v = pt t 138 v := fun _ _ => rfl
theorem p150_ : ∀ (t : Tm) (v : V), p150 t v = pt t 150 v := fun _ _ => rfl
theorem p151_ : ∀ (t : Tm) (v : V), p151 t v = pt t 151 v := fun _ _ => rfl
theorem p152_ : ∀ (t : Tm) (v : V), p152 t v = pt t 152 v := fun _ _ => rfl
theorem p153_ : ∀ (t : Tm) (v : V), p153 t v = pt t 153 v := fun _ _ => rfl
theorem p155_ : ∀ (t : Tm) (v : V), p155 t v = pt t 155 v := fun _ _ => rfl
theorem p159_ : ∀ (t : Tm) (v : V), p159 t v = pt t 159 v := fun _ _ => rfl
theorem p161_ : ∀ (t : Tm) (v : V), p161 t v = pt t 161 v := fun _ _ => rfl
theorem p162_ : ∀ (t : Tm) (v : V), p162 t v = pt t 162 v := fun _ _ => rfl
theorem p163_ : ∀ (t : Tm) (v : V), p163 t v = pt t 163 v := fun _ _ => rfl
theorem p165_ : ∀ (t : Tm) (v : V), p165 t v = pt t 165 v := fun _ _ => rfl
theorem p167_ : ∀ (t : Tm) (v : V), p167 t v = pt t 167 v := fun _ _ => rfl
theorem p184_ : ∀ (t : Tm) (v : V), p184 t v = pt t 184 v := fun _ _ => rfl
theorem p198_ : ∀ (t : Tm) (v : V), p198 t v = pt t 198 v := fun _ _ => rfl
theorem p202_ : ∀ (t : Tm) (v : V), p202 t v = pt t 202 v := fun _ _ => rfl
theorem p204_ : ∀ (t : Tm) (v : V), p204 t v = pt t 204 v := fun _ _ => rfl
theorem p205_ : ∀ (t : Tm) (v : V), p205 t v = pt t 205 v := fun _ _ => rfl
theorem p206_ : ∀ (t : Tm) (v : V), p206 t v = pt t 206 v := fun _ _ => rfl
theorem p208_ : ∀ (t : Tm) (v : V), p208 t v = pt t 208 v := fun _ _ => rfl
theorem p210_ : ∀ (t : Tm) (v : V), p210 t v = pt t 210 v := fun _ _ => rfl
theorem p212_ : ∀ (t : Tm) (v : V), p212 t v = pt t 212 v := fun _ _ => rfl
theorem p214_ : ∀ (t : Tm) (v : V), p214 t v = pt t 214 v := fun _ _ => rfl
theorem U2 : Pg.underlying 2 = some (.int .i64) := by kernel_rfl
theorem L2 : F.layE Pg 2 = some (1, false) := by kernel_rfl
theorem Z2 : F.zeroV Pg 2 = some (.int .i64 (.ofNat 0)) := by kernel_rfl
theorem S2 : F.szOf Pg 2 = some 1 := by kernel_rfl
theorem N2 : F.lenIs Pg 2 1 = true := by kernel_rfl
theorem B2 : F.byteE Pg 2 = some 8 := by kernel_rfl
theorem U3 : Pg.underlying 3 = some (.int .i64) := by kernel_rfl
theorem L3 : F.layE Pg 3 = some (1, false) := by kernel_rfl
theorem Z3 : F.zeroV Pg 3 = some (.int .i64 (.ofNat 0)) := by kernel_rfl
theorem S3 : F.szOf Pg 3 = some 1 := by kernel_rfl
theorem N3 : F.lenIs Pg 3 1 = true := by kernel_rfl
theorem B3 : F.byteE Pg 3 = some 8 := by kernel_rfl
theorem U5 : Pg.underlying 5 = some (.int .u8) := by kernel_rfl
theorem L5 : F.layE Pg 5 = some (1, false) := by kernel_rfl
theorem Z5 : F.zeroV Pg 5 = some (.int .u8 (.ofNat 0)) := by kernel_rfl
theorem S5 : F.szOf Pg 5 = some 1 := by kernel_rfl
theorem N5 : F.lenIs Pg 5 1 = true := by kernel_rfl
theorem B5 : F.byteE Pg 5 = some 1 := by kernel_rfl
theorem U9 : Pg.underlying 9 = some .string := by kernel_rfl
theorem L9 : F.layE Pg 9 = some (1, false) := by kernel_rfl
theorem Z9 : F.zeroV Pg 9 = some (.str ⟨0, 0⟩) := by kernel_rfl
theorem S9 : F.szOf Pg 9 = some 1 := by kernel_rfl
theorem N9 : F.lenIs Pg 9 1 = true := by kernel_rfl
theorem B9 : F.byteE Pg 9 = some 16 := by kernel_rfl
theorem U21 : Pg.underlying 21 = some (.int .i32) := by kernel_rfl
theorem L21 : F.layE Pg 21 = some (1, false) := by kernel_rfl
theorem Z21 : F.zeroV Pg 21 = some (.int .i32 (.ofNat 0)) := by kernel_rfl
theorem S21 : F.szOf Pg 21 = some 1 := by kernel_rfl
theorem N21 : F.lenIs Pg 21 1 = true := by kernel_rfl
theorem B21 : F.byteE Pg 21 = some 4 := by kernel_rfl
theorem U22 : Pg.underlying 22 = some (.slice 5) := by kernel_rfl
theorem E22 : F.elemT Pg 22 = some 5 := by kernel_rfl
theorem L22 : F.layE Pg 22 = some (1, false) := by kernel_rfl
theorem Z22 : F.zeroV Pg 22 = some .nils := by kernel_rfl
theorem S22 : F.szOf Pg 22 = some 1 := by kernel_rfl
theorem N22 : F.lenIs Pg 22 1 = true := by kernel_rfl
theorem B22 : F.byteE Pg 22 = some 24 := by kernel_rfl
theorem U24 : Pg.underlying 24 = some (.slice 30) := by kernel_rfl
theorem E24 : F.elemT Pg 24 = some 30 := by kernel_rfl
theorem L24 : F.layE Pg 24 = some (1, false) := by kernel_rfl
theorem Z24 : F.zeroV Pg 24 = some .nils := by kernel_rfl
theorem S24 : F.szOf Pg 24 = some 1 := by kernel_rfl
theorem N24 : F.lenIs Pg 24 1 = true := by kernel_rfl
theorem B24 : F.byteE Pg 24 = some 24 := by kernel_rfl
theorem L29 : F.layE Pg 29 = some (3, true) := by kernel_rfl
theorem Z29 : F.zeroV Pg 29 = some (.agg [(.int .i64 (.ofNat 0)), (.str ⟨0, 0⟩), (.int .i64 (.ofNat 0))]) := by kernel_rfl
theorem S29 : F.szOf Pg 29 = some 3 := by kernel_rfl
theorem N29 : F.lenIs Pg 29 3 = true := by kernel_rfl
theorem B29 : F.byteE Pg 29 = some 32 := by kernel_rfl
theorem L30 : F.layE Pg 30 = some (3, true) := by kernel_rfl
theorem Z30 : F.zeroV Pg 30 = some (.agg [(.int .i64 (.ofNat 0)), (.str ⟨0, 0⟩), (.int .i64 (.ofNat 0))]) := by kernel_rfl
theorem S30 : F.szOf Pg 30 = some 3 := by kernel_rfl
theorem N30 : F.lenIs Pg 30 3 = true := by kernel_rfl
theorem B30 : F.byteE Pg 30 = some 32 := by kernel_rfl
theorem U31 : Pg.underlying 31 = some (.slice 9) := by kernel_rfl
theorem E31 : F.elemT Pg 31 = some 9 := by kernel_rfl
theorem L31 : F.layE Pg 31 = some (1, false) := by kernel_rfl
theorem Z31 : F.zeroV Pg 31 = some .nils := by kernel_rfl
theorem S31 : F.szOf Pg 31 = some 1 := by kernel_rfl
theorem N31 : F.lenIs Pg 31 1 = true := by kernel_rfl
theorem B31 : F.byteE Pg 31 = some 24 := by kernel_rfl
theorem L47 : F.layE Pg 47 = some (2, true) := by kernel_rfl
theorem Z47 : F.zeroV Pg 47 = some (.agg [(.str ⟨0, 0⟩), (.int .i64 (.ofNat 0))]) := by kernel_rfl
theorem S47 : F.szOf Pg 47 = some 2 := by kernel_rfl
theorem N47 : F.lenIs Pg 47 2 = true := by kernel_rfl
theorem B47 : F.byteE Pg 47 = some 24 := by kernel_rfl
theorem L51 : F.layE Pg 51 = some (1, false) := by kernel_rfl
theorem Z51 : F.zeroV Pg 51 = some .nilp := by kernel_rfl
theorem S51 : F.szOf Pg 51 = some 1 := by kernel_rfl
theorem N51 : F.lenIs Pg 51 1 = true := by kernel_rfl
theorem B51 : F.byteE Pg 51 = some 8 := by kernel_rfl
theorem L80 : F.layE Pg 80 = some (1, false) := by kernel_rfl
theorem Z80 : F.zeroV Pg 80 = some .nilf := by kernel_rfl
theorem S80 : F.szOf Pg 80 = some 1 := by kernel_rfl
theorem N80 : F.lenIs Pg 80 1 = true := by kernel_rfl
theorem B80 : F.byteE Pg 80 = some 8 := by kernel_rfl
theorem L86 : F.layE Pg 86 = some (1, false) := by kernel_rfl
theorem Z86 : F.zeroV Pg 86 = some .nili := by kernel_rfl
theorem S86 : F.szOf Pg 86 = some 1 := by kernel_rfl
theorem N86 : F.lenIs Pg 86 1 = true := by kernel_rfl
theorem B86 : F.byteE Pg 86 = some 16 := by kernel_rfl
theorem FA30_0 : ∀ (r : Ref) (o : Nat), fa Pg 30 (.ptr r o) 0 = some (.ptr r (o + 0)) := fun r o => by kernel_rfl
theorem FA30_1 : ∀ (r : Ref) (o : Nat), fa Pg 30 (.ptr r o) 1 = some (.ptr r (o + 1)) := fun r o => by kernel_rfl
theorem FA30_2 : ∀ (r : Ref) (o : Nat), fa Pg 30 (.ptr r o) 2 = some (.ptr r (o + 2)) := fun r o => by kernel_rfl
theorem FA47_0 : ∀ (r : Ref) (o : Nat), fa Pg 47 (.ptr r o) 0 = some (.ptr r (o + 0)) := fun r o => by kernel_rfl
theorem FA47_1 : ∀ (r : Ref) (o : Nat), fa Pg 47 (.ptr r o) 1 = some (.ptr r (o + 1)) := fun r o => by kernel_rfl
theorem ia22 {k : IntKind} {v : V} {d : List Nat} (h : Sl k v d) (k' : IntKind) (i : Nat) (hi : i < d.length) : ia Pg 22 v (.int k' (.ofNat i)) = some (.iptr [.int k (.ofNat (d.getD i 0))]) := ia_sl E22 L5 h k' i hi
theorem ia31 {k : IntKind} {v : V} {d : List Nat} (h : Sl k v d) (k' : IntKind) (i : Nat) (hi : i < d.length) : ia Pg 31 v (.int k' (.ofNat i)) = some (.iptr [.int k (.ofNat (d.getD i 0))]) := ia_sl E31 L9 h k' i hi
theorem sl22 {k : IntKind} {v : V} {d : List Nat} (h : Sl k v d) (k' : IntKind) (i : Nat) (hi : i < d.length) : slc Pg 22 v none (some (.int k' (.ofNat i))) none = some (.slice none false 1 (nl k (d.take i))) := slc_sl E22 L5 h k' i hi
theorem sl31 {k : IntKind} {v : V} {d : List Nat} (h : Sl k v d) (k' : IntKind) (i : Nat) (hi : i < d.length) : slc Pg 31 v none (some (.int k' (.ofNat i))) none = some (.slice none false 1 (nl k (d.take i))) := slc_sl E31 L9 h k' i hi
theorem m5_8_3 : ∀ (c : CallF) (t' t : Tm) (l : Lo) (h : Hp) (j : V → Lo → Hp → R), gn Tryd.f5 5 8 3 c t' t l h j = go1 Tryd.f5 5 8 3 28 (gt t' 28) c t l h j := fun _ _ _ _ _ _ => gn_go1 (by kernel_rfl)
theorem m5_8_6 : ∀ (c : CallF) (t' t : Tm) (l : Lo) (h : Hp) (j : V → Lo → Hp → R), gn Tryd.f5 5 8 6 c t' t l h j = go1 Tryd.f5 5 8 6 31 (gt t' 31) c t l h j := fun _ _ _ _ _ _ => gn_go1 (by kernel_rfl)
theorem m8_3_1 : ∀ (c : CallF) (t' t : Tm) (l : Lo) (h : Hp) (j : V → Lo → Hp → R), gn Tryd.f8 8 3 1 c t' t l h j = go1 Tryd.f8 8 3 1 13 (gt t' 13) c t l h j := fun _ _ _ _ _ _ => gn_go1 (by kernel_rfl)
theorem m8_9_3 : ∀ (c : CallF) (t' t : Tm) (l : Lo) (h : Hp) (j : V → Lo → Hp → R), gn Tryd.f8 8 9 3 c t' t l h j = go1 Tryd.f8 8 9 3 30 (gt t' 30) c t l h j := fun _ _ _ _ _ _ => gn_go1 (by kernel_rfl)
theorem m8_9_5 : ∀ (c : CallF) (t' t : Tm) (l : Lo) (h : Hp) (j : V → Lo → Hp → R), gn Tryd.f8 8 9 5 c t' t l h j = go2 Tryd.f8 8 9 5 28 32 (gt t' 28) (gt t' 32) c t l h j := fun _ _ _ _ _ _ => gn_go2 (by kernel_rfl) (by decide)
theorem i8_9_5 : ApI Pg (opA Tryd.f8 9 5) 33 28 32 24 := ⟨by kernel_rfl, { callee := .builtin .append, args := #[.tmp 28, .tmp 32], argTypes := #[24, 24] }, by kernel_rfl, rfl, rfl, rfl, by kernel_rfl⟩
theorem m8_13_3 : ∀ (c : CallF) (t' t : Tm) (l : Lo) (h : Hp) (j : V → Lo → Hp → R), gn Tryd.f8 8 13 3 c t' t l h j = go2 Tryd.f8 8 13 3 42 44 (gt t' 42) (gt t' 44) c t l h j := fun _ _ _ _ _ _ => gn_go2 (by kernel_rfl) (by decide)
theorem i8_13_3 : ApI Pg (opA Tryd.f8 13 3) 45 42 44 24 := ⟨by kernel_rfl, { callee := .builtin .append, args := #[.tmp 42, .tmp 44], argTypes := #[24, 24] }, by kernel_rfl, rfl, rfl, rfl, by kernel_rfl⟩
theorem m13_26_5 : ∀ (c : CallF) (t' t : Tm) (l : Lo) (h : Hp) (j : V → Lo → Hp → R), gn Tryd.f13 13 26 5 c t' t l h j = go2 Tryd.f13 13 26 5 109 113 (gt t' 109) (gt t' 113) c t l h j := fun _ _ _ _ _ _ => gn_go2 (by kernel_rfl) (by decide)
theorem i13_26_5 : ApI Pg (opA Tryd.f13 26 5) 114 109 113 24 := ⟨by kernel_rfl, { callee := .builtin .append, args := #[.tmp 109, .tmp 113], argTypes := #[24, 24] }, by kernel_rfl, rfl, rfl, rfl, by kernel_rfl⟩
theorem m13_36_5 : ∀ (c : CallF) (t' t : Tm) (l : Lo) (h : Hp) (j : V → Lo → Hp → R), gn Tryd.f13 13 36 5 c t' t l h j = go2 Tryd.f13 13 36 5 151 155 (gt t' 151) (gt t' 155) c t l h j := fun _ _ _ _ _ _ => gn_go2 (by kernel_rfl) (by decide)
theorem i13_36_5 : ApI Pg (opA Tryd.f13 36 5) 156 151 155 24 := ⟨by kernel_rfl, { callee := .builtin .append, args := #[.tmp 151, .tmp 155], argTypes := #[24, 24] }, by kernel_rfl, rfl, rfl, rfl, by kernel_rfl⟩
theorem m13_39_5 : ∀ (c : CallF) (t' t : Tm) (l : Lo) (h : Hp) (j : V → Lo → Hp → R), gn Tryd.f13 13 39 5 c t' t l h j = go2 Tryd.f13 13 39 5 161 165 (gt t' 161) (gt t' 165) c t l h j := fun _ _ _ _ _ _ => gn_go2 (by kernel_rfl) (by decide)
theorem i13_39_5 : ApI Pg (opA Tryd.f13 39 5) 166 161 165 24 := ⟨by kernel_rfl, { callee := .builtin .append, args := #[.tmp 161, .tmp 165], argTypes := #[24, 24] }, by kernel_rfl, rfl, rfl, rfl, by kernel_rfl⟩
theorem m13_48_5 : ∀ (c : CallF) (t' t : Tm) (l : Lo) (h : Hp) (j : V → Lo → Hp → R), gn Tryd.f13 13 48 5 c t' t l h j = go2 Tryd.f13 13 48 5 204 208 (gt t' 204) (gt t' 208) c t l h j := fun _ _ _ _ _ _ => gn_go2 (by kernel_rfl) (by decide)
theorem i13_48_5 : ApI Pg (opA Tryd.f13 48 5) 209 204 208 24 := ⟨by kernel_rfl, { callee := .builtin .append, args := #[.tmp 204, .tmp 208], argTypes := #[24, 24] }, by kernel_rfl, rfl, rfl, rfl, by kernel_rfl⟩
theorem m13_49_5 : ∀ (c : CallF) (t' t : Tm) (l : Lo) (h : Hp) (j : V → Lo → Hp → R), gn Tryd.f13 13 49 5 c t' t l h j = go2 Tryd.f13 13 49 5 210 214 (gt t' 210) (gt t' 214) c t l h j := fun _ _ _ _ _ _ => gn_go2 (by kernel_rfl) (by decide)
theorem i13_49_5 : ApI Pg (opA Tryd.f13 49 5) 215 210 214 24 := ⟨by kernel_rfl, { callee := .builtin .append, args := #[.tmp 210, .tmp 214], argTypes := #[24, 24] }, by kernel_rfl, rfl, rfl, rfl, by kernel_rfl⟩
theorem m15_1_2 : ∀ (c : CallF) (t' t : Tm) (l : Lo) (h : Hp) (j : V → Lo → Hp → R), gn Tryd.f15 15 1 2 c t' t l h j = go2 Tryd.f15 15 1 2 5 6 (gt t' 5) (gt t' 6) c t l h j := fun _ _ _ _ _ _ => gn_go2 (by kernel_rfl) (by decide)
theorem b15_1_2 {v w : V} (hv : Pl v) (hw : Pl w) (c : CallF) (t : Tm) (l : Lo) (h : Hp) (j : V → Lo → Hp → R) : go2 Tryd.f15 15 1 2 5 6 v w c t l h j = j (.agg [v, w]) l h := gen_two (C := Cg) (gl := Cg.glob 15) (call := c) (o := opA Tryd.f15 1 2) (d := 7) (t := 55) (by kernel_rfl) (by kernel_rfl) (by kernel_rfl) (show zeroV Pg 55 = some (.agg [(.int .i64 (.ofNat 0)), (.int .i64 (.ofNat 0))]) by kernel_rfl) (by decide) hv hw
theorem m15_1_4 : ∀ (c : CallF) (t' t : Tm) (l : Lo) (h : Hp) (j : V → Lo → Hp → R), gn Tryd.f15 15 1 4 c t' t l h j = go1 Tryd.f15 15 1 4 8 (gt t' 8) c t l h j := fun _ _ _ _ _ _ => gn_go1 (by kernel_rfl)
theorem m16_8_7 : ∀ (c : CallF) (t' t : Tm) (l : Lo) (h : Hp) (j : V → Lo → Hp → R), gn Tryd.f16 16 8 7 c t' t l h j = go2 Tryd.f16 16 8 7 40 38 (gt t' 40) (gt t' 38) c t l h j := fun _ _ _ _ _ _ => gn_go2 (by kernel_rfl) (by decide)
theorem w16_8_7 {r off n : Nat} {d : List Nat} {h : Hp} (hr : h.rows[r]? = some (.cells false (nl .i64 d))) (ho : off < d.length) (c : CallF) (t : Tm) (l : Lo) (j : V → Lo → Hp → R) : go2 Tryd.f16 16 8 7 40 38 (.ptr (.glob r) off) (.int .i64 (.ofNat n)) c t l h j = j (.tuple []) l (hset h r (.cells false (nl .i64 (d.set off n)))) := gen_store_glob (C := Cg) (gl := Cg.glob 16) (call := c) (o := opA Tryd.f16 8 7) (t := 3) (by kernel_rfl) (by kernel_rfl) (by decide) (by kernel_rfl) hr ho
theorem m22_3_7 : ∀ (c : CallF) (t' t : Tm) (l : Lo) (h : Hp) (j : V → Lo → Hp → R), gn Tryd.f22 22 3 7 c t' t l h j = go1 Tryd.f22 22 3 7 18 (gt t' 18) c t l h j := fun _ _ _ _ _ _ => gn_go1 (by kernel_rfl)
theorem m22_4_0 : ∀ (c : CallF) (t' t : Tm) (l : Lo) (h : Hp) (j : V → Lo → Hp → R), gn Tryd.f22 22 4 0 c t' t l h j = go1 Tryd.f22 22 4 0 19 (gt t' 19) c t l h j := fun _ _ _ _ _ _ => gn_go1 (by kernel_rfl)
theorem m22_10_8 : ∀ (c : CallF) (t' t : Tm) (l : Lo) (h : Hp) (j : V → Lo → Hp → R), gn Tryd.f22 22 10 8 c t' t l h j = go2 Tryd.f22 22 10 8 57 55 (gt t' 57) (gt t' 55) c t l h j := fun _ _ _ _ _ _ => gn_go2 (by kernel_rfl) (by decide)
theorem w22_10_8 {r off n : Nat} {d : List Nat} {h : Hp} (hr : h.rows[r]? = some (.cells false (nl .i64 d))) (ho : off < d.length) (c : CallF) (t : Tm) (l : Lo) (j : V → Lo → Hp → R) : go2 Tryd.f22 22 10 8 57 55 (.ptr (.glob r) off) (.int .i64 (.ofNat n)) c t l h j = j (.tuple []) l (hset h r (.cells false (nl .i64 (d.set off n)))) := gen_store_glob (C := Cg) (gl := Cg.glob 22) (call := c) (o := opA Tryd.f22 10 8) (t := 3) (by kernel_rfl) (by kernel_rfl) (by decide) (by kernel_rfl) hr ho
theorem q26_7_0 : ∀ (c : CallF) (t' t : Tm) (l : Lo) (h : Hp) (j : V → Lo → Hp → R), gn Tryd.f26 26 7 0 c t' t l h j = j (.agg [(.int .i64 (.ofNat 0)), (.str ⟨0, 0⟩), (.int .i64 (.ofNat 0))]) l h := fun c t' t l h j => gen_val (C := Cg) (gl := Cg.glob 26) (call := c) (tm := t) (loc := l) (hp := h) (j := j) (t' := t') (o := opA Tryd.f26 7 0) (d := 30) (v := (.agg [(.int .i64 (.ofNat 0)), (.str ⟨0, 0⟩), (.int .i64 (.ofNat 0))])) (st := ⟨t', l, h⟩) (by kernel_rfl) (by kernel_rfl)
theorem m34_2_0 : ∀ (c : CallF) (t' t : Tm) (l : Lo) (h : Hp) (j : V → Lo → Hp → R), gn Tryd.f34 34 2 0 c t' t l h j = go1 Tryd.f34 34 2 0 17 (gt t' 17) c t l h j := fun _ _ _ _ _ _ => gn_go1 (by kernel_rfl)
def r_ld_iptr_L2 := ld_iptr L2
def r_ldc_fst_L2 := ldc_fst L2
def r_ldc_snd_L2 := ldc_snd L2
def r_ldc_nl_L2 := ldc_nl L2
def r_ldg_cells_L2 := ldg_cells L2
def r_stc_nl_N2 := stc_nl N2
def r_ld_iptr_L3 := ld_iptr L3
def r_ldc_fst_L3 := ldc_fst L3
def r_ldc_snd_L3 := ldc_snd L3
def r_ldc_nl_L3 := ldc_nl L3
def r_ldg_cells_L3 := ldg_cells L3
def r_stc_nl_N3 := stc_nl N3
def r_ld_iptr_L5 := ld_iptr L5
def r_ldc_fst_L5 := ldc_fst L5
def r_ldc_snd_L5 := ldc_snd L5
def r_ldc_nl_L5 := ldc_nl L5
def r_ldg_cells_L5 := ldg_cells L5
def r_stc_nl_N5 := stc_nl N5
def r_ld_iptr_L9 := ld_iptr L9
def r_ldc_fst_L9 := ldc_fst L9
def r_ldc_snd_L9 := ldc_snd L9
def r_ldc_nl_L9 := ldc_nl L9
def r_ldg_cells_L9 := ldg_cells L9
def r_stc_nl_N9 := stc_nl N9
def r_ld_iptr_L21 := ld_iptr L21
def r_ldc_fst_L21 := ldc_fst L21
def r_ldc_snd_L21 := ldc_snd L21
def r_ldc_nl_L21 := ldc_nl L21
def r_ldg_cells_L21 := ldg_cells L21
def r_stc_nl_N21 := stc_nl N21
def r_ia_slice_E22_L5 := ia_slice E22 L5
def r_ia_arr_E22_L5 := ia_arr E22 L5
def r_slc_init_E22_L5 := slc_init E22 L5
def r_slc_arr_E22_L5 := slc_arr E22 L5
def r_ld_iptr_L22 := ld_iptr L22
def r_ldc_fst_L22 := ldc_fst L22
def r_ldc_snd_L22 := ldc_snd L22
def r_ldc_nl_L22 := ldc_nl L22
def r_ldg_cells_L22 := ldg_cells L22
def r_stc_nl_N22 := stc_nl N22
def r_ld_iptr_L24 := ld_iptr L24
def r_ldc_fst_L24 := ldc_fst L24
def r_ldc_snd_L24 := ldc_snd L24
def r_ldc_nl_L24 := ldc_nl L24
def r_ldg_cells_L24 := ldg_cells L24
def r_stc_nl_N24 := stc_nl N24
def r_al_eq_Z30_S30_rfl_rfl := al_eq Z30 S30 rfl rfl
def r_ia_slice_E31_L9 := ia_slice E31 L9
def r_ia_arr_E31_L9 := ia_arr E31 L9
def r_slc_init_E31_L9 := slc_init E31 L9
def r_slc_arr_E31_L9 := slc_arr E31 L9
def r_ld_iptr_L31 := ld_iptr L31
def r_ldc_fst_L31 := ldc_fst L31
def r_ldc_snd_L31 := ldc_snd L31
def r_ldc_nl_L31 := ldc_nl L31
def r_ldg_cells_L31 := ldg_cells L31
def r_stc_nl_N31 := stc_nl N31
def r_ldc_two_L47 := ldc_two L47
def r_stc_two_N47 := stc_two N47
def r_ld_iptr_L51 := ld_iptr L51
def r_ldc_fst_L51 := ldc_fst L51
def r_ldc_snd_L51 := ldc_snd L51
def r_ldc_nl_L51 := ldc_nl L51
def r_ldg_cells_L51 := ldg_cells L51
def r_stc_nl_N51 := stc_nl N51
def r_ld_iptr_L80 := ld_iptr L80
def r_ldc_fst_L80 := ldc_fst L80
def r_ldc_snd_L80 := ldc_snd L80
def r_ldc_nl_L80 := ldc_nl L80
def r_ldg_cells_L80 := ldg_cells L80
def r_stc_nl_N80 := stc_nl N80
def r_ld_iptr_L86 := ld_iptr L86
def r_ldc_fst_L86 := ldc_fst L86
def r_ldc_snd_L86 := ldc_snd L86
def r_ldc_nl_L86 := ldc_nl L86
def r_ldg_cells_L86 := ldg_cells L86
def r_stc_nl_N86 := stc_nl N86
theorem d8_14_10 {s g off : Nat} {v : V} {c : CallF} {t' : Tm} {l : Lo} {h : Hp} {J : JD} {X : XD} (ha : gt t' 55 = .ptr (.loc s g) off) (hx : gt t' 53 = v) : gD Tryd.f8 8 14 10 c t' l h J X = stc Pg 3 g off v (lg l s) (fun row => J (.tuple []) ⟨[s], [s], false, false, false, false⟩ (lp l s row) h) := by subst hx; exact genD_store (C := Cg) (gl := Cg.glob 8) (call := c) (o := opA Tryd.f8 14 10) (by kernel_rfl) (by kernel_rfl) ha
theorem dd8_14_10 (s g off : Nat) (v : V) (c : CallF) (t : Tm) (l : Lo) (h : Hp) (J : JD) (X : XD) : gD Tryd.f8 8 14 10 c (pt (pt t 55 (.ptr (.loc s g) off)) 53 v) l h J X = stc Pg 3 g off v (lg l s) (fun row => J (.tuple []) ⟨[s], [s], false, false, false, false⟩ (lp l s row) h) := d8_14_10 (by rw [gt_pt, if_neg (by decide), gt_pt, if_pos rfl]) (by rw [gt_pt, if_pos rfl])
theorem dg8_14_10 {r off n : Nat} {d : List Nat} {h : Hp} (hr : h.rows[r]? = some (.cells false (nl .i64 d))) (ho : off < d.length) (c : CallF) (t : Tm) (l : Lo) (J : JD) (X : XD) : gD Tryd.f8 8 14 10 c (pt (pt t 55 (.ptr (.glob r) off)) 53 (.int .i64 (.ofNat n))) l h J X = J (.tuple []) ⟨[], [], true, true, false, false⟩ l (hset h r (.cells false (nl .i64 (d.set off n)))) := genD_store_glob (C := Cg) (a := 55) (x := 53) (hp := h) (loc := l) (J := J) (X := X) (t' := pt (pt t 55 (.ptr (.glob r) off)) 53 (.int .i64 (.ofNat n))) (gl := Cg.glob 8) (call := c) (o := opA Tryd.f8 14 10) (t := 3) (by kernel_rfl) (by kernel_rfl) (by kernel_rfl) (by rw [gt_pt, if_neg (by decide), gt_pt, if_pos rfl]) (by rw [gt_pt, if_pos rfl]) hr ho
theorem d24_1_22 {s g off : Nat} {v : V} {c : CallF} {t' : Tm} {l : Lo} {h : Hp} {J : JD} {X : XD} (ha : gt t' 4 = .ptr (.loc s g) off) (hx : gt t' 25 = v) : gD Tryd.f24 24 1 22 c t' l h J X = stc Pg 30 g off v (lg l s) (fun row => J (.tuple []) ⟨[s], [s], false, false, false, false⟩ (lp l s row) h) := by subst hx; exact genD_store (C := Cg) (gl := Cg.glob 24) (call := c) (o := opA Tryd.f24 1 22) (by kernel_rfl) (by kernel_rfl) ha
theorem dd24_1_22 (s g off : Nat) (v : V) (c : CallF) (t : Tm) (l : Lo) (h : Hp) (J : JD) (X : XD) : gD Tryd.f24 24 1 22 c (pt (pt t 4 (.ptr (.loc s g) off)) 25 v) l h J X = stc Pg 30 g off v (lg l s) (fun row => J (.tuple []) ⟨[s], [s], false, false, false, false⟩ (lp l s row) h) := d24_1_22 (by rw [gt_pt, if_neg (by decide), gt_pt, if_pos rfl]) (by rw [gt_pt, if_pos rfl])
theorem d24_5_4 {s g off : Nat} {v : V} {c : CallF} {t' : Tm} {l : Lo} {h : Hp} {J : JD} {X : XD} (ha : gt t' 2 = .ptr (.loc s g) off) (hx : gt t' 34 = v) : gD Tryd.f24 24 5 4 c t' l h J X = stc Pg 30 g off v (lg l s) (fun row => J (.tuple []) ⟨[s], [s], false, false, false, false⟩ (lp l s row) h) := by subst hx; exact genD_store (C := Cg) (gl := Cg.glob 24) (call := c) (o := opA Tryd.f24 5 4) (by kernel_rfl) (by kernel_rfl) ha
theorem dd24_5_4 (s g off : Nat) (v : V) (c : CallF) (t : Tm) (l : Lo) (h : Hp) (J : JD) (X : XD) : gD Tryd.f24 24 5 4 c (pt (pt t 2 (.ptr (.loc s g) off)) 34 v) l h J X = stc Pg 30 g off v (lg l s) (fun row => J (.tuple []) ⟨[s], [s], false, false, false, false⟩ (lp l s row) h) := d24_5_4 (by rw [gt_pt, if_neg (by decide), gt_pt, if_pos rfl]) (by rw [gt_pt, if_pos rfl])
theorem d25_1_22 {s g off : Nat} {v : V} {c : CallF} {t' : Tm} {l : Lo} {h : Hp} {J : JD} {X : XD} (ha : gt t' 4 = .ptr (.loc s g) off) (hx : gt t' 25 = v) : gD Tryd.f25 25 1 22 c t' l h J X = stc Pg 30 g off v (lg l s) (fun row => J (.tuple []) ⟨[s], [s], false, false, false, false⟩ (lp l s row) h) := by subst hx; exact genD_store (C := Cg) (gl := Cg.glob 25) (call := c) (o := opA Tryd.f25 1 22) (by kernel_rfl) (by kernel_rfl) ha
theorem dd25_1_22 (s g off : Nat) (v : V) (c : CallF) (t : Tm) (l : Lo) (h : Hp) (J : JD) (X : XD) : gD Tryd.f25 25 1 22 c (pt (pt t 4 (.ptr (.loc s g) off)) 25 v) l h J X = stc Pg 30 g off v (lg l s) (fun row => J (.tuple []) ⟨[s], [s], false, false, false, false⟩ (lp l s row) h) := d25_1_22 (by rw [gt_pt, if_neg (by decide), gt_pt, if_pos rfl]) (by rw [gt_pt, if_pos rfl])
theorem d25_3_4 {s g off : Nat} {v : V} {c : CallF} {t' : Tm} {l : Lo} {h : Hp} {J : JD} {X : XD} (ha : gt t' 2 = .ptr (.loc s g) off) (hx : gt t' 37 = v) : gD Tryd.f25 25 3 4 c t' l h J X = stc Pg 30 g off v (lg l s) (fun row => J (.tuple []) ⟨[s], [s], false, false, false, false⟩ (lp l s row) h) := by subst hx; exact genD_store (C := Cg) (gl := Cg.glob 25) (call := c) (o := opA Tryd.f25 3 4) (by kernel_rfl) (by kernel_rfl) ha
theorem dd25_3_4 (s g off : Nat) (v : V) (c : CallF) (t : Tm) (l : Lo) (h : Hp) (J : JD) (X : XD) : gD Tryd.f25 25 3 4 c (pt (pt t 2 (.ptr (.loc s g) off)) 37 v) l h J X = stc Pg 30 g off v (lg l s) (fun row => J (.tuple []) ⟨[s], [s], false, false, false, false⟩ (lp l s row) h) := d25_3_4 (by rw [gt_pt, if_neg (by decide), gt_pt, if_pos rfl]) (by rw [gt_pt, if_pos rfl])
theorem d25_5_4 {s g off : Nat} {v : V} {c : CallF} {t' : Tm} {l : Lo} {h : Hp} {J : JD} {X : XD} (ha : gt t' 2 = .ptr (.loc s g) off) (hx : gt t' 46 = v) : gD Tryd.f25 25 5 4 c t' l h J X = stc Pg 30 g off v (lg l s) (fun row => J (.tuple []) ⟨[s], [s], false, false, false, false⟩ (lp l s row) h) := by subst hx; exact genD_store (C := Cg) (gl := Cg.glob 25) (call := c) (o := opA Tryd.f25 5 4) (by kernel_rfl) (by kernel_rfl) ha
theorem dd25_5_4 (s g off : Nat) (v : V) (c : CallF) (t : Tm) (l : Lo) (h : Hp) (J : JD) (X : XD) : gD Tryd.f25 25 5 4 c (pt (pt t 2 (.ptr (.loc s g) off)) 46 v) l h J X = stc Pg 30 g off v (lg l s) (fun row => J (.tuple []) ⟨[s], [s], false, false, false, false⟩ (lp l s row) h) := d25_5_4 (by rw [gt_pt, if_neg (by decide), gt_pt, if_pos rfl]) (by rw [gt_pt, if_pos rfl])
attribute [go_sem] g0_ g1_ g2_ g3_ g4_ g5_ g6_ g7_ g8_ g9_ g10_ g11_ g12_ g13_ g14_ g15_ g16_ g17_ g18_ g19_ g20_ g97_ p2_ p3_ p4_ p5_ p6_ p7_ p8_ p9_ p10_ p11_ p12_ p13_ p14_ p15_ p16_ p17_ p18_ p19_ p20_ p21_ p22_ p23_ p24_ p25_ p26_ p27_ p28_ p29_ p30_ p31_ p32_ p33_ p34_ p37_ p38_ p40_ p41_ p42_ p44_ p46_ p48_ p49_ p50_ p53_ p55_ p57_ p68_ p76_ p84_ p92_ p97_ p103_ p109_ p110_ p111_ p113_ p115_ p118_ p131_ p138_ p150_ p151_ p152_ p153_ p155_ p159_ p161_ p162_ p163_ p165_ p167_ p184_ p198_ p202_ p204_ p205_ p206_ p208_ p210_ p212_ p214_ U2 U3 U5 U9 U21 U22 U24 U31 r_ld_iptr_L2 r_ldc_fst_L2 r_ldc_snd_L2 r_ldc_nl_L2 r_ldg_cells_L2 r_stc_nl_N2 r_ld_iptr_L3 r_ldc_fst_L3 r_ldc_snd_L3 r_ldc_nl_L3 r_ldg_cells_L3 r_stc_nl_N3 r_ld_iptr_L5 r_ldc_fst_L5 r_ldc_snd_L5 r_ldc_nl_L5 r_ldg_cells_L5 r_stc_nl_N5 r_ld_iptr_L9 r_ldc_fst_L9 r_ldc_snd_L9 r_ldc_nl_L9 r_ldg_cells_L9 r_stc_nl_N9 r_ld_iptr_L21 r_ldc_fst_L21 r_ldc_snd_L21 r_ldc_nl_L21 r_ldg_cells_L21 r_stc_nl_N21 r_ia_slice_E22_L5 r_ia_arr_E22_L5 r_slc_init_E22_L5 r_slc_arr_E22_L5 r_ld_iptr_L22 r_ldc_fst_L22 r_ldc_snd_L22 r_ldc_nl_L22 r_ldg_cells_L22 r_stc_nl_N22 r_ld_iptr_L24 r_ldc_fst_L24 r_ldc_snd_L24 r_ldc_nl_L24 r_ldg_cells_L24 r_stc_nl_N24 r_al_eq_Z30_S30_rfl_rfl r_ia_slice_E31_L9 r_ia_arr_E31_L9 r_slc_init_E31_L9 r_slc_arr_E31_L9 r_ld_iptr_L31 r_ldc_fst_L31 r_ldc_snd_L31 r_ldc_nl_L31 r_ldg_cells_L31 r_stc_nl_N31 r_ldc_two_L47 r_stc_two_N47 r_ld_iptr_L51 r_ldc_fst_L51 r_ldc_snd_L51 r_ldc_nl_L51 r_ldg_cells_L51 r_stc_nl_N51 r_ld_iptr_L80 r_ldc_fst_L80 r_ldc_snd_L80 r_ldc_nl_L80 r_ldg_cells_L80 r_stc_nl_N80 r_ld_iptr_L86 r_ldc_fst_L86 r_ldc_snd_L86 r_ldc_nl_L86 r_ldg_cells_L86 r_stc_nl_N86 FA30_0 FA30_1 FA30_2 FA47_0 FA47_1 m5_8_3 m5_8_6 m8_3_1 m8_9_3 m8_9_5 m8_13_3 m13_26_5 m13_36_5 m13_39_5 m13_48_5 m13_49_5 m15_1_2 m15_1_4 m16_8_7 m22_3_7 m22_4_0 m22_10_8 q26_7_0 m34_2_0 dd8_14_10 dd24_1_22 dd24_5_4 dd25_1_22 dd25_3_4 dd25_5_4
end Go.AM.S
end

section
namespace NumL
def vl (B : Nat) : List Nat → Nat
 | [] => 0
 | x :: l => x + B * vl B l
def Dg (B : Nat) (l : List Nat) : Prop := ∀ x ∈ l, x < B
theorem vl_append (B : Nat) (a b : List Nat) : vl B (a ++ b) = vl B a + B ^ a.length * vl B b := by
 induction a with
 | nil => simp [vl]
 | cons x a ih =>
  simp only [List.cons_append, vl, ih, List.length_cons, Nat.pow_succ, Nat.mul_add]
  have : B * (B ^ a.length * vl B b) = B ^ a.length * B * vl B b := by rw [← Nat.mul_assoc, Nat.mul_comm B]
  omega
theorem vl_one (B x : Nat) : vl B [x] = x := by simp [vl]
theorem vl_lt {B : Nat} (hB : 0 < B) {l : List Nat} (h : Dg B l) : vl B l < B ^ l.length := by
 induction l with
 | nil => simp [vl]
 | cons x l ih =>
  have h1 : x < B := h x (by simp)
  have h2 := ih (fun y hy => h y (by simp [hy]))
  simp only [vl, List.length_cons, Nat.pow_succ]
  have h3 : B * vl B l + B ≤ B * B ^ l.length := by
   have := Nat.mul_le_mul_left B (Nat.succ_le_of_lt h2)
   rw [Nat.mul_succ] at this; exact this
  rw [Nat.mul_comm (B ^ l.length)]
  omega
theorem vl_take_succ (B : Nat) (l : List Nat) (i : Nat) (h : i < l.length) : vl B (l.take (i + 1)) = vl B (l.take i) + B ^ i * l.getD i 0 := by
 have e : l.take (i + 1) = l.take i ++ [l.getD i 0] := by
  rw [List.take_add_one, List.getD_eq_getElem?_getD, List.getElem?_eq_getElem h]; simp
 rw [e, vl_append, vl_one, List.length_take, Nat.min_eq_left (Nat.le_of_lt h)]
theorem Dg.nil (B : Nat) : Dg B [] := fun x hx => by simp at hx
theorem Dg.snoc {B : Nat} {l : List Nat} (h : Dg B l) {x : Nat} (hx : x < B) : Dg B (l ++ [x]) := by
 intro y hy
 rcases List.mem_append.1 hy with h1 | h1
 ·exact h y h1
 ·rw [List.mem_singleton.1 h1]; exact hx
theorem Dg.get {B : Nat} (hB : 0 < B) {l : List Nat} (h : Dg B l) (i : Nat) : l.getD i 0 < B := by
 rw [List.getD_eq_getElem?_getD]
 cases he : l[i]? with
 | none => exact hB
 | some x => exact h x (List.mem_of_getElem? he)
theorem Dg.take {B : Nat} {l : List Nat} (h : Dg B l) (n : Nat) : Dg B (l.take n) := fun x hx => h x (List.mem_of_mem_take hx)
theorem Dg.drop {B : Nat} {l : List Nat} (h : Dg B l) (n : Nat) : Dg B (l.drop n) := fun x hx => h x (List.mem_of_mem_drop hx)
theorem Dg.set {B : Nat} {l : List Nat} (h : Dg B l) (i : Nat) {x : Nat} (hx : x < B) : Dg B (l.set i x) := by
 intro y hy
 rcases List.mem_or_eq_of_mem_set hy with h1 | h1
 ·exact h y h1
 ·rw [h1]; exact hx
theorem vl_take_ge (B : Nat) (l : List Nat) (i : Nat) (h : l.length ≤ i) : vl B (l.take i) = vl B l := by rw [List.take_of_length_le h]
theorem getD_ge {a : List Nat} {i : Nat} (h : ¬ i < a.length) : a.getD i 0 = 0 := by rw [List.getD_eq_getElem?_getD, List.getElem?_eq_none (by omega)]; rfl
theorem vl_take_next (B : Nat) (a : List Nat) (i : Nat) : vl B (a.take (i + 1)) = vl B (a.take i) + B ^ i * a.getD i 0 := by
 by_cases h : i < a.length
 ·exact vl_take_succ B a i h
 ·rw [List.take_of_length_le (by omega), List.take_of_length_le (by omega), getD_ge h]; simp
theorem plus_step {B : Nat} (hB : 0 < B) {out : List Nat} {i n x y p q : Nat} (hl : out.length = i) (hv : vl B out + B ^ i * n = p + q) : vl B (out ++ [(n + x + y) % B]) + B ^ (i + 1) * ((n + x + y) / B) = (p + B ^ i * x) + (q + B ^ i * y) := by
 rw [vl_append, vl_one, hl, Nat.pow_succ, Nat.mul_assoc, Nat.add_assoc, ← Nat.mul_add, Nat.mod_add_div, Nat.mul_add, Nat.mul_add]
 omega
theorem top_none {B : Nat} {v w k n i : Nat} (hi : i = k + 1) (hB : 2 ≤ B) (h1 : v < B ^ k) (h2 : w < B ^ k) {u : Nat} (h : u + B ^ i * n = v + w) : n = 0 := by
 rcases Nat.eq_zero_or_pos n with h0 | h0
 ·exact h0
 ·exfalso
  subst hi
  have h3 : B ^ (k + 1) * 1 ≤ B ^ (k + 1) * n := Nat.mul_le_mul_left _ h0
  rw [Nat.mul_one, Nat.pow_succ] at h3
  have h4 : B ^ k * 2 ≤ B ^ k * B := Nat.mul_le_mul_left _ hB
  rw [Nat.pow_succ] at h
  omega
theorem vl_lt_of {B : Nat} (hB : 0 < B) {l : List Nat} (h : Dg B l) {k : Nat} (hk : l.length ≤ k) : vl B l < B ^ k := Nat.lt_of_lt_of_le (vl_lt hB h) (Nat.pow_le_pow_right hB hk)
end NumL
end

section
namespace Go.AM.S
open Go Go.AM Go.Proofs NumL
open _root_.Go.AM.G (R)
noncomputable def FIN (P : Program) (h : Hp) (res : List ResultVar) (p : Ex × St) : Option Out := Ex.rec (motive := fun _ => St → Option Out)
  (fun st => G.onSome (F.resV P st res) (fun l => G.onSome (F.exps false st l) (fun q => match q.1 with
   | [v] => some (.val v (F.backHp h q.2.hp [v]))
   | vs => some (.val (.tuple vs) (F.backHp h q.2.hp vs))) none) none)
  (fun _ _ => none)
  (fun st => G.onSome (F.resV P st res) (fun l => G.onSome (F.exps false st l) (fun q => match q.1 with
   | [v] => some (.val v (F.backHp h q.2.hp [v]))
   | vs => some (.val (.tuple vs) (F.backHp h q.2.hp vs))) none) none)
  (fun v st => some (.panic v (F.backHp h st.hp [v]))) p.1 p.2
section
variable {P : Program} {kn : Kn} {tbl : Nat → Option Fc} {h0 : Hp} {res : List ResultVar} {o : Out} {s : St}
variable (P kn tbl h0 res o) in
def Z (c : RC) (s : St) : Prop := Ev fun n => G.onSome (run (fn P kn tbl n) n c s.tm s.loc s.hp done) (FIN P h0 res) none = some o
theorem runs_z {f : FuncId} {fc : Fc} {args : List V} (hk : kn f = none) (ht : tbl f = some fc) (hw : Z P kn tbl h0 fc.res o fc.rc ⟨startTm args, .lf, { h0 with dirty := none }⟩) : Runs P kn tbl f args h0 o := by
 refine (Ev.next hw).mono fun n ⟨m, hm, h1⟩ => ?_
 subst hm
 show G.onSome (kn f) (fun k => k (fn P kn tbl m) args h0) (body P tbl (fn P kn tbl m) m f args h0) = _
 rw [hk]
 show body P tbl (fn P kn tbl m) m f args h0 = _
 unfold body
 rw [ht]
 show G.onSome (run (fn P kn tbl m) m fc.rc (F.startTm args) .lf { h0 with dirty := none } done) _ none = _
 rw [F.e_startTm]
 exact h1
theorem z_assoc {a b c : RC} (hz : Z P kn tbl h0 res o (.seq a (.seq b c)) s) : Z P kn tbl h0 res o (.seq (.seq a b) c) s := hz.mono fun n hn => hn
theorem z_reg {p : Nat → Prop} (hp : Ev p) {f : CallF → Tm → Lo → Hp → K → R} {b : RC} {tm' : Tm} {loc' : Lo} {hp' : Hp} (h : ∀ n, p n → ∀ k, f (fn P kn tbl n) s.tm s.loc s.hp k = k tm' loc' hp') (hz : Z P kn tbl h0 res o b ⟨tm', loc', hp'⟩) : Z P kn tbl h0 res o (.seq (.reg f) b) s := by
 refine (hp.and hz).mono fun n ⟨h1, h2⟩ => ?_
 show G.onSome (f (fn P kn tbl n) s.tm s.loc s.hp (fun tm loc hp => run (fn P kn tbl n) n b tm loc hp done)) _ none = _
 rw [h n h1]
 exact h2
theorem z_cond {t : Nat} {a b c : RC} {q : Bool} (hx : gt s.tm t = .bool q) (hz : Z P kn tbl h0 res o (.seq (bif q then a else b) c) s) : Z P kn tbl h0 res o (.seq (.cond (.tmp t) a b) c) s := by
 refine hz.mono fun n hn => ?_
 show G.onSome (G.onBool (lk [] s.tm (.tmp t)) (fun b' => Bool.rec (motive := fun _ => R) (run (fn P kn tbl n) n b s.tm s.loc s.hp _) (run (fn P kn tbl n) n a s.tm s.loc s.hp _) b') none) _ none = _
 have e : lk [] s.tm (.tmp t) = .bool q := hx
 rw [e]
 cases q <;> exact hn
theorem z_skip {c : RC} (hz : Z P kn tbl h0 res o c s) : Z P kn tbl h0 res o (.seq .skip c) s := hz.mono fun n hn => hn
theorem z_kern {c : RC} (M : Nat) (h : ∀ n, G.onSome (run (fn P kn tbl (n + M)) (n + M) c s.tm s.loc s.hp done) (FIN P h0 res) none = some o) : Z P kn tbl h0 res o c s :=
 ⟨M, fun n hn => by obtain ⟨m, rfl⟩ := Nat.exists_eq_add_of_le hn; rw [Nat.add_comm]; exact h m⟩
end
theorem back_id (h h' : Hp) (vs : List V) (h1 : h'.dirty = none) (h2 : V.noRefsL vs = true) : backHp h h' vs = h := by
 unfold backHp cleanB
 rw [h1, h2]; rfl
section
variable {P : Program} {kn : Kn} {tbl : Nat → Option Fc}
theorem ww_if {t : Nat} {a b : RC} {s : St} {N : St → Prop} {X : Nat → St → Prop} {Q : St → Prop} {p : Prop} [Decidable p] (hx : gt s.tm t = .bool (decide p)) (h1 : p → WW P kn tbl a s N X Q) (h2 : ¬ p → WW P kn tbl b s N X Q) : WW P kn tbl (.cond (.tmp t) a b) s N X Q := by
 by_cases h : p
 ·exact ww_true (by rw [hx, decide_eq_true h]) (h1 h)
 ·exact ww_false (by rw [hx, decide_eq_false h]) (h2 h)
theorem ww_for {c : RC} {id : Nat} {s : St} {N : St → Prop} {X : Nat → St → Prop} {Q : St → Prop} (I : Nat → St → Prop) (m : Nat) (hi : I m s)
  (hb : ∀ m s, I m s → WW P kn tbl c s (fun s' => ∃ m', m' < m ∧ I m' s') (fun i s => if i = id then N s else X i s) Q) : WW P kn tbl (.block id (.loop c)) s N X Q :=
 ww_block (ww_loop I hb m hi)
theorem runs_of_ww {f : FuncId} {rc : RC} {res : List ResultVar} {args : List V} {h : Hp} {o : Out} (hk : kn f = none) (ht : tbl f = some ⟨rc, res⟩)
  (hw : WW P kn tbl rc ⟨startTm args, .lf, ⟨h.rows, none, h.mods⟩⟩ (fun _ => False) (fun _ _ => False) (fun s => fin P h res s = some o)) : Runs P kn tbl f args h o := by
 obtain ⟨o', h1, rfl⟩ := runs_ex (Post := fun o' => o' = o) hk ht (ww_mono hw (fun s hs => hs.elim) (fun _ _ h => h) (fun s hs => ⟨_, hs, rfl⟩))
 exact h1
end
theorem fin_tmp {h : Hp} {t : Nat} {s : St} {v v' : V} {st : St} (hv : gt s.tm t = v) (he : AM.exp false s v = some (v', st)) (hh : st.hp.dirty = none) (hr : v'.noRefs = true) : fin Pg h [.tmp t] s = some (.val v' h) := by
 unfold fin
 simp only [resV, rho_gt, hv, Option.map_some, exps, he]
 rw [back_id h st.hp [v'] hh (by simp [V.noRefsL, hr])]
theorem bin_str (t : TypeId) (cn : Bool) (a b : Str) : bin Pg .eql t cn (.str a) (.str b) = some (.bool (a.same b)) := rfl
end Go.AM.S
end

section
namespace Go.AM.S
open Go Go.AM Go.Proofs NumL
open _root_.Go.AM.G (R)
def sl (l : List Nat) : Str := ⟨l.length, vl 256 l⟩
theorem p8_pow (n : Nat) : AM.p8 n = 256 ^ n := by
 show 2 ^ (8 * n) = _
 rw [show (256 : Nat) = 2 ^ 8 from rfl, ← Nat.pow_mul]
theorem vl_div (B : Nat) (hB : 0 < B) (l : List Nat) (h : Dg B l) (i : Nat) : vl B l / B ^ i = vl B (l.drop i) := by
 by_cases hi : i ≤ l.length
 ·conv => lhs; rw [← List.take_append_drop i l]
  rw [vl_append, List.length_take, Nat.min_eq_left hi, Nat.add_mul_div_left _ _ (Nat.pow_pos hB), Nat.div_eq_of_lt (vl_lt_of hB (h.take i) (by simp; omega)), Nat.zero_add]
 ·rw [List.drop_eq_nil_of_le (by omega), Nat.div_eq_of_lt (vl_lt_of hB h (by omega))]; rfl
theorem vl_mod (B : Nat) (hB : 0 < B) (l : List Nat) (h : Dg B l) (i : Nat) : vl B l % B ^ i = vl B (l.take i) := by
 by_cases hi : i ≤ l.length
 ·conv => lhs; rw [← List.take_append_drop i l]
  rw [vl_append, List.length_take, Nat.min_eq_left hi, Nat.add_mul_mod_self_left, Nat.mod_eq_of_lt (vl_lt_of hB (h.take i) (by simp; omega))]
 ·rw [List.take_of_length_le (by omega), Nat.mod_eq_of_lt (vl_lt_of hB h (by omega))]
theorem sl_n (l : List Nat) : (sl l).n = l.length := rfl
theorem sl_get {l : List Nat} (h : Dg 256 l) (i : Nat) : (sl l).get i = l.getD i 0 := by
 show Nat.mod (Nat.shiftRight (vl 256 l) (Nat.mul 8 i)) 256 = _
 rw [shr8, p8_pow, vl_div 256 (by decide) l h i]
 by_cases hi : i < l.length
 ·rw [List.drop_eq_getElem_cons hi]
  simp only [vl]
  have e : l[i] = l.getD i 0 := by rw [List.getD_eq_getElem?_getD, List.getElem?_eq_getElem hi]; rfl
  rw [e]
  have : l.getD i 0 < 256 := h.get (by decide) i
  show (l.getD i 0 + 256 * vl 256 (l.drop (i + 1))) % 256 = _
  omega
 ·rw [List.drop_eq_nil_of_le (by omega), List.getD_eq_getElem?_getD, List.getElem?_eq_none (by omega)]; rfl
theorem sl_cut {l : List Nat} (h : Dg 256 l) (k m : Nat) (hk : k ≤ m) (hm : m ≤ l.length) : (sl l).cut k m = sl ((l.take m).drop k) := by
 unfold Str.cut sl
 congr 1
 ·simp; omega
 ·show Nat.mod (Nat.shiftRight (vl 256 l) (Nat.mul 8 k)) (AM.p8 (Nat.sub m k)) = _
  rw [shr8, p8_pow, p8_pow, vl_div 256 (by decide) l h k]
  show vl 256 (l.drop k) % 256 ^ (m - k) = _
  rw [vl_mod 256 (by decide) _ (h.drop k), List.drop_take]
theorem sl_app {a b : List Nat} (ha : Dg 256 a) : (sl a).app (sl b) = sl (a ++ b) := by
 unfold Str.app sl
 congr 1
 ·simp
 ·show Nat.mod (vl 256 a) (AM.p8 a.length) + Nat.shiftLeft (vl 256 b) (Nat.mul 8 a.length) = _
  rw [shl8, p8_pow, vl_append, Nat.mul_comm (vl 256 b)]
  congr 1
  exact Nat.mod_eq_of_lt (vl_lt (by decide) ha)
theorem vl_inj' (B : Nat) : ∀ (a b : List Nat), Dg B a → Dg B b → a.length = b.length → vl B a = vl B b → a = b := by
 intro a
 induction a with
 | nil => intro b _ _ hl _; exact (List.length_eq_zero_iff.1 hl.symm).symm
 | cons x a ih =>
  intro b da db hl hv
  cases b with
  | nil => simp at hl
  | cons y b =>
   have hx : x < B := da x (by simp)
   have hy : y < B := db y (by simp)
   simp only [vl] at hv
   have e1 : x = y := by
    have h1 : (x + B * vl B a) % B = (y + B * vl B b) % B := by rw [hv]
    rwa [Nat.add_mul_mod_self_left, Nat.add_mul_mod_self_left, Nat.mod_eq_of_lt hx, Nat.mod_eq_of_lt hy] at h1
   subst e1
   have e2 : vl B a = vl B b := by
    have h1 : B * vl B a = B * vl B b := by omega
    exact Nat.eq_of_mul_eq_mul_left (by omega) h1
   rw [ih b (fun z hz => da z (by simp [hz])) (fun z hz => db z (by simp [hz])) (by simpa using hl) e2]
theorem sl_same {a b : List Nat} (ha : Dg 256 a) (hb : Dg 256 b) : (sl a).same (sl b) = decide (a = b) := by
 rw [Bool.eq_iff_iff, decide_eq_true_iff]
 unfold Str.same sl
 rw [Bool.and_eq_true, Nat.beq_eq, Nat.beq_eq]
 show _ ∧ vl 256 a % AM.p8 a.length = vl 256 b % AM.p8 b.length ↔ _
 rw [p8_pow, p8_pow, Nat.mod_eq_of_lt (vl_lt (by decide) ha), Nat.mod_eq_of_lt (vl_lt (by decide) hb)]
 constructor
 ·intro ⟨h1, h2⟩; exact vl_inj' 256 a b ha hb h1 h2
 ·intro h; subst h; exact ⟨rfl, rfl⟩
theorem pk_vl (l : List UInt8) : pk l = vl 256 (l.map UInt8.toNat) := by
 induction l with
 | nil => rfl
 | cons b l ih => simp only [pk, List.map_cons, vl, ih]
theorem ofL_sl (l : List UInt8) : Str.ofL l = sl (l.map UInt8.toNat) := by
 unfold Str.ofL sl
 rw [pk_vl, List.length_map]
theorem of_sl (s : ByteArray) : Str.of s = sl (s.data.toList.map UInt8.toNat) := by
 unfold Str.of sl
 rw [pk_vl, List.length_map, Array.length_toList]; rfl
theorem bytes_dg (l : List UInt8) : Dg 256 (l.map UInt8.toNat) := by
 intro x hx
 obtain ⟨b, _, rfl⟩ := List.mem_map.1 hx
 exact b.toNat_lt
theorem rune_ascii {l : List Nat} (h : Dg 256 l) (i : Nat) (ha : l.getD i 0 < 128) : (sl l).rune i = (l.getD i 0, 1) := by
 unfold Str.rune
 rw [sl_get h i, show Nat.blt (l.getD i 0) 128 = true from by rw [Nat.blt_eq]; exact ha]
 rfl
theorem rune_big {l : List Nat} (h : Dg 256 l) (i : Nat) (hi : i < l.length) (ha : ¬ l.getD i 0 < 128) : 128 ≤ ((sl l).rune i).1 ∧ ((sl l).rune i).1 < 2147483648 := by
 have hs := Str.rune_spec (sl l) (i := i) hi
 rw [hs]
 obtain ⟨b, h1, h2⟩ := (sl l).get_spec hi
 rw [sl_get h i] at h2
 have h3 : ((sl l).bytes.get! (i + 0)).toNat = l.getD i 0 := by
  have : (sl l).bytes.data[i]? = some b := by rw [← Array.getElem?_toList]; exact h1
  have h4 : (sl l).bytes.get! (i + 0) = b := by
   show (sl l).bytes.data[i + 0]! = b
   rw [Nat.add_zero, getElem!_def, this]
  rw [h4]; exact h2.symm
 unfold Utf8.decode
 simp only [h3]
 rw [if_neg ha]
 have b1 : ∀ k, ((sl l).bytes.get! (i + k)).toNat < 256 := fun k => ((sl l).bytes.get! (i + k)).toNat_lt
 have c1 := b1 1; have c2 := b1 2; have c3 := b1 3
 have e : Utf8.runeError = 65533 := rfl
 have hl : l.getD i 0 < 256 := h.get (by decide) i
 split
 ·split
  ·rename_i hc; exact ⟨hc, by show _ < 2147483648; omega⟩
  ·rw [e]; exact ⟨by decide, by decide⟩
 ·split
  ·split
   ·rename_i hc
    simp only [Bool.and_eq_true, decide_eq_true_eq] at hc
    exact ⟨by have := hc.1; show 128 ≤ _; omega, by show _ < 2147483648; omega⟩
   ·rw [e]; exact ⟨by decide, by decide⟩
  ·split
   ·split
    ·rename_i hc
     simp only [Bool.and_eq_true, decide_eq_true_eq] at hc
     exact ⟨by have := hc.1; show 128 ≤ _; omega, by show _ < 2147483648; omega⟩
    ·rw [e]; exact ⟨by decide, by decide⟩
   ·rw [e]; exact ⟨by decide, by decide⟩
section
variable {P : Program} {C : Cfg} {call : CallF} {gl : Nat → Bool} {o : Oper} {tm : Tm} {loc : Lo} {hp : Hp} {j : V → Lo → Hp → R}
theorem gen_range {d x : Nat} {t : TypeId} {s : Str} (hd : o.dst = some d) (ho : o.op = .range t (.tmp x)) (hu : P.underlying t = some .string) (hg : gl d = false) :
  gen P C call gl o (pt .lf x (.str s)) tm loc hp j = j (.ptr (.loc d ((lg loc d).1 + 1)) 0) (lp loc d ((lg loc d).1 + 1, .iter s 0)) hp := by
 refine gen_val (v := .ptr (.loc d ((lg loc d).1 + 1)) 0) (st := ⟨pt .lf x (.str s), lp loc d ((lg loc d).1 + 1, .iter s 0), hp⟩) hd ?_
 have hx : gt (pt .lf x (.str s)) x = .str s := by rw [gt_pt, if_pos rfl]
 have hp1 : locV P C gl (⟨pt .lf x (.str s), loc, hp⟩ : St).ρ (⟨pt .lf x (.str s), loc, hp⟩ : St).lc o = some (.ptr (.loc d ((lg loc d).1 + 1)) 0, some (d, (lg loc d).1 + 1, .iter s 0)) := by
  unfold locV
  simp only [ho, hu, opd_gt, hx, hd, hg, cond_false, lc_lg]
 unfold stepV
 rw [hp1]
 simp only [applyL, aset_lp]
theorem gen_next {d x s g pos : Nat} {u : Str} (hd : o.dst = some d) (ho : o.op = .next (.tmp x) true) (hr : lg loc s = (g, .iter u pos)) (hlt : pos < u.n) :
  gen P C call gl o (pt .lf x (.ptr (.loc s g) 0)) tm loc hp j = j (.tuple [.bool true, .int .i64 (.ofNat pos), .int .i32 (.ofNat (u.rune pos).1)]) (lp loc s (g, .iter u (pos + (u.rune pos).2))) hp := by
 have hx : gt (pt .lf x (.ptr (.loc s g) 0)) x = .ptr (.loc s g) 0 := by rw [gt_pt, if_pos rfl]
 refine gen_val (v := .tuple [.bool true, .int .i64 (.ofNat pos), .int .i32 (.ofNat (u.rune pos).1)]) (st := ⟨pt .lf x (.ptr (.loc s g) 0), lp loc s (g, .iter u (pos + (u.rune pos).2)), hp⟩) hd ?_
 have hp1 : locV P C gl (⟨pt .lf x (.ptr (.loc s g) 0), loc, hp⟩ : St).ρ (⟨pt .lf x (.ptr (.loc s g) 0), loc, hp⟩ : St).lc o = none := by
  unfold locV
  simp only [ho, pureV, Option.map_none]
 unfold stepV
 rw [hp1]
 unfold stepG
 have hrow : getRow ⟨pt .lf x (.ptr (.loc s g) 0), loc, hp⟩ (.loc s g) = some (.iter u pos) := getRow_loc hr
 simp only [ho, opd_gt, hx, hrow]
 rw [show Nat.blt pos u.n = true from by rw [Nat.blt_eq]; exact hlt]
 simp only [cond_true, setRow_loc]
 rfl
theorem gen_next_end {d x s g pos : Nat} {u : Str} (hd : o.dst = some d) (ho : o.op = .next (.tmp x) true) (hr : lg loc s = (g, .iter u pos)) (hlt : ¬ pos < u.n) :
  gen P C call gl o (pt .lf x (.ptr (.loc s g) 0)) tm loc hp j = j (.tuple [.bool false]) loc hp := by
 have hx : gt (pt .lf x (.ptr (.loc s g) 0)) x = .ptr (.loc s g) 0 := by rw [gt_pt, if_pos rfl]
 refine gen_val (v := .tuple [.bool false]) (st := ⟨pt .lf x (.ptr (.loc s g) 0), loc, hp⟩) hd ?_
 have hp1 : locV P C gl (⟨pt .lf x (.ptr (.loc s g) 0), loc, hp⟩ : St).ρ (⟨pt .lf x (.ptr (.loc s g) 0), loc, hp⟩ : St).lc o = none := by
  unfold locV
  simp only [ho, pureV, Option.map_none]
 unfold stepV
 rw [hp1]
 unfold stepG
 have hrow : getRow ⟨pt .lf x (.ptr (.loc s g) 0), loc, hp⟩ (.loc s g) = some (.iter u pos) := getRow_loc hr
 simp only [ho, opd_gt, hx, hrow]
 rw [show Nat.blt pos u.n = false from by
  cases h : Nat.blt pos u.n with
  | false => rfl
  | true => exact absurd (by rwa [Nat.blt_eq] at h) hlt]
 rfl
theorem bytesOf_nl (l : List Nat) : bytesOf (nl .u8 l) = some (l.map UInt8.ofNat) := by
 unfold nl
 induction l with
 | nil => rfl
 | cons x l ih => simp only [List.map_cons, bytesOf, ih, Option.map_some]; rfl
theorem ofL_bytes {l : List Nat} (h : Dg 256 l) : Str.ofL (l.map UInt8.ofNat) = sl l := by
 rw [ofL_sl]
 congr 1
 rw [List.map_map]
 conv => rhs; rw [← List.map_id l]
 refine List.map_congr_left (fun x hx => ?_)
 have : x < 256 := h x hx
 show (UInt8.ofNat x).toNat = x
 rw [UInt8.toNat_ofNat']
 exact Nat.mod_eq_of_lt this
theorem gen_text {d x : Nat} {s t e : TypeId} {w : V} {l : List Nat} (hd : o.dst = some d) (ho : o.op = .convert s t (.tmp x)) (h1 : P.underlying s = some (.slice e)) (h2 : P.underlying t = some .string) (h3 : P.underlying e = some (.int .u8)) (hw : ∀ q, w ≠ .str q)
  (hi : ∀ tm, itemsOf ⟨tm, loc, hp⟩ w = some (nl .u8 l)) (hl : Dg 256 l) :
  gen P C call gl o (pt .lf x w) tm loc hp j = j (.str (sl l)) loc hp := by
 have hx : gt (pt .lf x w) x = w := by rw [gt_pt, if_pos rfl]
 refine gen_val (v := .str (sl l)) (st := ⟨pt .lf x w, loc, hp⟩) hd ?_
 have hp1 : locV P C gl (⟨pt .lf x w, loc, hp⟩ : St).ρ (⟨pt .lf x w, loc, hp⟩ : St).lc o = none := by
  unfold locV
  simp only [ho, pureV, opd_gt, hx, convV, h1, h2]
  rfl
 unfold stepV
 rw [hp1]
 unfold stepG
 simp only [ho, hd, convS, h1, h2, h3, opd_gt, hx, hi]
 cases w with
 | str q => exact absurd rfl (hw q)
 | _ => simp only [bytesOf_nl, Option.map_some, ofL_bytes hl]
end
theorem idx_sl {l : List Nat} (h : Dg 256 l) (k : IntKind) (i : Nat) (hi : i < l.length) : idx Pg 9 (.str (sl l)) (.int k (.ofNat i)) = some (.int .u8 (.ofNat (l.getD i 0))) := by
 have hu : G.isStr (Pg.underlying 9) = true := by rw [U9]; rfl
 show (bif G.isStr (Pg.underlying 9) then (bif Nat.blt i l.length then some (V.int .u8 (.ofNat ((sl l).get i))) else none) else none) = _
 rw [hu, show Nat.blt i l.length = true from by rw [Nat.blt_eq]; exact hi, sl_get h i]
 rfl
theorem slc_str' {P : Program} {t : TypeId} (hu : P.underlying t = some .string) {l : List Nat} (h : Dg 256 l) (k : IntKind) (i : Nat) (hi : i ≤ l.length) : slc P t (.str (sl l)) (some (.int k (.ofNat i))) none none = some (.str (sl (l.drop i))) := by
 have e0 : slc P t (.str (sl l)) (some (.int k (.ofNat i))) none none = F.sliceV P t (.str (sl l)) (some (.ofNat i)) none none := rfl
 rw [e0]
 unfold F.sliceV
 simp only [hu]
 unfold F.sliceStr
 simp only [Option.getD_none, Option.getD_some, F.toNatLe, sl_n]
 have e1 : Nat.ble l.length l.length = true := by rw [Nat.ble_eq]; exact Nat.le_refl _
 have e2 : Nat.ble i l.length = true := by rw [Nat.ble_eq]; exact hi
 show (match (bif Nat.ble l.length l.length then some l.length else none) with
  | none => none
  | some h => match (bif Nat.ble i h then some i else none) with
   | none => none
   | some k => some (V.str ((sl l).cut k h))) = _
 rw [e1]
 simp only [cond_true, e2]
 rw [sl_cut h i l.length hi (Nat.le_refl _), List.take_length]
theorem slc_str {l : List Nat} (h : Dg 256 l) (k : IntKind) (i : Nat) (hi : i ≤ l.length) : slc Pg 9 (.str (sl l)) (some (.int k (.ofNat i))) none none = some (.str (sl (l.drop i))) := slc_str' U9 h k i hi
theorem eq_str (t : TypeId) (cn : Bool) {a b : List Nat} (ha : Dg 256 a) (hb : Dg 256 b) : bin Pg .eql t cn (.str (sl a)) (.str (sl b)) = some (.bool (decide (a = b))) := by
 show some (V.bool ((sl a).same (sl b))) = _
 rw [sl_same ha hb]
theorem eq_nil (t : TypeId) (cn : Bool) {a : List Nat} (ha : Dg 256 a) : bin Pg .eql t cn (.str (sl a)) (.str ⟨0, 0⟩) = some (.bool (decide (a = []))) := eq_str t cn ha (b := []) (Dg.nil 256)
theorem add_str0 (t : TypeId) (cn : Bool) (x y : Str) : bin Pg .add t cn (.str x) (.str y) = strOp .add x y := rfl
theorem str_add (x y : Str) (h : Nat.ble (Nat.add x.n y.n) 4611686018427387904 = true) : strOp .add x y = some (.str (x.app y)) := by
 unfold strOp
 rw [h]; rfl
theorem add_str (t : TypeId) (cn : Bool) {a b : List Nat} (ha : Dg 256 a) (hl : a.length + b.length ≤ 4611686018427387904) : bin Pg .add t cn (.str (sl a)) (.str (sl b)) = some (.str (sl (a ++ b))) := by
 rw [add_str0, str_add _ _ (Nat.ble_eq_true_of_le hl), sl_app ha]
attribute [go_sem] sl_n
end Go.AM.S
end

section
namespace Go.AM.S
open Go Go.AM Go.Proofs NumL
open _root_.Go.AM.G (R)
set_option maxRecDepth 100000
open Go.Proofs.YtjldfkldmfmkiaaDoor
variable {L : List (Nat × Int × Int)}
theorem runs_any {f : FuncId} {args : List V} {o : Out} {h : Hp} (hr : ∀ n, fn Pg (kn L) tbl (n + 40) f args h = some o) : Runs Pg (kn L) tbl f args h o :=
 ⟨40, fun n hn => by obtain ⟨m, rfl⟩ := Nat.exists_eq_add_of_le hn; rw [Nat.add_comm]; exact hr m⟩
theorem tbl33 : tbl 33 = some ⟨rc33, [.tmp 4]⟩ := by kernel_rfl
theorem kn33 : kn L 33 = none := by kernel_rfl
def kd (r s : Nat) : Nat := if r = 65533 ∧ s = 1 then 5 else if r = 32 ∨ r = 9 ∨ r = 10 ∨ r = 13 then 1 else if 97 ≤ r ∧ r ≤ 122 ∨ 65 ≤ r ∧ r ≤ 90 ∨ r = 95 ∨ 128 ≤ r then 2 else if 48 ≤ r ∧ r ≤ 57 then 3 else 4
set_option maxHeartbeats 4000000 in
theorem kind33 (r s : Nat) (h : Hp) : Runs Pg (kn L) tbl 33 [.int .i32 (.ofNat r), .int .i64 (.ofNat s)] h (.val (.int .i64 (.ofNat (kd r s))) h) := by
 refine runs_of_ww kn33 tbl33 ?_
 have done : ∀ (st : St) (K : Nat), K = kd r s → gt st.tm 4 = .int .i64 (.ofNat K) → st.hp = ⟨h.rows, none, h.mods⟩ → fin Pg h [.tmp 4] st = some (.val (.int .i64 (.ofNat (kd r s))) h) := by
  intro st K e h4 hh
  rw [← e]
  exact fin_tmp (v := .int .i64 (.ofNat K)) h4 rfl (by rw [hh]) rfl
 unfold rc33
 refine sR ?_
 refine ww_joinX (fun st => kd r s = 4 ∧ st.hp = ⟨h.rows, none, h.mods⟩) ?_ (fun st ⟨e, hh⟩ => ?_)
 ·refine ww_block ?_
  refine ww_joinX (fun st => gt st.tm 5 = .bool (decide (r = 65533 ∧ s = 1)) ∧ gt st.tm 0 = .int .i32 (.ofNat r) ∧ st.hp = ⟨h.rows, none, h.mods⟩) ?_ (fun st ⟨h5, h0, hh⟩ => ?_)
  ·obtain ⟨b1, d1⟩ : ∃ b, decide (r = 65533) = b := ⟨_, rfl⟩
   obtain ⟨b2, d2⟩ : ∃ b, decide (s = 1) = b := ⟨_, rfl⟩
   have e : decide (r = 65533 ∧ s = 1) = (b1 && b2) := by rw [← d1, ← d2, Bool.decide_and]
   rw [e]
   cases b1 <;> cases b2
   ·refine ww_reg (fun n k => by simp -implicitDefEqProofs (disch := omega) only [go_sem, reduceIte, Nat.reduceEqDiff, gt_start, List.getD_cons_zero, List.getD_cons_succ, d1, d2, Bool.not_false]; rfl) ?_
    exact ⟨(by simp only [gt_pt, reduceIte]; rfl), sSG, rfl⟩
   ·refine ww_reg (fun n k => by simp -implicitDefEqProofs (disch := omega) only [go_sem, reduceIte, Nat.reduceEqDiff, gt_start, List.getD_cons_zero, List.getD_cons_succ, d1, d2, Bool.not_false]; rfl) ?_
    exact ⟨(by simp only [gt_pt, reduceIte]; rfl), sSG, rfl⟩
   ·refine ww_reg (fun n k => by simp -implicitDefEqProofs (disch := omega) only [go_sem, reduceIte, Nat.reduceEqDiff, gt_start, List.getD_cons_zero, List.getD_cons_succ, d1, d2, Bool.not_false]; rfl) ?_
    exact ⟨(by simp only [gt_pt, reduceIte]; rfl), sSG, rfl⟩
   ·refine ww_reg (fun n k => by simp -implicitDefEqProofs (disch := omega) only [go_sem, reduceIte, Nat.reduceEqDiff, gt_start, List.getD_cons_zero, List.getD_cons_succ, d1, d2, Bool.not_false]; rfl) ?_
    exact ⟨(by simp only [gt_pt, reduceIte]; rfl), sSG, rfl⟩
  refine ww_if h5 (fun hc => ?_) (fun hc5 => ?_)
  ·refine sR ?_
   refine ww_ret (done _ 5 ?_ sS hh)
   unfold kd; rw [if_pos hc]
  refine ww_joinX (fun st => gt st.tm 12 = .bool (decide (r = 32 ∨ r = 9 ∨ r = 10 ∨ r = 13)) ∧ gt st.tm 0 = .int .i32 (.ofNat r) ∧ st.hp = ⟨h.rows, none, h.mods⟩) ?_ (fun st ⟨h12, h0, hh⟩ => ?_)
  ·obtain ⟨b1, d1⟩ : ∃ b, decide (r = 32) = b := ⟨_, rfl⟩
   obtain ⟨b2, d2⟩ : ∃ b, decide (r = 9) = b := ⟨_, rfl⟩
   obtain ⟨b3, d3⟩ : ∃ b, decide (r = 10) = b := ⟨_, rfl⟩
   obtain ⟨b4, d4⟩ : ∃ b, decide (r = 13) = b := ⟨_, rfl⟩
   have e : decide (r = 32 ∨ r = 9 ∨ r = 10 ∨ r = 13) = (b1 || (b2 || (b3 || b4))) := by rw [← d1, ← d2, ← d3, ← d4, Bool.decide_or, Bool.decide_or, Bool.decide_or]
   rw [e]
   cases b1 <;> cases b2 <;> cases b3 <;> cases b4
   ·refine ww_reg (fun n k => by simp -implicitDefEqProofs (disch := omega) only [go_sem, reduceIte, Nat.reduceEqDiff, h0, d1, d2, d3, d4, Bool.not_false, Bool.not_true]; rfl) ?_
    exact ⟨(by simp only [gt_pt, reduceIte]; rfl), (sS1 h0), hh⟩
   ·refine ww_reg (fun n k => by simp -implicitDefEqProofs (disch := omega) only [go_sem, reduceIte, Nat.reduceEqDiff, h0, d1, d2, d3, d4, Bool.not_false, Bool.not_true]; rfl) ?_
    exact ⟨(by simp only [gt_pt, reduceIte]; rfl), (sS1 h0), hh⟩
   ·refine ww_reg (fun n k => by simp -implicitDefEqProofs (disch := omega) only [go_sem, reduceIte, Nat.reduceEqDiff, h0, d1, d2, d3, d4, Bool.not_false, Bool.not_true]; rfl) ?_
    exact ⟨(by simp only [gt_pt, reduceIte]; rfl), (sS1 h0), hh⟩
   ·refine ww_reg (fun n k => by simp -implicitDefEqProofs (disch := omega) only [go_sem, reduceIte, Nat.reduceEqDiff, h0, d1, d2, d3, d4, Bool.not_false, Bool.not_true]; rfl) ?_
    exact ⟨(by simp only [gt_pt, reduceIte]; rfl), (sS1 h0), hh⟩
   ·refine ww_reg (fun n k => by simp -implicitDefEqProofs (disch := omega) only [go_sem, reduceIte, Nat.reduceEqDiff, h0, d1, d2, d3, d4, Bool.not_false, Bool.not_true]; rfl) ?_
    exact ⟨(by simp only [gt_pt, reduceIte]; rfl), (sS1 h0), hh⟩
   ·refine ww_reg (fun n k => by simp -implicitDefEqProofs (disch := omega) only [go_sem, reduceIte, Nat.reduceEqDiff, h0, d1, d2, d3, d4, Bool.not_false, Bool.not_true]; rfl) ?_
    exact ⟨(by simp only [gt_pt, reduceIte]; rfl), (sS1 h0), hh⟩
   ·refine ww_reg (fun n k => by simp -implicitDefEqProofs (disch := omega) only [go_sem, reduceIte, Nat.reduceEqDiff, h0, d1, d2, d3, d4, Bool.not_false, Bool.not_true]; rfl) ?_
    exact ⟨(by simp only [gt_pt, reduceIte]; rfl), (sS1 h0), hh⟩
   ·refine ww_reg (fun n k => by simp -implicitDefEqProofs (disch := omega) only [go_sem, reduceIte, Nat.reduceEqDiff, h0, d1, d2, d3, d4, Bool.not_false, Bool.not_true]; rfl) ?_
    exact ⟨(by simp only [gt_pt, reduceIte]; rfl), (sS1 h0), hh⟩
   ·refine ww_reg (fun n k => by simp -implicitDefEqProofs (disch := omega) only [go_sem, reduceIte, Nat.reduceEqDiff, h0, d1, d2, d3, d4, Bool.not_false, Bool.not_true]; rfl) ?_
    exact ⟨(by simp only [gt_pt, reduceIte]; rfl), (sS1 h0), hh⟩
   ·refine ww_reg (fun n k => by simp -implicitDefEqProofs (disch := omega) only [go_sem, reduceIte, Nat.reduceEqDiff, h0, d1, d2, d3, d4, Bool.not_false, Bool.not_true]; rfl) ?_
    exact ⟨(by simp only [gt_pt, reduceIte]; rfl), (sS1 h0), hh⟩
   ·refine ww_reg (fun n k => by simp -implicitDefEqProofs (disch := omega) only [go_sem, reduceIte, Nat.reduceEqDiff, h0, d1, d2, d3, d4, Bool.not_false, Bool.not_true]; rfl) ?_
    exact ⟨(by simp only [gt_pt, reduceIte]; rfl), (sS1 h0), hh⟩
   ·refine ww_reg (fun n k => by simp -implicitDefEqProofs (disch := omega) only [go_sem, reduceIte, Nat.reduceEqDiff, h0, d1, d2, d3, d4, Bool.not_false, Bool.not_true]; rfl) ?_
    exact ⟨(by simp only [gt_pt, reduceIte]; rfl), (sS1 h0), hh⟩
   ·refine ww_reg (fun n k => by simp -implicitDefEqProofs (disch := omega) only [go_sem, reduceIte, Nat.reduceEqDiff, h0, d1, d2, d3, d4, Bool.not_false, Bool.not_true]; rfl) ?_
    exact ⟨(by simp only [gt_pt, reduceIte]; rfl), (sS1 h0), hh⟩
   ·refine ww_reg (fun n k => by simp -implicitDefEqProofs (disch := omega) only [go_sem, reduceIte, Nat.reduceEqDiff, h0, d1, d2, d3, d4, Bool.not_false, Bool.not_true]; rfl) ?_
    exact ⟨(by simp only [gt_pt, reduceIte]; rfl), (sS1 h0), hh⟩
   ·refine ww_reg (fun n k => by simp -implicitDefEqProofs (disch := omega) only [go_sem, reduceIte, Nat.reduceEqDiff, h0, d1, d2, d3, d4, Bool.not_false, Bool.not_true]; rfl) ?_
    exact ⟨(by simp only [gt_pt, reduceIte]; rfl), (sS1 h0), hh⟩
   ·refine ww_reg (fun n k => by simp -implicitDefEqProofs (disch := omega) only [go_sem, reduceIte, Nat.reduceEqDiff, h0, d1, d2, d3, d4, Bool.not_false, Bool.not_true]; rfl) ?_
    exact ⟨(by simp only [gt_pt, reduceIte]; rfl), (sS1 h0), hh⟩
  refine ww_if h12 (fun hc => ?_) (fun hc12 => ?_)
  ·refine sR ?_
   refine ww_ret (done _ 1 ?_ sS hh)
   unfold kd; rw [if_neg hc5, if_pos hc]
  refine ww_joinX (fun st => gt st.tm 27 = .bool (decide (97 ≤ r ∧ r ≤ 122 ∨ 65 ≤ r ∧ r ≤ 90 ∨ r = 95 ∨ 128 ≤ r)) ∧ gt st.tm 0 = .int .i32 (.ofNat r) ∧ st.hp = ⟨h.rows, none, h.mods⟩) ?_ (fun st ⟨h27, h0, hh⟩ => ?_)
  ·obtain ⟨b1, d1⟩ : ∃ b, decide (97 ≤ r) = b := ⟨_, rfl⟩
   obtain ⟨b2, d2⟩ : ∃ b, decide (r ≤ 122) = b := ⟨_, rfl⟩
   obtain ⟨b3, d3⟩ : ∃ b, decide (65 ≤ r) = b := ⟨_, rfl⟩
   obtain ⟨b4, d4⟩ : ∃ b, decide (r ≤ 90) = b := ⟨_, rfl⟩
   obtain ⟨b5, d5⟩ : ∃ b, decide (r = 95) = b := ⟨_, rfl⟩
   obtain ⟨b6, d6⟩ : ∃ b, decide (128 ≤ r) = b := ⟨_, rfl⟩
   have e : decide (97 ≤ r ∧ r ≤ 122 ∨ 65 ≤ r ∧ r ≤ 90 ∨ r = 95 ∨ 128 ≤ r) = (b1 && b2 || (b3 && b4 || (b5 || b6))) := by rw [← d1, ← d2, ← d3, ← d4, ← d5, ← d6, Bool.decide_or, Bool.decide_or, Bool.decide_or, Bool.decide_and, Bool.decide_and]
   rw [e]
   cases b1 <;> cases b2 <;> cases b3 <;> cases b4 <;> cases b5 <;> cases b6
   all_goals
    refine ww_reg (fun n k => by simp -implicitDefEqProofs (disch := omega) only [go_sem, reduceIte, Nat.reduceEqDiff, h0, d1, d2, d3, d4, d5, d6, Bool.not_false, Bool.not_true]; rfl) ?_
    exact ⟨(by simp only [gt_pt, reduceIte]; rfl), (sS1 h0), hh⟩
  refine ww_if h27 (fun hc => ?_) (fun hc27 => ?_)
  ·refine sR ?_
   refine ww_ret (done _ 2 ?_ sS hh)
   unfold kd; rw [if_neg hc5, if_neg hc12, if_pos hc]
  refine ww_joinX (fun st => gt st.tm 50 = .bool (decide (48 ≤ r ∧ r ≤ 57)) ∧ st.hp = ⟨h.rows, none, h.mods⟩) ?_ (fun st ⟨h50, hh⟩ => ?_)
  ·obtain ⟨b1, d1⟩ : ∃ b, decide (48 ≤ r) = b := ⟨_, rfl⟩
   obtain ⟨b2, d2⟩ : ∃ b, decide (r ≤ 57) = b := ⟨_, rfl⟩
   have e : decide (48 ≤ r ∧ r ≤ 57) = (b1 && b2) := by rw [← d1, ← d2, Bool.decide_and]
   rw [e]
   cases b1 <;> cases b2
   all_goals
    refine ww_reg (fun n k => by simp -implicitDefEqProofs (disch := omega) only [go_sem, reduceIte, Nat.reduceEqDiff, h0, d1, d2, Bool.not_false]; rfl) ?_
    exact ⟨(by simp only [gt_pt, reduceIte]; rfl), hh⟩
  refine ww_if h50 (fun hc => ?_) (fun hc50 => ww_skip ?_)
  ·refine sR ?_
   refine ww_ret (done _ 3 ?_ sS hh)
   unfold kd; rw [if_neg hc5, if_neg hc12, if_neg hc27, if_pos hc]
  ·exact ⟨by unfold kd; rw [if_neg hc5, if_neg hc12, if_neg hc27, if_neg hc50], hh⟩
 ·refine sR ?_
  exact ww_ret (done _ 4 e.symm sS hh)
end Go.AM.S
end

section
namespace Go.AM.S
open Go Go.AM Go.Proofs NumL
open _root_.Go.AM.G (R)
set_option maxRecDepth 100000
open Go.Proofs.YtjldfkldmfmkiaaDoor
variable {L : List (Nat × Int × Int)}
theorem sl_drop {l : List Nat} (hd : Dg 256 l) (i : Nat) (hi : i ≤ l.length) : (sl (l.drop i)).bytes = (sl l).bytes.extract i (sl l).bytes.size := by
 have h1 := sl_cut hd i l.length hi (Nat.le_refl _)
 rw [List.take_length] at h1
 rw [← h1, Str.bytes_size]
 exact Str.cut_spec _ hi (Nat.le_refl _)
def hr (l : List Nat) : Nat × Nat := headR (sl l)
theorem hr_nil : hr [] = (65533, 0) := rfl
theorem rune_hr {l : List Nat} (hd : Dg 256 l) {i : Nat} (hi : i < l.length) : (sl l).rune i = hr (l.drop i) := by
 have hs : (sl l).bytes.size = l.length := Str.bytes_size _
 unfold hr
 rw [← headR_go, sl_drop hd i (by omega), Str.rune_spec _ hi]
 unfold Lib.decodeGo
 rw [if_neg (by rw [Lib.tail_size]; omega), Lib.tail_decode, Nat.add_zero]
theorem hr_dec {l : List Nat} (h : l ≠ []) : hr l = Utf8.decode (sl l).bytes 0 ∧ 0 < (sl l).bytes.size := by
 have hs : (sl l).bytes.size = l.length := Str.bytes_size _
 have hl : 0 < l.length := List.length_pos_iff.2 h
 refine ⟨?_, by omega⟩
 unfold hr
 rw [← headR_go]
 unfold Lib.decodeGo
 rw [if_neg (by omega)]
theorem hr_pos {l : List Nat} (h : l ≠ []) : 1 ≤ (hr l).2 := by
 obtain ⟨e, h0⟩ := hr_dec h
 rw [e]; exact Lib.decode_width_pos _ 0 h0
theorem hr_le {l : List Nat} : (hr l).2 ≤ l.length := by
 by_cases h : l = []
 ·subst h; exact Nat.le_refl 0
 ·obtain ⟨e, h0⟩ := hr_dec h
  have hs : (sl l).bytes.size = l.length := Str.bytes_size _
  rw [e, ← hs]; exact Lib.width_le _ h0
theorem hr_lt (l : List Nat) : (hr l).1 ≤ 2147483647 := by
 by_cases h : l = []
 ·subst h; decide
 ·rw [(hr_dec h).1]; exact Go.decode_le _ 0
def kh (l : List Nat) : Nat := kd (hr l).1 (hr l).2
theorem dec31 (l : List Nat) (h : Hp) : Runs Pg (kn L) tbl 31 [.str (sl l)] h (.val (.tuple [.int .i32 (.ofNat (hr l).1), .int .i64 (.ofNat (hr l).2)]) h) := runs_known (k := decK) (by kernel_rfl) (fun _ => rfl)
end Go.AM.S
end

section
namespace Go.AM.S
open Go Go.AM Go.Proofs NumL
open _root_.Go.AM.G (R)
set_option maxRecDepth 100000
open Go.Proofs.YtjldfkldmfmkiaaDoor
variable {L : List (Nat × Int × Int)}
theorem tbl32 : tbl 32 = some ⟨rc32, [.tmp 4]⟩ := by kernel_rfl
theorem tbl21 : tbl 21 = some ⟨rc21, [.tmp 4]⟩ := by kernel_rfl
theorem tbl23 : tbl 23 = some ⟨rc23, [.tmp 2]⟩ := by kernel_rfl
theorem tbl34 : tbl 34 = some ⟨rc34, [.tmp 4]⟩ := by kernel_rfl
theorem kn32 : kn L 32 = none := by kernel_rfl
theorem kn21 : kn L 21 = none := by kernel_rfl
theorem kn23 : kn L 23 = none := by kernel_rfl
theorem kn34 : kn L 34 = none := by kernel_rfl
theorem slc_hi {P : Program} {t : TypeId} (hu : P.underlying t = some .string) {l : List Nat} (h : Dg 256 l) (k : IntKind) (i : Nat) (hi : i ≤ l.length) : slc P t (.str (sl l)) none (some (.int k (.ofNat i))) none = some (.str (sl (l.take i))) := by
 have e0 : slc P t (.str (sl l)) none (some (.int k (.ofNat i))) none = F.sliceV P t (.str (sl l)) none (some (.ofNat i)) none := rfl
 rw [e0]
 unfold F.sliceV
 simp only [hu]
 unfold F.sliceStr
 simp only [Option.getD_none, Option.getD_some, F.toNatLe, sl_n]
 have e2 : Nat.ble i l.length = true := by rw [Nat.ble_eq]; exact hi
 have e3 : Nat.ble 0 i = true := by rw [Nat.ble_eq]; exact Nat.zero_le _
 show (match (bif Nat.ble i l.length then some i else none) with
  | none => none
  | some h => match (bif Nat.ble 0 h then some 0 else none) with
   | none => none
   | some k => some (V.str ((sl l).cut k h))) = _
 rw [e2]
 simp only [cond_true, e3]
 rw [sl_cut h 0 i (Nat.zero_le _) hi, List.drop_zero]
def beg (p l : List Nat) : Bool := decide (p.length ≤ l.length ∧ l.take p.length = p)
theorem pre32 {l p : List Nat} (hd : Dg 256 l) (hp : Dg 256 p) (h : Hp) : Runs Pg (kn L) tbl 32 [.str (sl l), .str (sl p)] h (.val (.bool (beg p l)) h) := by
 refine runs_of_ww kn32 tbl32 ?_
 unfold rc32
 refine sR ?_
 by_cases h2 : p.length ≤ l.length
 ·have e1 := slc_hi (t := 9) U9 hd .i64 p.length h2
  have e2 := eq_str 9 false (hd.take p.length) hp
  have e3 : decide (p.length ≤ l.length) = true := decide_eq_true h2
  have e4 : beg p l = decide (l.take p.length = p) := by unfold beg; congr 1; apply propext; exact ⟨fun q => q.2, fun q => ⟨h2, q⟩⟩
  rw [e4]
  refine sRG3 e1 e2 e3 ?_
  exact ww_ret (fin_tmp (v := .bool (decide (l.take p.length = p))) sS rfl rfl rfl)
 ·have e3 : decide (p.length ≤ l.length) = false := decide_eq_false h2
  have e4 : beg p l = false := by unfold beg; exact decide_eq_false (fun q => h2 q.1)
  rw [e4]
  refine ww_seq (ww_reg (fun n k => by simp -implicitDefEqProofs (disch := omega) only [go_sem, reduceIte, Nat.reduceEqDiff, gt_start, List.getD_cons_zero, List.getD_cons_succ, e3, Bool.not_false]; rfl) ?_)
  exact ww_ret (fin_tmp (v := .bool false) sS rfl rfl rfl)
theorem pre21 {l p : List Nat} (hd : Dg 256 l) (hp : Dg 256 p) (h : Hp) : Runs Pg (kn L) tbl 21 [.str (sl l), .str (sl p)] h (.val (.bool (beg p l)) h) := by
 refine runs_of_ww kn21 tbl21 ?_
 unfold rc21
 refine sR ?_
 refine ww_seq (ww_call (pre32 (L := L) hd hp ⟨h.rows, none, h.mods⟩) (fun n hn k => by simp -implicitDefEqProofs (disch := omega) only [go_sem, reduceIte, Nat.reduceEqDiff, gt_start, List.getD_cons_zero, List.getD_cons_succ, clc2 hn (Ex1.str _) (Ex1.str _)]; rfl) ?_)
 exact ww_ret (fin_tmp (v := .bool (beg p l)) sS rfl rfl rfl)
theorem nilC_ptr (r : Ref) (o : Nat) : nilC (.ptr r o) = some (.ptr r o) := rfl
def LxR (l : List Nat) (i : Nat) : Row := .cells false [.str (sl l), .int .i64 (.ofNat i)]
theorem first23 {l : List Nat} (hd : Dg 256 l) {i : Nat} (hi : i ≤ l.length) {h : Hp} {r : Nat} (hrw : h.rows[r]? = some (LxR l i)) : Runs Pg (kn L) tbl 23 [.ptr (.glob r) 0] h (.val (.int .i64 (.ofNat (kh (l.drop i)))) h) := by
 have hr' : F.nthR h.rows r = some (.cells false [.str (sl l), .int .i64 (.ofNat i)]) := by rw [F.nthR_eq]; exact hrw
 refine runs_of_ww kn23 tbl23 ?_
 unfold rc23
 refine sR ?_
 refine ww_seq (ww_call (dec31 (L := L) (l.drop i) ⟨h.rows, none, h.mods⟩) (fun n hn k => by simp -implicitDefEqProofs (disch := omega) only [go_sem, reduceIte, Nat.reduceEqDiff, gt_start, List.getD_cons_zero, List.getD_cons_succ, nilC_ptr, hr', slc_str hd .i64 i hi, cld1 hn (Ex1.str _) rfl]; exact finD_ok (by kernel_rfl)) ?_)
 refine ww_seq (ww_call (kind33 (L := L) (hr (l.drop i)).1 (hr (l.drop i)).2 ⟨h.rows, none, h.mods⟩) (fun n hn k => by simp -implicitDefEqProofs (disch := omega) only [go_sem, reduceIte, Nat.reduceEqDiff, clc2 hn (Ex1.int _ _) (Ex1.int _ _)]; rfl) ?_)
 exact ww_ret (fin_tmp (v := .int .i64 (.ofNat (kh (l.drop i)))) (by simp -implicitDefEqProofs (disch := omega) only [go_sem, reduceIte, Nat.reduceEqDiff, kh]) rfl rfl rfl)
def okK (names : Bool) (k : Nat) : Bool := decide (k = 3) || names && decide (k = 2)
def runN (names : Bool) : Nat → List Nat → Nat
 | 0, _ => 0
 | f + 1, l => if l = [] then 0 else if okK names (kh l) = true then (hr l).2 + runN names f (l.drop (hr l).2) else 0
section
variable {C : Cfg} {P : Program} {call : CallF} {gl : Nat → Bool} {o : Oper} {t' : Tm} {loc : Lo} {hp : Hp}
theorem genD_range {d : Nat} {t : TypeId} {x : Operand} {u : Str} {J : JD} {X : XD} (hd : o.dst = some d) (ho : o.op = .range t x) (hg : gl d = false) (hu : P.underlying t = some .string) (hx : opd (⟨t', loc, hp⟩ : St).ρ x = .str u) :
  genD P C call gl o t' loc hp J X = J (.ptr (.loc d ((lg loc d).1 + 1)) 0) ⟨[d], [d], false, false, false, false⟩ (lp loc d ((lg loc d).1 + 1, .iter u 0)) hp := by
 have hp1 : locV P C gl (⟨t', loc, hp⟩ : St).ρ (⟨t', loc, hp⟩ : St).lc o = some (.ptr (.loc d ((lg loc d).1 + 1)) 0, some (d, (lg loc d).1 + 1, .iter u 0)) := by
  unfold locV
  simp only [ho, hd, hg, cond_false, hu, hx, lc_lg]
 have hf : footV P C gl (⟨t', loc, hp⟩ : St).ρ (⟨t', loc, hp⟩ : St).lc o = some ⟨[d], [d], false, false, false, false⟩ := by
  unfold footV
  rw [hp1]
 have hs : stepV P C gl ⟨t', loc, hp⟩ o = some (.val (.ptr (.loc d ((lg loc d).1 + 1)) 0) ⟨t', lp loc d ((lg loc d).1 + 1, .iter u 0), hp⟩) := by
  unfold stepV
  rw [hp1]
  simp only [applyL, aset_lp]
 unfold genD
 rw [F.e_footV, F.e_oneV, F.e_rho, F.e_lcf, hf]
 show G.onSome (oneV P C call gl ⟨t', loc, hp⟩ o) _ none = _
 unfold oneV
 rw [hs]
 have e1 : F.settle hp hp ⟨[d], [d], false, false, false, false⟩ = ⟨[d], [d], false, false, false, false⟩ := by
  unfold F.settle
  rw [Nat.beq_refl, Nat.beq_refl]; rfl
 simp only [putV, hd]
 show J (gt (aset t' d (.ptr (.loc d ((lg loc d).1 + 1)) 0)) d) (F.settle hp hp ⟨[d], [d], false, false, false, false⟩) (lp loc d ((lg loc d).1 + 1, .iter u 0)) hp = _
 rw [gt_eq, aget_aset, if_pos rfl, e1]
end
theorem rg34 (names : Bool) (r : Nat) (u : Str) (h : Hp) (c : CallF) (J : JD) (X : XD) : gD Tryd.f34 34 1 9 c (pt (pt (startTm [.ptr (.glob r) 0, .bool names]) 4 (.int .i64 (.ofNat 0))) 16 (.str u)) .lf h J X = J (.ptr (.loc 17 1) 0) ⟨[17], [17], false, false, false, false⟩ (lp .lf 17 (1, .iter u 0)) h :=
 genD_range (C := Cg) (gl := Cg.glob 34) (call := c) (o := opA Tryd.f34 1 9) (d := 17) (t := 9) (x := .tmp 16) (by kernel_rfl) (by kernel_rfl) (by kernel_rfl) (by kernel_rfl) ((gt_eq _ _).symm.trans (by rw [gt_pt, if_pos rfl]))
end Go.AM.S
end

section
namespace Go.AM.S
open Go Go.AM Go.Proofs NumL
open _root_.Go.AM.G (R)
set_option maxRecDepth 100000
open Go.Proofs.YtjldfkldmfmkiaaDoor
variable {L : List (Nat × Int × Int)}
theorem nx34 {l : Lo} {g pos : Nat} {u : Str} (hr : lg l 17 = (g, .iter u pos)) (hlt : pos < u.n) (h : Hp) (c : CallF) (t : Tm) (j : V → Lo → Hp → R) : go1 Tryd.f34 34 2 0 17 (.ptr (.loc 17 g) 0) c t l h j = j (.tuple [.bool true, .int .i64 (.ofNat pos), .int .i32 (.ofNat (u.rune pos).1)]) (lp l 17 (g, .iter u (pos + (u.rune pos).2))) h :=
 gen_next (C := Cg) (gl := Cg.glob 34) (call := c) (tm := t) (loc := l) (hp := h) (j := j) (x := 17) (o := opA Tryd.f34 2 0) (d := 18) (by kernel_rfl) (by kernel_rfl) hr hlt
theorem nz34 {l : Lo} {g pos : Nat} {u : Str} (hr : lg l 17 = (g, .iter u pos)) (hlt : ¬ pos < u.n) (h : Hp) (c : CallF) (t : Tm) (j : V → Lo → Hp → R) : go1 Tryd.f34 34 2 0 17 (.ptr (.loc 17 g) 0) c t l h j = j (.tuple [.bool false]) l h :=
 gen_next_end (C := Cg) (gl := Cg.glob 34) (call := c) (tm := t) (loc := l) (hp := h) (j := j) (x := 17) (o := opA Tryd.f34 2 0) (d := 18) (by kernel_rfl) (by kernel_rfl) hr hlt
theorem kd_ne {r : Nat} (s : Nat) (h : r ≠ 65533) : kd r 2 = kd r s := by
 unfold kd
 rw [if_neg (show ¬ (r = 65533 ∧ 2 = 1) from fun q => h q.1), if_neg (show ¬ (r = 65533 ∧ s = 1) from fun q => h q.1)]
theorem runN_nil (b : Bool) (f : Nat) : runN b f [] = 0 := by cases f <;> rfl
theorem runN_go {b : Bool} {f : Nat} {l : List Nat} (hl : l ≠ []) (h : okK b (kh l) = true) : runN b (f + 1) l = (hr l).2 + runN b f (l.drop (hr l).2) := by
 show (if l = [] then 0 else if okK b (kh l) = true then (hr l).2 + runN b f (l.drop (hr l).2) else 0) = _
 rw [if_neg hl, if_pos h]
theorem runN_stop {b : Bool} {f : Nat} {l : List Nat} (h : okK b (kh l) = false) : runN b f l = 0 := by
 cases f with
 | zero => rfl
 | succ f =>
  show (if l = [] then 0 else if okK b (kh l) = true then (hr l).2 + runN b f (l.drop (hr l).2) else 0) = _
  rw [h]; simp
def runL (b : Bool) (l : List Nat) : Nat := runN b l.length l
theorem ld_sub {x y : Nat} (t : TypeId) (cn : Bool) (h : y ≤ x) (hx : x ≤ 4000000000000000000) : bin Pg .sub 3 cn (.int .i64 (.ofNat x)) (.int .i64 (.ofNat y)) = some (.int .i64 (.ofNat (x - y))) := by
 show some (V.int .i64 (F.wrapI .i64 (Int.ofNat x - Int.ofNat y))) = _
 rw [show Int.ofNat x - Int.ofNat y = Int.ofNat (x - y) from (Int.ofNat_sub h).symm, wrap_i64 (by omega)]
theorem run34 (names : Bool) {l : List Nat} (hd : Dg 256 l) (hl : l.length ≤ 1000000000000000000) {i : Nat} (hi : i ≤ l.length) {h : Hp} {r : Nat} (hrw : h.rows[r]? = some (LxR l i)) :
  Runs Pg (kn L) tbl 34 [.ptr (.glob r) 0, .bool names] h (.val (.int .i64 (.ofNat (runL names (l.drop i)))) h) := by
 have hr' : F.nthR h.rows r = some (.cells false [.str (sl l), .int .i64 (.ofNat i)]) := by rw [F.nthR_eq]; exact hrw
 refine runs_of_ww kn34 tbl34 ?_
 unfold rc34
 refine sR ?_
 have hdi : Dg 256 (l.drop i) := hd.drop i
 have hln : (l.drop i).length = l.length - i := List.length_drop
 refine ww_joinX (fun s => gt s.tm 0 = .ptr (.glob r) 0 ∧ s.hp = ⟨h.rows, none, h.mods⟩ ∧ runL names (l.drop i) = l.length - i) ?_ (fun s ⟨h0, hh, hq⟩ => ?_)
 ·refine ww_seq (ww_reg (fun n k => by simp -implicitDefEqProofs (disch := omega) only [go_sem, reduceIte, Nat.reduceEqDiff, gt_start, List.getD_cons_zero, List.getD_cons_succ, nilC_ptr, hr', slc_str hd .i64 i hi, rg34]; exact finD_ok (by kernel_rfl)) ?_)
  refine ww_for (fun m s => ∃ p f, m + p = (l.drop i).length ∧ m ≤ f ∧ gt s.tm 0 = .ptr (.glob r) 0 ∧ gt s.tm 1 = .bool names ∧ gt s.tm 17 = .ptr (.loc 17 1) 0 ∧ lg s.loc 17 = (1, .iter (sl (l.drop i)) p) ∧ s.hp = ⟨h.rows, none, h.mods⟩ ∧ runL names (l.drop i) = p + runN names f ((l.drop i).drop p)) (l.drop i).length
   ⟨0, (l.drop i).length, rfl, Nat.le_refl _, sSG, sSG, sS, sS, rfl, by rw [Nat.zero_add]; rfl⟩ ?_
  intro m s ⟨p, f, hm, hf, h0, h1, h17, l17, hh, he⟩
  obtain ⟨tm, loc, hp⟩ := s
  subst hh
  have h0 : gt tm 0 = .ptr (.glob r) 0 := h0
  have h1 : gt tm 1 = .bool names := h1
  have h17 : gt tm 17 = .ptr (.loc 17 1) 0 := h17
  by_cases hlt : p < (l.drop i).length
  ·have hrn := rune_hr hdi hlt
   have nx := nx34 l17 (u := sl (l.drop i)) hlt
   rw [hrn] at nx
   refine ww_seq (ww_reg (fun n k => by simp -implicitDefEqProofs (disch := omega) only [go_sem, reduceIte, Nat.reduceEqDiff, h17, nx]; rfl) ?_)
   refine ww_seq (ww_true sS (ww_skip (ww_block ?_)))
   have hne : (l.drop i).drop p ≠ [] := by intro e; have := congrArg List.length e; rw [List.length_drop, List.length_nil] at this; omega
   have hp1 := hr_pos hne
   have hp2 := hr_le (l := (l.drop i).drop p)
   rw [List.length_drop] at hp2
   have hdd : (l.drop i).drop p = l.drop (i + p) := List.drop_drop
   obtain ⟨W, eW⟩ : ∃ W, (l.drop i).drop p = W := ⟨_, rfl⟩
   rw [eW] at hne hp1 hp2 hdd he ⊢
   refine sR ?_
   refine ww_seq (ww_call (kind33 (L := L) (hr W).1 2 ⟨h.rows, none, h.mods⟩) (fun n hn k => by simp -implicitDefEqProofs (disch := omega) only [go_sem, reduceIte, Nat.reduceEqDiff, clc2 hn (Ex1.int _ _) (Ex1.int _ _)]; rfl) ?_)
   refine ww_joinX (fun s => gt s.tm 7 = .int .i64 (.ofNat (kh W)) ∧ gt s.tm 0 = .ptr (.glob r) 0 ∧ gt s.tm 1 = .bool names ∧ gt s.tm 5 = .int .i64 (.ofNat p) ∧ gt s.tm 17 = .ptr (.loc 17 1) 0 ∧ lg s.loc 17 = (1, .iter (sl (l.drop i)) (p + (hr W).2)) ∧ s.hp = ⟨h.rows, none, h.mods⟩) ?_ (fun s ⟨k7, k0, k1, k5, k17, kl, kh'⟩ => ?_)
   ·refine sR ?_
    refine ww_if (by simp only [gt_pt, reduceIte]; rfl) (fun hc => ?_) (fun hc => ww_skip ?_)
    ·refine ww_call ((dec31 (L := L) W ⟨h.rows, none, h.mods⟩).and (kind33 (L := L) (hr W).1 (hr W).2 ⟨h.rows, none, h.mods⟩)) (fun n hn k => by simp -implicitDefEqProofs (disch := omega) only [go_sem, reduceIte, Nat.reduceEqDiff, h0, nilC_ptr, hr', slc_str hd .i64 (i + p) (by omega), hdd.symm, cld1 hn.1 (Ex1.str _) rfl, cld2 hn.2 (Ex1.int _ _) (Ex1.int _ _) rfl rfl]; exact finD_ok (by kernel_rfl)) ?_
     exact ⟨(by simp -implicitDefEqProofs (disch := omega) only [go_sem, reduceIte, Nat.reduceEqDiff, kh]), (sS1 h0), (sS1 h1), sS, (sS1 h17), (sS1 l17), rfl⟩
    ·exact ⟨by rw [kh, ← kd_ne (hr W).2 hc]; exact sS, (sS1 h0), (sS1 h1), sS, (sS1 h17), (sS1 l17), rfl⟩
   obtain ⟨tm2, loc2, hp'⟩ := s
   have kh2 : hp' = ⟨h.rows, none, h.mods⟩ := kh'
   subst kh2
   have k7 : gt tm2 7 = .int .i64 (.ofNat (kh W)) := k7
   have k1 : gt tm2 1 = .bool names := k1
   have k5 : gt tm2 5 = .int .i64 (.ofNat p) := k5
   have k0 : gt tm2 0 = .ptr (.glob r) 0 := k0
   have k17 : gt tm2 17 = .ptr (.loc 17 1) 0 := k17
   have key : ∀ b3 b2 : Bool, decide (kh W = 3) = b3 → decide (kh W = 2) = b2 → okK names (kh W) = (b3 || names && b2) := by
    intro b3 b2 e3 e2
    unfold okK
    rw [← e3, ← e2]
   obtain ⟨b3, d3⟩ : ∃ b, decide (kh W = 3) = b := ⟨_, rfl⟩
   obtain ⟨b2, d2⟩ : ∃ b, decide (kh W = 2) = b := ⟨_, rfl⟩
   have kk := key b3 b2 d3 d2
   have n3 : decide (kh W ≠ 3) = !b3 := by rw [← d3, decide_not]
   have n2 : decide (kh W ≠ 2) = !b2 := by rw [← d2, decide_not]
   refine ww_joinX (fun s => gt s.tm 50 = .bool (!(okK names (kh W))) ∧ gt s.tm 0 = .ptr (.glob r) 0 ∧ gt s.tm 1 = .bool names ∧ gt s.tm 5 = .int .i64 (.ofNat p) ∧ gt s.tm 17 = .ptr (.loc 17 1) 0 ∧ lg s.loc 17 = (1, .iter (sl (l.drop i)) (p + (hr W).2)) ∧ s.hp = ⟨h.rows, none, h.mods⟩) ?_ (fun s ⟨m50, m0, m1, m5, m17, ml, mh⟩ => ?_)
   ·rw [kk]
    cases names <;> cases b3 <;> cases b2
    all_goals
     refine ww_reg (fun n k => by simp -implicitDefEqProofs (disch := omega) only [go_sem, reduceIte, Nat.reduceEqDiff, k7, k1, n3, n2, Bool.not_false, Bool.not_true]; rfl) ?_
     exact ⟨(by simp only [gt_pt, reduceIte]; rfl), (sS1 k0), (sS1 k1), (sS1 k5), (sS1 k17), (by simp -implicitDefEqProofs (disch := omega) only [go_sem, reduceIte, Nat.reduceEqDiff, kl]), rfl⟩
   ·obtain ⟨tm3, loc3, hp3⟩ := s
    have mh : hp3 = ⟨h.rows, none, h.mods⟩ := mh
    subst mh
    have m5 : gt tm3 5 = .int .i64 (.ofNat p) := m5
    cases hk : okK names (kh W) with
    | true =>
     rw [hk] at m50
     refine ww_false m50 (ww_skip ?_)
     obtain ⟨f', rfl⟩ : ∃ f', f = f' + 1 := ⟨f - 1, by omega⟩
     refine ⟨m - (hr W).2, by omega, p + (hr W).2, f', by omega, by omega, m0, m1, m17, ml, rfl, ?_⟩
     have e : (l.drop i).drop (p + (hr W).2) = W.drop (hr W).2 := by rw [← List.drop_drop, eW]
     rw [he, runN_go hne hk, Nat.add_assoc, e]
    | false =>
     rw [hk] at m50
     refine ww_true m50 ?_
     refine sR1 m5 ?_
     refine ww_ret ?_
     rw [he, runN_stop hk, Nat.add_zero]
     exact fin_tmp (v := .int .i64 (.ofNat p)) sS rfl rfl rfl
  ·refine ww_seq (ww_reg (fun n k => by simp -implicitDefEqProofs (disch := omega) only [go_sem, reduceIte, Nat.reduceEqDiff, h17, nz34 l17 hlt]; rfl) ?_)
   refine ww_seq (ww_false sS (ww_exit ?_))
   rw [if_pos rfl]
   have : (l.drop i).drop p = [] := List.drop_eq_nil_of_le (by omega)
   rw [this, runN_nil] at he
   exact ⟨(sS1 h0), rfl, by omega⟩
 ·have e1 := ld_sub (x := l.length) (y := i) 3 false hi (by omega)
  refine ww_seq (ww_reg (fun n k => by simp -implicitDefEqProofs (disch := omega) only [go_sem, reduceIte, Nat.reduceEqDiff, h0, hh, nilC_ptr, hr', e1]; rfl) ?_)
  rw [← hq]
  exact ww_ret (fin_tmp (v := .int .i64 (.ofNat (runL names (l.drop i)))) sS rfl rfl rfl)
end Go.AM.S
end

section
namespace Go.AM.S
open Go Go.AM Go.Proofs NumL
open _root_.Go.AM.G (R)
set_option maxRecDepth 100000
open Go.Proofs.YtjldfkldmfmkiaaDoor
variable {L : List (Nat × Int × Int)}
section
variable {P : Program} {C : Cfg} {call : CallF} {gl : Nat → Bool} {o : Oper} {loc : Lo} {hp : Hp} {t' tm : Tm} {j : V → Lo → Hp → R}
theorem gen_boxG {t : TypeId} {d x : Nat} {cs : List V} (hd : o.dst = some d) (ho : o.op = .box t (.tmp x)) (ha : C.isArr t = false) (hg : gl d = true) (hv : gt t' x = .agg cs) (he : AM.exp false ⟨t', loc, hp⟩ (.agg cs) = some (.agg cs, ⟨t', loc, hp⟩)) :
  gen P C call gl o t' tm loc hp j = j (.ptr (.glob hp.rows.length) 0) loc ⟨hp.rows ++ [.cells false cs], hp.dirty, hp.mods⟩ := by
 refine gen_val (v := .ptr (.glob hp.rows.length) 0) (st := ⟨t', loc, ⟨hp.rows ++ [.cells false cs], hp.dirty, hp.mods⟩⟩) hd ?_
 have hp1 : locV P C gl (⟨t', loc, hp⟩ : St).ρ (⟨t', loc, hp⟩ : St).lc o = none := by
  unfold locV
  simp only [ho, ha, cond_false, hd, hg, Bool.true_or, cond_true]
 unfold stepV
 rw [hp1]
 unfold stepG
 simp only [ho, hd, opd_gt, hv, he, hg, cond_true, addRow, V.cells]
end
theorem tbl15 : tbl 15 = some ⟨rc15, [.tmp 4]⟩ := by kernel_rfl
theorem kn15 : kn L 15 = none := by kernel_rfl
def FtV (r : Nat) : V := .iface 51 (.ptr (.glob r) 0)
def FtR (p c : Nat) : Row := .cells false [.int .i64 (.ofNat p), .int .i64 (.ofNat c)]
def hadd1 (h : Hp) (p c : Nat) : Hp := ⟨h.rows ++ [FtR p c], h.dirty, h.mods⟩
theorem r15a (a b : Int) (R0 : List Row) (M : Nat) (c : CallF) (t0 : Tm) (l : Lo) (j : V → Lo → Hp → R) : go2 Tryd.f15 15 1 2 5 6 (.int .i64 a) (.int .i64 b) c t0 l ⟨R0, none, M⟩ j = j (.agg [.int .i64 a, .int .i64 b]) l ⟨R0, none, M⟩ := by
 kernel_rfl
theorem r15b (a b : Int) (t : Tm) (R0 : List Row) (M : Nat) (c : CallF) (t0 : Tm) (l : Lo) (j : V → Lo → Hp → R) : gn Tryd.f15 15 1 3 c (pt t 7 (.agg [.int .i64 a, .int .i64 b])) t0 l ⟨R0, none, M⟩ j = j (.ptr (.glob R0.length) 0) l ⟨R0 ++ [.cells false [.int .i64 a, .int .i64 b]], none, M⟩ :=
 gen_boxG (t := 55) (d := 8) (x := 7) (by kernel_rfl) (by kernel_rfl) (by kernel_rfl) (by kernel_rfl) (by rw [gt_pt, if_pos rfl]) (exp_agg (by intro v hv; simp at hv; rcases hv with rfl | rfl; exact Pl.int _ _; exact Pl.int _ _) _)
theorem r15c (r : Nat) (R0 : List Row) (M : Nat) (c : CallF) (t0 : Tm) (l : Lo) (j : V → Lo → Hp → R) : go1 Tryd.f15 15 1 4 8 (.ptr (.glob r) 0) c t0 l ⟨R0, none, M⟩ j = j (.iface 51 (.ptr (.glob r) 0)) l ⟨R0, none, M⟩ := by
 kernel_rfl
theorem fault15 (p q : Nat) (h : Hp) : Runs Pg (kn L) tbl 15 [.int .i64 (.ofNat p), .int .i64 (.ofNat q)] h (.val (FtV h.rows.length) (hadd1 h p q)) := by
 refine runs_of_ww kn15 tbl15 ?_
 unfold rc15
 refine sR ?_
 refine sRG3 r15a r15b r15c ?_
 refine ww_ret ?_
 unfold fin
 rfl
end Go.AM.S
end

section
namespace Go.AM.S
open Go Go.AM Go.Proofs NumL
open _root_.Go.AM.G (R)
@[congr] theorem bO_congr {x y : Option V} {f : V → R} (h : x = y) : bO x f = bO y f := by rw [h]
@[congr] theorem brB_congr {x y : Option Bool} {a b : R} (h : x = y) : brB x a b = brB y a b := by rw [h]
attribute [go_sem ↓] jn_eq bO_some brB_true brB_false
attribute [go_sem] Bool.not_true Bool.not_false
end Go.AM.S
end

section
namespace Go.AM.S
open Go Go.AM Go.Proofs NumL
open _root_.Go.AM.G (R)
set_option maxRecDepth 100000
open Go.Proofs.YtjldfkldmfmkiaaDoor
variable {L : List (Nat × Int × Int)}
theorem tbl22 : tbl 22 = some ⟨rc22, [.tmp 2]⟩ := by kernel_rfl
theorem kn22 : kn L 22 = none := by kernel_rfl
theorem rg22 (l : Lo) (h : Hp) (c : CallF) (t : Tm) (j : V → Lo → Hp → R) (s : Str) : go1 Tryd.f22 22 3 7 18 (.str s) c t l h j = j (.ptr (.loc 19 ((lg l 19).1 + 1)) 0) (lp l 19 ((lg l 19).1 + 1, .iter s 0)) h :=
 gen_range (C := Cg) (gl := Cg.glob 22) (call := c) (tm := t) (loc := l) (hp := h) (j := j) (x := 18) (s := s) (o := opA Tryd.f22 3 7) (d := 19) (t := 9) (by kernel_rfl) (by kernel_rfl) U9 (by kernel_rfl)
theorem nx22 {l : Lo} {g pos : Nat} {u : Str} (hr : lg l 19 = (g, .iter u pos)) (hlt : pos < u.n) (h : Hp) (c : CallF) (t : Tm) (j : V → Lo → Hp → R) : go1 Tryd.f22 22 4 0 19 (.ptr (.loc 19 g) 0) c t l h j = j (.tuple [.bool true, .int .i64 (.ofNat pos), .int .i32 (.ofNat (u.rune pos).1)]) (lp l 19 (g, .iter u (pos + (u.rune pos).2))) h :=
 gen_next (C := Cg) (gl := Cg.glob 22) (call := c) (tm := t) (loc := l) (hp := h) (j := j) (x := 19) (o := opA Tryd.f22 4 0) (d := 20) (by kernel_rfl) (by kernel_rfl) hr hlt
theorem nz22 {l : Lo} {g pos : Nat} {u : Str} (hr : lg l 19 = (g, .iter u pos)) (hlt : ¬ pos < u.n) (h : Hp) (c : CallF) (t : Tm) (j : V → Lo → Hp → R) : go1 Tryd.f22 22 4 0 19 (.ptr (.loc 19 g) 0) c t l h j = j (.tuple [.bool false]) l h :=
 gen_next_end (C := Cg) (gl := Cg.glob 22) (call := c) (tm := t) (loc := l) (hp := h) (j := j) (x := 19) (o := opA Tryd.f22 4 0) (d := 20) (by kernel_rfl) (by kernel_rfl) hr hlt
section
variable {P : Program} {C : Cfg} {call : CallF} {gl : Nat → Bool} {o : Oper} {loc : Lo} {hp : Hp} {t' tm : Tm} {j : V → Lo → Hp → R}
theorem gen_store_one {t : TypeId} {a x r off : Nat} {k : IntKind} {n : Int} {cs cs' : List V} (ho : o.op = .store t (.tmp a) (.tmp x)) (hd : o.dst = none) (hl : lenIs P t 1 = true)
  (ha : gt t' a = .ptr (.glob r) off) (hx : gt t' x = .int k n) (hr : hp.rows[r]? = some (.cells false cs)) (hs : setAt cs off [.int k n] = some cs') :
  gen P C call gl o t' tm loc hp j = j (.tuple []) loc (hset hp r (.cells false cs')) := by
 refine gen_none (v := .tuple []) (st := ⟨t', loc, hset hp r (.cells false cs')⟩) hd ?_
 have hp1 : locV P C gl (⟨t', loc, hp⟩ : St).ρ (⟨t', loc, hp⟩ : St).lc o = none := by
  unfold locV
  simp only [ho, opd_gt, ha]
 unfold stepV
 rw [hp1]
 unfold stepG
 have he : exp false ⟨t', loc, hp⟩ (.int k n) = some (.int k n, ⟨t', loc, hp⟩) := rfl
 simp only [ho, opd_gt, ha, hx, hr, he, V.cells, List.all_cons, V.cellOk, List.all_nil, Bool.and_self, List.length_cons, List.length_nil, Nat.zero_add, hl, cond_true, hs, setRow_glob]
end
theorem st22 {hp : Hp} {r i : Nat} {l : List Nat} (hr : hp.rows[r]? = some (LxR l i)) (x : Nat) (c : CallF) (t0 : Tm) (lo : Lo) (j : V → Lo → Hp → R) :
  go2 Tryd.f22 22 10 8 57 55 (.ptr (.glob r) 1) (.int .i64 (.ofNat x)) c t0 lo hp j = j (.tuple []) lo (hset hp r (LxR l x)) :=
 gen_store_one (t := 3) (a := 57) (x := 55) (by kernel_rfl) (by kernel_rfl) (by kernel_rfl) (by rw [gt_pt, if_neg (by decide), gt_pt, if_pos rfl]) (by rw [gt_pt, if_pos rfl]) hr rfl
theorem st16 {hp : Hp} {r i : Nat} {l : List Nat} (hr : hp.rows[r]? = some (LxR l i)) (x : Nat) (c : CallF) (t0 : Tm) (lo : Lo) (j : V → Lo → Hp → R) :
  go2 Tryd.f16 16 8 7 40 38 (.ptr (.glob r) 1) (.int .i64 (.ofNat x)) c t0 lo hp j = j (.tuple []) lo (hset hp r (LxR l x)) :=
 gen_store_one (t := 3) (a := 40) (x := 38) (by kernel_rfl) (by kernel_rfl) (by kernel_rfl) (by rw [gt_pt, if_neg (by decide), gt_pt, if_pos rfl]) (by rw [gt_pt, if_pos rfl]) hr rfl
def cmt : Nat → Bool → Nat → List Nat → Nat × Nat
 | 0, _, _, _ => (2, 0)
 | f + 1, st, p, W => if W = [] then (2, 0) else if kh W = 5 then (1, p) else if st && decide ((hr W).1 = 41) then (0, p + 1) else cmt f (decide ((hr W).1 = 42)) (p + (hr W).2) (W.drop (hr W).2)
def cmtR (i : Nat) : Nat × Nat → Nat × Option (Nat × Nat)
 | (0, e) => (i + 2 + e, none)
 | (1, e) => (i, some (i + 2 + e, 140))
 | (_, _) => (i, some (i, 140))
def cmtO (l : List Nat) (i : Nat) : Nat × Option (Nat × Nat) := cmtR i (cmt (l.drop (i + 2)).length.succ false 0 (l.drop (i + 2)))
def rowsE : Option (Nat × Nat) → List Row
 | none => []
 | some (p, c) => [FtR p c]
def errE (n : Nat) : Option (Nat × Nat) → V
 | none => .nili
 | some _ => FtV n
theorem set_self {l : List Row} {i : Nat} {x : Row} (h : l[i]? = some x) : l.set i x = l := by
 refine List.ext_getElem? fun k => ?_
 rw [List.getElem?_set]
 by_cases e : i = k
 ·subst e
  rw [if_pos rfl]
  split
  ·exact h.symm
  ·rename_i q; rw [List.getElem?_eq_none (by omega)]
 ·rw [if_neg e]
theorem fin_any {h : Hp} {t : Nat} {s : St} {v : V} (hv : gt s.tm t = v) (he : Ex1 v) : fin Pg h [.tmp t] s = some (.val v (backHp h s.hp [v])) := by
 unfold fin
 simp only [resV, rho_gt, hv, Option.map_some, exps, he s]
theorem kd5 (r s : Nat) : kd r s = 5 ↔ r = 65533 ∧ s = 1 := by
 unfold kd
 by_cases h : r = 65533 ∧ s = 1
 ·rw [if_pos h]; exact ⟨fun _ => h, fun _ => rfl⟩
 ·rw [if_neg h]
  refine ⟨fun q => ?_, fun q => absurd q h⟩
  split at q
  ·omega
  ·split at q
   ·omega
   ·split at q <;> omega
def LH (h : Hp) (r : Nat) (l : List Nat) (x : Nat × Option (Nat × Nat)) (h' : Hp) : Prop :=
 h'.rows = h.rows.set r (LxR l x.1) ++ rowsE x.2 ∧ (∀ n, n ≤ r → DG n h → DG n h') ∧ (h.rows[r]? = some (LxR l x.1) ∨ ∃ d, h'.dirty = some d ∧ d ≤ r) ∧ ∀ d, h.dirty = some d → ∃ d', h'.dirty = some d' ∧ d' ≤ d
theorem lh_back {h s : Hp} {r : Nat} {l : List Nat} {x : Nat × Option (Nat × Nat)} (hr : r < h.rows.length) (H : LH ⟨h.rows, none, h.mods⟩ r l x s) (n : Nat) : LH h r l x (backHp h s [errE n x.2]) := by
 obtain ⟨H1, H2, H3, _⟩ := H
 have H1 : s.rows = h.rows.set r (LxR l x.1) ++ rowsE x.2 := H1
 have H3 : h.rows[r]? = some (LxR l x.1) ∨ ∃ d, s.dirty = some d ∧ d ≤ r := H3
 have hd : ∀ n, n ≤ r → DG n s := fun n hn => H2 n hn (fun x hx => by cases hx)
 have hdg : ∀ n, n ≤ r → DG n h → DG n (backHp h s [errE n x.2]) := fun n hn q => DG.back q (hd n hn) _
 cases hc : cleanB h s with
 | true =>
  have hl : h.rows[r]? = some (LxR l x.1) := by
   rcases H3 with q | ⟨d, q1, q2⟩
   ·exact q
   ·unfold cleanB at hc
    rw [q1] at hc
    have hc : Nat.ble h.rows.length d = true := hc
    rw [Nat.ble_eq] at hc; omega
  have ef : ∀ b, backHp h s [errE n x.2] = b → LH h r l x b → LH h r l x (backHp h s [errE n x.2]) := fun b e q => e ▸ q
  obtain ⟨i, e⟩ := x
  cases e with
  | none =>
   refine ef h (by unfold backHp; rw [hc]; rfl) ⟨by rw [set_self hl]; exact (List.append_nil _).symm, fun n hn q => q, .inl hl, fun d q => ⟨d, q, Nat.le_refl _⟩⟩
  | some e =>
   refine ef ⟨s.rows, h.dirty, h.mods⟩ (by unfold backHp; rw [hc]; rfl) ⟨H1, fun n hn q => q, .inl hl, fun d q => ⟨d, q, Nat.le_refl _⟩⟩
 | false =>
  have ef : (backHp h s [errE n x.2]).rows = s.rows := by unfold backHp; rw [hc]; rfl
  refine ⟨by rw [ef]; exact H1, fun m hm q => DG.back q (hd m hm) _, ?_, fun d q => ?_⟩
  rotate_left
  ·unfold backHp
   rw [hc, q]
   cases s.dirty with
   | none => exact ⟨d, rfl, Nat.le_refl _⟩
   | some a => exact ⟨min d a, rfl, Nat.min_le_left _ _⟩
  rcases H3 with q | ⟨d, q1, q2⟩
  ·exact .inl q
  ·refine .inr ?_
   unfold backHp
   rw [hc, q1]
   cases h.dirty with
   | none => exact ⟨d, rfl, q2⟩
   | some a => exact ⟨min a d, rfl, Nat.le_trans (Nat.min_le_right _ _) q2⟩
theorem runs_lx {f : FuncId} {rc : RC} {args : List V} {h : Hp} {r : Nat} {l : List Nat} {x : Nat × Option (Nat × Nat)} (hr : r < h.rows.length) (hk : kn L f = none) (ht : tbl f = some ⟨rc, [.tmp 2]⟩)
  (hw : WW Pg (kn L) tbl rc ⟨startTm args, .lf, ⟨h.rows, none, h.mods⟩⟩ (fun _ => False) (fun _ _ => False) (fun s => gt s.tm 2 = errE h.rows.length x.2 ∧ LH ⟨h.rows, none, h.mods⟩ r l x s.hp)) :
  ∃ h', LH h r l x h' ∧ Runs Pg (kn L) tbl f args h (.val (errE h.rows.length x.2) h') := by
 obtain ⟨o, h1, h2⟩ := runs_ex (Post := fun o => ∃ h', LH h r l x h' ∧ o = .val (errE h.rows.length x.2) h') hk ht (ww_mono hw (fun s hs => hs.elim) (fun _ _ h => h) (fun s hs => ⟨_, fin_any hs.1 (by
  cases x.2 with
  | none => exact fun _ => rfl
  | some e => exact fun _ => rfl), _, lh_back hr hs.2 _, rfl⟩))
 obtain ⟨h', h3, h4⟩ := h2
 exact ⟨h', h3, h4 ▸ h1⟩
theorem row_lt {rows : List Row} {r : Nat} {x : Row} (h : rows[r]? = some x) : r < rows.length := by
 rcases Nat.lt_or_ge r rows.length with q | q
 ·exact q
 ·rw [List.getElem?_eq_none q] at h; cases h
theorem lh_fault {h : Hp} {r : Nat} {l : List Nat} {i : Nat} (hrw : h.rows[r]? = some (LxR l i)) (p c : Nat) : LH h r l (i, some (p, c)) (hadd1 h p c) :=
 ⟨by rw [set_self hrw]; rfl, fun n _ hd => hd, .inl hrw, fun d q => ⟨d, q, Nat.le_refl _⟩⟩
theorem lh_set {h : Hp} {r : Nat} {l : List Nat} (i : Nat) : LH h r l (i, none) (hset h r (LxR l i)) :=
 ⟨(List.append_nil _).symm, fun n hn hd => hd.set hn _, .inr (by
  show ∃ d, lower h.dirty r = some d ∧ d ≤ r
  cases h.dirty with
  | none => exact ⟨r, rfl, Nat.le_refl _⟩
  | some a => exact ⟨min a r, rfl, Nat.min_le_right _ _⟩), fun d q => by
  show ∃ d', lower h.dirty r = some d' ∧ d' ≤ d
  rw [q]; exact ⟨min d r, rfl, Nat.min_le_left _ _⟩⟩
theorem lh_trans {h0 h1 h2 : Hp} {r : Nat} {l : List Nat} {i : Nat} {x : Nat × Option (Nat × Nat)} (hr : r < h0.rows.length) (H : LH h0 r l (i, none) h1) (K : LH h1 r l x h2) : LH h0 r l x h2 := by
 obtain ⟨H1, H2, H3, H4⟩ := H
 obtain ⟨K1, K2, K3, K4⟩ := K
 have e1 : h1.rows = h0.rows.set r (LxR l i) := by rw [H1]; exact List.append_nil _
 refine ⟨by rw [K1, e1, List.set_set], fun n hn hd => K2 n hn (H2 n hn hd), ?_, fun d q => ?_⟩
 ·rcases K3 with q | q
  ·have q2 : h1.rows[r]? = some (LxR l i) := by rw [e1, List.getElem?_set_self hr]
   rw [q2] at q
   rcases H3 with p | ⟨d, p1, p2⟩
   ·exact .inl (p.trans q)
   ·obtain ⟨d', q3, q4⟩ := K4 d p1
    exact .inr ⟨d', q3, by omega⟩
  ·exact .inr q
 ·obtain ⟨d1, q1, q2⟩ := H4 d q
  obtain ⟨d2, q3, q4⟩ := K4 d1 q1
  exact ⟨d2, q3, by omega⟩
theorem lh_refl {h : Hp} {r : Nat} {l : List Nat} {i : Nat} (hrw : h.rows[r]? = some (LxR l i)) : LH h r l (i, none) h :=
 ⟨by rw [set_self hrw]; exact (List.append_nil _).symm, fun n _ q => q, .inl hrw, fun d q => ⟨d, q, Nat.le_refl _⟩⟩
theorem lh_at {h h' : Hp} {r : Nat} {l : List Nat} {i : Nat} (hr : r < h.rows.length) (H : LH h r l (i, none) h') : h'.rows[r]? = some (LxR l i) ∧ h'.rows.length = h.rows.length := by
 have e1 : h'.rows = h.rows.set r (LxR l i) := by rw [H.1]; exact List.append_nil _
 rw [e1]
 exact ⟨List.getElem?_set_self hr, List.length_set⟩
theorem comment22 {l : List Nat} (hd : Dg 256 l) (hl : l.length ≤ 1000000000000000000) {i : Nat} (hi : i + 2 ≤ l.length) {h : Hp} {r : Nat} (hrw : h.rows[r]? = some (LxR l i)) :
  ∃ h', LH h r l (cmtO l i) h' ∧ Runs Pg (kn L) tbl 22 [.ptr (.glob r) 0] h (.val (errE h.rows.length (cmtO l i).2) h') := by
 have hr' : F.nthR h.rows r = some (.cells false [.str (sl l), .int .i64 (.ofNat i)]) := by rw [F.nthR_eq]; exact hrw
 obtain ⟨T, eT⟩ : ∃ T, l.drop (i + 2) = T := ⟨_, rfl⟩
 have hT : Dg 256 T := by rw [← eT]; exact hd.drop _
 have hTl : T.length = l.length - (i + 2) := by rw [← eT]; exact List.length_drop
 have eO : cmtO l i = cmtR i (cmt (T.length + 1) false 0 T) := by unfold cmtO; rw [eT]
 rw [eO]
 refine runs_lx (row_lt hrw) kn22 tbl22 ?_
 unfold rc22
 refine sR ?_
 refine ww_seq (ww_reg (fun n k => by simp -implicitDefEqProofs (disch := omega) only [go_sem, reduceIte, Nat.reduceEqDiff, gt_start, List.getD_cons_zero, List.getD_cons_succ, nilC_ptr, hr']; rfl) ?_)
 refine sR ?_
 refine ww_joinX (fun s => gt s.tm 3 = .int .i64 (.ofNat i) ∧ s.hp = ⟨h.rows, none, h.mods⟩ ∧ cmt (T.length + 1) false 0 T = (2, 0)) ?_ (fun s ⟨h3, hh, hq⟩ => ?_)
 ·refine ww_seq (ww_reg (fun n k => by simp -implicitDefEqProofs (disch := omega) only [go_sem, reduceIte, Nat.reduceEqDiff, gt_start, List.getD_cons_zero, List.getD_cons_succ, nilC_ptr, hr', slc_str hd .i64 (i + 2) hi, eT, rg22]; rfl) ?_)
  refine ww_for (fun m s => ∃ p f b, m + p = T.length ∧ m ≤ f ∧ gt s.tm 0 = .ptr (.glob r) 0 ∧ gt s.tm 3 = .int .i64 (.ofNat i) ∧ gt s.tm 4 = .bool b ∧ gt s.tm 19 = .ptr (.loc 19 1) 0 ∧ lg s.loc 19 = (1, .iter (sl T) p) ∧ s.hp = ⟨h.rows, none, h.mods⟩ ∧ cmt (T.length + 1) false 0 T = cmt (f + 1) b p (T.drop p)) T.length
   ⟨0, T.length, false, rfl, Nat.le_refl _, sSG, sS, sS, sS, sS, rfl, rfl⟩ ?_
  intro m s ⟨p, f, b, hm, hf, h0, h3, h4, h19, l19, hh, he⟩
  obtain ⟨tm, loc, hp⟩ := s
  have hh : hp = ⟨h.rows, none, h.mods⟩ := hh
  subst hh
  have h0 : gt tm 0 = .ptr (.glob r) 0 := h0
  have h3 : gt tm 3 = .int .i64 (.ofNat i) := h3
  have h4 : gt tm 4 = .bool b := h4
  have h19 : gt tm 19 = .ptr (.loc 19 1) 0 := h19
  by_cases hlt : p < T.length
  ·have hrn := rune_hr hT hlt
   have nx := nx22 l19 (u := sl T) hlt
   rw [hrn] at nx
   have hne : T.drop p ≠ [] := by intro e; have := congrArg List.length e; rw [List.length_drop, List.length_nil] at this; omega
   have hp1 := hr_pos hne
   have hp2 := hr_le (l := T.drop p)
   rw [List.length_drop] at hp2
   have hdd : l.drop (i + 2 + p) = T.drop p := by rw [← eT, List.drop_drop]
   obtain ⟨W, eW⟩ : ∃ W, T.drop p = W := ⟨_, rfl⟩
   rw [eW] at hne hp1 hp2 hdd he nx
   have hcm : cmt (f + 1) b p W = if kh W = 5 then (1, p) else if b && decide ((hr W).1 = 41) then (0, p + 1) else cmt f (decide ((hr W).1 = 42)) (p + (hr W).2) (W.drop (hr W).2) := by
    show (if W = [] then (2, 0) else _) = _
    rw [if_neg hne]
   refine ww_seq (ww_reg (fun n k => by simp -implicitDefEqProofs (disch := omega) only [go_sem, reduceIte, Nat.reduceEqDiff, h19, nx]; rfl) ?_)
   refine ww_seq (ww_true sS (ww_skip (ww_block ?_)))
   refine sR ?_
   refine sQ1 h3 ?_
   refine ww_joinX (fun s => gt s.tm 42 = .bool (decide (kh W = 5)) ∧ gt s.tm 0 = .ptr (.glob r) 0 ∧ gt s.tm 3 = .int .i64 (.ofNat i) ∧ gt s.tm 4 = .bool b ∧ gt s.tm 5 = .int .i64 (.ofNat p) ∧ gt s.tm 6 = .int .i32 (.ofNat (hr W).1) ∧ gt s.tm 7 = .int .i64 (.ofNat (i + 2 + p)) ∧ gt s.tm 19 = .ptr (.loc 19 1) 0 ∧ lg s.loc 19 = (1, .iter (sl T) (p + (hr W).2)) ∧ s.hp = ⟨h.rows, none, h.mods⟩) ?_ (fun s ⟨k42, k0, k3, k4, k5, k6, k7, k19, kl, kh'⟩ => ?_)
   ·by_cases hc : (hr W).1 = 65533
    ·have d1 : decide ((hr W).1 = 65533) = true := decide_eq_true hc
     refine ww_call ((dec31 (L := L) W ⟨h.rows, none, h.mods⟩).and (kind33 (L := L) (hr W).1 (hr W).2 ⟨h.rows, none, h.mods⟩)) (fun n hn k => by simp -implicitDefEqProofs (disch := omega) only [go_sem, reduceIte, Nat.reduceEqDiff, h0, d1, nilC_ptr, hr', slc_str hd .i64 (i + 2 + p) (by omega), hdd, clc1 hn.1 (Ex1.str _), clc2 hn.2 (Ex1.int _ _) (Ex1.int _ _)]; rfl) ?_
     exact ⟨show gt _ 42 = V.bool (decide (kd (hr W).1 (hr W).2 = 5)) from sS, (sS1 h0), (sS1 h3), (sS1 h4), sS, sS, sS, (sS1 h19), sS, rfl⟩
    ·have d1 : decide ((hr W).1 = 65533) = false := decide_eq_false hc
     have d2 : decide (kh W = 5) = false := decide_eq_false (fun q => hc ((kd5 _ _).1 q).1)
     refine sE2 h0 d1 ?_
     exact ⟨by rw [d2]; exact sS, (sS1 h0), (sS1 h3), (sS1 h4), sS, sS, sS, (sS1 h19), sS, rfl⟩
   obtain ⟨tm2, loc2, hp'⟩ := s
   have kh2 : hp' = ⟨h.rows, none, h.mods⟩ := kh'
   subst kh2
   have k0 : gt tm2 0 = .ptr (.glob r) 0 := k0
   have k3 : gt tm2 3 = .int .i64 (.ofNat i) := k3
   have k4 : gt tm2 4 = .bool b := k4
   have k5 : gt tm2 5 = .int .i64 (.ofNat p) := k5
   have k6 : gt tm2 6 = .int .i32 (.ofNat (hr W).1) := k6
   have k7 : gt tm2 7 = .int .i64 (.ofNat (i + 2 + p)) := k7
   have k19 : gt tm2 19 = .ptr (.loc 19 1) 0 := k19
   refine ww_if k42 (fun hc => ?_) (fun hc => ww_skip ?_)
   ·refine ww_seq (ww_call (fault15 (L := L) (i + 2 + p) 140 ⟨h.rows, none, h.mods⟩) (fun n hn k => by simp -implicitDefEqProofs (disch := omega) only [go_sem, reduceIte, Nat.reduceEqDiff, k7, clc2 hn (Ex1.int _ _) (Ex1.int _ _)]; rfl) ?_)
    rw [he, hcm, if_pos hc]
    exact ww_ret ⟨show gt _ 2 = FtV h.rows.length from sS, lh_fault (h := ⟨h.rows, none, h.mods⟩) hrw _ _⟩
   ·rw [if_neg hc] at hcm
    obtain ⟨q, eq⟩ : ∃ q, decide ((hr W).1 = 41) = q := ⟨_, rfl⟩
    rw [eq] at hcm
    refine ww_seq (ww_joinX (fun s => gt s.tm 49 = .bool (b && q) ∧ gt s.tm 0 = .ptr (.glob r) 0 ∧ gt s.tm 3 = .int .i64 (.ofNat i) ∧ gt s.tm 5 = .int .i64 (.ofNat p) ∧ gt s.tm 6 = .int .i32 (.ofNat (hr W).1) ∧ gt s.tm 19 = .ptr (.loc 19 1) 0 ∧ lg s.loc 19 = (1, .iter (sl T) (p + (hr W).2)) ∧ s.hp = ⟨h.rows, none, h.mods⟩) ?_ (fun s ⟨j49, j0, j3, j5, j6, j19, jl, jh⟩ => ?_))
    ·cases b <;> cases q
     all_goals
      refine ww_reg (fun n k => by simp -implicitDefEqProofs (disch := omega) only [go_sem, reduceIte, Nat.reduceEqDiff, k4, k6, eq]; rfl) ?_
      exact ⟨(by simp only [gt_pt, reduceIte]; rfl), (sS1 k0), (sS1 k3), (sS1 k5), (sS1 k6), (sS1 k19), (by simp -implicitDefEqProofs (disch := omega) only [go_sem, reduceIte, Nat.reduceEqDiff, kl]), rfl⟩
    obtain ⟨tm3, loc3, hp3⟩ := s
    have jh : hp3 = ⟨h.rows, none, h.mods⟩ := jh
    subst jh
    have j0 : gt tm3 0 = .ptr (.glob r) 0 := j0
    have j3 : gt tm3 3 = .int .i64 (.ofNat i) := j3
    have j5 : gt tm3 5 = .int .i64 (.ofNat p) := j5
    have j6 : gt tm3 6 = .int .i32 (.ofNat (hr W).1) := j6
    cases hbq : (b && q) with
    | true =>
     rw [hbq] at j49
     rw [hbq, if_pos rfl] at hcm
     refine ww_true j49 ?_
     refine ww_seq (ww_reg (fun n k => by simp -implicitDefEqProofs (disch := omega) only [go_sem, reduceIte, Nat.reduceEqDiff, j0, j3, j5, nilC_ptr, st22 (hp := ⟨h.rows, none, h.mods⟩) hrw]; rfl) ?_)
     refine sR ?_
     rw [he, hcm]
     exact ww_ret ⟨show gt _ 2 = V.nili from sS, lh_set _⟩
    | false =>
     rw [hbq] at j49
     rw [hbq, if_neg Bool.false_ne_true] at hcm
     refine ww_false j49 (ww_skip ?_)
     refine sE1 j6 ?_
     obtain ⟨f', rfl⟩ : ∃ f', f = f' + 1 := ⟨f - 1, by omega⟩
     have e : T.drop (p + (hr W).2) = W.drop (hr W).2 := by rw [← List.drop_drop, eW]
     refine ⟨m - (hr W).2, by omega, p + (hr W).2, f', decide ((hr W).1 = 42), by omega, by omega, (sS1 j0), (sS1 j3), sS, (sS1 j19), (by simp -implicitDefEqProofs (disch := omega) only [go_sem, reduceIte, Nat.reduceEqDiff, jl]), rfl, ?_⟩
     rw [he, hcm, e]
  ·refine ww_seq (ww_reg (fun n k => by simp -implicitDefEqProofs (disch := omega) only [go_sem, reduceIte, Nat.reduceEqDiff, h19, nz22 l19 hlt]; rfl) ?_)
   refine ww_seq (ww_false sS (ww_exit ?_))
   rw [if_pos rfl]
   have : T.drop p = [] := List.drop_eq_nil_of_le (by omega)
   rw [this] at he
   exact ⟨(sS1 h3), rfl, he⟩
 ·refine ww_seq (ww_call (fault15 (L := L) i 140 ⟨h.rows, none, h.mods⟩) (fun n hn k => by simp -implicitDefEqProofs (disch := omega) only [go_sem, reduceIte, Nat.reduceEqDiff, h3, hh, clc2 hn (Ex1.int _ _) (Ex1.int _ _)]; rfl) ?_)
  rw [hq]
  exact ww_ret ⟨show gt _ 2 = FtV h.rows.length from sS, lh_fault (h := ⟨h.rows, none, h.mods⟩) hrw _ _⟩
end Go.AM.S
end
