/- An abstract machine for the model's code, proved sound: what it computes, every run of the code comes to (part 0). -/
import Derived.Calls
import Derived.Deep.MidRow
import Derived.Laws.AppendOwn
import Derived.Laws.IdiomCopy
import Derived.Laws.Slices
import Derived.Room.Entries
import Derived.Laws.Strings
import Derived.ChangeKeysEq
import Derived.Laws.Tables
import Derived.ChangeMaps3
import Derived.Laws.MakeOwn
import Derived.Lib.ConvBytes
import Derived.Lib.AppendStr
import Derived.Laws.BytesArg
import Derived.ArgAppend
set_option linter.unusedVariables false
set_option linter.unusedSimpArgs false
set_option linter.unusedSectionVars false
section
namespace Go.AM
open Go
structure Str where
 n : Nat
 v : Nat
 deriving Inhabited, DecidableEq
def bl : Nat → Nat → List UInt8
 | 0, _ => []
 | n + 1, v => UInt8.ofNat v :: bl n (v / 256)
def Str.bytes (s : Str) : ByteArray := ⟨(bl s.n s.v).toArray⟩
def pk : List UInt8 → Nat
 | [] => 0
 | b :: l => b.toNat + 256 * pk l
def Str.of (s : ByteArray) : Str := ⟨s.size, pk s.data.toList⟩
def Str.ofL (l : List UInt8) : Str := ⟨l.length, pk l⟩
def p8 (n : Nat) : Nat := Nat.pow 2 (Nat.mul 8 n)
def Str.get (s : Str) (i : Nat) : Nat := Nat.mod (Nat.shiftRight s.v (Nat.mul 8 i)) 256
def Str.cut (s : Str) (k h : Nat) : Str := ⟨Nat.sub h k, Nat.mod (Nat.shiftRight s.v (Nat.mul 8 k)) (p8 (Nat.sub h k))⟩
def Str.app (a b : Str) : Str := ⟨Nat.add a.n b.n, Nat.add (Nat.mod a.v (p8 a.n)) (Nat.shiftLeft b.v (Nat.mul 8 a.n))⟩
def Str.same (a b : Str) : Bool := Nat.beq a.n b.n && Nat.beq (Nat.mod a.v (p8 a.n)) (Nat.mod b.v (p8 b.n))
theorem bl_length : ∀ n v, (bl n v).length = n
 | 0, _ => rfl
 | n + 1, v => by simp [bl, bl_length n]
theorem Str.bytes_toList (s : Str) : s.bytes.data.toList = bl s.n s.v := rfl
theorem Str.bytes_size (s : Str) : s.bytes.size = s.n := by
 show (bl s.n s.v).toArray.size = s.n
 simp [bl_length]
theorem bl_pk : ∀ l : List UInt8, bl l.length (pk l) = l
 | [] => rfl
 | b :: l => by
  have h : b.toNat < 256 := b.toNat_lt
  have e1 : (b.toNat + 256 * pk l) / 256 = pk l := by omega
  have e2 : UInt8.ofNat (b.toNat + 256 * pk l) = b := by
   apply UInt8.toNat_inj.1
   simp only [UInt8.toNat_ofNat']
   omega
  simp only [List.length_cons, bl, pk, e1, e2, bl_pk l]
theorem Str.bytes_of (s : ByteArray) : (Str.of s).bytes = s := by
 have h : bl s.size (pk s.data.toList) = s.data.toList := by
  have := bl_pk s.data.toList
  rwa [Array.length_toList] at this
 show (⟨(bl s.size (pk s.data.toList)).toArray⟩ : ByteArray) = s
 rw [h]
theorem Str.bytes_ofL (l : List UInt8) : (Str.ofL l).bytes = ⟨l.toArray⟩ := by
 show (⟨(bl l.length (pk l)).toArray⟩ : ByteArray) = _
 rw [bl_pk]
theorem p8_zero : p8 0 = 1 := rfl
theorem p8_succ (n : Nat) : p8 (n + 1) = 256 * p8 n := by
 show 2 ^ (8 * (n + 1)) = 256 * 2 ^ (8 * n)
 rw [show 8 * (n + 1) = 8 * n + 8 by omega, Nat.pow_add, Nat.mul_comm]
theorem p8_add (n m : Nat) : p8 (n + m) = p8 n * p8 m := by
 show 2 ^ (8 * (n + m)) = 2 ^ (8 * n) * 2 ^ (8 * m)
 rw [← Nat.pow_add, Nat.mul_add]
theorem p8_pos (n : Nat) : 0 < p8 n := Nat.pow_pos (by omega)
theorem shr8 (v k : Nat) : Nat.shiftRight v (Nat.mul 8 k) = v / p8 k := Nat.shiftRight_eq_div_pow v (8 * k)
theorem shl8 (v k : Nat) : Nat.shiftLeft v (Nat.mul 8 k) = v * p8 k := Nat.shiftLeft_eq v (8 * k)
theorem bl_mod : ∀ n v, bl n (v % p8 n) = bl n v
 | 0, _ => rfl
 | n + 1, v => by
  have e1 : v % p8 (n + 1) / 256 = v / 256 % p8 n := by
   rw [p8_succ, Nat.mod_mul_right_div_self]
  have e2 : UInt8.ofNat (v % p8 (n + 1)) = UInt8.ofNat v := by
   apply UInt8.toNat_inj.1
   simp only [UInt8.toNat_ofNat']
   rw [p8_succ]
   exact Nat.mod_mul_right_mod _ _ _
  simp only [bl, e1, e2, bl_mod n]
theorem bl_eq : ∀ n v w, bl n v = bl n w ↔ v % p8 n = w % p8 n
 | 0, v, w => by simp [bl, p8_zero, Nat.mod_one]
 | n + 1, v, w => by
  simp only [bl, List.cons.injEq, bl_eq n, p8_succ]
  constructor
  ·rintro ⟨h1, h2⟩
   have h1 := congrArg UInt8.toNat h1
   simp only [UInt8.toNat_ofNat'] at h1
   have k1 := Nat.mod_mul (x := v) (a := 256) (b := p8 n)
   have k2 := Nat.mod_mul (x := w) (a := 256) (b := p8 n)
   rw [k1, k2]
   omega
  ·intro h
   have k1 := Nat.mod_mul (x := v) (a := 256) (b := p8 n)
   have k2 := Nat.mod_mul (x := w) (a := 256) (b := p8 n)
   rw [k1, k2] at h
   refine ⟨?_, by omega⟩
   apply UInt8.toNat_inj.1
   simp only [UInt8.toNat_ofNat']
   omega
theorem bl_drop : ∀ k n v, (bl n v).drop k = bl (n - k) (v / p8 k)
 | 0, n, v => by simp [p8_zero]
 | k + 1, 0, v => by simp [bl]
 | k + 1, n + 1, v => by
  simp only [bl, List.drop_succ_cons, bl_drop k n, p8_succ]
  rw [Nat.div_div_eq_div_mul, show n + 1 - (k + 1) = n - k by omega]
theorem bl_take : ∀ k n v, k ≤ n → (bl n v).take k = bl k v
 | 0, n, v, _ => by simp [bl]
 | k + 1, 0, v, h => by omega
 | k + 1, n + 1, v, h => by simp only [bl, List.take_succ_cons, bl_take k n _ (by omega)]
theorem bl_app : ∀ n m v w, bl n v ++ bl m w = bl (n + m) (v % p8 n + w * p8 n)
 | 0, m, v, w => by simp [bl, p8_zero, Nat.mod_one]
 | n + 1, m, v, w => by
  have h1 : v % p8 (n + 1) = v % 256 + 256 * (v / 256 % p8 n) := by rw [p8_succ]; exact Nat.mod_mul
  have e1 : (v % p8 (n + 1) + w * p8 (n + 1)) / 256 = v / 256 % p8 n + w * p8 n := by
   rw [h1, p8_succ, show w * (256 * p8 n) = 256 * (w * p8 n) by rw [Nat.mul_left_comm]]
   omega
  have e2 : UInt8.ofNat (v % p8 (n + 1) + w * p8 (n + 1)) = UInt8.ofNat v := by
   apply UInt8.toNat_inj.1
   simp only [UInt8.toNat_ofNat']
   rw [h1, p8_succ, show w * (256 * p8 n) = 256 * (w * p8 n) by rw [Nat.mul_left_comm]]
   omega
  rw [show n + 1 + m = (n + m) + 1 by omega]
  simp only [bl, List.cons_append, bl_app n, e1, e2]
theorem bl_get : ∀ i n v, i < n → (bl n v)[i]? = some (UInt8.ofNat (v / p8 i))
 | i, 0, v, h => by omega
 | 0, n + 1, v, _ => by simp [bl, p8_zero]
 | i + 1, n + 1, v, h => by
  simp only [bl, List.getElem?_cons_succ, bl_get i n _ (by omega), p8_succ, Nat.div_div_eq_div_mul]
theorem ba_ext {a b : ByteArray} (h : a.data.toList = b.data.toList) : a = b := by
 cases a with | mk a => cases b with | mk b => cases a; cases b; simp at h; subst h; rfl
theorem Str.get_spec (s : Str) {i : Nat} (h : i < s.n) : ∃ b, s.bytes.data.toList[i]? = some b ∧ (s.get i : Nat) = b.toNat := by
 refine ⟨_, by rw [s.bytes_toList]; exact bl_get i s.n s.v h, ?_⟩
 show Nat.mod (Nat.shiftRight s.v (Nat.mul 8 i)) 256 = _
 rw [shr8]
 simp only [UInt8.toNat_ofNat']
 rfl
theorem Str.cut_spec (s : Str) {k h : Nat} (hk : k ≤ h) (hh : h ≤ s.n) : (s.cut k h).bytes = s.bytes.extract k h := by
 apply ba_ext
 have e : (s.bytes.extract k h).data.toList = (s.bytes.data.toList.take h).drop k := by
  rw [ByteArray.data_extract, Array.toList_extract]
  simp [List.extract, List.drop_take]
 rw [e]
 simp only [Str.bytes_toList]
 rw [bl_take h s.n s.v hh, bl_drop]
 show bl (Nat.sub h k) (Nat.mod (Nat.shiftRight s.v (Nat.mul 8 k)) (p8 (Nat.sub h k))) = _
 rw [shr8]
 exact bl_mod (h - k) (s.v / p8 k)
theorem Str.app_spec (a b : Str) : (a.app b).bytes = a.bytes ++ b.bytes := by
 apply ba_ext
 have e : (a.bytes ++ b.bytes).data.toList = a.bytes.data.toList ++ b.bytes.data.toList := by
  rw [ByteArray.data_append]; simp
 rw [e]
 simp only [Str.bytes_toList]
 rw [bl_app]
 show bl (Nat.add a.n b.n) (Nat.add (Nat.mod a.v (p8 a.n)) (Nat.shiftLeft b.v (Nat.mul 8 a.n))) = _
 rw [shl8]
 rfl
theorem Str.same_spec (a b : Str) : a.same b = true ↔ a.bytes = b.bytes := by
 have e : a.same b = true ↔ (a.n = b.n ∧ a.v % p8 a.n = b.v % p8 b.n) := by
  unfold Str.same
  simp only [Bool.and_eq_true, Nat.beq_eq]
  rfl
 rw [e]
 constructor
 ·rintro ⟨h1, h2⟩
  apply ba_ext
  rw [Str.bytes_toList, Str.bytes_toList, ← h1]
  rw [← h1] at h2
  exact (bl_eq _ _ _).2 h2
 ·intro h
  have h1 : a.n = b.n := by rw [← a.bytes_size, ← b.bytes_size, h]
  refine ⟨h1, ?_⟩
  have h2 : bl a.n a.v = bl b.n b.v := by rw [← a.bytes_toList, ← b.bytes_toList, h]
  rw [← h1] at h2 ⊢
  exact (bl_eq _ _ _).1 h2
def Str.rune (s : Str) (i : Nat) : Nat × Nat := bif Nat.blt (s.get i) 128 then (s.get i, 1) else Utf8.decode s.bytes i
theorem Str.rune_spec (s : Str) {i : Nat} (h : i < s.n) : s.rune i = Utf8.decode s.bytes i := by
 unfold Str.rune
 cases hb : Nat.blt (s.get i) 128 with
 | false => rfl
 | true =>
  obtain ⟨b, h1, h2⟩ := s.get_spec h
  have h3 : (s.bytes.get! (i + 0)).toNat = s.get i := by
   have : s.bytes.data[i]? = some b := by rw [← Array.getElem?_toList]; exact h1
   have h4 : s.bytes.get! (i + 0) = b := by
    show s.bytes.data[i + 0]! = b
    rw [Nat.add_zero, getElem!_def, this]
   rw [h4, h2]
  have h5 : s.get i < 128 := by simpa [Nat.blt_eq] using hb
  unfold Utf8.decode
  simp only [h3, cond_true]
  rw [if_pos (by omega)]
inductive Tr (α : Type) where
 | lf
 | nd (v : Option α) (l r : Tr α)
 deriving Inhabited
def pathF : Nat → Nat → List Bool
 | 0, _ => []
 | f + 1, n => bif Nat.beq n 0 then [] else bif Nat.beq (Nat.mod n 2) 1 then false :: pathF f (Nat.div n 2) else true :: pathF f (Nat.sub (Nat.div n 2) 1)
def path (n : Nat) : List Bool := pathF n n
theorem pathF_inj : ∀ (f g n m : Nat), n ≤ f → m ≤ g → pathF f n = pathF g m → n = m
 | 0, 0, n, m, hn, hm, _ => by omega
 | 0, g + 1, n, m, hn, hm, h => by
  have : n = 0 := by omega
  subst this
  simp only [pathF] at h
  cases hb : Nat.beq m 0 with
  | true => exact (Nat.eq_of_beq_eq_true hb).symm
  | false =>
   rw [hb] at h
   simp only [cond_false] at h
   cases hc : Nat.beq (Nat.mod m 2) 1 <;> rw [hc] at h <;> simp at h
 | f + 1, 0, n, m, hn, hm, h => by
  have : m = 0 := by omega
  subst this
  simp only [pathF] at h
  cases hb : Nat.beq n 0 with
  | true => exact Nat.eq_of_beq_eq_true hb
  | false =>
   rw [hb] at h
   simp only [cond_false] at h
   cases hc : Nat.beq (Nat.mod n 2) 1 <;> rw [hc] at h <;> simp at h
 | f + 1, g + 1, n, m, hn, hm, h => by
  simp only [pathF] at h
  have bn : Nat.beq n 0 = true ↔ n = 0 := by rw [Nat.beq_eq]
  have bm : Nat.beq m 0 = true ↔ m = 0 := by rw [Nat.beq_eq]
  have on : Nat.beq (Nat.mod n 2) 1 = true ↔ n % 2 = 1 := by rw [Nat.beq_eq]; rfl
  have om : Nat.beq (Nat.mod m 2) 1 = true ↔ m % 2 = 1 := by rw [Nat.beq_eq]; rfl
  cases h1 : Nat.beq n 0 with
  | true =>
   rw [h1] at h
   cases h2 : Nat.beq m 0 with
   | true => rw [bn.1 h1, bm.1 h2]
   | false =>
    rw [h2] at h
    simp only [cond_true, cond_false] at h
    cases hc : Nat.beq (Nat.mod m 2) 1 <;> rw [hc] at h <;> simp at h
  | false =>
   have n0 : n ≠ 0 := fun e => by rw [bn.2 e] at h1; simp at h1
   rw [h1] at h
   cases h2 : Nat.beq m 0 with
   | true =>
    rw [h2] at h
    simp only [cond_true, cond_false] at h
    cases hc : Nat.beq (Nat.mod n 2) 1 <;> rw [hc] at h <;> simp at h
   | false =>
    have m0 : m ≠ 0 := fun e => by rw [bm.2 e] at h2; simp at h2
    rw [h2] at h
    simp only [cond_false] at h
    cases h3 : Nat.beq (Nat.mod n 2) 1 with
    | true =>
     rw [h3] at h
     cases h4 : Nat.beq (Nat.mod m 2) 1 with
     | true =>
      rw [h4] at h
      simp only [cond_true, List.cons.injEq, true_and] at h
      have k := pathF_inj f g _ _ (show n / 2 ≤ f by omega) (show m / 2 ≤ g by omega) h
      have k : n / 2 = m / 2 := k
      have := on.1 h3
      have := om.1 h4
      omega
     | false => rw [h4] at h; simp at h
    | false =>
     rw [h3] at h
     cases h4 : Nat.beq (Nat.mod m 2) 1 with
     | true => rw [h4] at h; simp at h
     | false =>
      rw [h4] at h
      simp only [cond_false, List.cons.injEq, true_and] at h
      have k := pathF_inj f g _ _ (show n / 2 - 1 ≤ f by omega) (show m / 2 - 1 ≤ g by omega) h
      have k : n / 2 - 1 = m / 2 - 1 := k
      have e1 : ¬ n % 2 = 1 := fun e => by rw [on.2 e] at h3; simp at h3
      have e2 : ¬ m % 2 = 1 := fun e => by rw [om.2 e] at h4; simp at h4
      omega
theorem path_inj {n m : Nat} (h : path n = path m) : n = m := pathF_inj n m n m (Nat.le_refl _) (Nat.le_refl _) h
section
variable {α : Type}
def Tr.get (d : α) : List Bool → Tr α → α
 | [], t => (match t with
  | .lf => d
  | .nd v _ _ => v.getD d)
 | b :: p, t => (match t with
  | .lf => d
  | .nd _ l r => bif b then Tr.get d p r else Tr.get d p l)
def Tr.set (a : α) : List Bool → Tr α → Tr α
 | [], t => (match t with
  | .lf => .nd (some a) .lf .lf
  | .nd _ l r => .nd (some a) l r)
 | b :: p, t => (match t with
  | .lf => bif b then .nd none .lf (Tr.set a p .lf) else .nd none (Tr.set a p .lf) .lf
  | .nd v l r => bif b then .nd v l (Tr.set a p r) else .nd v (Tr.set a p l) r)
theorem Tr.get_set (d a : α) : ∀ (p q : List Bool) (t : Tr α), Tr.get d q (Tr.set a p t) = if p = q then a else Tr.get d q t
 | [], [], t => by cases t <;> simp [Tr.set, Tr.get]
 | [], b :: q, t => by cases t <;> cases b <;> simp [Tr.set, Tr.get] <;> (cases q <;> rfl)
 | b :: p, [], t => by cases t <;> cases b <;> simp [Tr.set, Tr.get]
 | b :: p, b' :: q, t => by
  cases t <;> cases b <;> cases b' <;> simp [Tr.set, Tr.get, Tr.get_set d a p q] <;> (cases q <;> rfl)
def aget (d : α) (t : Tr α) (i : Nat) : α := Tr.get d (path i) t
def aset (t : Tr α) (i : Nat) (a : α) : Tr α := Tr.set a (path i) t
theorem aget_aset (d : α) (t : Tr α) (i j : Nat) (a : α) : aget d (aset t i a) j = if i = j then a else aget d t j := by
 unfold aget aset
 rw [Tr.get_set]
 by_cases h : i = j
 ·subst h; simp
 ·rw [if_neg (fun e => h (path_inj e)), if_neg h]
theorem aget_lf (d : α) (i : Nat) : aget d .lf i = d := by unfold aget; cases path i <;> rfl
end
end Go.AM
end

section
namespace Go.AM
open Go
inductive Ref where
 | loc (s g : Nat)
 | glob (r : Nat)
 deriving DecidableEq, Inhabited
inductive V where
 | dead
 | int (k : IntKind) (n : Int)
 | bool (b : Bool)
 | str (s : Str)
 | nilp
 | ptr (r : Ref) (off : Nat)
 | iptr (cs : List V)
 | nils
 | slice (tok : Option Ref) (full : Bool) (sz : Nat) (l : List V)
 | arr (r : Ref) (off len : Nat) (lim : Option Nat) (sz : Nat) (ag : Bool)
 | fn (f : Fn) (first caps : List V)
 | nilf
 | iface (t : Nat) (v : V)
 | nili
 | agg (cs : List V)
 | tuple (vs : List V)
 | sym (i : Nat)
 | mref (r : Ref)
 | nilm
 deriving Inhabited
inductive Row where
 | gone
 | cells (frz : Bool) (cs : List V)
 | tok
 | iter (s : Str) (pos : Nat)
 | mp (ks vs : List V)
 deriving Inhabited
structure Hp where
 rows : List Row
 dirty : Option Nat
 mods : Nat
inductive Out where
 | val (v : V) (h : Hp)
 | panic (v : V) (h : Hp)
def Out.hp : Out → Hp
 | .val _ h => h
 | .panic _ h => h
abbrev CallF := FuncId → List V → Hp → Option Out
structure Cfg where
 isArr : TypeId → Bool
 glob : FuncId → Nat → Bool
 use : FuncId → Bool
 pairsH : FuncId → Nat → List (Nat × Nat)
 pairs : FuncId → Nat → List (Nat × Nat)
structure St where
 tm : Tr V
 loc : Tr (Nat × Row)
 hp : Hp
def V.cells : V → List V
 | .agg cs => cs
 | v => [v]
def V.cellOk : V → Bool
 | .dead => false
 | .agg _ => false
 | .tuple _ => false
 | _ => true
def V.live : V → Bool
 | .dead => false
 | _ => true
mutual
def V.noRefs : V → Bool
 | .ptr _ _ => false
 | .arr .. => false
 | .mref _ => false
 | .slice tok _ _ _ => tok.isNone
 | .iptr cs => V.noRefsL cs
 | .fn _ a b => V.noRefsL a && V.noRefsL b
 | .iface _ v => v.noRefs
 | .agg cs => V.noRefsL cs
 | .tuple cs => V.noRefsL cs
 | _ => true
def V.noRefsL : List V → Bool
 | [] => true
 | v :: l => v.noRefs && V.noRefsL l
end
mutual
def V.noLoc : V → Bool
 | .ptr (.loc _ _) _ => false
 | .arr (.loc _ _) .. => false
 | .mref (.loc _ _) => false
 | .slice (some (.loc _ _)) _ _ _ => false
 | .iptr cs => V.noLocL cs
 | .fn _ a b => V.noLocL a && V.noLocL b
 | .iface _ v => v.noLoc
 | .agg cs => V.noLocL cs
 | .tuple cs => V.noLocL cs
 | _ => true
def V.noLocL : List V → Bool
 | [] => true
 | v :: l => v.noLoc && V.noLocL l
end
def absS : Value → V
 | .bool b => .bool b
 | .int k x => .int k x
 | .string s => .str (Str.of s)
 | .pointer none => .nilp
 | .slice none 0 0 => .nils
 | .nilFunc => .nilf
 | .nilIface => .nili
 | .map none => .nilm
 | _ => .dead
def absV : Value → V
 | .agg cs => .agg (cs.toList.map absS)
 | v => absS v
def opd (ρ : Nat → V) : Operand → V
 | .tmp t => ρ t
 | .const v => absV v
 | .func f => .fn (.func f) [] []
 | .global _ => .dead
def St.ρ (st : St) : Nat → V := aget .dead st.tm
def St.lc (st : St) : Nat → Nat × Row := aget (0, .gone) st.loc
def getRow (st : St) : Ref → Option Row
 | .loc s g => bif Nat.beq (st.lc s).1 g then some (st.lc s).2 else none
 | .glob r => st.hp.rows[r]?
def lower : Option Nat → Nat → Option Nat
 | none, r => some r
 | some d, r => some (min d r)
def setRow (st : St) : Ref → Row → St
 | .loc s g, row => { st with loc := aset st.loc s (g, row) }
 | .glob r, row => { st with hp := { rows := st.hp.rows.set r row, dirty := lower st.hp.dirty r, mods := st.hp.mods + 1 } }
def addRow (st : St) (gl : Bool) (site : Nat) (row : Row) : Ref × St :=
 bif gl then (.glob st.hp.rows.length, { st with hp := { st.hp with rows := st.hp.rows ++ [row] } })
 else (.loc site ((st.lc site).1 + 1), { st with loc := aset st.loc site ((st.lc site).1 + 1, row) })
def toNatLt : Int → Nat → Option Nat
 | .ofNat k, n => bif Nat.blt k n then some k else none
 | _, _ => none
def toNatLe : Int → Nat → Option Nat
 | .ofNat k, n => bif Nat.ble k n then some k else none
 | _, _ => none
def intCmp (op : BinOp) (a b : Int) : Option V :=
 match op with
 | .eql => some (.bool (a == b))
 | .neq => some (.bool (a != b))
 | .lss => some (.bool (a < b))
 | .leq => some (.bool (a ≤ b))
 | .gtr => some (.bool (a > b))
 | .geq => some (.bool (a ≥ b))
 | _ => none
def binInt (op : BinOp) (k : IntKind) (a b : Int) : Option V :=
 match op with
 | .add => some (.int k (k.wrap (a + b)))
 | .sub => some (.int k (k.wrap (a - b)))
 | .mul => some (.int k (k.wrap (a * b)))
 | .quo => if b = 0 then none else some (.int k (k.wrap (a.tdiv b)))
 | .rem => if b = 0 then none else some (.int k (a.tmod b))
 | .and => some (.int k (k.wrap (BitVec.ofInt k.bits a &&& BitVec.ofInt k.bits b).toNat))
 | .or => some (.int k (k.wrap (BitVec.ofInt k.bits a ||| BitVec.ofInt k.bits b).toNat))
 | .xor => some (.int k (k.wrap (BitVec.ofInt k.bits a ^^^ BitVec.ofInt k.bits b).toNat))
 | .andNot => some (.int k (k.wrap (BitVec.ofInt k.bits a &&& ~~~ (BitVec.ofInt k.bits b)).toNat))
 | op => intCmp op a b
def strOp (op : BinOp) (a b : Str) : Option V :=
 match op with
 | .eql => some (.bool (a.same b))
 | .neq => some (.bool (!a.same b))
 | .lss => some (.bool (Op.bytesLess (bl a.n a.v) (bl b.n b.v)))
 | .add => bif Nat.ble (Nat.add a.n b.n) 4611686018427387904 then some (.str (a.app b)) else none
 | _ => none
def shiftV (op : BinOp) (k : IntKind) (a b : Int) : Option V :=
 if b < 0 then none else
 match op with
 | .shl => some (.int k (k.wrap (a * 2 ^ (min b.toNat k.bits))))
 | .shr => some (.int k (a.fdiv (2 ^ (min b.toNat k.bits))))
 | _ => none
def isEq (op : BinOp) (b : Bool) : Option V :=
 match op with
 | .eql => some (.bool b)
 | .neq => some (.bool !b)
 | _ => none
def binV (op : BinOp) (x y : V) : Option V :=
 match x, y with
 | .int k a, .int k' b =>
  match op with
  | .shl => shiftV .shl k a b
  | .shr => shiftV .shr k a b
  | op => if k = k' then binInt op k a b else none
 | .str a, .str b => strOp op a b
 | _, _ => none
def isConst : Operand → Bool
 | .const _ => true
 | _ => false
def eqV (op : BinOp) (d : Option TypeDesc) (cn : Bool) (x y : V) : Option V :=
 match d, x, y with
 | some .bool, .bool a, .bool b => isEq op (a == b)
 | some (.slice _), .nils, .nils => isEq op true
 | some (.slice _), .slice _ _ _ _, .nils => isEq op false
 | some (.slice _), .arr .., .nils => isEq op false
 | some (.interface _), .nili, .nili => bif cn then isEq op true else none
 | some (.interface _), .iface _ _, .nili => isEq op false
 | some (.interface _), .nili, .iface _ _ => isEq op false
 | some (.pointer _), .nilp, .nilp => isEq op true
 | some (.pointer _), .ptr _ _, .nilp => isEq op false
 | some (.pointer _), .nilp, .ptr _ _ => isEq op false
 | _, _, _ => none
def eqC (d : Option TypeDesc) (x y : V) : Option Bool := match d, x, y with
 | some (.int _), .int k a, .int k' b => if k = k' then some (a == b) else none
 | some .string, .str a, .str b => some (a.same b)
 | some .bool, .bool a, .bool b => some (a == b)
 | _, _, _ => none
def eqFs (P : Program) : Nat → List Field → List V → List V → Option Bool
 | _, [], [], [] => some true
 | i, f :: fs, x :: xs, y :: ys => bif f.name != "_" && Nat.beq f.offset i then (match eqC (P.underlying f.type) x y, eqFs P (i + 1) fs xs ys with
  | some a, some b => some (a && b)
  | _, _ => none) else none
 | _, _, _, _ => none
def eqA (P : Program) (op : BinOp) (t : TypeId) (x y : V) : Option V := match P.underlying t, x, y with
 | some (.struct fs), .agg xs, .agg ys => bif P.stoodInHeld t || P.eqGuardType P.depth t then none else (match eqFs P 0 fs.toList xs ys with
  | some b => isEq op b
  | none => none)
 | _, _, _ => none
def orA (a : Option V) (b : Unit → Option V) : Option V := match a with | some v => some v | none => b ()
def unV (op : UnOp) (x : V) : Option V :=
 match op, x with
 | .not, .bool b => some (.bool !b)
 | .neg, .int k n => some (.int k (k.wrap (0 - n)))
 | .xor, .int k n => binInt .xor k (if k.signed then -1 else k.max) n
 | _, _ => none
section
variable (P : Program) (C : Cfg)
def szOf (t : TypeId) : Option Nat := (P.info? t).map (·.size)
def aggT (t : TypeId) : Option Bool := match P.underlying t with
 | some (.struct _) => some true
 | some (.array _ _) => some true
 | some _ => some false
 | none => none
def zeroV (t : TypeId) : Option V := match P.info? t with
 | some i => i.zero.map absV
 | none => none
def elemT (t : TypeId) : Option TypeId := match P.underlying t with
 | some (.slice e) => some e
 | _ => none
def fieldOf (t : TypeId) (i : Nat) : Option Field := match P.underlying t with
 | some (.struct fs) => fs[i]?
 | _ => none
def byteE (e : TypeId) : Option Nat := (P.info? e).bind fun i => match i.zero with
 | some z => bif Nat.beq i.bytes 0 || !Nat.beq z.cells.size i.size then none else some i.bytes
 | none => none
def lenIs (t : TypeId) (n : Nat) : Bool := match szOf P t with
 | some m => Nat.beq n m
 | none => false
def layE (e : TypeId) : Option (Nat × Bool) :=
 match szOf P e, aggT P e with
 | some (n + 1), some g => some (n + 1, g)
 | _, _ => none
def partV (t : TypeId) (cs : List V) (off : Nat) : Option V :=
 match layE P t with
 | some (n, true) => bif Nat.ble (off + n) cs.length then some (.agg ((cs.drop off).take n)) else none
 | some (_, false) => cs[off]?
 | none => none
def setAt (cs : List V) (off : Nat) (vs : List V) : Option (List V) :=
 bif Nat.ble (off + vs.length) cs.length then some (cs.take off ++ vs ++ cs.drop (off + vs.length)) else none
def V.unagg : V → V
 | .agg _ => .dead
 | v => v
def chunk (sz : Nat) (ag : Bool) : Nat → List V → List V
 | 0, _ => []
 | n + 1, cs => (bif ag then V.agg (cs.take sz) else (cs.headD .dead).unagg) :: chunk sz ag n (cs.drop sz)
def sliceImm (tok : Option Ref) (full : Bool) (sz : Nat) (l : List V) (lo hi : Option Int) (mx : Option Int) : Option V :=
 match toNatLe (hi.getD l.length) l.length with
 | none => none
 | some h => match toNatLe (lo.getD 0) h with
  | none => none
  | some k => match mx with
   | none =>
    bif Nat.beq h l.length then
     (bif Nat.beq k 0 then some (.slice tok full sz l) else some (.slice none full sz (l.drop k)))
    else some (.slice none false sz ((l.take h).drop k))
   | some m => match toNatLe m l.length, hi with
    | some m, some _ => bif Nat.beq m h then some (.slice none true sz ((l.take h).drop k)) else none
    | _, _ => none
def optInt (ρ : Nat → V) : Option Operand → Option (Option Int)
 | none => some none
 | some x => match opd ρ x with
  | .int _ n => some (some n)
  | _ => none
def sliceStr (s : Str) (lo hi : Option Int) : Option V :=
 match toNatLe (hi.getD s.n) s.n with
 | none => none
 | some h => match toNatLe (lo.getD 0) h with
  | none => none
  | some k => some (.str (s.cut k h))
def sliceArr (r : Ref) (off len : Nat) (lim : Option Nat) (sz : Nat) (ag : Bool) (lo hi : Option Int) (mx : Option Int) : Option V :=
 match toNatLe (hi.getD len) len with
 | none => none
 | some h => match toNatLe (lo.getD 0) h with
  | none => none
  | some k => match mx with
   | none => (match lim with
    | none => bif Nat.beq k h && !Nat.beq k 0 then some (.slice none false sz []) else some (.arr r (off + k * sz) (h - k) none sz ag)
    | some c => bif Nat.beq k c && !Nat.beq k 0 then some (.slice none true sz []) else some (.arr r (off + k * sz) (h - k) (some (c - k)) sz ag))
   | some m => match toNatLe m len, hi with
    | some m, some _ => bif Nat.ble h m then
      (bif Nat.beq k m && !Nat.beq k 0 then some (.slice none true sz []) else some (.arr r (off + k * sz) (h - k) (some (m - k)) sz ag)) else none
    | _, _ => none
def sliceV (t : TypeId) (x : V) (lo hi mx : Option Int) : Option V :=
 match x with
 | .str s => match mx, P.underlying t with
  | none, some .string => sliceStr s lo hi
  | _, _ => none
 | .nils => match elemT P t with
  | some e => (match layE P e with
   | some _ => (match toNatLe (hi.getD (0 : Nat)) 0, toNatLe (lo.getD 0) 0, mx with
    | some _, some _, none => some .nils
    | some _, some _, some m => (match toNatLe m 0, hi with
     | some _, some _ => some .nils
     | _, _ => none)
    | _, _, _ => none)
   | none => none)
  | none => none
 | .slice tok full sz l => match elemT P t with
  | some e => (match layE P e with
   | some (n, _) => bif Nat.beq n sz then sliceImm tok full sz l lo hi mx else none
   | none => none)
  | none => none
 | .arr r off len lim sz ag => match elemT P t with
  | some e => (match layE P e with
   | some (n, _) => bif Nat.beq n sz then sliceArr r off len lim sz ag lo hi mx else none
   | none => none)
  | none => none
 | _ => none
def indexAddrV (t : TypeId) (x : V) (i : Int) : Option V :=
 match elemT P t with
 | none => none
 | some e => match layE P e with
  | none => none
  | some (n, _) => match x with
   | .slice _ _ sz l => bif Nat.beq n sz then (match toNatLt i l.length with
    | none => none
    | some k => match l[k]? with
     | some v => some (.iptr v.cells)
     | none => none) else none
   | .arr r off len _ sz _ => bif Nat.beq n sz then
     (match toNatLt i len with
     | none => none
     | some k => some (.ptr r (off + k * sz)))
    else none
   | _ => none
def convV (s d : TypeId) (x : V) : Option V :=
 match P.underlying s, P.underlying d, x with
 | some (.int _), some (.int k), .int _ n => some (.int k (k.wrap n))
 | some .string, some .string, .str s => some (.str s)
 | some (.int _), some .string, .int _ n => some (.str (Str.of (Utf8.encode n)))
 | _, _, _ => none
def V.plain : V → Bool
 | .arr .. => false
 | .dead => false
 | v => v.noLoc
def V.weak : V → V
 | .slice _ f sz l => .slice none f sz l
 | v => v
def V.weakA : V → V
 | .agg cs => .agg (cs.map V.weak)
 | v => v.weak
def V.weak1 : V → V
 | .slice (some (.loc _ _)) f sz l => .slice none f sz l
 | v => v
def V.weakB : V → V
 | .agg cs => .agg (cs.map V.weak1)
 | v => v.weak1
def fillP (t : TypeId) (ρ : Nat → V) : List (Nat × Operand) → List V → Option (List V)
 | [], cs => some cs
 | (i, x) :: l, cs =>
  match fieldOf P t i with
  | none => none
  | some f =>
   let v := (opd ρ x).weakB
   bif v.plain && (bif Nat.beq v.cells.length ((szOf P f.type).getD 0) then true else false) then
    match setAt cs f.offset v.cells with
    | some cs' => fillP t ρ l cs'
    | none => none
   else none
def fillE (sz : Nat) (ρ : Nat → V) : List (Nat × Operand) → List V → Option (List V)
 | [], l => some l
 | (i, x) :: ps, l =>
  let v := (opd ρ x).weakA
  bif v.live && v.noRefs && Nat.beq v.cells.length sz && Nat.blt i l.length then fillE sz ρ ps (l.set i v) else none
def pureV (ρ : Nat → V) : Op → Option V
 | .move x => some (opd ρ x)
 | .assign x => some (opd ρ x)
 | .pick c a b => match opd ρ c with
  | .bool true => some (opd ρ a)
  | .bool false => some (opd ρ b)
  | _ => none
 | .nilCheck x => match opd ρ x with
  | .ptr r o => some (.ptr r o)
  | .iptr cs => some (.iptr cs)
  | _ => none
 | .binOp op t x y _ => match binV op (opd ρ x) (opd ρ y) with
  | some v => some v
  | none => orA (eqV op (P.underlying t) (isConst x || isConst y) (opd ρ x) (opd ρ y)) fun _ => eqA P op t (opd ρ x) (opd ρ y)
 | .unOp op _ x => unV op (opd ρ x)
 | .convert s d x => convV P s d (opd ρ x)
 | .slice t x lo hi mx => match optInt ρ lo, optInt ρ hi, optInt ρ mx with
  | some lo, some hi, some mx => sliceV P t (opd ρ x) lo hi mx
  | _, _, _ => none
 | .fieldAddr t x i => match fieldOf P t i with
  | none => none
  | some f => match layE P f.type with
   | none => none
   | some _ => match opd ρ x with
    | .ptr r off => some (.ptr r (off + f.offset))
    | .iptr cs => some (.iptr (cs.drop f.offset))
    | _ => none
 | .field t x i => match fieldOf P t i, opd ρ x with
  | some f, .agg cs => partV P f.type cs f.offset
  | _, _ => none
 | .indexAddr t x i => match opd ρ i with
  | .int _ n => indexAddrV P t (opd ρ x) n
  | _ => none
 | .index t x i => match opd ρ x, opd ρ i, P.underlying t with
  | .str s, .int _ n, some .string => (match toNatLt n s.n with
   | none => none
   | some k => some (.int .u8 (.ofNat (s.get k))))
  | _, _, _ => none
 | .extract x i => match opd ρ x with
  | .tuple vs => vs[i]?
  | _ => none
 | .makeFunc f a b => some (.fn f ((a.toList).map (opd ρ)) ((b.toList).map (opd ρ)))
 | .makeInterface t x => match P.underlying t with
  | some (.interface _) => none
  | some _ => some (.iface t (opd ρ x))
  | none => none
 | .build t ps => match P.underlying t, zeroV P t with
  | some (.struct fs), some z => bif z.live && fs.all (fun f => (P.info? f.type).isSome) then (fillP P t ρ ps.toList z.cells).map .agg else none
  | _, _ => none
 | .buildSlice t len ps => match elemT P t with
  | none => none
  | some e => match layE P e, zeroV P e with
   | some (n, _), some z =>
    bif !C.isArr t && Nat.ble (len * n) 16777216 && z.noRefs && z.live && Nat.beq z.cells.length n then
     (fillE n ρ ps.toList (List.replicate len z)).map (.slice none true n)
    else none
   | _, _ => none
 | .call c => match c.callee, c.args.toList with
  | .builtin .len, [x] => (match c.argTypes[0]? with
   | none => none
   | some t => match opd ρ x, P.underlying t with
    | .nils, some (.slice _) => some (.int .i64 0)
    | .slice _ _ _ l, some (.slice _) => some (.int .i64 l.length)
    | .arr _ _ n _ _ _, some (.slice _) => some (.int .i64 n)
    | .str s, some .string => some (.int .i64 s.n)
    | _, _ => none)
  | .builtin .min, [x, y] => (match opd ρ x, opd ρ y with
   | .int k a, .int _ b => some (.int k (if b < a then b else a))
   | _, _ => none)
  | .builtin .max, [x, y] => (match opd ρ x, opd ρ y with
   | .int k a, .int _ b => some (.int k (if b > a then b else a))
   | _, _ => none)
  | _, _ => none
 | _ => none
def locV (gl : Nat → Bool) (ρ : Nat → V) (lc : Nat → Nat × Row) (o : Oper) : Option (V × Option (Nat × Nat × Row)) :=
 match o.op with
 | .load t x => (match opd ρ x with
  | .ptr (.loc s g) off => (match lc s with
   | (g', .cells _ cs) => bif Nat.beq g g' then (partV P t cs off).map (·, none) else none
   | _ => none)
  | .iptr cs => (partV P t cs 0).map (·, none)
  | _ => none)
 | .store t a x => (match opd ρ a with
  | .ptr (.loc s g) off => (match lc s with
   | (g', .cells false cs) => bif Nat.beq g g' && (opd ρ x).cells.all V.cellOk && lenIs P t (opd ρ x).cells.length then
     (match setAt cs off (opd ρ x).cells with
     | some cs' => some (.tuple [], some (s, g, .cells false cs'))
     | none => none)
    else none
   | _ => none)
  | _ => none)
 | .alloc t => (match o.dst with
  | none => none
  | some d => bif gl d then none else match zeroV P t, szOf P t with
   | some z, some n => bif z.live && Nat.beq z.cells.length n then
     some (.ptr (.loc d ((lc d).1 + 1)) 0, some (d, (lc d).1 + 1, .cells false z.cells))
    else none
   | _, _ => none)
 | .box t x => bif C.isArr t then (bif (opd ρ x).weakA.live then some (.iptr (opd ρ x).weakA.cells, none) else none) else (match o.dst with
  | none => none
  | some d => bif gl d || !(opd ρ x).live then none else
    some (.ptr (.loc d ((lc d).1 + 1)) 0, some (d, (lc d).1 + 1, .cells false (opd ρ x).cells)))
 | .range t x => (match P.underlying t, opd ρ x, o.dst with
  | some .string, .str s, some d => bif gl d then none else
    some (.ptr (.loc d ((lc d).1 + 1)) 0, some (d, (lc d).1 + 1, .iter s 0))
  | _, _, _ => none)
 | op => (pureV P C ρ op).map (·, none)
def applyL (st : St) (u : Option (Nat × Nat × Row)) : St := match u with
 | none => st
 | some (s, g, row) => { st with loc := aset st.loc s (g, row) }
def itemsOf (st : St) : V → Option (List V)
 | .nils => some []
 | .slice _ _ _ l => some l
 | .arr r off len _ sz ag => match getRow st r with
  | some (.cells _ cs) => bif Nat.ble (off + len * sz) cs.length && (ag || Nat.beq sz 1) then some (chunk sz ag len (cs.drop off)) else none
  | _ => none
 | .str s => some ((bl s.n s.v).map fun b => .int .u8 b.toNat)
 | _ => none
def freeze (st : St) : V → Option (V × St)
 | .arr r off len lim sz ag => match getRow st r with
  | some (.cells _ cs) => match itemsOf st (.arr r off len lim sz ag) with
   | some l => bif V.noRefsL l then some (.slice none false sz l, setRow st r (.cells true cs)) else none
   | none => none
  | _ => none
 | _ => none
def isLoc : Ref → Bool
 | .loc _ _ => true
 | .glob _ => false
def exp1 (fz : Bool) (st : St) (v : V) : Option (V × St) :=
 match v with
 | .arr r off len lim sz ag => bif fz || isLoc r then freeze st (.arr r off len lim sz ag) else some (.arr r off len lim sz ag, st)
 | .slice tok f sz l => match tok with
  | some (.glob r) => bif fz then some (.slice none f sz l, st) else some (.slice (some (.glob r)) f sz l, st)
  | _ => some (.slice none f sz l, st)
 | v => bif v.live && v.noLoc then some (v, st) else none
def expL (fz : Bool) : St → List V → Option (List V × St)
 | st, [] => some ([], st)
 | st, v :: l => match exp1 fz st v with
  | none => none
  | some (v', st') => match expL fz st' l with
   | none => none
   | some (l', st'') => some (v' :: l', st'')
def exp (fz : Bool) (st : St) (v : V) : Option (V × St) :=
 match v with
 | .agg cs => (expL fz st cs).map fun (l, st) => (.agg l, st)
 | v => exp1 fz st v
def exps (fz : Bool) : St → List V → Option (List V × St)
 | st, [] => some ([], st)
 | st, v :: l => match exp fz st v with
  | none => none
  | some (v', st') => match exps fz st' l with
   | none => none
   | some (l', st'') => some (v' :: l', st'')
inductive Res where
 | val (v : V) (st : St)
 | enter (f : FuncId) (args : List V) (st : St)
 | panic (v : V) (st : St)
def flat (l : List V) : List V := l.flatMap V.cells
def growArr (gl : Nat → Bool) (st : St) (d : Nat) (cs : List V) (len sz : Nat) (ag : Bool) : Option Res :=
 bif gl d && !V.noLocL cs then none else
 let (r, st') := addRow st (gl d) d (.cells false cs)
 some (.val (.arr r 0 len none sz ag) st')
def growImm (gl : Nat → Bool) (st : St) (d : Nat) (sz : Nat) (l : List V) : Option Res :=
 let (r, st') := addRow st (gl d) d .tok
 some (.val (.slice (some r) false sz l) st')
def maxBytes : Nat := 70368744177664
def appendV (gl : Nat → Bool) (st : St) (d : Nat) (t : TypeId) (x y : V) : Option Res :=
 match elemT P t with
 | none => none
 | some e => match layE P e, byteE P e, itemsOf st y with
  | some (sz, ag), some bytes, some ys =>
   bif ys.all (fun v => Nat.beq v.cells.length sz && v.cells.all V.cellOk) then
    match x with
    | .nils => (match ys with
     | [] => some (.val .nils st)
     | _ => bif Nat.ble (ys.length * bytes) maxBytes then
       (bif C.isArr t then growArr gl st d (flat ys) ys.length sz ag
        else bif V.noRefsL ys then growImm gl st d sz ys else none)
      else none)
    | .slice tok full sz' l => bif Nat.beq sz sz' then
     (match ys with
     | [] => some (.val (.slice tok full sz' l) st)
     | _ => bif Nat.ble ((l.length + ys.length) * bytes) maxBytes then
       (bif C.isArr t then
        (bif full then growArr gl st d (flat (l ++ ys)) (l.length + ys.length) sz ag else none)
        else bif V.noRefsL ys then
        (bif full then growImm gl st d sz (l ++ ys) else
         match tok with
         | some r => (match getRow st r with
          | some .tok => growImm gl (setRow st r .gone) d sz (l ++ ys)
          | _ => none)
         | none => none)
        else none)
      else none) else none
    | .arr r off len lim sz' ag' =>
     bif Nat.beq sz sz' && (ag == ag') then
      (match getRow st r with
      | some (.cells frz cs) =>
       bif Nat.ble (off + len * sz) cs.length && Nat.ble ((len + ys.length) * bytes) maxBytes then
        (match ys with
        | [] => some (.val (.arr r off len lim sz' ag') st)
        | _ => bif !isLoc r && !V.noLocL (flat ys) then none else
         (match lim with
         | some c =>
          bif Nat.ble (len + ys.length) c then
           (bif frz then none else match setAt cs (off + len * sz) (flat ys) with
           | some cs' => some (.val (.arr r off (len + ys.length) lim sz' ag') (setRow st r (.cells false cs')))
           | none => none)
          else growArr gl st d (((cs.drop off).take (len * sz)) ++ flat ys) (len + ys.length) sz ag
         | none =>
          bif frz then none else
          bif Nat.ble (off + (len + ys.length) * sz) cs.length then
           (match setAt cs (off + len * sz) (flat ys) with
           | some cs' => some (.val (.arr r off (len + ys.length) lim sz' ag') (setRow st r (.cells false cs')))
           | none => none)
          else bif Nat.beq off 0 && Nat.beq (len * sz) cs.length then
           growArr gl (setRow st r .gone) d (cs ++ flat ys) (len + ys.length) sz ag
          else none))
       else none
      | _ => none)
     else none
    | _ => none
   else none
  | _, _, _ => none
def makeV (gl : Nat → Bool) (st : St) (d : Nat) (t : TypeId) (len cap : V) : Option Res :=
 match elemT P t, len, cap with
 | some e, .int _ (.ofNat n), .int _ (.ofNat c) =>
  (match layE P e, (P.info? e).map (·.bytes), zeroV P e with
  | some (sz, ag), some bytes, some z =>
   bif Nat.ble n c && Nat.ble (c * bytes) maxBytes && Nat.ble c maxBytes && Nat.beq z.cells.length sz && z.live then
    let (r, st') := addRow st (gl d) d (.cells false (flat (List.replicate c z)))
    some (.val (.arr r 0 n (some c) sz ag) st')
   else none
  | _, _, _ => none)
 | _, _, _ => none
def copyV (st : St) (t : TypeId) (x y : V) : Option Res :=
 match elemT P t with
 | none => none
 | some e => match layE P e, itemsOf st y, x with
  | some (sz, _), some ys, .arr r off len _ sz' _ =>
   bif Nat.beq sz sz' && (isLoc r || V.noLocL (flat ys)) && ys.all (fun v => Nat.beq v.cells.length sz && v.cells.all V.cellOk) then
    (match getRow st r with
    | some (.cells false cs) =>
     (match setAt cs off (flat (ys.take len)) with
     | some cs' => bif Nat.ble (off + len * sz) cs.length then
       some (.val (.int .i64 (min ys.length len : Nat)) (setRow st r (.cells false cs')))
      else none
     | none => none)
    | _ => none)
   else none
  | _, _, _ => none
def clearV (st : St) (t : TypeId) (x : V) : Option Res :=
 match elemT P t with
 | none => none
 | some e => match layE P e, zeroV P e, x with
  | some (sz, _), some z, .arr r off len _ sz' _ =>
   bif Nat.beq sz sz' && Nat.blt 0 len && z.live && Nat.beq z.cells.length sz && z.cells.all V.cellOk && (isLoc r || z.noLoc) then
    (match getRow st r with
    | some (.cells false cs) =>
     (match setAt cs off (flat (List.replicate len z)) with
     | some cs' => some (.val (.tuple []) (setRow st r (.cells false cs')))
     | none => none)
    | _ => none)
   else none
  | _, _, _ => none
def bytesOf : List V → Option (List UInt8)
 | [] => some []
 | .int .u8 n :: l => (bytesOf l).map (UInt8.ofNat n.toNat :: ·)
 | _ => none
def convS (gl : Nat → Bool) (st : St) (d : Nat) (s t : TypeId) (x : V) : Option Res :=
 match P.underlying s, P.underlying t with
 | some (.slice e), some .string =>
  (match P.underlying e with
  | some (.int .u8) => (match itemsOf st x with
   | some l => (match x with
    | .str _ => none
    | _ => (bytesOf l).map fun b => .val (.str (Str.ofL b)) st)
   | none => none)
  | _ => none)
 | some .string, some (.slice e) =>
  (match P.underlying e, x with
  | some (.int .u8), .str s => bif C.isArr t && Nat.ble s.n maxBytes then
    let (r, st') := addRow st (gl d) d (.cells false ((bl s.n s.v).map fun b => .int .u8 b.toNat))
    some (.val (.arr r 0 s.n none 1 false) st')
   else none
  | _, _ => none)
 | _, _ => none
def notInt (t : Option TypeId) : Bool := match t.bind P.underlying with
 | some (.slice _) => true
 | some .string => true
 | _ => false
def opds (ρ : Nat → V) (l : List Operand) : List V := l.map (opd ρ)
def callS (gl : Nat → Bool) (st : St) (dst : Option Nat) (c : Call) : Option Res :=
 let args := opds st.ρ c.args.toList
 match c.callee with
 | .value f => (match opd st.ρ f with
  | .fn (.func g) first caps => (match exps false st (first ++ args ++ caps) with
   | some (l, st') => some (.enter g l st')
   | none => none)
  | _ => none)
 | .builtin b => (match c.argTypes[0]?, dst with
  | some t, some d => (match b, args with
   | .append, [x, y] => bif notInt P c.argTypes[1]? then appendV P C gl st d t x y else none
   | .copy, [x, y] => copyV P st t x y
   | _, _ => none)
  | some t, none => (match b, args with
   | .copy, [x, y] => copyV P st t x y
   | .clear, [x] => clearV P st t x
   | _, _ => none)
  | _, _ => none)
 | .invoke _ _ => none
def fillA (sz : Nat) : List Nat → List V → List V → Option (List V)
 | [], [], l => some l
 | i :: is, v :: vs, l => bif Nat.beq v.cells.length sz && Nat.blt i l.length then fillA sz is vs (l.set i v) else none
 | _, _, _ => none
def keyFits (kt : TypeId) (k : V) : Bool := match P.underlying kt, k with
 | some (.int _), .int _ _ => true
 | some .string, .str _ => true
 | some .bool, .bool _ => true
 | _, _ => false
def sameK : V → V → Option Bool
 | .int k a, .int k' b => if k = k' then some (a == b) else none
 | .str a, .str b => some (a.same b)
 | .bool a, .bool b => some (a == b)
 | _, _ => none
def findV (k : V) : List V → Nat → Option (Option Nat)
 | [], _ => some none
 | x :: l, i => match sameK k x with
  | some true => some (some i)
  | some false => findV k l (i + 1)
  | none => none
def lookV (t : TypeId) (h : Hp) (x k : V) (ok : Bool) : Option V := match x with
 | .mref (.glob r) => (match h.rows[r]?, P.underlying t with
  | some (.mp ks vs), some (.map kt et) => bif keyFits P kt k then (match findV k ks 0 with
    | some (some j) => (match vs[j]? with
     | some v => some (bif ok then .tuple [v, .bool true] else v)
     | none => none)
    | some none => (match zeroV P et with
     | some z => some (bif ok then .tuple [z, .bool false] else z)
     | none => none)
    | none => none) else none
  | _, _ => none)
 | _ => none
def layM (t : TypeId) (st : St) (x k v : V) : Option Res := match x, exp false st v with
 | .mref (.glob r), some (v, st') => (match st'.hp.rows[r]?, P.underlying t with
  | some (.mp ks vs), some (.map kt _) => bif keyFits P kt k then (match findV k ks 0 with
    | some (some j) => some (.val (.tuple []) (setRow st' (.glob r) (.mp (ks.set j k) (vs.set j v))))
    | some none => some (.val (.tuple []) (setRow st' (.glob r) (.mp (ks ++ [k]) (vs ++ [v]))))
    | none => none) else none
  | _, _ => none)
 | _, _ => none
def stepG (gl : Nat → Bool) (st : St) (o : Oper) : Option Res :=
 match o.op with
 | .load t x => (match opd st.ρ x with
  | .ptr (.glob r) off => (match st.hp.rows[r]? with
   | some (.cells _ cs) => (partV P t cs off).map (.val · st)
   | _ => none)
  | _ => none)
 | .store t a x => (match opd st.ρ a with
  | .ptr (.glob r) off => (match st.hp.rows[r]?, exp false st (opd st.ρ x) with
   | some (.cells false _), some (v, st') => (match st'.hp.rows[r]? with
    | some (.cells false cs) => bif v.cells.all V.cellOk && lenIs P t v.cells.length then
      (match setAt cs off v.cells with
      | some cs' => some (.val (.tuple []) (setRow st' (.glob r) (.cells false cs')))
      | none => none)
     else none
    | _ => none)
   | _, _ => none)
  | _ => none)
 | .alloc t => (match o.dst with
  | none => none
  | some d => match zeroV P t, szOf P t with
   | some z, some n => bif gl d && z.live && Nat.beq z.cells.length n then
     (let (r, st') := addRow st true d (.cells false z.cells)
      some (.val (.ptr r 0) st'))
    else none
   | _, _ => none)
 | .box _ x => (match o.dst with
  | none => none
  | some d => match exp false st (opd st.ρ x) with
   | some (v, st') => bif gl d then
     (let (r, st'') := addRow st' true d (.cells false v.cells)
      some (.val (.ptr r 0) st''))
    else none
   | none => none)
 | .build t ps => (match P.underlying t, zeroV P t, exps true st (opds st.ρ (ps.toList.map (·.2))) with
  | some (.struct fs), some z, some (l, st') =>
   let ρ : Nat → V := fun i => l.getD i .dead
   bif !(z.live && fs.all (fun f => (P.info? f.type).isSome)) then none else
   (match fillP P t ρ (ps.toList.zipIdx.map fun (p, i) => (p.1, Operand.tmp i)) z.cells with
   | some cs => some (.val (.agg cs) st')
   | none => none)
  | _, _, _ => none)
 | .buildSlice t len ps => (match elemT P t, o.dst with
  | some e, some d => (match layE P e, zeroV P e, exps false st (opds st.ρ (ps.toList.map (·.2))) with
   | some (n, ag), some z, some (l, st') =>
    bif C.isArr t && Nat.ble (len * n) 16777216 && z.live && Nat.beq z.cells.length n && (ag || Nat.beq n 1) then
     (match fillA n (ps.toList.map (·.1)) l (List.replicate len z) with
     | some items => (let (r, st'') := addRow st' (gl d) d (.cells false (flat items))
       some (.val (.arr r 0 len (some len) n ag) st''))
     | none => none)
    else none
   | _, _, _ => none)
  | _, _ => none)
 | .makeSlice t l c => (match o.dst with
  | some d => makeV P gl st d t (opd st.ρ l) (opd st.ρ c)
  | none => none)
 | .convert s t x => (match o.dst with
  | some d => convS P C gl st d s t (opd st.ρ x)
  | none => none)
 | .next x isStr => (match opd st.ρ x with
  | .ptr r 0 => (match getRow st r, isStr with
   | some (.iter s pos), true =>
    bif Nat.blt pos s.n then
     (let (c, width) := s.rune pos
      some (.val (.tuple [.bool true, .int .i64 pos, .int .i32 c]) (setRow st r (.iter s (pos + width)))))
    else some (.val (.tuple [.bool false]) st)
   | _, _ => none)
  | _ => none)
 | .call c => callS P C gl st o.dst c
 | .panic x => (match opd st.ρ x with
  | .iface t v => bif v.noLoc then some (.panic (.iface t v) st) else none
  | _ => none)
 | .makeMap _ none => (match o.dst with
  | some d => (let (r, st') := addRow st true d (.mp [] [])
    some (.val (.mref r) st'))
  | none => none)
 | .lookup t x i ok => (lookV P t st.hp (opd st.ρ x) (opd st.ρ i) ok).map (.val · st)
 | .mapUpdate t m k x => layM P t st (opd st.ρ m) (opd st.ρ k) (opd st.ρ x)
 | .insert t m k x => layM P t st (opd st.ρ m) (opd st.ρ k) (opd st.ρ x)
 | _ => none
def stepV (gl : Nat → Bool) (st : St) (o : Oper) : Option Res :=
 match locV P C gl st.ρ st.lc o with
 | some (v, u) => some (.val v (applyL st u))
 | none => stepG P C gl st o
def putV (st : St) (d : Option Nat) (v : V) : St := match d with
 | some i => { st with tm := aset st.tm i v }
 | none => st
inductive Ex where
 | normal | exit (id : Nat) | ret | panic (v : V)
def wantedV (ops : Array Oper) (o : Oper) (ρ : Nat → V) : Option Bool :=
 match o.guard with
 | none => some true
 | some (j, w) => match (ops[j]?).bind (·.dst) with
  | none => none
  | some d => match ρ d with
   | .bool b => some (b == w)
   | .dead => none
   | _ => some false
def oneV (call : CallF) (gl : Nat → Bool) (st : St) (o : Oper) : Option (Ex × St) :=
 match stepV P C gl st o with
 | some (.val v st') => some (.normal, putV st' o.dst v)
 | some (.enter f args st') => (match call f args st'.hp with
  | some (.val v h) => some (.normal, putV { st' with hp := h } o.dst v)
  | some (.panic v h) => some (.panic v, { st' with hp := h })
  | none => none)
 | some (.panic v st') => some (.panic v, st')
 | none => none
def opsV (call : CallF) (gl : Nat → Bool) (all : Array Oper) : List Oper → St → Option (Ex × St)
 | [], st => some (.normal, st)
 | o :: rest, st => match wantedV all o st.ρ with
  | none => none
  | some false => opsV call gl all rest (putV st o.dst (.tuple []))
  | some true => match oneV P C call gl st o with
   | some (.normal, st') => opsV call gl all rest st'
   | r => r
def loopV (body : St → Option (Ex × St)) : Nat → St → Option (Ex × St)
 | 0, _ => none
 | n + 1, st => match body st with
  | some (.normal, st') => loopV body n st'
  | r => r
structure Foot where
 rd : List Nat
 wr : List Nat
 hr : Bool
 hp : Bool
 ld : Bool
 sf : Bool
def quiet1 : V → Bool
 | .arr (.loc _ _) .. => false
 | .agg _ => false
 | _ => true
def quiet : V → Bool
 | .agg cs => cs.all quiet1
 | v => quiet1 v
def sliceFoot : V → Option (List Nat)
 | .slice none _ _ _ => some []
 | .slice (some (.loc s _)) _ _ _ => some [s]
 | .slice (some (.glob _)) _ _ _ => none
 | .arr (.loc s _) .. => some [s]
 | .arr (.glob _) .. => none
 | _ => some []
def itemsFoot : V → Option (List Nat)
 | .arr (.loc s _) .. => some [s]
 | .arr (.glob _) .. => none
 | _ => some []
def farX : V → Bool
 | .slice (some (.loc _ _)) _ _ _ => false
 | .arr (.loc _ _) .. => false
 | _ => true
def itemsLoc : V → List Nat
 | .arr (.loc s _) .. => [s]
 | _ => []
def immX : V → Bool
 | .slice .. => true
 | .nils => true
 | _ => false
def appFoot (gl : Nat → Bool) (ρ : Nat → V) (dst : Option Nat) (c : Call) : Option Foot :=
 match dst, c.args.toList with
 | some d, [x, y] => bif gl d then (bif farX (opd ρ x) then some ⟨itemsLoc (opd ρ y), [], true, true, false, immX (opd ρ x)⟩ else none) else
  (match sliceFoot (opd ρ x), itemsFoot (opd ρ y) with
  | some a, some b => some ⟨d :: (a ++ b), d :: a, false, false, false, false⟩
  | _, _ => none)
 | _, _ => none
def convFoot (d : Option TypeDesc) (x : V) : Option Foot := match d, x with
 | some .string, .arr (.loc s _) _ _ _ _ _ => some ⟨[s], [], false, false, false, false⟩
 | _, _ => none
def footV (gl : Nat → Bool) (ρ : Nat → V) (lc : Nat → Nat × Row) (o : Oper) : Option Foot :=
 match locV P C gl ρ lc o with
 | some (_, none) => (match o.op with
  | .load _ x => (match opd ρ x with
   | .ptr (.loc s _) _ => some ⟨[s], [], false, false, false, false⟩
   | _ => some ⟨[], [], false, false, false, false⟩)
  | _ => some ⟨[], [], false, false, false, false⟩)
 | some (_, some (s, _, _)) => some ⟨[s], [s], false, false, false, false⟩
 | none => (match o.op with
  | .call c => (match c.callee with
   | .value f => (match opd ρ f with
    | .fn (.func _) first caps => bif first.all quiet && (opds ρ c.args.toList).all quiet && caps.all quiet then some ⟨[], [], true, true, false, false⟩ else none
    | _ => none)
   | .builtin .append => appFoot gl ρ o.dst c
   | _ => none)
  | .load _ x => (match opd ρ x with
   | .ptr (.glob _) _ => some ⟨[], [], true, false, true, false⟩
   | _ => none)
  | .store _ a x => (match opd ρ a with
   | .ptr (.glob _) _ => bif quiet (opd ρ x) then some ⟨[], [], true, true, false, false⟩ else none
   | _ => none)
  | .alloc _ => some ⟨[], [], true, true, false, false⟩
  | .box _ x => bif quiet (opd ρ x) then some ⟨[], [], true, true, false, false⟩ else none
  | .panic _ => some ⟨[], [], true, true, false, false⟩
  | .convert _ t x => convFoot (P.underlying t) (opd ρ x)
  | .makeMap _ _ => some ⟨[], [], true, true, false, false⟩
  | .lookup _ _ _ _ => some ⟨[], [], true, false, false, false⟩
  | .mapUpdate _ _ _ x => bif quiet (opd ρ x) then some ⟨[], [], true, true, false, false⟩ else none
  | .insert _ _ _ x => bif quiet (opd ρ x) then some ⟨[], [], true, true, false, false⟩ else none
  | _ => none)
def settle (h h' : Hp) (ft : Foot) : Foot := bif Nat.beq h'.mods h.mods then (bif Nat.beq h'.rows.length h.rows.length then { ft with hp := false } else { ft with sf := true }) else ft
def maskOf (acc : List Nat) (l : List Edge) : Nat := match l with
 | [] => 0
 | e :: l => bif Region.binds .any e then (1 <<< e.on) ||| acc.getD e.on 0 ||| maskOf acc l else maskOf acc l
def masks : List Oper → List Nat → List Nat
 | [], acc => acc
 | o :: l, acc => masks l (acc ++ [maskOf acc o.after.toList])
abbrev Stop := Option (Nat × V × Hp)
def behind (ops : List Oper) (k : Nat) : Stop → Bool
 | none => false
 | some (i, _, _) => Nat.testBit ((masks ops []).getD k 0) i
def stopOp (o : Oper) : Bool := match o.op with
 | .call c => (match c.callee with
  | .value _ => true
  | _ => false)
 | .panic _ => true
 | _ => false
def consF (f : Foot) : Option (List Foot × St × Stop) → Option (List Foot × St × Stop)
 | some (fs, s, q) => some (f :: fs, s, q)
 | none => none
def drawOps (call : CallF) (gl : Nat → Bool) (all : Array Oper) : List Oper → Nat → Stop → St → Option (List Foot × St × Stop)
 | [], _, sp, st => some ([], st, sp)
 | o :: rest, k, sp, st =>
  bif behind all.toList k sp then consF ⟨[], [], false, false, false, false⟩ (drawOps call gl all rest (k + 1) sp (putV st o.dst (.tuple [])))
  else match wantedV all o st.ρ with
  | none => none
  | some false => consF ⟨[], [], false, false, false, false⟩ (drawOps call gl all rest (k + 1) sp (putV st o.dst (.tuple [])))
  | some true => (match footV P C gl st.ρ st.lc o, oneV P C call gl st o with
   | some ft, some (.normal, st') => consF (settle st.hp st'.hp ft) (drawOps call gl all rest (k + 1) sp st')
   | some ft, some (.panic v, st') => (match sp with
    | none => bif stopOp o then consF ft (drawOps call gl all rest (k + 1) (some (k, v, st'.hp)) (putV st o.dst (.tuple []))) else none
    | some _ => none)
   | _, _ => none)
def traceless (m : Nat) : List Foot → Nat → Bool
 | [], _ => true
 | f :: fs, k => (Nat.testBit m k || f.wr.isEmpty) && traceless m fs (k + 1)
def killV : List Oper → St → St
 | [], st => st
 | o :: l, st => killV l (putV st o.dst .dead)
def disj : List Nat → List Nat → Bool
 | [], _ => true
 | s :: l, m => m.all (fun t => !Nat.beq s t) && disj l m
def indep (a b : Foot) : Bool := !(a.hp && (b.hr || b.hp)) && !(a.hr && b.hp && !(a.ld && b.sf)) && disj a.wr b.rd && disj a.wr b.wr && disj a.rd b.wr
def pairsOk (fs : List Foot) : List (Nat × Nat) → Bool
 | [] => true
 | (i, j) :: l => (match fs[i]?, fs[j]? with
  | some a, some b => indep a b
  | _, _ => false) && pairsOk fs l
def Foot.far (f : Foot) (o : Oper) : Bool := f.hr && (match o.op with
 | .call c => (match c.callee with
  | .value _ => false
  | _ => true)
 | .panic _ => false
 | _ => true)
def anyFar : List Foot → List Oper → Bool
 | f :: fs, o :: os => f.far o || anyFar fs os
 | _, _ => false
def endV (P1 P2 : List (Nat × Nat)) (ops : List Oper) (st : St) (fs : List Foot) (st' : St) : Stop → Option (Ex × St)
 | none => bif pairsOk fs P1 && (!anyFar fs ops || pairsOk fs P2) then some (.normal, st') else none
 | some (i, v, h) => bif pairsOk fs P1 && (!anyFar fs ops || pairsOk fs P2) && traceless ((masks ops []).getD i 0) fs 0 then
   some (.panic v, { tm := (killV ops st).tm, loc := st'.loc, hp := h }) else none
def regionV (call : CallF) (f : FuncId) (id : Nat) (ops : Array Oper) (draw : Bool) (st : St) : Option (Ex × St) :=
 match draw with
 | false => opsV P C call (C.glob f) ops ops.toList st
 | true => (match drawOps P C call (C.glob f) ops ops.toList 0 none st with
  | some (fs, st', sp) => endV (C.pairs f id) (C.pairsH f id) ops.toList st fs st' sp
  | none => none)
def codeV (call : CallF) (f : FuncId) (fuel : Nat) : Code → St → Option (Ex × St)
 | .skip, st => some (.normal, st)
 | .region id ops draw, st => regionV P C call f id ops draw st
 | .seq a b, st => match codeV call f fuel a st with
  | some (.normal, st') => codeV call f fuel b st'
  | r => r
 | .cond c a b, st => match opd st.ρ c with
  | .bool true => codeV call f fuel a st
  | .bool false => codeV call f fuel b st
  | _ => none
 | .block id b, st => match codeV call f fuel b st with
  | some (.exit i, st') => bif Nat.beq i id then some (.normal, st') else some (.exit i, st')
  | r => r
 | .loop b, st => loopV (codeV call f fuel b) fuel st
 | .exit i, st => some (.exit i, st)
 | .ret, st => some (.ret, st)
 | _, _ => none
def resV (st : St) : List ResultVar → Option (List V)
 | [] => some []
 | .tmp t :: l => (resV st l).map (st.ρ t :: ·)
 | .cell a t :: l => match st.ρ a with
  | .ptr r off => (match getRow st r with
   | some (.cells _ cs) => (match partV P t cs off, resV st l with
    | some v, some vs => some (v :: vs)
    | _, _ => none)
   | _ => none)
  | _ => none
def startFrom : Nat → List V → Tr V → Tr V
 | _, [], t => t
 | k, v :: l, t => startFrom (k + 1) l (aset t k v)
def startTm (args : List V) : Tr V := startFrom 0 args .lf
def cleanB (h h' : Hp) : Bool := match h'.dirty with
 | none => true
 | some d => Nat.ble h.rows.length d
def backHp (h h' : Hp) (l : List V) : Hp :=
 bif cleanB h h' then (bif V.noRefsL l then h else { rows := h'.rows, dirty := h.dirty, mods := h.mods })
 else { rows := h'.rows, dirty := match h.dirty, h'.dirty with
  | none, d => d
  | some d, none => some d
  | some d, some d' => some (min d d'), mods := h'.mods }
def bodyV (call : CallF) (fuel : Nat) (f : FuncId) (args : List V) (h : Hp) : Option Out :=
 match C.use f, P.funcs[f]? with
 | false, _ => none
 | _, none => none
 | true, some fn => match fn.body with
  | none => none
  | some c => match codeV P C call f fuel c { tm := startTm args, loc := .lf, hp := { h with dirty := none } } with
   | some (.normal, st) | some (.ret, st) => (match resV P st fn.results.toList with
    | none => none
    | some l => match exps false st l with
     | none => none
     | some (l, st') => match l with
      | [v] => some (.val v (backHp h st'.hp [v]))
      | vs => some (.val (.tuple vs) (backHp h st'.hp vs)))
   | some (.panic v, st) => some (.panic v (backHp h st.hp [v]))
   | _ => none
abbrev Kn := FuncId → Option (CallF → List V → Hp → Option Out)
def bodyK (K : Kn) (call : CallF) (fuel : Nat) (f : FuncId) (args : List V) (h : Hp) : Option Out :=
 match K f with
 | some k => k call args h
 | none => bodyV P C call fuel f args h
def fnV (K : Kn) : Nat → CallF
 | 0, _, _, _ => none
 | n + 1, f, args, h => bodyK P C K (fnV K n) n f args h
end
end Go.AM
end

section
namespace Go.AM
open Go
class Laid where
 env : Nat → IntKind × Int
 cells : Nat → Nat → Option Value
structure Ctx where
 gl : Nat → Option Nat
 lc : Nat → Nat → Option Nat
 shut : Nat → Nat → Option Value
 ext : Nat → Option Nat
 text : Ref → Option Nat
def Ctx.blk (c : Ctx) : Ref → Option Nat
 | .glob r => c.gl r
 | .loc s g => c.lc s g
structure Ctx.le (c c' : Ctx) : Prop where
 gl : ∀ r b, c.gl r = some b → c'.gl r = some b
 lc : ∀ s g b, c.lc s g = some b → c'.lc s g = some b
 shut : ∀ b o x, c.shut b o = some x → c'.shut b o = some x
 ext : ∀ b n, c.ext b = some n → c'.ext b = some n
 text : ∀ r n, c.text r = some n → c'.text r = some n
theorem Ctx.le.refl (c : Ctx) : c.le c := ⟨fun _ _ h => h, fun _ _ _ h => h, fun _ _ _ h => h, fun _ _ h => h, fun _ _ h => h⟩
theorem Ctx.le.trans {a b c : Ctx} (h : a.le b) (k : b.le c) : a.le c :=
 ⟨fun _ _ x => k.gl _ _ (h.gl _ _ x), fun _ _ _ x => k.lc _ _ _ (h.lc _ _ _ x), fun _ _ _ x => k.shut _ _ _ (h.shut _ _ _ x), fun _ _ x => k.ext _ _ (h.ext _ _ x), fun _ _ x => k.text _ _ (h.text _ _ x)⟩
theorem Ctx.le.blk {c c' : Ctx} (h : c.le c') {r : Ref} {b : Nat} (hb : c.blk r = some b) : c'.blk r = some b := by
 cases r with
 | loc s g => exact h.lc _ _ _ hb
 | glob r => exact h.gl _ _ hb
inductive Rel [Laid] (c : Ctx) : V → Value → Prop
 | dead (x : Value) : Rel c .dead x
 | int (k : IntKind) (n : Int) : Rel c (.int k n) (.int k n)
 | bool (b : Bool) : Rel c (.bool b) (.bool b)
 | str (s : Str) : Rel c (.str s) (.string s.bytes)
 | nilp : Rel c .nilp (.pointer none)
 | ptr (r : Ref) (off b : Nat) (hb : c.blk r = some b) : Rel c (.ptr r off) (.pointer (some ⟨b, off, none⟩))
 | iptr (cs : List V) (b off : Nat) (xs : List Value) (hl : xs.length = cs.length)
   (hs : ∀ i x, xs[i]? = some x → c.shut b (off + i) = some x)
   (hr : ∀ (i : Nat) v x, cs[i]? = some v → xs[i]? = some x → Rel c v x) : Rel c (.iptr cs) (.pointer (some ⟨b, off, none⟩))
 | nils : Rel c .nils (.slice none 0 0)
 | slice (tok : Option Ref) (full : Bool) (sz : Nat) (l : List V) (b off cap : Nat) (xs : List Value)
   (hsz : ∀ v ∈ l, v.cells.length = sz) (hl : xs.length = (flat l).length)
   (hs : ∀ i x, xs[i]? = some x → c.shut b (off + i) = some x)
   (hr : ∀ (i : Nat) v x, (flat l)[i]? = some v → xs[i]? = some x → Rel c v x)
   (hn : V.noRefsL (flat l) = true) (hc : l.length ≤ cap) (hf : full = true → cap = l.length)
   (ht : ∀ r, tok = some r → c.blk r = some b ∧ off = 0 ∧ 0 < sz ∧ c.ext b = some (cap * sz) ∧ c.text r = some (l.length * sz)) :
   Rel c (.slice tok full sz l) (.slice (some ⟨b, off, none⟩) l.length cap)
 | arr (r : Ref) (off len : Nat) (lim : Option Nat) (sz : Nat) (ag : Bool) (b cap n : Nat) (hb : c.blk r = some b) (hc : len ≤ cap)
   (he : c.ext b = some n) (hz : 0 < sz) (hk : ∀ k, lim = some k → cap = k ∧ off + k * sz ≤ n)
   (hu : lim = none → off + cap * sz = n) :
   Rel c (.arr r off len lim sz ag) (.slice (some ⟨b, off, none⟩) len cap)
 | fn (f : Fn) (a b : List V) (xa xb : Array Value) (ha : xa.size = a.length) (hb : xb.size = b.length)
   (hra : ∀ (i : Nat) v x, a[i]? = some v → xa[i]? = some x → Rel c v x)
   (hrb : ∀ (i : Nat) v x, b[i]? = some v → xb[i]? = some x → Rel c v x) : Rel c (.fn f a b) (.func f xa xb)
 | nilf : Rel c .nilf .nilFunc
 | iface (t : Nat) (v : V) (x : Value) (h : Rel c v x) : Rel c (.iface t v) (.iface t x)
 | nili : Rel c .nili .nilIface
 | agg (cs : List V) (xs : Array Value) (hl : xs.size = cs.length)
   (hr : ∀ (i : Nat) v x, cs[i]? = some v → xs[i]? = some x → Rel c v x) : Rel c (.agg cs) (.agg xs)
 | tuple (cs : List V) (xs : Array Value) (hl : xs.size = cs.length)
   (hr : ∀ (i : Nat) v x, cs[i]? = some v → xs[i]? = some x → Rel c v x) : Rel c (.tuple cs) (.tuple xs)
 | sym (i : Nat) : Rel c (.sym i) (.int (Laid.env i).1 (Laid.env i).2)
 | mref (r : Ref) (b : Nat) (hb : c.blk r = some b) : Rel c (.mref r) (.map (some b))
 | nilm : Rel c .nilm (.map none)
theorem Rel.str' [Laid] {c : Ctx} (s : ByteArray) : Rel c (.str (Str.of s)) (.string s) := by
 have := Rel.str (c := c) (Str.of s)
 rwa [Str.bytes_of] at this
theorem Rel.strL [Laid] {c : Ctx} (l : List UInt8) : Rel c (.str (Str.ofL l)) (.string ⟨l.toArray⟩) := by
 have := Rel.str (c := c) (Str.ofL l)
 rwa [Str.bytes_ofL] at this
theorem Rel.mono [Laid] {c c' : Ctx} (h : c.le c') {v : V} {x : Value} (r : Rel c v x) : Rel c' v x := by
 induction r with
 | dead x => exact .dead x
 | int k n => exact .int k n
 | bool b => exact .bool b
 | str s => exact .str s
 | nilp => exact .nilp
 | ptr r off b hb => exact .ptr r off b (h.blk hb)
 | iptr cs b off xs hl hs hr ih => exact .iptr cs b off xs hl (fun i x hx => h.shut _ _ _ (hs i x hx)) ih
 | nils => exact .nils
 | slice tok full sz l b off cap xs hsz hl hs hr hn hc hf ht ih =>
  exact .slice tok full sz l b off cap xs hsz hl (fun i x hx => h.shut _ _ _ (hs i x hx)) ih hn hc hf
   (fun r hr => ⟨h.blk (ht r hr).1, (ht r hr).2.1, (ht r hr).2.2.1, h.ext _ _ (ht r hr).2.2.2.1, h.text _ _ (ht r hr).2.2.2.2⟩)
 | arr r off len lim sz ag b cap n hb hc he hz hk hu => exact .arr r off len lim sz ag b cap n (h.blk hb) hc (h.ext _ _ he) hz hk hu
 | fn f a b xa xb ha hb hra hrb iha ihb => exact .fn f a b xa xb ha hb iha ihb
 | nilf => exact .nilf
 | iface t v x hx ih => exact .iface t v x ih
 | nili => exact .nili
 | agg cs xs hl hr ih => exact .agg cs xs hl ih
 | tuple cs xs hl hr ih => exact .tuple cs xs hl ih
 | sym i => exact .sym i
 | mref r b hb => exact .mref r b (h.blk hb)
 | nilm => exact .nilm
def RelL [Laid] (c : Ctx) (vs : List V) (xs : List Value) : Prop :=
 xs.length = vs.length ∧ ∀ (i : Nat) v x, vs[i]? = some v → xs[i]? = some x → Rel c v x
theorem RelL.mono [Laid] {c c' : Ctx} (h : c.le c') {v : List V} {x : List Value} (r : RelL c v x) : RelL c' v x :=
 ⟨r.1, fun i v x a b => (r.2 i v x a b).mono h⟩
theorem RelL.nil [Laid] (c : Ctx) : RelL c [] [] := ⟨rfl, fun i v x a _ => by simp at a⟩
theorem RelL.cons [Laid] {c : Ctx} {v : V} {x : Value} {vs : List V} {xs : List Value} (h : Rel c v x) (hs : RelL c vs xs) : RelL c (v :: vs) (x :: xs) := by
 refine ⟨by simp [hs.1], fun i v' x' a b => ?_⟩
 cases i with
 | zero => simp at a b; subst a; subst b; exact h
 | succ i => simp at a b; exact hs.2 i v' x' a b
theorem RelL.head [Laid] {c : Ctx} {v : V} {x : Value} {vs : List V} {xs : List Value} (h : RelL c (v :: vs) (x :: xs)) : Rel c v x :=
 h.2 0 v x rfl rfl
theorem RelL.tail [Laid] {c : Ctx} {v : V} {x : Value} {vs : List V} {xs : List Value} (h : RelL c (v :: vs) (x :: xs)) : RelL c vs xs :=
 ⟨by have := h.1; simp at this; exact this, fun i v' x' a b => h.2 (i + 1) v' x' (by simpa using a) (by simpa using b)⟩
theorem RelL.append [Laid] {c : Ctx} {vs us : List V} {xs ys : List Value} (h : RelL c vs xs) (k : RelL c us ys) : RelL c (vs ++ us) (xs ++ ys) := by
 refine ⟨by simp [h.1, k.1], fun i v x a b => ?_⟩
 by_cases hi : i < vs.length
 ·rw [List.getElem?_append_left hi] at a
  rw [List.getElem?_append_left (by rw [h.1]; exact hi)] at b
  exact h.2 i v x a b
 ·rw [List.getElem?_append_right (by omega)] at a
  rw [List.getElem?_append_right (by rw [h.1]; omega), h.1] at b
  exact k.2 _ v x a b
theorem RelL.take [Laid] {c : Ctx} {vs : List V} {xs : List Value} (h : RelL c vs xs) (n : Nat) : RelL c (vs.take n) (xs.take n) := by
 refine ⟨by simp [h.1], fun i v x a b => ?_⟩
 rw [List.getElem?_take] at a b
 split at a
 ·rename_i hi; rw [if_pos hi] at b; exact h.2 i v x a b
 ·simp at a
theorem RelL.drop [Laid] {c : Ctx} {vs : List V} {xs : List Value} (h : RelL c vs xs) (n : Nat) : RelL c (vs.drop n) (xs.drop n) := by
 refine ⟨by simp [h.1], fun i v x a b => ?_⟩
 rw [List.getElem?_drop] at a b
 exact h.2 _ v x a b
theorem RelL.get [Laid] {c : Ctx} {vs : List V} {xs : List Value} (h : RelL c vs xs) {i : Nat} {v : V} (hv : vs[i]? = some v) : ∃ x, xs[i]? = some x ∧ Rel c v x := by
 have hi : i < vs.length := by
  rcases Nat.lt_or_ge i vs.length with h' | h'
  ·exact h'
  ·simp [List.getElem?_eq_none h'] at hv
 have : xs[i]? = some (xs[i]'(by rw [h.1]; exact hi)) := List.getElem?_eq_getElem _
 exact ⟨_, this, h.2 i v _ hv this⟩
theorem RelL.set [Laid] {c : Ctx} {vs : List V} {xs : List Value} (h : RelL c vs xs) (n : Nat) {v : V} {x : Value} (hv : Rel c v x) : RelL c (vs.set n v) (xs.set n x) := by
 refine ⟨by simp [h.1], fun i v' x' a b => ?_⟩
 rw [List.getElem?_set] at a b
 split at a
 ·rename_i hi
  subst hi
  rw [if_pos rfl] at b
  split at a
  ·rw [if_pos (by rw [h.1]; assumption)] at b
   simp at a b; subst a; subst b; exact hv
  ·simp at a
 ·rename_i hi
  rw [if_neg hi] at b
  exact h.2 i v' x' a b
theorem Rel.cells [Laid] {c : Ctx} {v : V} {x : Value} (h : Rel c v x) (hl : v.live = true) : RelL c v.cells x.cells.toList := by
 cases h with
 | dead x => simp [V.live] at hl
 | agg cs xs hl' hr => exact ⟨by simpa [Value.cells, V.cells] using hl', fun i v x a b => hr i v x (by simpa [V.cells] using a) (by simpa [Value.cells] using b)⟩
 | _ => exact RelL.cons (by constructor <;> assumption) (RelL.nil c)
theorem Rel.oneCell [Laid] {c : Ctx} {v : V} {x : Value} (h : Rel c v x) (hl : v.cellOk = true) : ∀ y, x ≠ .agg y ∧ x ≠ .tuple y := by
 intro y
 cases h <;> simp [V.cellOk] at hl <;> simp
theorem absS_rel [Laid] (c : Ctx) (x : Value) : Rel c (absS x) x := by
 unfold absS
 split <;> first | exact .dead _ | exact .bool _ | exact .int _ _ | exact .str' _ | exact .nilp | exact .nils | exact .nilf | exact .nili | exact .nilm
theorem absV_rel [Laid] (c : Ctx) (x : Value) : Rel c (absV x) x := by
 unfold absV
 split
 ·refine .agg _ _ (by simp) (fun i v x a b => ?_)
  simp only [List.getElem?_map, Array.getElem?_toList] at a
  rw [b] at a
  simp at a
  subst a
  exact absS_rel c x
 ·exact absS_rel c _
def RowOk [Laid] (c : Ctx) (w : World) (r : Ref) : Row → Prop
 | .gone => True
 | .cells frz cs => ∃ b xs e fz, c.blk r = some b ∧ w.heap[b]? = some (.cells xs e fz) ∧
   (∀ o, o < xs.size → ¬ (fz.1 ≤ o ∧ o < fz.2)) ∧ c.ext b = some xs.size ∧ cs.length ≤ xs.size ∧
   RelL c cs (xs.toList.take cs.length) ∧ (frz = false → ∀ o, c.shut b o = none) ∧ (frz = true → ∀ o x, (xs.toList.take cs.length)[o]? = some x → c.shut b o = some x)
 | .tok => ∃ b xs e fz n, c.blk r = some b ∧ w.heap[b]? = some (.cells xs e fz) ∧
   (∀ o, o < xs.size → ¬ (fz.1 ≤ o ∧ o < fz.2)) ∧ c.ext b = some xs.size ∧ c.text r = some n ∧ n ≤ xs.size ∧ (∀ o, n ≤ o → c.shut b o = none)
 | .iter s pos => ∃ b, c.blk r = some b ∧ w.heap[b]? = some (.stringIter s.bytes pos)
 | .mp ks vs => ∃ b es clk, c.blk r = some b ∧ w.heap[b]? = some (.map es clk) ∧ ks.length = vs.length ∧
   RelL c ks (es.toList.map (·.key)) ∧ RelL c vs (es.toList.map (·.val)) ∧ V.noLocL ks = true ∧ V.noLocL vs = true
structure WRel [Laid] (c : Ctx) (st : St) (w : World) : Prop where
 shut : ∀ b o x, c.shut b o = some x → w.cell? ⟨b, o, none⟩ = some x
 rows : ∀ r row, getRow st r = some row → RowOk c w r row
 inj : ∀ r1 r2 row1 row2 b, getRow st r1 = some row1 → getRow st r2 = some row2 → row1 ≠ .gone → row2 ≠ .gone → c.blk r1 = some b → c.blk r2 = some b → r1 = r2
 glb : ∀ r, st.hp.rows.length ≤ r → c.gl r = none
 lcb : ∀ s g, (st.lc s).1 < g → c.lc s g = none
 lt : ∀ r b, c.blk r = some b → b < w.heap.size
 tlt : ∀ r n, c.text r = some n → ∃ b, c.blk r = some b
 elt : ∀ b n, c.ext b = some n → b < w.heap.size
def Own (c : Ctx) (st : St) (b : Nat) : Prop := ∃ r row, getRow st r = some row ∧ row ≠ .gone ∧ c.blk r = some b
structure Keep (c c' : Ctx) (st st' : St) (w w' : World) : Prop where
 os : w'.os = w.os
 tape : w'.tape = w.tape
 output : w'.output = w.output
 size : w.heap.size ≤ w'.heap.size
 block : ∀ b, b < w.heap.size → ¬ Own c st b → w'.heap[b]? = w.heap[b]?
 shut : ∀ b, b < w.heap.size → ¬ Own c st b → ∀ o, c'.shut b o = c.shut b o
 own : ∀ b, b < w.heap.size → Own c' st' b → Own c st b
theorem Keep.refl (c : Ctx) (st : St) (w : World) : Keep c c st st w w := ⟨rfl, rfl, rfl, Nat.le_refl _, fun _ _ _ => rfl, fun _ _ _ _ => rfl, fun _ _ h => h⟩
theorem Keep.trans {c1 c2 c3 : Ctx} {s1 s2 s3 : St} {w1 w2 w3 : World} (h : Keep c1 c2 s1 s2 w1 w2) (k : Keep c2 c3 s2 s3 w2 w3) : Keep c1 c3 s1 s3 w1 w3 :=
 ⟨k.os.trans h.os, k.tape.trans h.tape, k.output.trans h.output, Nat.le_trans h.size k.size,
  fun b hb hn => (k.block b (Nat.lt_of_lt_of_le hb h.size) (fun ho => hn (h.own b hb ho))).trans (h.block b hb hn),
  fun b hb hn o => (k.shut b (Nat.lt_of_lt_of_le hb h.size) (fun ho => hn (h.own b hb ho)) o).trans (h.shut b hb hn o),
  fun b hb ho => h.own b hb (k.own b (Nat.lt_of_lt_of_le hb h.size) ho)⟩
structure Dirt (h h' : Hp) : Prop where
 len : h.rows.length ≤ h'.rows.length
 mono : ∀ d, h.dirty = some d → ∃ d', h'.dirty = some d' ∧ d' ≤ d
 same : ∀ i, i < h.rows.length → (∀ d, h'.dirty = some d → i < d) → h'.rows[i]? = h.rows[i]?
 mods : h.mods ≤ h'.mods
 still : h'.mods = h.mods → h'.dirty = h.dirty ∧ ∀ i, i < h.rows.length → h'.rows[i]? = h.rows[i]?
theorem Dirt.refl (h : Hp) : Dirt h h := ⟨Nat.le_refl _, fun d hd => ⟨d, hd, Nat.le_refl _⟩, fun _ _ _ => rfl, Nat.le_refl _, fun _ => ⟨rfl, fun _ _ => rfl⟩⟩
theorem Dirt.trans {a b c : Hp} (h : Dirt a b) (k : Dirt b c) : Dirt a c := by
 refine ⟨Nat.le_trans h.len k.len, fun d hd => ?_, fun i hi hd => ?_, Nat.le_trans h.mods k.mods, fun e => ?_⟩
 rotate_left 2
 ·have e1 : b.mods = a.mods := Nat.le_antisymm (by have := k.mods; omega) h.mods
  have e2 : c.mods = b.mods := by omega
  obtain ⟨h1, h2⟩ := h.still e1
  obtain ⟨k1, k2⟩ := k.still e2
  exact ⟨k1.trans h1, fun i hi => (k2 i (Nat.lt_of_lt_of_le hi h.len)).trans (h2 i hi)⟩
 ·obtain ⟨d1, h1, l1⟩ := h.mono d hd
  obtain ⟨d2, h2, l2⟩ := k.mono d1 h1
  exact ⟨d2, h2, by omega⟩
 ·rw [k.same i (Nat.lt_of_lt_of_le hi h.len) hd]
  refine h.same i hi (fun d hd' => ?_)
  obtain ⟨d1, h1, l1⟩ := k.mono d hd'
  have := hd d1 h1
  omega
theorem Dirt.eq {h h' : Hp} (d : Dirt h h') (hm : h'.mods = h.mods) (hl : h'.rows.length = h.rows.length) : h' = h := by
 obtain ⟨h1, h2⟩ := d.still hm
 have hr : h'.rows = h.rows := List.ext_getElem? (fun i => by
  rcases Nat.lt_or_ge i h.rows.length with hi | hi
  ·exact h2 i hi
  ·rw [List.getElem?_eq_none (by omega), List.getElem?_eq_none (by omega)])
 cases h; cases h'
 simp_all
theorem WRel.shut_lt [Laid] {c : Ctx} {st : St} {w : World} (h : WRel c st w) {b o : Nat} {x : Value} (hs : c.shut b o = some x) : b < w.heap.size := by
 have := h.shut b o x hs
 unfold World.cell? at this
 rcases Nat.lt_or_ge b w.heap.size with h' | h'
 ·exact h'
 ·simp [h'] at this
end Go.AM
end

section
namespace Go.AM
open Go
theorem flat_nil : flat [] = [] := rfl
theorem flat_cons (v : V) (l : List V) : flat (v :: l) = v.cells ++ flat l := rfl
theorem flat_append (l m : List V) : flat (l ++ m) = flat l ++ flat m := by simp [flat, List.flatMap_append]
theorem flat_length {sz : Nat} : ∀ {l : List V}, (∀ v ∈ l, v.cells.length = sz) → (flat l).length = l.length * sz
 | [], _ => by simp [flat]
 | v :: l, h => by
  rw [flat_cons, List.length_append, flat_length (fun u hu => h u (by simp [hu])), h v (by simp)]
  simp [Nat.add_mul]; omega
theorem flat_drop {sz : Nat} : ∀ {l : List V} (k : Nat), (∀ v ∈ l, v.cells.length = sz) → (flat l).drop (k * sz) = flat (l.drop k)
 | [], k, _ => by simp [flat]
 | v :: l, 0, _ => by simp
 | v :: l, k + 1, h => by
  have hv := h v (by simp)
  rw [flat_cons, List.drop_succ_cons, ← flat_drop k (fun u hu => h u (by simp [hu])), show (k + 1) * sz = v.cells.length + k * sz by rw [hv, Nat.add_mul]; omega,
   List.drop_append, List.drop_of_length_le (by omega)]
  simp
theorem flat_take {sz : Nat} : ∀ {l : List V} (k : Nat), (∀ v ∈ l, v.cells.length = sz) → (flat l).take (k * sz) = flat (l.take k)
 | [], k, _ => by simp [flat]
 | v :: l, 0, _ => by simp [flat]
 | v :: l, k + 1, h => by
  have hv := h v (by simp)
  rw [flat_cons, List.take_succ_cons, flat_cons, ← flat_take k (fun u hu => h u (by simp [hu])), show (k + 1) * sz = v.cells.length + k * sz by rw [hv, Nat.add_mul]; omega,
   List.take_append, List.take_of_length_le (by omega)]
  simp
theorem flat_get {sz : Nat} {l : List V} {k : Nat} {v : V} (h : ∀ v ∈ l, v.cells.length = sz) (hv : l[k]? = some v) : ((flat l).drop (k * sz)).take sz = v.cells := by
 rw [flat_drop k h]
 have : l.drop k = v :: l.drop (k + 1) := by
  have hk : k < l.length := by
   rcases Nat.lt_or_ge k l.length with h' | h'
   ·exact h'
   ·simp [List.getElem?_eq_none h'] at hv
  rw [List.drop_eq_getElem_cons hk]
  rw [List.getElem?_eq_getElem hk] at hv
  simp at hv; rw [hv]
 rw [this, flat_cons]
 rw [← h v (List.mem_of_getElem? hv)]
 simp
theorem noRefsL_append (l m : List V) : V.noRefsL (l ++ m) = (V.noRefsL l && V.noRefsL m) := by
 induction l with
 | nil => simp [V.noRefsL]
 | cons v l ih => simp [V.noRefsL, ih, Bool.and_assoc]
theorem noRefsL_mem {l : List V} : V.noRefsL l = true ↔ ∀ v ∈ l, v.noRefs = true := by
 induction l with
 | nil => simp [V.noRefsL]
 | cons v l ih => simp [V.noRefsL, ih]
theorem noRefsL_drop {l : List V} (n : Nat) (h : V.noRefsL l = true) : V.noRefsL (l.drop n) = true :=
 noRefsL_mem.2 fun v hv => noRefsL_mem.1 h v (List.mem_of_mem_drop hv)
theorem noRefsL_take {l : List V} (n : Nat) (h : V.noRefsL l = true) : V.noRefsL (l.take n) = true :=
 noRefsL_mem.2 fun v hv => noRefsL_mem.1 h v (List.mem_of_mem_take hv)
section
variable {P : Program} {C : Cfg} {c : Ctx} {ρ : Nat → V} {a : Act} {w : World}
def Slots [Laid] (c : Ctx) (ρ : Nat → V) (a : Act) : Prop := ∀ i, Rel c (ρ i) (a.tmps.getD i undef)
theorem Slots.mono [Laid] {c' : Ctx} (h : c.le c') (hs : Slots c ρ a) : Slots c' ρ a := fun i => (hs i).mono h
theorem opd_rel [Laid] (hs : Slots c ρ a) (x : Operand) : Rel c (opd ρ x) (a.eval x) := by
 cases x with
 | tmp t => exact hs t
 | const v => exact absV_rel c v
 | global g => exact .dead _
 | func f => exact .fn _ _ _ _ _ rfl rfl (fun i v x h _ => by simp at h) (fun i v x h _ => by simp at h)
theorem Rel.bool_inv [Laid] {b : Bool} {x : Value} (h : Rel c (.bool b) x) : x = .bool b := by cases h; rfl
theorem Rel.int_inv [Laid] {k : IntKind} {n : Int} {x : Value} (h : Rel c (.int k n) x) : x = .int k n := by cases h; rfl
theorem Rel.str_inv [Laid] {s : Str} {x : Value} (h : Rel c (.str s) x) : x = .string s.bytes := by cases h; rfl
theorem Rel.nils_inv [Laid] {x : Value} (h : Rel c .nils x) : x = .slice none 0 0 := by cases h; rfl
theorem Rel.tuple_inv [Laid] {vs : List V} {x : Value} (h : Rel c (.tuple vs) x) : ∃ xs : List Value, x = .tuple xs.toArray ∧ RelL c vs xs := by
 cases h with
 | tuple cs xs hl hr => exact ⟨xs.toList, by simp, by simpa using hl, fun i v x a b => hr i v x a (by simpa using b)⟩
theorem Rel.agg_inv [Laid] {vs : List V} {x : Value} (h : Rel c (.agg vs) x) : ∃ xs : List Value, x = .agg xs.toArray ∧ RelL c vs xs := by
 cases h with
 | agg cs xs hl hr => exact ⟨xs.toList, by simp, by simpa using hl, fun i v x a b => hr i v x a (by simpa using b)⟩
theorem Rel.ptr_inv [Laid] {r : Ref} {off : Nat} {x : Value} (h : Rel c (.ptr r off) x) : ∃ b, x = .pointer (some ⟨b, off, none⟩) ∧ c.blk r = some b := by
 cases h with
 | ptr r off b hb => exact ⟨b, rfl, hb⟩
theorem Rel.iptr_inv [Laid] {cs : List V} {x : Value} (h : Rel c (.iptr cs) x) : ∃ b off xs, x = .pointer (some ⟨b, off, none⟩) ∧ RelL c cs xs ∧
  (∀ i x, xs[i]? = some x → c.shut b (off + i) = some x) := by
 cases h with
 | iptr cs b off xs hl hs hr => exact ⟨b, off, xs, rfl, ⟨hl, hr⟩, hs⟩
theorem Rel.mk_agg [Laid] {vs : List V} {xs : List Value} (h : RelL c vs xs) : Rel c (.agg vs) (.agg xs.toArray) :=
 .agg _ _ (by simpa using h.1) (fun i v x a b => h.2 i v x a (by simpa using b))
theorem Rel.mk_tuple [Laid] {vs : List V} {xs : List Value} (h : RelL c vs xs) : Rel c (.tuple vs) (.tuple xs.toArray) :=
 .tuple _ _ (by simpa using h.1) (fun i v x a b => h.2 i v x a (by simpa using b))
theorem opd_bool [Laid] (hs : Slots c ρ a) {x : Operand} {b : Bool} (h : opd ρ x = .bool b) : a.eval x = .bool b := by
 have := opd_rel hs x; rw [h] at this; exact this.bool_inv
theorem opd_int [Laid] (hs : Slots c ρ a) {x : Operand} {k : IntKind} {n : Int} (h : opd ρ x = .int k n) : a.eval x = .int k n := by
 have := opd_rel hs x; rw [h] at this; exact this.int_inv
theorem opd_str [Laid] (hs : Slots c ρ a) {x : Operand} {s : Str} (h : opd ρ x = .str s) : a.eval x = .string s.bytes := by
 have := opd_rel hs x; rw [h] at this; exact this.str_inv
theorem layE_spec {e : TypeId} {n : Nat} {g : Bool} (h : layE P e = some (n, g)) :
  0 < n ∧ (P.info? e).map (·.size) = some n ∧ (∃ d, P.underlying e = some d ∧ d.isRow = g) := by
 unfold layE at h
 split at h
 ·rename_i m g' hs hg
  simp at h
  obtain ⟨rfl, rfl⟩ := h
  refine ⟨by omega, hs, ?_⟩
  unfold aggT at hg
  split at hg <;> simp at hg
  ·subst hg; exact ⟨_, by assumption, rfl⟩
  ·subst hg; exact ⟨_, by assumption, rfl⟩
  ·subst hg
   rename_i d h1 h2 h3
   refine ⟨_, h3, ?_⟩
   cases d <;> first | rfl | exact absurd rfl (h1 _) | exact absurd rfl (h2 _ _)
 ·simp at h
theorem run_sizeOf' {e : TypeId} {n : Nat} (h : (P.info? e).map (·.size) = some n) (w : World) : (sizeOf e).run P w = .ok n w := by
 cases hq : P.info? e with
 | none => simp [hq] at h
 | some i => simp [hq] at h; simp [sizeOf, typeInfo, hq, h]
theorem run_isAgg' {e : TypeId} {d : TypeDesc} (h : P.underlying e = some d) (w : World) : (isAgg e).run P w = .ok d.isRow w := by
 unfold isAgg
 rw [Sem.run_bind, run_underlying h w]
 cases d <;> simp
theorem toNatLt_spec {i : Int} {n k : Nat} (h : toNatLt i n = some k) : i = k ∧ k < n := by
 unfold toNatLt at h
 split at h
 ·rename_i m
  cases hb : Nat.blt m n <;> simp [hb] at h
  subst h
  exact ⟨rfl, by simpa [Nat.blt_eq] using hb⟩
 ·simp at h
theorem toNatLe_spec {i : Int} {n k : Nat} (h : toNatLe i n = some k) : i = k ∧ k ≤ n := by
 unfold toNatLe at h
 split at h
 ·rename_i m
  cases hb : Nat.ble m n <;> simp [hb] at h
  subst h
  exact ⟨rfl, by simpa [Nat.ble_eq] using hb⟩
 ·simp at h
theorem part_sound [Laid] {t : TypeId} {cs : List V} {off : Nat} {v : V} {xs : List Value} (h : partV P t cs off = some v) (hr : RelL c cs xs) :
  ∃ x, (part t xs.toArray off).run P w = .ok x w ∧ Rel c v x := by
 unfold partV at h
 cases hl : layE P t with
 | none => simp [hl] at h
 | some p =>
  obtain ⟨n, g⟩ := p
  obtain ⟨h0, hz, d, hd, hg⟩ := layE_spec hl
  rw [hl] at h
  cases g with
  | true =>
   cases hb : Nat.ble (off + n) cs.length with
   | false => simp [hb] at h
   | true =>
    have hle : off + n ≤ cs.length := by simpa [Nat.ble_eq] using hb
    simp [hb] at h
    subst h
    refine ⟨.agg (xs.toArray.extract off (off + n)), ?_, ?_⟩
    ·simp [part, run_isAgg' hd, hg, run_sizeOf' hz]
    ·have := (hr.drop off).take n
     refine .agg _ _ ?_ (fun i v x ha hb' => ?_)
     ·simp [hr.1]
     ·refine this.2 i v x ha ?_
      rw [← hb']
      simp [List.getElem?_take, List.getElem?_drop, Array.getElem?_extract]
  | false =>
   simp at h
   obtain ⟨x, hx, hrx⟩ := hr.get h
   refine ⟨x, ?_, hrx⟩
   simp [part, run_isAgg' hd, hg, hx]
end
end Go.AM
end

section
namespace Go.AM
open Go
section
variable {P : Program} {C : Cfg} {c : Ctx} {ρ : Nat → V} {a : Act} {w : World}
def Gives [Laid] (P : Program) (c : Ctx) (s : Sem Next) (w : World) (v : V) : Prop := ∃ x, s.run P w = .ok (.value x) w ∧ Rel c v x
theorem isEq_spec {op : BinOp} {b : Bool} {v : V} (h : isEq op b = some v) : (op = .eql ∧ v = .bool b) ∨ (op = .neq ∧ v = .bool !b) := by
 unfold isEq at h
 split at h <;> simp at h
 ·exact .inl ⟨rfl, h.symm⟩
 ·exact .inr ⟨rfl, h.symm⟩
theorem guard_int {op : BinOp} {t : TypeId} {X Y : Operand} {k k' : IntKind} {m n : Int} :
  (eqGuard op t X Y (.int k m) (.int k' n)).run P w = .ok () w := by
 unfold eqGuard; split <;> simp
theorem toList_bytes (s : Str) : s.bytes.toList = bl s.n s.v := by
 rw [ByteArray.toList_eq]; rfl
theorem str_same_eq (a b : Str) : a.same b = (a.bytes.toList == b.bytes.toList) := by
 rw [Bool.eq_iff_iff, Str.same_spec, beq_iff_eq, toList_bytes, toList_bytes]
 constructor
 ·intro h; rw [← a.bytes_toList, ← b.bytes_toList, h]
 ·intro h; exact ba_ext (by rw [a.bytes_toList, b.bytes_toList, h])
theorem guard_str {op : BinOp} {t : TypeId} {X Y : Operand} {k k' : ByteArray} :
  (eqGuard op t X Y (.string k) (.string k')).run P w = .ok () w := by
 unfold eqGuard; split <;> simp
theorem guard_bool {op : BinOp} {t : TypeId} {X Y : Operand} {k k' : Bool} :
  (eqGuard op t X Y (.bool k) (.bool k')).run P w = .ok () w := by
 unfold eqGuard; split <;> simp
theorem guard_slice {op : BinOp} {t : TypeId} {X Y : Operand} {a b : Option Addr} {n m p q : Nat} :
  (eqGuard op t X Y (.slice a n m) (.slice b p q)).run P w = .ok () w := by
 unfold eqGuard; split <;> simp
theorem guard_nili {op : BinOp} {t : TypeId} {X Y : Operand} (h : (isConst X || isConst Y) = true) : (eqGuard op t X Y .nilIface .nilIface).run P w = .ok () w := by
 unfold eqGuard
 cases X <;> cases Y <;> simp [isConst] at h <;> split <;> simp
theorem guard_other {op : BinOp} {t : TypeId} {X Y : Operand} {a b : Value} (h : a ≠ .nilIface) (h2 : ∀ c, a ≠ .agg c) : (eqGuard op t X Y a b).run P w = .ok () w := by
 unfold eqGuard
 cases a <;> first | exact absurd rfl h | exact absurd rfl (h2 _) | (split <;> simp)
theorem guard_other' {op : BinOp} {t : TypeId} {X Y : Operand} {a : Value} {k : TypeId} {x : Value} : (eqGuard op t X Y a (.iface k x)).run P w = .ok () w := by
 unfold eqGuard
 cases a <;> split <;> simp
theorem binInt_sound [Laid] {op : BinOp} {t : TypeId} {k : IntKind} {m n : Int} {v : V} (h1 : op ≠ .shl) (h2 : op ≠ .shr) (h : binInt op k m n = some v) :
  ∃ r, (binOp op t (.int k m) (.int k n)).run P w = .ok r w ∧ Rel c v r := by
 cases op
 case quo => simp [binInt] at h; obtain ⟨h0, rfl⟩ := h; exact ⟨.int k _, by simp [binOp, Op.intDiv, h0], .int _ _⟩
 case rem => simp [binInt] at h; obtain ⟨h0, rfl⟩ := h; exact ⟨.int k _, by simp [binOp, Op.intDiv, h0], .int _ _⟩
 case shl => exact absurd rfl h1
 case shr => exact absurd rfl h2
 all_goals
  obtain rfl := Option.some.inj h
  first
   | exact ⟨.int k _, by simp only [binOp, Op.intArith, Op.intBits, ne_eq, not_true_eq_false, if_false]; rfl, .int _ _⟩
   | exact ⟨.bool _, by simp only [binOp, Op.intCmp, ne_eq, not_true_eq_false, if_false]; rfl, .bool _⟩
theorem binV_sound [Laid] {op : BinOp} {t : TypeId} {X Y : Operand} {x y : V} {p q : Value} {v : V} (h : binV op x y = some v) (hx : Rel c x p) (hy : Rel c y q) :
  ∃ r, (do eqGuard op t X Y p q; binOp op t p q : Sem Value).run P w = .ok r w ∧ Rel c v r := by
 unfold binV at h
 split at h
 ·rename_i k m k' n
  have ex := hx.int_inv; have ey := hy.int_inv
  subst ex; subst ey
  rw [Sem.run_bind, guard_int, Result.andThen_ok]
  split at h
  ·unfold shiftV at h
   split at h
   ·simp at h
   ·rename_i hb
    simp at h
    subst h
    exact ⟨_, by simp only [binOp, Op.shift, hb, if_false]; rfl, .int _ _⟩
  ·unfold shiftV at h
   split at h
   ·simp at h
   ·rename_i hb
    simp at h
    subst h
    exact ⟨_, by simp only [binOp, Op.shift, hb, if_false]; rfl, .int _ _⟩
  ·rename_i h1 h2
   split at h
   ·rename_i hk
    subst hk
    exact binInt_sound (fun e => h1 e) (fun e => h2 e) h
   ·simp at h
 ·rename_i s u
  have ex := hx.str_inv; have ey := hy.str_inv
  subst ex; subst ey
  rw [Sem.run_bind, guard_str, Result.andThen_ok]
  unfold strOp at h
  split at h
  ·simp at h; subst h; exact ⟨_, rfl, by rw [← str_same_eq]; exact .bool _⟩
  ·simp at h; subst h; exact ⟨_, rfl, by rw [← str_same_eq]; exact .bool _⟩
  ·simp at h; subst h; exact ⟨_, rfl, by rw [toList_bytes, toList_bytes]; exact .bool _⟩
  ·cases hb : Nat.ble (Nat.add s.n u.n) 4611686018427387904 with
   | false => rw [hb] at h; simp at h
   | true =>
    rw [hb] at h
    simp only [cond_true, Option.some.injEq] at h
    subst h
    have hle : s.n + u.n ≤ 4611686018427387904 := by simpa [Nat.ble_eq] using hb
    refine ⟨.string (s.bytes ++ u.bytes), ?_, by rw [← Str.app_spec]; exact .str _⟩
    have hm : ¬ (((s.bytes.size + u.bytes.size : Nat) : Int) > IntKind.i64.max) := by
     have : IntKind.i64.max = 9223372036854775807 := by decide
     rw [this, Str.bytes_size, Str.bytes_size]; omega
    simp only [binOp, Op.stringOp]
    rw [if_neg hm]; rfl
  ·simp at h
 ·simp at h
theorem Rel.slice_inv [Laid] {tok : Option Ref} {full : Bool} {sz : Nat} {l : List V} {x : Value} (h : Rel c (.slice tok full sz l) x) :
  ∃ b off cap xs, x = .slice (some ⟨b, off, none⟩) l.length cap ∧ (∀ v ∈ l, v.cells.length = sz) ∧ RelL c (flat l) xs ∧
   (∀ i x, xs[i]? = some x → c.shut b (off + i) = some x) ∧ V.noRefsL (flat l) = true ∧ l.length ≤ cap ∧ (full = true → cap = l.length) ∧
   (∀ r, tok = some r → c.blk r = some b ∧ off = 0 ∧ 0 < sz ∧ c.ext b = some (cap * sz) ∧ c.text r = some (l.length * sz)) := by
 cases h with
 | slice tok full sz l b off cap xs hsz hl hs hr hn hc hf ht => exact ⟨b, off, cap, xs, rfl, hsz, ⟨hl, hr⟩, hs, hn, hc, hf, ht⟩
theorem Rel.mk_slice [Laid] {tok : Option Ref} {full : Bool} {l : List V} {b off cap sz : Nat} {xs : List Value} (hsz : ∀ v ∈ l, v.cells.length = sz) (hr : RelL c (flat l) xs)
  (hs : ∀ i x, xs[i]? = some x → c.shut b (off + i) = some x) (hn : V.noRefsL (flat l) = true) (hc : l.length ≤ cap) (hf : full = true → cap = l.length)
  (ht : ∀ r, tok = some r → c.blk r = some b ∧ off = 0 ∧ 0 < sz ∧ c.ext b = some (cap * sz) ∧ c.text r = some (l.length * sz)) {n : Nat} (hl : n = l.length) :
  Rel c (.slice tok full sz l) (.slice (some ⟨b, off, none⟩) n cap) := by
 subst hl; exact .slice tok full sz l b off cap xs hsz hr.1 hs hr.2 hn hc hf ht
theorem Rel.arr_inv [Laid] {r : Ref} {off len : Nat} {lim : Option Nat} {sz : Nat} {ag : Bool} {x : Value} (h : Rel c (.arr r off len lim sz ag) x) :
  ∃ b cap n, x = .slice (some ⟨b, off, none⟩) len cap ∧ c.blk r = some b ∧ len ≤ cap ∧ c.ext b = some n ∧ 0 < sz ∧ (∀ k, lim = some k → cap = k ∧ off + k * sz ≤ n) ∧
   (lim = none → off + cap * sz = n) := by
 cases h with
 | arr r off len lim sz ag b cap n hb hc he hz hk hu => exact ⟨b, cap, n, rfl, hb, hc, he, hz, hk, hu⟩
theorem equalIn_bool (d : Nat) {t : TypeId} {a b : Bool} (ht : P.underlying t = some .bool) : (Op.equalIn (d + 1) t (.bool a) (.bool b)).run P w = .ok (a == b) w := by
 simp only [Op.equalIn, Sem.run_bind, run_underlying ht, Result.andThen_ok, Sem.run_pure]
theorem equalIn_slice_nil (d : Nat) {t e : TypeId} {a : Option Addr} {n m n' m' : Nat} (ht : P.underlying t = some (.slice e)) : (Op.equalIn (d + 1) t (.slice a n m) (.slice none n' m')).run P w = .ok a.isNone w := by
 cases a <;> simp only [Op.equalIn, Sem.run_bind, run_underlying ht, Result.andThen_ok, Sem.run_pure] <;> rfl
theorem equal_bool {t : TypeId} {a b : Bool} (ht : P.underlying t = some .bool) : (Op.equal t (.bool a) (.bool b)).run P w = .ok (a == b) w := equalIn_bool 9999 ht
theorem equal_slice_nil {t e : TypeId} {a : Option Addr} {n m n' m' : Nat} (ht : P.underlying t = some (.slice e)) : (Op.equal t (.slice a n m) (.slice none n' m')).run P w = .ok a.isNone w := equalIn_slice_nil 9999 ht
theorem Rel.nilp_inv [Laid] {x : Value} (h : Rel c .nilp x) : x = .pointer none := by cases h; rfl
theorem Rel.nili_inv [Laid] {x : Value} (h : Rel c .nili x) : x = .nilIface := by cases h; rfl
theorem Rel.iface_inv [Laid] {k : Nat} {v : V} {x : Value} (h : Rel c (.iface k v) x) : ∃ y, x = .iface k y := by cases h; exact ⟨_, rfl⟩
theorem Rel.ptr_inv' [Laid] {r : Ref} {o : Nat} {x : Value} (h : Rel c (.ptr r o) x) : ∃ a, x = .pointer (some a) := by cases h; exact ⟨_, rfl⟩
theorem equalIn_nili (d : Nat) {t : TypeId} {ms : Array (String × TypeId)} (ht : P.underlying t = some (.interface ms)) : (Op.equalIn (d + 1) t .nilIface .nilIface).run P w = .ok true w := by
 simp only [Op.equalIn, Sem.run_bind, run_underlying ht, Result.andThen_ok, Sem.run_pure]
theorem equalIn_iface_nil (d : Nat) {t : TypeId} {ms : Array (String × TypeId)} {k : TypeId} {v : Value} (ht : P.underlying t = some (.interface ms)) : (Op.equalIn (d + 1) t (.iface k v) .nilIface).run P w = .ok false w := by
 simp only [Op.equalIn, Sem.run_bind, run_underlying ht, Result.andThen_ok, Sem.run_pure]
theorem equalIn_nil_iface (d : Nat) {t : TypeId} {ms : Array (String × TypeId)} {k : TypeId} {v : Value} (ht : P.underlying t = some (.interface ms)) : (Op.equalIn (d + 1) t .nilIface (.iface k v)).run P w = .ok false w := by
 simp only [Op.equalIn, Sem.run_bind, run_underlying ht, Result.andThen_ok, Sem.run_pure]
theorem equalIn_ptr_nil (d : Nat) {t e : TypeId} {a : Option Addr} (ht : P.underlying t = some (.pointer e)) : (Op.equalIn (d + 1) t (.pointer a) (.pointer none)).run P w = .ok a.isNone w := by
 cases a <;> simp only [Op.equalIn, Sem.run_bind, run_underlying ht, Result.andThen_ok, Sem.run_pure] <;> rfl
theorem equalIn_nil_ptr (d : Nat) {t e : TypeId} {a : Option Addr} (ht : P.underlying t = some (.pointer e)) : (Op.equalIn (d + 1) t (.pointer none) (.pointer a)).run P w = .ok a.isNone w := by
 cases a <;> simp only [Op.equalIn, Sem.run_bind, run_underlying ht, Result.andThen_ok, Sem.run_pure] <;> rfl
def Comp : Value → Prop
 | .int .. => False
 | .float .. => False
 | .complex .. => False
 | .string _ => False
 | _ => True
theorem binOp_eq_run {t : TypeId} {x y : Value} {b : Bool} (hx : Comp x) (h : (Op.equal t x y).run P w = .ok b w) :
  (binOp .eql t x y).run P w = .ok (.bool b) w ∧ (binOp .neq t x y).run P w = .ok (.bool !b) w := by
 have e1 : binOp .eql t x y = (do pure (.bool (← Op.equal t x y))) := by
  cases x <;> simp [Comp] at hx <;> cases y <;> rfl
 have e2 : binOp .neq t x y = (do pure (.bool (!(← Op.equal t x y)))) := by
  cases x <;> simp [Comp] at hx <;> cases y <;> rfl
 rw [e1, e2]
 simp [h]
theorem eqC_run [Laid] {d : Nat} {t : TypeId} {x y : V} {p q : Value} {b : Bool} (h : eqC (P.underlying t) x y = some b) (hx : Rel c x p) (hy : Rel c y q) :
  P.plainKey t = true ∧ (Op.equalIn (d + 1) t p q).run P w = .ok b w := by
 unfold eqC at h
 unfold Program.plainKey
 split at h
 ·rename_i k k1 a k2 b' ht
  rw [ht]
  obtain rfl := hx.int_inv
  obtain rfl := hy.int_inv
  split at h
  ·rename_i e
   subst e
   obtain rfl := Option.some.inj h
   exact ⟨rfl, run_equalIn_int w d t _ _ _ _ ht⟩
  ·cases h
 ·rename_i a b' ht
  rw [ht]
  obtain rfl := hx.str_inv
  obtain rfl := hy.str_inv
  obtain rfl := Option.some.inj h
  exact ⟨rfl, by rw [run_equalIn_string w d t _ _ ht, str_same_eq]⟩
 ·rename_i a b' ht
  rw [ht]
  obtain rfl := hx.bool_inv
  obtain rfl := hy.bool_inv
  obtain rfl := Option.some.inj h
  exact ⟨rfl, run_equalIn_bool w d t _ _ ht⟩
 ·cases h
theorem eqFs_run [Laid] {d : Nat} {p q : Array Value} : ∀ (fs : List Field) (i : Nat) (xs ys : List V) (b : Bool), eqFs P i fs xs ys = some b →
  (∀ (j : Nat) v, xs[j]? = some v → ∃ x, p[i + j]? = some x ∧ Rel c v x) → (∀ (j : Nat) v, ys[j]? = some v → ∃ x, q[i + j]? = some x ∧ Rel c v x) →
  (Op.eqFields (d + 1) p q fs).run P w = .ok b w := by
 intro fs
 induction fs with
 | nil =>
  intro i xs ys b h hx hy
  cases xs <;> cases ys <;> simp [eqFs] at h
  subst h; rfl
 | cons f fs ih =>
  intro i xs ys b h hx hy
  cases xs with
  | nil => simp [eqFs] at h
  | cons x xs =>
  cases ys with
  | nil => simp [eqFs] at h
  | cons y ys =>
  unfold eqFs at h
  cases hc : (f.name != "_" && Nat.beq f.offset i) with
  | false => rw [hc] at h; cases h
  | true =>
  rw [hc] at h
  simp only [Bool.and_eq_true] at hc
  have hn : f.name ≠ "_" := by simpa using hc.1
  have ho : f.offset = i := Nat.eq_of_beq_eq_true hc.2
  simp only [cond_true] at h
  obtain ⟨u, hu, ru⟩ := hx 0 x rfl
  obtain ⟨v, hv, rv⟩ := hy 0 y rfl
  cases e1 : eqC (P.underlying f.type) x y with
  | none => rw [e1] at h; cases h
  | some a =>
  cases e2 : eqFs P (i + 1) fs xs ys with
  | none => rw [e1, e2] at h; cases h
  | some r =>
  rw [e1, e2] at h
  obtain rfl := Option.some.inj h
  obtain ⟨hp, hr⟩ := eqC_run (d := d) (w := w) e1 ru rv
  have k1 := ih (i + 1) xs ys r e2 (fun j v hv => by rw [Nat.add_assoc, Nat.add_comm 1 j]; exact hx (j + 1) v hv) (fun j v hv => by rw [Nat.add_assoc, Nat.add_comm 1 j]; exact hy (j + 1) v hv)
  have p1 := run_part_plain w hp (xs := p) (off := f.offset) (by rw [ho]; exact hu)
  have p2 := run_part_plain w hp (xs := q) (off := f.offset) (by rw [ho]; exact hv)
  simp only [Op.eqFields, hn, ne_eq, not_false_eq_true, if_true, Sem.run_bind, p1, p2, hr, Result.andThen_ok]
  cases a
  ·simp
  ·simpa using k1
theorem eqA_sound [Laid] {op : BinOp} {t : TypeId} {X Y : Operand} {x y : V} {p q : Value} {v : V} (h : eqA P op t x y = some v) (hx : Rel c x p) (hy : Rel c y q) :
  ∃ r, (do eqGuard op t X Y p q; binOp op t p q : Sem Value).run P w = .ok r w ∧ Rel c v r := by
 unfold eqA at h
 split at h
 ·rename_i fs xs ys ht
  obtain ⟨ps, rfl, hp⟩ := hx.agg_inv
  obtain ⟨qs, rfl, hq⟩ := hy.agg_inv
  cases hc : (P.stoodInHeld t || P.eqGuardType P.depth t) with
  | true => rw [hc] at h; cases h
  | false =>
  rw [hc] at h
  simp only [cond_false] at h
  rw [Bool.or_eq_false_iff] at hc
  cases e : eqFs P 0 fs.toList xs ys with
  | none => rw [e] at h; cases h
  | some b =>
  rw [e] at h
  have hfs : P.fieldsOf t = fs := by unfold Program.fieldsOf; rw [ht]
  have get : ∀ {l : List V} {ms : List Value}, RelL c l ms → ∀ (j : Nat) v, l[j]? = some v → ∃ x, ms.toArray[0 + j]? = some x ∧ Rel c v x := by
   intro l ms hr j v hj
   have hlt := (List.getElem?_eq_some_iff.1 hj).1
   have hm : j < ms.length := by rw [hr.1]; exact hlt
   exact ⟨ms[j], by rw [Nat.zero_add, List.getElem?_toArray, List.getElem?_eq_getElem hm], hr.2 j v _ hj (List.getElem?_eq_getElem hm)⟩
  have k := eqFs_run (d := 9998) (w := w) (p := ps.toArray) (q := qs.toArray) fs.toList 0 xs ys b e (get hp) (get hq)
  have k2 : (Op.equalIn 10000 t (.agg ps.toArray) (.agg qs.toArray)).run P w = .ok b w := by
   rw [run_equalIn_struct w 9999 t _ _ (by rw [hfs]; exact ht) hc.1, hfs]; exact k
  rw [Sem.run_bind, run_eqGuard_agg w op t X Y _ _ hc.2, Result.andThen_ok]
  rcases isEq_spec h with ⟨rfl, rfl⟩ | ⟨rfl, rfl⟩
  ·exact ⟨_, by rw [run_eql_struct, k2]; rfl, .bool _⟩
  ·exact ⟨_, by rw [run_neq_struct, k2]; rfl, .bool _⟩
 ·cases h
theorem eqV_sound [Laid] {op : BinOp} {t : TypeId} {X Y : Operand} {x y : V} {p q : Value} {v : V} (h : eqV op (P.underlying t) (isConst X || isConst Y) x y = some v) (hx : Rel c x p) (hy : Rel c y q) :
  ∃ r, (do eqGuard op t X Y p q; binOp op t p q : Sem Value).run P w = .ok r w ∧ Rel c v r := by
 unfold eqV at h
 split at h
 ·have ht : P.underlying t = some .bool := by assumption
  have ex := hx.bool_inv; have ey := hy.bool_inv
  subst ex; subst ey
  rw [Sem.run_bind, guard_bool, Result.andThen_ok]
  obtain ⟨r1, r2⟩ := binOp_eq_run (by trivial) (equal_bool (w := w) ht)
  rcases isEq_spec h with ⟨rfl, rfl⟩ | ⟨rfl, rfl⟩
  ·exact ⟨_, r1, .bool _⟩
  ·exact ⟨_, r2, .bool _⟩
 ·rename_i e ht
  have ex := hx.nils_inv; have ey := hy.nils_inv
  subst ex; subst ey
  rw [Sem.run_bind, guard_slice, Result.andThen_ok]
  obtain ⟨r1, r2⟩ := binOp_eq_run (by trivial) (equal_slice_nil (w := w) (a := none) (n := 0) (m := 0) (n' := 0) (m' := 0) ht)
  rcases isEq_spec h with ⟨rfl, rfl⟩ | ⟨rfl, rfl⟩
  ·exact ⟨_, r1, .bool _⟩
  ·exact ⟨_, r2, .bool _⟩
 ·rename_i e tok full sz l ht
  obtain ⟨b, off, cap, xs, rfl, _⟩ := hx.slice_inv
  have ey := hy.nils_inv
  subst ey
  rw [Sem.run_bind, guard_slice, Result.andThen_ok]
  obtain ⟨r1, r2⟩ := binOp_eq_run (by trivial) (equal_slice_nil (w := w) (a := some ⟨b, off, none⟩) (n := l.length) (m := cap) (n' := 0) (m' := 0) ht)
  rcases isEq_spec h with ⟨rfl, rfl⟩ | ⟨rfl, rfl⟩
  ·exact ⟨_, r1, .bool _⟩
  ·exact ⟨_, r2, .bool _⟩
 ·rename_i e r off len lim sz ag ht
  obtain ⟨b, cap, n, rfl, _⟩ := hx.arr_inv
  have ey := hy.nils_inv
  subst ey
  rw [Sem.run_bind, guard_slice, Result.andThen_ok]
  obtain ⟨r1, r2⟩ := binOp_eq_run (by trivial) (equal_slice_nil (w := w) (a := some ⟨b, off, none⟩) (n := len) (m := cap) (n' := 0) (m' := 0) ht)
  rcases isEq_spec h with ⟨rfl, rfl⟩ | ⟨rfl, rfl⟩
  ·exact ⟨_, r1, .bool _⟩
  ·exact ⟨_, r2, .bool _⟩
 ·rename_i ms ht
  have ex := hx.nili_inv; have ey := hy.nili_inv
  subst ex; subst ey
  cases hc : (isConst X || isConst Y) with
  | false => rw [hc] at h; simp at h
  | true =>
   rw [hc] at h
   simp only [cond_true] at h
   rw [Sem.run_bind, guard_nili hc, Result.andThen_ok]
   obtain ⟨r1, r2⟩ := binOp_eq_run (by trivial) (show (Op.equal t .nilIface .nilIface).run P w = .ok true w from equalIn_nili 9999 ht)
   rcases isEq_spec h with ⟨rfl, rfl⟩ | ⟨rfl, rfl⟩
   ·exact ⟨_, r1, .bool _⟩
   ·exact ⟨_, r2, .bool _⟩
 ·rename_i ms k u ht
  obtain ⟨x', rfl⟩ := hx.iface_inv
  have ey := hy.nili_inv
  subst ey
  rw [Sem.run_bind, guard_other (by simp) (by simp), Result.andThen_ok]
  obtain ⟨r1, r2⟩ := binOp_eq_run (by trivial) (show (Op.equal t (.iface k x') .nilIface).run P w = .ok false w from equalIn_iface_nil 9999 ht)
  rcases isEq_spec h with ⟨rfl, rfl⟩ | ⟨rfl, rfl⟩
  ·exact ⟨_, r1, .bool _⟩
  ·exact ⟨_, r2, .bool _⟩
 ·rename_i ms k u ht
  obtain ⟨y', rfl⟩ := hy.iface_inv
  have ex := hx.nili_inv
  subst ex
  rw [Sem.run_bind, guard_other', Result.andThen_ok]
  obtain ⟨r1, r2⟩ := binOp_eq_run (by trivial) (show (Op.equal t .nilIface (.iface k y')).run P w = .ok false w from equalIn_nil_iface 9999 ht)
  rcases isEq_spec h with ⟨rfl, rfl⟩ | ⟨rfl, rfl⟩
  ·exact ⟨_, r1, .bool _⟩
  ·exact ⟨_, r2, .bool _⟩
 ·rename_i e ht
  have ex := hx.nilp_inv; have ey := hy.nilp_inv
  subst ex; subst ey
  rw [Sem.run_bind, guard_other (by simp) (by simp), Result.andThen_ok]
  obtain ⟨r1, r2⟩ := binOp_eq_run (by trivial) (show (Op.equal t (.pointer none) (.pointer none)).run P w = .ok true w from equalIn_ptr_nil 9999 ht)
  rcases isEq_spec h with ⟨rfl, rfl⟩ | ⟨rfl, rfl⟩
  ·exact ⟨_, r1, .bool _⟩
  ·exact ⟨_, r2, .bool _⟩
 ·rename_i e r o ht
  obtain ⟨a, rfl⟩ := hx.ptr_inv'
  have ey := hy.nilp_inv
  subst ey
  rw [Sem.run_bind, guard_other (by simp) (by simp), Result.andThen_ok]
  obtain ⟨r1, r2⟩ := binOp_eq_run (by trivial) (show (Op.equal t (.pointer (some a)) (.pointer none)).run P w = .ok false w from equalIn_ptr_nil 9999 ht)
  rcases isEq_spec h with ⟨rfl, rfl⟩ | ⟨rfl, rfl⟩
  ·exact ⟨_, r1, .bool _⟩
  ·exact ⟨_, r2, .bool _⟩
 ·rename_i e r o ht
  obtain ⟨a, rfl⟩ := hy.ptr_inv'
  have ex := hx.nilp_inv
  subst ex
  rw [Sem.run_bind, guard_other (by simp) (by simp), Result.andThen_ok]
  obtain ⟨r1, r2⟩ := binOp_eq_run (by trivial) (show (Op.equal t (.pointer none) (.pointer (some a))).run P w = .ok false w from equalIn_nil_ptr 9999 ht)
  rcases isEq_spec h with ⟨rfl, rfl⟩ | ⟨rfl, rfl⟩
  ·exact ⟨_, r1, .bool _⟩
  ·exact ⟨_, r2, .bool _⟩
 ·simp at h
theorem unV_sound [Laid] {op : UnOp} {x v : V} {p : Value} (h : unV op x = some v) (hx : Rel c x p) : ∃ r, (Op.unary op p).run P w = .ok r w ∧ Rel c v r := by
 unfold unV at h
 split at h
 ·have ex := hx.bool_inv; subst ex; simp at h; subst h; exact ⟨_, rfl, .bool _⟩
 ·have ex := hx.int_inv; subst ex; obtain rfl := Option.some.inj h; exact ⟨_, rfl, .int _ _⟩
 ·have ex := hx.int_inv; subst ex; simp [binInt] at h; subst h; exact ⟨_, rfl, .int _ _⟩
 ·simp at h
theorem convV_sound [Laid] {s d : TypeId} {x v : V} {p : Value} (h : convV P s d x = some v) (hx : Rel c x p) : ∃ r, (convert s d p).run P w = .ok r w ∧ Rel c v r := by
 unfold convV at h
 split at h
 ·rename_i k k' n h1 h2
  have ex := hx.int_inv; subst ex; simp at h; subst h
  exact ⟨.int _ _, by simp only [convert, Sem.run_bind, run_underlying h1, run_underlying h2, Result.andThen_ok, Conv.intToInt]; rfl, .int _ _⟩
 ·rename_i n h1 h2
  have ex := hx.str_inv; subst ex; simp at h; subst h
  exact ⟨.string n.bytes, by simp [convert, run_underlying h1, run_underlying h2], .str _⟩
 ·rename_i k n h1 h2
  have ex := hx.int_inv; subst ex; simp at h; subst h
  exact ⟨.string _, by simp only [convert, Sem.run_bind, run_underlying h1, run_underlying h2, Result.andThen_ok, Conv.intToString]; rfl, .str' _⟩
 ·simp at h
end
end Go.AM
end

section
namespace Go.AM
open Go
section
variable {P : Program} {C : Cfg} {c : Ctx} {ρ : Nat → V} {a : Act} {w : World}
theorem run_bound {k : IntKind} {n y : Nat} {code : BoundsCode} (h : n ≤ y) : (Instr.sliceBound (.int k n) y code).run P w = .ok n w := by
 have : (0 : Int) ≤ n ∧ (n : Int) ≤ y := ⟨by omega, by omega⟩
 simp [Instr.sliceBound, asIntOf, this, h]
def IsB (o : Option Value) (n : Nat) : Prop := ∃ k, o = some (.int k n)
theorem run_bounds {isS : Bool} {len cap l h m : Nat} {lo hi mx : Option Value} (hlo : (lo = none ∧ l = 0) ∨ IsB lo l)
  (hhi : (hi = none ∧ mx = none ∧ h = len) ∨ IsB hi h) (hmx : (mx = none ∧ m = cap) ∨ IsB mx m) (h1 : l ≤ h) (h2 : h ≤ m) (h3 : m ≤ cap) :
  (Instr.sliceBounds isS len cap lo hi mx).run P w = .ok (l, h, m) w := by
 unfold Instr.sliceBounds
 rcases hmx with ⟨rfl, rfl⟩ | ⟨km, rfl⟩
 ·rcases hhi with ⟨rfl, _, rfl⟩ | ⟨kh, rfl⟩
  ·rcases hlo with ⟨rfl, rfl⟩ | ⟨kl, rfl⟩
   ·simp
   ·simp [run_bound h1]
  ·rcases hlo with ⟨rfl, rfl⟩ | ⟨kl, rfl⟩
   ·simp [run_bound h2]
   ·simp [run_bound h2, run_bound h1]
 ·rcases hhi with ⟨rfl, h', rfl⟩ | ⟨kh, rfl⟩
  ·simp at h'
  ·rcases hlo with ⟨rfl, rfl⟩ | ⟨kl, rfl⟩
   ·simp [run_bound h2, run_bound h3]
   ·simp [run_bound h2, run_bound h1, run_bound h3]
theorem optInt_spec [Laid] (hs : Slots c ρ a) {o : Option Operand} {r : Option Int} (h : optInt ρ o = some r) :
  (o = none ∧ r = none) ∨ ∃ x k n, o = some x ∧ r = some n ∧ a.eval x = .int k n := by
 unfold optInt at h
 split at h
 ·simp at h; exact .inl ⟨rfl, h.symm⟩
 ·rename_i x
  split at h
  ·rename_i k n hx
   simp at h
   exact .inr ⟨x, k, n, rfl, h.symm, opd_int hs hx⟩
  ·simp at h
theorem bounds_spec [Laid] (hs : Slots c ρ a) {lo hi mx : Option Operand} {lo' hi' mx' : Option Int} (el : optInt ρ lo = some lo') (eh : optInt ρ hi = some hi') (em : optInt ρ mx = some mx')
  {len h k : Nat} (hh : toNatLe (hi'.getD len) len = some h) (hk : toNatLe (lo'.getD 0) h = some k) :
  k ≤ h ∧ h ≤ len ∧ ((lo.map a.eval = none ∧ k = 0) ∨ IsB (lo.map a.eval) k) ∧
  ((hi.map a.eval = none ∧ hi' = none ∧ h = len) ∨ (IsB (hi.map a.eval) h ∧ hi'.isSome = true)) := by
 obtain ⟨e1, l1⟩ := toNatLe_spec hh
 obtain ⟨e2, l2⟩ := toNatLe_spec hk
 refine ⟨l2, l1, ?_, ?_⟩
 ·rcases optInt_spec hs el with ⟨rfl, rfl⟩ | ⟨x, kk, n, rfl, rfl, hx⟩
  ·simp at e2; exact .inl ⟨rfl, by omega⟩
  ·simp at e2; subst e2; exact .inr ⟨kk, by simp [hx]⟩
 ·rcases optInt_spec hs eh with ⟨rfl, rfl⟩ | ⟨x, kk, n, rfl, rfl, hx⟩
  ·simp at e1; exact .inl ⟨rfl, rfl, by omega⟩
  ·simp at e1; subst e1; exact .inr ⟨⟨kk, by simp [hx]⟩, rfl⟩
theorem max_spec [Laid] (hs : Slots c ρ a) {mx : Option Operand} {m0 : Int} (em : optInt ρ mx = some (some m0)) {len m : Nat} (hm : toNatLe m0 len = some m) :
  m ≤ len ∧ IsB (mx.map a.eval) m := by
 obtain ⟨e1, l1⟩ := toNatLe_spec hm
 rcases optInt_spec hs em with ⟨rfl, h⟩ | ⟨x, kk, n, rfl, h, hx⟩
 ·simp at h
 ·simp at h; subst h; subst e1; exact ⟨l1, kk, by simp [hx]⟩
theorem max_none [Laid] (hs : Slots c ρ a) {mx : Option Operand} (em : optInt ρ mx = some none) : mx = none := by
 rcases optInt_spec hs em with ⟨rfl, h⟩ | ⟨x, kk, n, rfl, h, hx⟩
 ·rfl
 ·simp at h
theorem elemT_spec {t e : TypeId} (h : elemT P t = some e) : P.underlying t = some (.slice e) := by
 unfold elemT at h
 split at h <;> simp at h
 subst h; assumption
theorem run_sliceAt_sl {t e : TypeId} (ht : P.underlying t = some (.slice e)) {sz : Nat} (hz : (P.info? e).map (·.size) = some sz) {ad : Option Addr} {len cap l h m : Nat} {lo hi mx : Option Value}
  (hb : (Instr.sliceBounds true len cap lo hi mx).run P w = .ok (l, h, m) w) :
  (Instr.sliceAt t (.slice ad len cap) lo hi mx).run P w = .ok (.slice (if m = l then ad else ad.map (·.add (l * sz))) (h - l) (m - l)) w := by
 unfold Instr.sliceAt
 rw [Sem.run_bind, run_underlying ht, Result.andThen_ok]
 simp only [Instr.slice]
 rw [Sem.run_bind, run_underlying ht, Result.andThen_ok]
 simp only [Sem.run_bind, hb, Result.andThen_ok, run_sizeOf' hz, Sem.run_pure]
theorem run_sliceAt_str {t : TypeId} (ht : P.underlying t = some .string) {s : ByteArray} {l h m : Nat} {lo hi : Option Value}
  (hb : (Instr.sliceBounds false s.size s.size lo hi none).run P w = .ok (l, h, m) w) :
  (Instr.sliceAt t (.string s) lo hi none).run P w = .ok (.string (s.extract l h)) w := by
 unfold Instr.sliceAt
 rw [Sem.run_bind, run_underlying ht, Result.andThen_ok]
 simp only [Instr.slice]
 rw [Sem.run_bind, run_underlying ht, Result.andThen_ok]
 simp [hb]
theorem flat_drop_rel [Laid] {l : List V} {sz : Nat} {xs : List Value} (hsz : ∀ v ∈ l, v.cells.length = sz) (hr : RelL c (flat l) xs) (k h : Nat) :
  RelL c (flat ((l.take h).drop k)) ((xs.take (h * sz)).drop (k * sz)) := by
 have h1 : ∀ v ∈ l.take h, v.cells.length = sz := fun v hv => hsz v (List.mem_of_mem_take hv)
 rw [← flat_drop k h1, ← flat_take h hsz]
 exact (hr.take _).drop _
theorem rel_empty [Laid] (b off cap sz : Nat) (full : Bool) (hf : full = true → cap = 0) : Rel c (.slice none full sz []) (.slice (some ⟨b, off, none⟩) 0 cap) :=
 Rel.mk_slice (sz := sz) (xs := []) (fun v hv => by simp at hv) (RelL.nil c) (fun i x hx => by simp at hx) rfl (by simp) (by simpa using hf) (fun r hr => by simp at hr) rfl
theorem sliceImm_sound [Laid] (hs : Slots c ρ a) {t e : TypeId} (ht : P.underlying t = some (.slice e)) {sz0 : Nat} (hz0 : (P.info? e).map (·.size) = some sz0)
    {lo hi mx : Option Operand} {lo' hi' mx' : Option Int} (el : optInt ρ lo = some lo') (eh : optInt ρ hi = some hi') (em : optInt ρ mx = some mx')
    {tok : Option Ref} {full : Bool} {l : List V} {p : Value} (hp : Rel c (.slice tok full sz0 l) p) {v : V} (h : sliceImm tok full sz0 l lo' hi' mx' = some v) :
    ∃ r, (Instr.sliceAt t p (lo.map a.eval) (hi.map a.eval) (mx.map a.eval)).run P w = .ok r w ∧ Rel c v r := by
  obtain ⟨b, off, cap, xs, rfl, hszs, hr, hsh, hn, hc, hf, htok⟩ := hp.slice_inv
  have hnf : ∀ k h, V.noRefsL (flat ((l.take h).drop k)) = true := fun k h => by
    rw [noRefsL_mem] at hn ⊢
    intro v hv
    simp only [flat, List.mem_flatMap] at hv
    obtain ⟨u, hu, hv⟩ := hv
    exact hn v (by simp only [flat, List.mem_flatMap]; exact ⟨u, List.mem_of_mem_take (List.mem_of_mem_drop hu), hv⟩)
  unfold sliceImm at h
  cases hh : toNatLe (hi'.getD l.length) l.length with
  | none => simp [hh] at h
  | some hx =>
    simp only [hh] at h
    cases hk : toNatLe (lo'.getD 0) hx with
    | none => simp [hk] at h
    | some k =>
      simp only [hk] at h
      obtain ⟨l1, l2, blo, bhi⟩ := bounds_spec hs el eh em hh hk
      have piece : ∀ (off' : Nat) (m : Nat) (full' : Bool) (tok' : Option Ref) , (hx - k ≠ 0 → off' = off + k * sz0) → hx ≤ m → (full' = true → m = hx) → tok' = none →
          Rel c (.slice tok' full' sz0 ((l.take hx).drop k)) (.slice (some ⟨b, off', none⟩) (hx - k) (m - k)) := by
        intro off' m full' tok' ho hm hfull htk
        subst htk
        have hlen : hx - k = ((l.take hx).drop k).length := by simp; omega
        by_cases h0 : hx - k = 0
        · have e0 : (l.take hx).drop k = [] := List.eq_nil_of_length_eq_zero (by omega)
          rw [e0, h0]
          exact rel_empty _ _ _ _ _ (fun hf' => by have := hfull hf'; omega)
        · have ho := ho h0
          subst ho
          have := flat_drop_rel hszs hr k hx
          refine Rel.mk_slice (sz := sz0) (fun v hv => hszs v (List.mem_of_mem_take (List.mem_of_mem_drop hv))) this (fun i x hx' => ?_) (hnf k hx) (by omega) (fun hf' => by have := hfull hf'; omega) (fun r hr => by simp at hr) hlen
          rw [List.getElem?_drop] at hx'
          have h2 : xs[k * sz0 + i]? = some x := by
            rw [List.getElem?_take] at hx'
            split at hx'
            · exact hx'
            · simp at hx'
          have := hsh _ _ h2
          rwa [show off + k * sz0 + i = off + (k * sz0 + i) by omega]
      cases mx' with
      | none =>
        have hmx := max_none hs em
        subst hmx
        simp only [] at h
        have hb : (Instr.sliceBounds true l.length cap (lo.map a.eval) (hi.map a.eval) none).run P w = .ok (k, hx, cap) w :=
          run_bounds blo (by rcases bhi with ⟨h1, h2, h3⟩ | ⟨h1, _⟩
                             · exact .inl ⟨h1, rfl, h3⟩
                             · exact .inr h1) (.inl ⟨rfl, rfl⟩) l1 (by omega) (Nat.le_refl _)
        have hrun := run_sliceAt_sl (w := w) ht hz0 (ad := some ⟨b, off, none⟩) hb
        simp only [Option.map_none] at hrun ⊢
        refine ⟨_, hrun, ?_⟩
        have hadr : (if cap = k then (some ⟨b, off, none⟩ : Option Addr) else (some ⟨b, off, none⟩ : Option Addr).map (·.add (k * sz0))) = some ⟨b, if cap = k then off else off + k * sz0, none⟩ := by
          split <;> simp [Addr.add_mid]
        rw [hadr]
        cases hbe : Nat.beq hx l.length with
        | true =>
          have hx' : hx = l.length := by simpa using hbe
          subst hx'
          simp only [hbe, cond_true] at h
          cases hbk : Nat.beq k 0 with
          | true =>
            have k0 : k = 0 := by simpa using hbk
            subst k0
            simp [hbk] at h
            subst h
            have : (if cap = 0 then off else off + 0 * sz0) = off := by split <;> simp
            rw [this]
            simp only [Nat.sub_zero]
            exact hp
          | false =>
            simp [hbk] at h
            subst h
            have := piece (if cap = k then off else off + k * sz0) cap full none (fun h0 => by rw [if_neg (by omega)]) (by omega) (fun hf' => hf hf') rfl
            rwa [List.take_length] at this
        | false =>
          simp [hbe] at h
          subst h
          exact piece (if cap = k then off else off + k * sz0) cap false none (fun h0 => by rw [if_neg (by omega)]) (by omega) (fun hf' => by simp at hf') rfl
      | some m0 =>
        simp only [] at h
        cases hm : toNatLe m0 l.length with
        | none => simp [hm] at h
        | some m =>
          cases hi' with
          | none => simp [hm] at h
          | some hi0 =>
            simp only [hm] at h
            cases hbm : Nat.beq m hx with
            | false => simp [hbm] at h
            | true =>
              have em' : m = hx := by simpa using hbm
              simp [hbm] at h
              subst h
              obtain ⟨l3, bm⟩ := max_spec hs em hm
              have bh : IsB (hi.map a.eval) hx := by
                rcases bhi with ⟨_, h2, _⟩ | ⟨h1, _⟩
                · simp at h2
                · exact h1
              have hb : (Instr.sliceBounds true l.length cap (lo.map a.eval) (hi.map a.eval) (mx.map a.eval)).run P w = .ok (k, hx, m) w :=
                run_bounds blo (.inr bh) (.inr bm) l1 (by omega) (by omega)
              have hrun := run_sliceAt_sl (w := w) ht hz0 (ad := some ⟨b, off, none⟩) hb
              refine ⟨_, hrun, ?_⟩
              have hadr : (if m = k then (some ⟨b, off, none⟩ : Option Addr) else (some ⟨b, off, none⟩ : Option Addr).map (·.add (k * sz0))) = some ⟨b, if m = k then off else off + k * sz0, none⟩ := by
                split <;> simp [Addr.add_mid]
              rw [hadr]
              exact piece (if m = k then off else off + k * sz0) m true none (fun h0 => by rw [if_neg (by omega)]) (by omega) (fun _ => em') rfl
end
end Go.AM
end

section
namespace Go.AM
open Go
section
variable {P : Program} {C : Cfg} {c : Ctx} {ρ : Nat → V} {a : Act} {w : World}
theorem sliceArr_sound [Laid] (hs : Slots c ρ a) {t e : TypeId} (ht : P.underlying t = some (.slice e)) {sz : Nat} (hz0 : (P.info? e).map (·.size) = some sz)
    {lo hi mx : Option Operand} {lo' hi' mx' : Option Int} (el : optInt ρ lo = some lo') (eh : optInt ρ hi = some hi') (em : optInt ρ mx = some mx')
    {r : Ref} {off len : Nat} {lim : Option Nat} {ag : Bool} {p : Value} (hp : Rel c (.arr r off len lim sz ag) p) {v : V} (h : sliceArr r off len lim sz ag lo' hi' mx' = some v) :
    ∃ x, (Instr.sliceAt t p (lo.map a.eval) (hi.map a.eval) (mx.map a.eval)).run P w = .ok x w ∧ Rel c v x := by
  obtain ⟨b, cap, n, rfl, hb, hc, he, hz, hk0, hu⟩ := hp.arr_inv
  unfold sliceArr at h
  cases hh : toNatLe (hi'.getD len) len with
  | none => simp [hh] at h
  | some hx =>
    simp only [hh] at h
    cases hk : toNatLe (lo'.getD 0) hx with
    | none => simp [hk] at h
    | some k =>
      simp only [hk] at h
      obtain ⟨l1, l2, blo, bhi⟩ := bounds_spec hs el eh em hh hk
      have piece : ∀ (m : Nat) (lim' : Option Nat), hx ≤ m → m ≤ cap → (m = k → k = 0) → (∀ q, lim' = some q → q = m - k ∧ ∃ K, m ≤ K ∧ off + K * sz ≤ n) → (lim' = none → m = cap ∧ lim = none) →
          Rel c (.arr r (off + k * sz) (hx - k) lim' sz ag) (.slice (if m = k then some ⟨b, off, none⟩ else (some ⟨b, off, none⟩ : Option Addr).map (·.add (k * sz))) (hx - k) (m - k)) := by
        intro m lim' hm hmc hmk hq hn
        have hadr : (if m = k then (some ⟨b, off, none⟩ : Option Addr) else (some ⟨b, off, none⟩ : Option Addr).map (·.add (k * sz))) = some ⟨b, off + k * sz, none⟩ := by
          split
          · rename_i e; have := hmk e; subst this; simp
          · simp [Addr.add_mid]
        rw [hadr]
        refine .arr _ _ _ _ _ _ b (m - k) n hb (by omega) he hz (fun q hq' => ?_) (fun hn' => ?_)
        · obtain ⟨e1, K, hK, hK2⟩ := hq q hq'
          refine ⟨e1.symm, ?_⟩
          rw [e1]
          have : (m - k) * sz + k * sz ≤ K * sz := by rw [← Nat.add_mul]; exact Nat.mul_le_mul_right _ (by omega)
          omega
        · obtain ⟨e1, e2⟩ := hn hn'
          subst e1
          have := hu e2
          have h3 : (m - k) * sz + k * sz = m * sz := by rw [← Nat.add_mul]; congr 1; omega
          omega
      cases mx' with
      | none =>
        have hmx := max_none hs em
        subst hmx
        simp only [] at h
        have hbn : (Instr.sliceBounds true len cap (lo.map a.eval) (hi.map a.eval) none).run P w = .ok (k, hx, cap) w :=
          run_bounds blo (by rcases bhi with ⟨h1, h2, h3⟩ | ⟨h1, _⟩
                             · exact .inl ⟨h1, rfl, h3⟩
                             · exact .inr h1) (.inl ⟨rfl, rfl⟩) l1 (by omega) (Nat.le_refl _)
        have hrun := run_sliceAt_sl (w := w) ht hz0 (ad := some ⟨b, off, none⟩) hbn
        simp only [Option.map_none] at hrun ⊢
        refine ⟨_, hrun, ?_⟩
        cases lim with
        | none =>
          simp only [] at h
          cases hb2 : (Nat.beq k hx && !Nat.beq k 0) with
          | true =>
            simp [hb2] at h
            subst h
            have : k = hx := by simp at hb2; exact hb2.1
            subst this
            rw [Nat.sub_self]
            split
            · exact rel_empty _ _ _ _ _ (fun h => by simp at h)
            · simp only [Option.map_some, Addr.add_mid]; exact rel_empty _ _ _ _ _ (fun h => by simp at h)
          | false =>
            simp only [hb2, cond_false] at h
            simp at h
            subst h
            refine piece cap none (by omega) (Nat.le_refl _) (fun e => ?_) (fun q hq => by simp at hq) (fun _ => ⟨rfl, rfl⟩)
            have : k = hx := by omega
            simp at hb2
            exact hb2 this
        | some cc =>
          simp only [] at h
          have hcc := hk0 cc rfl
          cases hb2 : (Nat.beq k cc && !Nat.beq k 0) with
          | true =>
            simp [hb2] at h
            subst h
            have : k = cc := by simp at hb2; exact hb2.1
            have e0 : hx - k = 0 := by omega
            have e1 : cap - k = 0 := by omega
            rw [e0, e1]
            split
            · exact rel_empty _ _ _ _ _ (fun h => rfl)
            · simp only [Option.map_some, Addr.add_mid]; exact rel_empty _ _ _ _ _ (fun h => rfl)
          | false =>
            simp only [hb2, cond_false] at h
            simp at h
            subst h
            refine piece cap (some (cc - k)) (by omega) (Nat.le_refl _) (fun e => ?_) (fun q hq => ?_) (fun hn => by simp at hn)
            · have : k = cc := by omega
              simp at hb2
              exact hb2 this
            · simp at hq
              exact ⟨by omega, cc, by omega, hcc.2⟩
      | some m0 =>
        simp only [] at h
        cases hm : toNatLe m0 len with
        | none => simp [hm] at h
        | some m =>
          cases hi' with
          | none => simp [hm] at h
          | some hi0 =>
            simp only [hm] at h
            cases hbm : Nat.ble hx m with
            | false => simp [hbm] at h
            | true =>
              have em' : hx ≤ m := by simpa using hbm
              simp only [hbm, cond_true] at h
              obtain ⟨l3, bm⟩ := max_spec hs em hm
              have bh : IsB (hi.map a.eval) hx := by
                rcases bhi with ⟨_, h2, _⟩ | ⟨h1, _⟩
                · simp at h2
                · exact h1
              have hbn : (Instr.sliceBounds true len cap (lo.map a.eval) (hi.map a.eval) (mx.map a.eval)).run P w = .ok (k, hx, m) w :=
                run_bounds blo (.inr bh) (.inr bm) l1 em' (by omega)
              have hrun := run_sliceAt_sl (w := w) ht hz0 (ad := some ⟨b, off, none⟩) hbn
              refine ⟨_, hrun, ?_⟩
              cases hb2 : (Nat.beq k m && !Nat.beq k 0) with
              | true =>
                simp [hb2] at h
                subst h
                have : k = m := by simp at hb2; exact hb2.1
                have e0 : hx - k = 0 := by omega
                have e1 : m - k = 0 := by omega
                rw [e0, e1]
                split
                · exact rel_empty _ _ _ _ _ (fun h => rfl)
                · simp only [Option.map_some, Addr.add_mid]; exact rel_empty _ _ _ _ _ (fun h => rfl)
              | false =>
                simp only [hb2, cond_false] at h
                simp at h
                subst h
                refine piece m (some (m - k)) em' (by omega) (fun e => ?_) (fun q hq => ?_) (fun hn => by simp at hn)
                · simp at hb2
                  exact hb2 e.symm
                · simp at hq
                  refine ⟨by omega, m, Nat.le_refl _, ?_⟩
                  cases lim with
                  | none =>
                    have := hu rfl
                    have h3 : m * sz ≤ cap * sz := Nat.mul_le_mul_right _ (by omega)
                    omega
                  | some cc =>
                    have := hk0 cc rfl
                    have h3 : m * sz ≤ cc * sz := Nat.mul_le_mul_right _ (by omega)
                    omega
theorem sliceStr_sound [Laid] (hs : Slots c ρ a) {t : TypeId} (ht : P.underlying t = some .string)
    {lo hi : Option Operand} {lo' hi' : Option Int} (el : optInt ρ lo = some lo') (eh : optInt ρ hi = some hi') {s : Str} {v : V} (h : sliceStr s lo' hi' = some v) :
    ∃ x, (Instr.sliceAt t (.string s.bytes) (lo.map a.eval) (hi.map a.eval) none).run P w = .ok x w ∧ Rel c v x := by
  unfold sliceStr at h
  cases hh : toNatLe (hi'.getD s.n) s.n with
  | none => simp [hh] at h
  | some hx =>
    simp only [hh] at h
    cases hk : toNatLe (lo'.getD 0) hx with
    | none => simp [hk] at h
    | some k =>
      simp only [hk] at h
      simp at h
      subst h
      obtain ⟨l1, l2, blo, bhi⟩ := bounds_spec hs el eh (rfl : optInt ρ none = some none) hh hk
      have hbn0 : (Instr.sliceBounds false s.n s.n (lo.map a.eval) (hi.map a.eval) none).run P w = .ok (k, hx, s.n) w :=
        run_bounds blo (by rcases bhi with ⟨h1, h2, h3⟩ | ⟨h1, _⟩
                           · exact .inl ⟨h1, rfl, h3⟩
                           · exact .inr h1) (.inl ⟨rfl, rfl⟩) l1 (by omega) (Nat.le_refl _)
      have hbn : (Instr.sliceBounds false s.bytes.size s.bytes.size (lo.map a.eval) (hi.map a.eval) none).run P w = .ok (k, hx, s.bytes.size) w := by
        rw [s.bytes_size]; exact hbn0
      exact ⟨_, run_sliceAt_str ht hbn, by rw [← Str.cut_spec s l1 l2]; exact .str _⟩
theorem sliceV_sound [Laid] (hs : Slots c ρ a) {t : TypeId} {x : V} {p : Value} (hp : Rel c x p)
    {lo hi mx : Option Operand} {lo' hi' mx' : Option Int} (el : optInt ρ lo = some lo') (eh : optInt ρ hi = some hi') (em : optInt ρ mx = some mx') {v : V} (h : sliceV P t x lo' hi' mx' = some v) :
    ∃ r, (Instr.sliceAt t p (lo.map a.eval) (hi.map a.eval) (mx.map a.eval)).run P w = .ok r w ∧ Rel c v r := by
  unfold sliceV at h
  split at h
  · rename_i s
    split at h
    · rename_i ht
      have := hp.str_inv
      subst this
      have hmx := max_none hs em
      subst hmx
      exact sliceStr_sound hs ht el eh h
    · simp at h
  · split at h
    · rename_i e he
      split at h
      · rename_i n hl
        split at h
        · rename_i q1 q2 h1 h2
          have := hp.nils_inv
          subst this
          simp at h
          subst h
          have ht := elemT_spec he
          have hmx := max_none hs em
          subst hmx
          obtain ⟨e1, l1⟩ := toNatLe_spec h1
          obtain ⟨e2, l2⟩ := toNatLe_spec h2
          have z1 : q1 = 0 := by omega
          have z2 : q2 = 0 := by omega
          subst z1; subst z2
          obtain ⟨l1, l2, blo, bhi⟩ := bounds_spec hs el eh (rfl : optInt ρ none = some none) h1 h2
          have hbn : (Instr.sliceBounds true 0 0 (lo.map a.eval) (hi.map a.eval) none).run P w = .ok (0, 0, 0) w :=
            run_bounds blo (by rcases bhi with ⟨h1, h2, h3⟩ | ⟨h1, _⟩
                               · exact .inl ⟨h1, rfl, h3⟩
                               · exact .inr h1) (.inl ⟨rfl, rfl⟩) l1 (by omega) (Nat.le_refl _)
          obtain ⟨n, g⟩ := n
          exact ⟨_, run_sliceAt_sl (w := w) ht (layE_spec hl).2.1 (ad := none) hbn, .nils⟩
        · rename_i q1 q2 m0 h1 h2
          split at h
          · rename_i q3 q4 h3
            have := hp.nils_inv
            subst this
            simp at h
            subst h
            have ht := elemT_spec he
            obtain ⟨l3, hm⟩ := max_spec hs em h3
            obtain ⟨e1, l1⟩ := toNatLe_spec h1
            obtain ⟨e2, l2⟩ := toNatLe_spec h2
            have z1 : q1 = 0 := by omega
            have z2 : q2 = 0 := by omega
            have z3 : q3 = 0 := by omega
            subst z1; subst z2; subst z3
            obtain ⟨l1, l2, blo, bhi⟩ := bounds_spec hs el eh em h1 h2
            have hbn : (Instr.sliceBounds true 0 0 (lo.map a.eval) (hi.map a.eval) (mx.map a.eval)).run P w = .ok (0, 0, 0) w :=
              run_bounds blo (by rcases bhi with ⟨h1, h2, h3⟩ | ⟨h1, _⟩
                                 · simp at h2
                                 · exact .inr h1) (.inr hm) l1 (by omega) (Nat.le_refl _)
            obtain ⟨n, g⟩ := n
            exact ⟨_, run_sliceAt_sl (w := w) ht (layE_spec hl).2.1 (ad := none) hbn, .nils⟩
          · simp at h
        · simp at h
      · simp at h
    · simp at h
  · rename_i tok full sz l
    split at h
    · rename_i e he
      split at h
      · rename_i n g hl
        cases hb : Nat.beq n sz with
        | false => simp [hb] at h
        | true =>
          simp only [hb, cond_true] at h
          have : n = sz := by simpa using hb
          subst this
          exact sliceImm_sound hs (elemT_spec he) (layE_spec hl).2.1 el eh em hp h
      · simp at h
    · simp at h
  · rename_i r off len lim sz ag
    split at h
    · rename_i e he
      split at h
      · rename_i n g hl
        cases hb : Nat.beq n sz with
        | false => simp [hb] at h
        | true =>
          simp only [hb, cond_true] at h
          have : n = sz := by simpa using hb
          subst this
          exact sliceArr_sound hs (elemT_spec he) (layE_spec hl).2.1 el eh em hp h
      · simp at h
    · simp at h
  · simp at h
end
end Go.AM
end

section
namespace Go.AM
open Go
section
variable {P : Program} {C : Cfg} {c : Ctx} {ρ : Nat → V} {a : Act} {w : World}
theorem fieldOf_spec {t : TypeId} {i : Nat} {f : Field} (h : fieldOf P t i = some f) : ∃ fs, P.underlying t = some (.struct fs) ∧ fs[i]? = some f := by
 unfold fieldOf at h
 split at h
 ·exact ⟨_, by assumption, h⟩
 ·simp at h
theorem run_fieldPlace {f : Field} {n : Nat} (hz : (P.info? f.type).map (·.size) = some n) (h0 : 0 < n) (ad : Addr) : (fieldPlace ad f).run P w = .ok (ad.add f.offset) w := by
 unfold fieldPlace
 rw [Sem.run_bind, run_sizeOf' hz, Result.andThen_ok]
 rw [if_neg (by omega)]; rfl
theorem setAt_spec {cs vs cs' : List V} {off : Nat} (h : setAt cs off vs = some cs') : off + vs.length ≤ cs.length ∧ cs' = cs.take off ++ vs ++ cs.drop (off + vs.length) := by
 unfold setAt at h
 cases hb : Nat.ble (off + vs.length) cs.length with
 | false => simp [hb] at h
 | true => simp only [hb, cond_true, Option.some.injEq] at h; exact ⟨by simpa using hb, h.symm⟩
theorem mapM_total {α β : Type} {f : α → Option β} : ∀ {l : List α}, (∀ x ∈ l, ∃ y, f x = some y) → ∃ r, l.mapM f = some r
 | [], _ => ⟨[], rfl⟩
 | a :: as, h => by
  obtain ⟨b, hb⟩ := h a (.head _)
  obtain ⟨r, hr⟩ := mapM_total (l := as) (fun x hx => h x (.tail _ hx))
  exact ⟨b :: r, by rw [List.mapM_cons, hb, hr]; rfl⟩
def lay (cs : List Value) (off : Nat) (vs : List Value) : List Value := cs.take off ++ vs ++ cs.drop (off + vs.length)
theorem RelL.lay [Laid] {cs vs cs' : List V} {xs ys : List Value} {off : Nat} (h : setAt cs off vs = some cs') (hx : RelL c cs xs) (hy : RelL c vs ys) : RelL c cs' (lay xs off ys) := by
 obtain ⟨_, rfl⟩ := setAt_spec h
 unfold AM.lay
 rw [hy.1]
 exact ((hx.take _).append hy).append (hx.drop _)
theorem lay_length {cs vs : List Value} {off : Nat} (h : off + vs.length ≤ cs.length) : (lay cs off vs).length = cs.length := by
 unfold lay; simp; omega
theorem foldl_lay (off : Nat) : ∀ (vs : List Value) (k : Nat) (cs : Array Value), off + k + vs.length ≤ cs.size →
  ((vs.zipIdx k).foldl (fun (cs : Array Value) (p : Value × Nat) => cs.setIfInBounds (off + p.2) p.1) cs).toList = lay cs.toList (off + k) vs
 | [], k, cs, _ => by simp [lay]
 | v :: vs, k, cs, h => by
  simp only [List.zipIdx_cons, List.foldl_cons]
  rw [foldl_lay off vs (k + 1) _ (by simp at h ⊢; omega)]
  simp only [List.length_cons] at h
  have hk : off + k < cs.toList.length := by simp; omega
  unfold lay
  simp only [Array.toList_setIfInBounds]
  rw [show off + (k + 1) = off + k + 1 by omega, List.length_cons, List.take_set, List.drop_set, if_pos (by omega)]
  rw [show off + k + (vs.length + 1) = off + k + 1 + vs.length by omega]
  rw [List.take_add_one, List.getElem?_eq_getElem hk]
  simp only [Option.toList_some]
  have hset : (List.take (off + k) cs.toList ++ [cs.toList[off + k]]).set (off + k) v = List.take (off + k) cs.toList ++ [v] := by
   rw [List.set_append_right _ _ (by simp at hk ⊢; omega)]
   have : (List.take (off + k) cs.toList).length = off + k := by simp at hk ⊢; omega
   rw [this, Nat.sub_self]; rfl
  rw [hset]
  simp
theorem fill_cons (place : Nat → Option (Nat × Nat)) (cells : Array Value) (i off size : Nat) (v : Value) (rest : List (Nat × Value)) (hp : place i = some (off, size)) (hs : v.cells.size = size) (hl : off + size ≤ cells.size) :
  Instr.fill place cells ((i, v) :: rest) = Instr.fill place (lay cells.toList off v.cells.toList).toArray rest := by
 simp only [Instr.fill, hp]
 rw [if_neg (by simp; omega)]
 congr 1
 apply Array.toList_inj.1
 rw [← Array.foldl_toList, Array.toList_zipIdx]
 have := foldl_lay off v.cells.toList 0 cells (by simp; omega)
 simpa using this
theorem Rel.weak [Laid] {v : V} {x : Value} (h : Rel c v x) : Rel c v.weak x := by
 cases h with
 | slice tok full sz l b off cap xs hsz hl hs hr hn hc hf ht => exact .slice none full sz l b off cap xs hsz hl hs hr hn hc hf (fun r h => by simp at h)
 | _ => constructor <;> assumption
theorem Rel.weakA [Laid] {v : V} {x : Value} (h : Rel c v x) : Rel c v.weakA x := by
 cases h with
 | agg cs xs hl hr =>
  refine .agg _ _ (by simpa using hl) (fun i v x a b => ?_)
  simp only [List.getElem?_map, Option.map_eq_some_iff] at a
  obtain ⟨u, hu, rfl⟩ := a
  exact (hr i u x hu b).weak
 | slice tok full sz l b off cap xs hsz hl hs hr hn hc hf ht => exact .slice none full sz l b off cap xs hsz hl hs hr hn hc hf (fun r h => by simp at h)
 | _ => constructor <;> assumption
theorem Rel.weak1 [Laid] {v : V} {x : Value} (h : Rel c v x) : Rel c v.weak1 x := by
 have hw := h.weak
 cases v with
 | slice tok f sz l =>
  cases tok with
  | none => exact h
  | some r => cases r with
   | loc s g => exact hw
   | glob r => exact h
 | _ => exact h
theorem Rel.weakB [Laid] {v : V} {x : Value} (h : Rel c v x) : Rel c v.weakB x := by
 have hw := h.weak1
 cases v with
 | agg cs =>
  cases h with
  | agg cs xs hl hr =>
   refine .agg _ _ (by simpa using hl) (fun i v x a b => ?_)
   simp only [List.getElem?_map, Option.map_eq_some_iff] at a
   obtain ⟨u, hu, rfl⟩ := a
   exact (hr i u x hu b).weak1
 | _ => exact hw
theorem live_of_plain {v : V} (h : v.plain = true) : v.live = true := by cases v <;> simp [V.plain, V.live] at h ⊢
theorem fillP_sound [Laid] (hs : Slots c ρ a) {t : TypeId} {fs : Array Field} (ht : P.underlying t = some (.struct fs)) {places : List (Nat × Nat)}
  (hp : fs.toList.mapM (fun f => (P.info? f.type).map fun i => (f.offset, i.size)) = some places) :
  ∀ (ps : List (Nat × Operand)) (cs cs' : List V) (cells : Array Value), fillP P t ρ ps cs = some cs' → RelL c cs cells.toList →
   ∃ cells', Instr.fill (places.toArray[·]?) cells (ps.map fun (i, x) => (i, a.eval x)) = some cells' ∧ RelL c cs' cells'.toList
 | [], cs, cs', cells, h, hr => by
  simp [fillP] at h
  subst h
  exact ⟨cells, rfl, hr⟩
 | (i, x) :: ps, cs, cs', cells, h, hr => by
  simp only [fillP] at h
  cases hf : fieldOf P t i with
  | none => simp [hf] at h
  | some f =>
   simp only [hf] at h
   generalize hb : ((opd ρ x).weakB.plain && (bif Nat.beq (opd ρ x).weakB.cells.length ((szOf P f.type).getD 0) then true else false)) = b at h
   cases b with
   | false => simp at h
   | true =>
    simp only [cond_true] at h
    simp only [Bool.and_eq_true] at hb
    obtain ⟨hb1, hb2⟩ := hb
    cases hset : setAt cs f.offset (opd ρ x).weakB.cells with
    | none => simp [hset] at h
    | some cs1 =>
     simp only [hset] at h
     obtain ⟨fs', ht', hi⟩ := fieldOf_spec hf
     rw [ht] at ht'
     obtain rfl : fs = fs' := by simpa using ht'
     have hrel : Rel c (opd ρ x).weakB (a.eval x) := (opd_rel hs x).weakB
     have hcells := hrel.cells (live_of_plain hb1)
     have hinfo : ∃ it, P.info? f.type = some it ∧ places[i]? = some (f.offset, it.size) := by
      have := mapM_some_get hp i f (by simpa using hi)
      cases hq : P.info? f.type with
      | none =>
       exfalso
       simp [hq] at this
       have hlen := mapM_some_length hp
       rcases Nat.lt_or_ge i fs.size with h' | h'
       ·simp at hlen; omega
       ·simp [Array.getElem?_eq_none h'] at hi
      | some it => simp [hq] at this; exact ⟨it, rfl, this.symm⟩
     obtain ⟨it, hit, hpl⟩ := hinfo
     have hsz : (a.eval x).cells.size = it.size := by
      have h1 := hcells.1
      have h2 : (opd ρ x).weakB.cells.length = it.size := by
       have h3 : szOf P f.type = some it.size := by simp [szOf, hit]
       rw [h3] at hb2
       simpa using hb2
      simp at h1; omega
     have hle := (setAt_spec hset).1
     have hfit : f.offset + it.size ≤ cells.size := by
      have h1 := hr.1; have h2 := hcells.1
      simp at h1 h2; omega
     obtain ⟨cells', hfill, hr'⟩ := fillP_sound hs ht hp ps cs1 cs' (lay cells.toList f.offset (a.eval x).cells.toList).toArray h (by simpa using RelL.lay hset hr hcells)
     refine ⟨cells', ?_, hr'⟩
     simp only [List.map_cons]
     rw [fill_cons _ _ i f.offset it.size _ _ (by simpa using hpl) hsz hfit]
     exact hfill
theorem build_sound [Laid] (hs : Slots c ρ a) {t : TypeId} {ps : Array (Nat × Operand)} {fs : Array Field} (ht : P.underlying t = some (.struct fs)) {z : V} (hz : zeroV P t = some z) (hl : z.live = true)
  (hall : fs.all (fun f => (P.info? f.type).isSome) = true) {cs : List V} (h : fillP P t ρ ps.toList z.cells = some cs) :
  ∃ x, (Instr.build t (ps.map fun (i, x) => (i, a.eval x))).run P w = .ok x w ∧ Rel c (.agg cs) x := by
 unfold zeroV at hz
 cases hit : P.info? t with
 | none => simp [hit] at hz
 | some it =>
  simp only [hit] at hz
  cases hzz : it.zero with
  | none => simp [hzz] at hz
  | some zz =>
   simp [hzz] at hz
   subst hz
   have hrz := (absV_rel c zz).cells hl
   obtain ⟨places, hp⟩ : ∃ places, fs.toList.mapM (fun f => (P.info? f.type).map fun i => (f.offset, i.size)) = some places := by
    refine mapM_total (fun f hf => ?_)
    have := Array.all_eq_true_iff_forall_mem.1 hall f (by simpa using hf)
    obtain ⟨i, hi⟩ := Option.isSome_iff_exists.1 this
    exact ⟨_, by rw [hi]; rfl⟩
   obtain ⟨cells', hfill, hr'⟩ := fillP_sound hs ht hp ps.toList _ cs zz.cells h hrz
   refine ⟨.agg cells', run_build w t _ cells' ?_, ?_⟩
   ·unfold Program.built
    simp only [hit, ht, hzz, hp]
    simpa using hfill
   ·have := Rel.mk_agg hr'
    simpa using this
end
end Go.AM
end

section
namespace Go.AM
open Go
section
variable {P : Program} {C : Cfg} {c : Ctx} {ρ : Nat → V} {a : Act} {w : World}
def isBuildSlice : Op → Bool
 | .buildSlice .. => true
 | _ => false
theorem rels_map [Laid] (hs : Slots c ρ a) (l : List Operand) : RelL c (l.map (opd ρ)) (l.map a.eval) := by
 induction l with
 | nil => exact RelL.nil c
 | cons x l ih => exact RelL.cons (opd_rel hs x) ih
theorem indexAddr_sound [Laid] (hs : Slots c ρ a) {t : TypeId} {x i : Operand} {k : IntKind} {n : Int} (hi : opd ρ i = .int k n) {v : V} (h : indexAddrV P t (opd ρ x) n = some v) :
  ∃ r, (Instr.indexAt t (a.eval x) (a.eval i)).run P w = .ok r w ∧ Rel c v r := by
 unfold indexAddrV at h
 split at h
 ·simp at h
 ·rename_i e he
  have ht := elemT_spec he
  split at h
  ·simp at h
  ·rename_i m g hl
   obtain ⟨h0, hz, _⟩ := layE_spec hl
   have hx := opd_rel hs x
   rw [opd_int hs hi]
   split at h
   ·rename_i tok full sz l hv
    rw [hv] at hx
    obtain ⟨b, off, cap, xs, hp, hsz, hr, hsh, hn, hc, hf, htok⟩ := hx.slice_inv
    rw [hp]
    cases hb : Nat.beq m sz with
    | false => simp [hb] at h
    | true =>
     have : m = sz := by simpa using hb
     subst this
     simp only [hb, cond_true] at h
     split at h
     ·simp at h
     ·rename_i q hq
      obtain ⟨e1, l1⟩ := toNatLt_spec hq
      subst e1
      split at h
      ·rename_i u hu
       simp at h
       subst h
       refine ⟨.pointer (some ⟨b, off + q * m, none⟩), ?_, ?_⟩
       ·have hc2 : (0 : Int) ≤ q ∧ (q : Int) < l.length := ⟨by omega, by omega⟩
        simp [Instr.indexAt, asIntOf, run_underlying ht, hc2, run_sizeOf' hz, l1, Addr.add_mid]
       ·have hfg := flat_get hsz hu
        have hd := (hr.drop (q * m)).take m
        rw [hfg] at hd
        refine .iptr _ _ _ _ hd.1 (fun j y hy => ?_) hd.2
        rw [List.getElem?_take] at hy
        split at hy
        ·rw [List.getElem?_drop] at hy
         have := hsh _ _ hy
         rwa [show off + q * m + j = off + (q * m + j) by omega]
        ·simp at hy
      ·simp at h
   ·rename_i r off len lim sz ag hv
    rw [hv] at hx
    obtain ⟨b, cap, nn, hp, hb', hc, he', hz', hk, hu⟩ := hx.arr_inv
    rw [hp]
    cases hb : Nat.beq m sz with
    | false => simp [hb] at h
    | true =>
     have : m = sz := by simpa using hb
     subst this
     simp only [hb, cond_true] at h
     split at h
     ·simp at h
     ·rename_i q hq
      obtain ⟨e1, l1⟩ := toNatLt_spec hq
      subst e1
      simp at h
      subst h
      refine ⟨.pointer (some ⟨b, off + q * m, none⟩), ?_, .ptr _ _ _ hb'⟩
      have hc2 : (0 : Int) ≤ q ∧ (q : Int) < len := ⟨by omega, by omega⟩
      simp [Instr.indexAt, asIntOf, run_underlying ht, hc2, run_sizeOf' hz, l1, Addr.add_mid]
   ·simp at h
theorem len_sound [Laid] (hs : Slots c ρ a) {o : Oper} {cl : Call} {x : Operand} (ho : o.op = .call cl) (hc : cl.callee = .builtin .len) (ha : cl.args.toList = [x]) {t : TypeId} (ht : cl.argTypes[0]? = some t)
  {r : Value} (hr : (Builtin.len_ cl.argTypes o.type #[a.eval x]).run P w = .ok r w) : (execOp a.eval o).run P w = .ok (.value r) w := by
 have harr : cl.args = #[x] := by rw [← Array.toList_inj, ha]
 simp [execOp, ho, resolve, hc, invoke, builtin, harr, hr]
theorem pure_sound [Laid] (hs : Slots c ρ a) {o : Oper} (hb : isBuildSlice o.op = false) {v : V} (h : pureV P C ρ o.op = some v) : Gives P c (execOp a.eval o) w v := by
 unfold pureV at h
 unfold Gives
 cases ho : o.op with
 | move x => simp [ho] at h; subst h; exact ⟨_, by simp only [execOp, ho]; rfl, opd_rel hs x⟩
 | assign x => simp [ho] at h; subst h; exact ⟨_, by simp only [execOp, ho]; rfl, opd_rel hs x⟩
 | pick cc x y =>
  simp only [ho] at h
  split at h
  ·rename_i hc; simp at h; subst h; exact ⟨_, by simp only [execOp, ho, opd_bool hs hc]; rfl, opd_rel hs x⟩
  ·rename_i hc; simp at h; subst h; exact ⟨_, by simp only [execOp, ho, opd_bool hs hc]; rfl, opd_rel hs y⟩
  ·simp at h
 | nilCheck x =>
  simp only [ho] at h
  have hx := opd_rel hs x
  split at h
  ·rename_i r off hc
   rw [hc] at hx
   obtain ⟨b, hp, hb⟩ := hx.ptr_inv
   simp at h; subst h
   exact ⟨_, by simp only [execOp, ho, hp]; rfl, .ptr _ _ _ hb⟩
  ·rename_i cs hc
   rw [hc] at hx
   obtain ⟨b, off, xs, hp, hr, hsh⟩ := hx.iptr_inv
   simp at h; subst h
   exact ⟨_, by simp only [execOp, ho, hp]; rfl, .iptr _ _ _ _ hr.1 hsh hr.2⟩
  ·simp at h
 | binOp op t x y yt =>
  simp only [ho] at h
  cases hbv : binV op (opd ρ x) (opd ρ y) with
  | some u =>
   simp [hbv] at h
   subst h
   obtain ⟨r, hr, hrel⟩ := binV_sound (P := P) (w := w) (t := t) (X := x) (Y := y) hbv (opd_rel hs x) (opd_rel hs y)
   exact ⟨r, by simp only [execOp, ho]; rw [Sem.run_bind, hr]; rfl, hrel⟩
  | none =>
   simp [hbv] at h
   cases he : eqV op (P.underlying t) (isConst x || isConst y) (opd ρ x) (opd ρ y) with
   | some u =>
    rw [he] at h
    obtain rfl := Option.some.inj (show some u = some v from h)
    obtain ⟨r, hr, hrel⟩ := eqV_sound (P := P) (w := w) (t := t) (X := x) (Y := y) he (opd_rel hs x) (opd_rel hs y)
    exact ⟨r, by simp only [execOp, ho]; rw [Sem.run_bind, hr]; rfl, hrel⟩
   | none =>
    rw [he] at h
    obtain ⟨r, hr, hrel⟩ := eqA_sound (P := P) (w := w) (t := t) (X := x) (Y := y) (show eqA P op t (opd ρ x) (opd ρ y) = some v from h) (opd_rel hs x) (opd_rel hs y)
    exact ⟨r, by simp only [execOp, ho]; rw [Sem.run_bind, hr]; rfl, hrel⟩
 | unOp op t x =>
  simp only [ho] at h
  obtain ⟨r, hr, hrel⟩ := unV_sound (P := P) (w := w) h (opd_rel hs x)
  exact ⟨r, by simp only [execOp, ho]; rw [Sem.run_bind, hr]; rfl, hrel⟩
 | convert s d x =>
  simp only [ho] at h
  obtain ⟨r, hr, hrel⟩ := convV_sound (P := P) (w := w) h (opd_rel hs x)
  exact ⟨r, by simp only [execOp, ho]; rw [Sem.run_bind, hr]; rfl, hrel⟩
 | slice t x lo hi mx =>
  simp only [ho] at h
  split at h
  ·rename_i lo' hi' mx' el eh em
   obtain ⟨r, hr, hrel⟩ := sliceV_sound (P := P) (w := w) hs (opd_rel hs x) el eh em h
   exact ⟨r, by simp only [execOp, ho]; rw [Sem.run_bind, hr]; rfl, hrel⟩
  ·simp at h
 | fieldAddr t x i =>
  simp only [ho] at h
  split at h
  ·simp at h
  ·rename_i f hf
   split at h
   ·simp at h
   ·rename_i n hl
    obtain ⟨n, g⟩ := n
    obtain ⟨fs, ht, hfi⟩ := fieldOf_spec hf
    obtain ⟨h0, hz, _⟩ := layE_spec hl
    have hx := opd_rel hs x
    split at h
    ·rename_i r off hc
     rw [hc] at hx
     obtain ⟨b, hp, hb⟩ := hx.ptr_inv
     simp at h; subst h
     refine ⟨.pointer (some ⟨b, off + f.offset, none⟩), ?_, .ptr _ _ _ hb⟩
     simp [execOp, ho, hp, Instr.fieldAt, run_underlying ht, hfi, Instr.sureAddr, run_fieldPlace hz h0, Addr.add_mid]
    ·rename_i cs hc
     rw [hc] at hx
     obtain ⟨b, off, xs, hp, hr, hsh⟩ := hx.iptr_inv
     simp at h; subst h
     refine ⟨.pointer (some ⟨b, off + f.offset, none⟩), ?_, ?_⟩
     ·simp [execOp, ho, hp, Instr.fieldAt, run_underlying ht, hfi, Instr.sureAddr, run_fieldPlace hz h0, Addr.add_mid]
     ·have hd := hr.drop f.offset
      refine .iptr _ _ _ _ hd.1 (fun j y hy => ?_) hd.2
      rw [List.getElem?_drop] at hy
      have := hsh _ _ hy
      rwa [show off + f.offset + j = off + (f.offset + j) by omega]
    ·simp at h
 | field t x i =>
  simp only [ho] at h
  split at h
  ·rename_i f cs hf hc
   obtain ⟨fs, ht, hfi⟩ := fieldOf_spec hf
   have hx := opd_rel hs x
   rw [hc] at hx
   obtain ⟨xs, hp, hr⟩ := hx.agg_inv
   obtain ⟨r, hrun, hrel⟩ := part_sound (P := P) (w := w) h hr
   refine ⟨r, ?_, hrel⟩
   simp [execOp, ho, hp, Instr.field, run_underlying ht, hfi, asAgg, hrun]
  ·simp at h
 | indexAddr t x i =>
  simp only [ho] at h
  split at h
  ·rename_i k n hi
   obtain ⟨r, hr, hrel⟩ := indexAddr_sound (P := P) (w := w) hs hi h
   exact ⟨r, by simp only [execOp, ho]; rw [Sem.run_bind, hr]; rfl, hrel⟩
  ·simp at h
 | index t x i =>
  simp only [ho] at h
  split at h
  ·rename_i s k n hx hi ht
   split at h
   ·simp at h
   ·rename_i q hq
    obtain ⟨e1, l1⟩ := toNatLt_spec hq
    subst e1
    ·obtain ⟨b, hb, hbe⟩ := s.get_spec l1
     simp at h; subst h
     refine ⟨.int .u8 b.toNat, ?_, by rw [hbe]; exact .int _ _⟩
     have hb' : s.bytes[q]? = some b := by
      have h2 : s.bytes.data[q]? = some b := by rw [← Array.getElem?_toList]; exact hb
      simp only [getElem?_def] at h2 ⊢
      split at h2
      ·rename_i hlt
       rw [dif_pos (by exact hlt)]
       exact h2
      ·simp at h2
     simp [execOp, ho, opd_str hs hx, opd_int hs hi, Instr.index, asIntOf, run_underlying ht, hb']
  ·simp at h
 | extract x i =>
  simp only [ho] at h
  split at h
  ·rename_i vs hc
   have hx := opd_rel hs x
   rw [hc] at hx
   obtain ⟨xs, hp, hr⟩ := hx.tuple_inv
   obtain ⟨y, hy, hrel⟩ := hr.get h
   exact ⟨y, by simp [execOp, ho, hp, Instr.extract, hy], hrel⟩
  ·simp at h
 | makeFunc f x y =>
  simp [ho] at h
  subst h
  have h1 := rels_map hs x.toList
  have h2 := rels_map hs y.toList
  refine ⟨.func f (x.map a.eval) (y.map a.eval), by simp only [execOp, ho]; rfl, .fn _ _ _ _ _ (by simp) (by simp) (fun i v x' p q => ?_) (fun i v x' p q => ?_)⟩
  ·exact h1.2 i v x' p (by rw [← q]; simp)
  ·exact h2.2 i v x' p (by rw [← q]; simp)
 | makeInterface t x =>
  simp only [ho] at h
  split at h
  ·simp at h
  ·rename_i d hd1 hd2
   simp at h; subst h
   refine ⟨.iface t (a.eval x), ?_, .iface _ _ _ (opd_rel hs x)⟩
   cases d <;> first | exact absurd rfl (hd1 _) | simp [execOp, ho, Instr.makeInterface, run_underlying hd2]
  ·simp at h
 | build t ps =>
  simp only [ho] at h
  split at h
  ·rename_i fs z ht hz
   generalize hg : (z.live && fs.all (fun f => (P.info? f.type).isSome)) = b at h
   cases b with
   | false => simp at h
   | true =>
    simp only [cond_true] at h
    simp only [Bool.and_eq_true] at hg
    cases hf : fillP P t ρ ps.toList z.cells with
    | none => simp [hf] at h
    | some cs =>
     simp [hf] at h; subst h
     obtain ⟨r, hr, hrel⟩ := build_sound (P := P) (w := w) hs ht hz hg.1 hg.2 hf
     exact ⟨r, by simp only [execOp, ho]; rw [Sem.run_bind, hr]; rfl, hrel⟩
  ·simp at h
 | buildSlice t len ps => simp [ho, isBuildSlice] at hb
 | call cl =>
  simp only [ho] at h
  split at h
  ·rename_i x hc ha
   split at h
   ·simp at h
   ·rename_i t ht
    have hx := opd_rel hs x
    split at h
    ·rename_i e hv hu
     rw [hv] at hx
     have := hx.nils_inv
     simp at h; subst h
     refine ⟨_, len_sound hs ho hc ha ht (r := .int .i64 0) ?_, .int _ _⟩
     simp [Builtin.len_, ht, this, run_underlying hu, goInt]
    ·rename_i tok full sz l e hv hu
     rw [hv] at hx
     obtain ⟨b, off, cap, xs, hp, _⟩ := hx.slice_inv
     simp at h; subst h
     refine ⟨_, len_sound hs ho hc ha ht (r := .int .i64 l.length) ?_, .int _ _⟩
     simp [Builtin.len_, ht, hp, run_underlying hu, goInt]
    ·rename_i r off n lim sz ag e hv hu
     rw [hv] at hx
     obtain ⟨b, cap, nn, hp, _⟩ := hx.arr_inv
     simp at h; subst h
     refine ⟨_, len_sound hs ho hc ha ht (r := .int .i64 n) ?_, .int _ _⟩
     simp [Builtin.len_, ht, hp, run_underlying hu, goInt]
    ·rename_i s hv hu
     rw [hv] at hx
     have := hx.str_inv
     simp at h; subst h
     refine ⟨_, len_sound hs ho hc ha ht (r := .int .i64 s.n) ?_, .int _ _⟩
     simp [Builtin.len_, ht, this, run_underlying hu, goInt, s.bytes_size]
    ·simp at h
  ·rename_i x y hc ha
   have harr : cl.args = #[x, y] := by rw [← Array.toList_inj, ha]
   split at h
   ·rename_i k m k' n hx hy
    simp at h; subst h
    refine ⟨.int k (if n < m then n else m), ?_, .int _ _⟩
    simp [execOp, ho, resolve, hc, invoke, builtin, harr, Builtin.min_, opd_int hs hx, opd_int hs hy, Builtin.min2]
   ·simp at h
  ·rename_i x y hc ha
   have harr : cl.args = #[x, y] := by rw [← Array.toList_inj, ha]
   split at h
   ·rename_i k m k' n hx hy
    simp at h; subst h
    refine ⟨.int k (if n > m then n else m), ?_, .int _ _⟩
    simp [execOp, ho, resolve, hc, invoke, builtin, harr, Builtin.max_, opd_int hs hx, opd_int hs hy, Builtin.max2]
   ·simp at h
  ·simp at h
 | _ => simp [ho] at h
end
end Go.AM
end

section
namespace Go.AM
open Go
section
variable {st st' : St}
theorem lc_setLoc (s : Nat) (p : Nat × Row) (j : Nat) : ({ st with loc := aset st.loc s p } : St).lc j = if s = j then p else st.lc j := aget_aset _ _ _ _ _
theorem getRow_loc (s g : Nat) : getRow st (.loc s g) = if (st.lc s).1 = g then some (st.lc s).2 else none := by
  simp only [getRow]
  cases h : Nat.beq (st.lc s).1 g with
  | true => have : (st.lc s).1 = g := by simpa using h
            simp [this]
  | false => have : (st.lc s).1 ≠ g := by intro e; rw [e] at h; simp at h
             simp [this]
theorem getRow_set_same {r : Ref} {old row : Row} (h : getRow st r = some old) : getRow (setRow st r row) r = some row := by
 cases r with
 | loc s g => simp only [setRow]; rw [getRow_loc, lc_setLoc]; simp
 | glob r =>
  simp only [getRow, setRow] at h ⊢
  rw [List.getElem?_set]
  have : r < st.hp.rows.length := by
   rcases Nat.lt_or_ge r st.hp.rows.length with h' | h'
   ·exact h'
   ·simp [h'] at h
  simp [this]
theorem getRow_set_ne {r r' : Ref} {old row : Row} (h : getRow st r = some old) (hne : r' ≠ r) : getRow (setRow st r row) r' = getRow st r' := by
 cases r with
 | loc s g =>
  rw [getRow_loc] at h
  have hg : (st.lc s).1 = g := by
   by_cases e : (st.lc s).1 = g
   ·exact e
   ·simp [e] at h
  cases r' with
  | loc s' g' =>
   simp only [setRow]
   rw [getRow_loc, getRow_loc, lc_setLoc]
   by_cases e : s = s'
   ·subst e
    simp only [if_true]
    have : g ≠ g' := by intro e; subst e; exact hne rfl
    rw [if_neg this, if_neg (by rw [hg]; exact this)]
   ·simp [e]
  | glob r' => rfl
 | glob r =>
  cases r' with
  | loc s' g' => rfl
  | glob r' =>
   simp only [getRow, setRow]
   rw [List.getElem?_set, if_neg (by intro e; subst e; exact hne rfl)]
theorem set_lc {r : Ref} {old row : Row} (h : getRow st r = some old) (s : Nat) : ((setRow st r row).lc s).1 = (st.lc s).1 := by
 cases r with
 | loc s' g =>
  simp only [setRow]
  rw [lc_setLoc]
  split
  ·rename_i e; subst e
   rw [getRow_loc] at h
   by_cases e : (st.lc s').1 = g
   ·exact e.symm
   ·simp [e] at h
  ·rfl
 | glob r => rfl
theorem set_len (r : Ref) (row : Row) : (setRow st r row).hp.rows.length = st.hp.rows.length := by
 cases r <;> simp [setRow]
theorem getRow_new {gl : Bool} {site : Nat} {row : Row} : getRow (addRow st gl site row).2 (addRow st gl site row).1 = some row := by
 cases gl with
 | true => simp [addRow, getRow]
 | false => simp only [addRow, cond_false]; rw [getRow_loc, lc_setLoc]; simp
theorem getRow_new_ne {gl : Bool} {site : Nat} {row row' : Row} {r : Ref} (h : getRow (addRow st gl site row).2 r = some row') (hne : r ≠ (addRow st gl site row).1) : getRow st r = some row' := by
 cases gl with
 | true =>
  cases r with
  | loc s g => exact h
  | glob r =>
   simp only [addRow, cond_true, getRow] at h hne ⊢
   rw [List.getElem?_append] at h
   split at h
   ·exact h
   ·rename_i hlt
    have : r - st.hp.rows.length = 0 ∨ 0 < r - st.hp.rows.length := by omega
    rcases this with e | e
    ·exact absurd (by congr 1; omega) hne
    ·rw [List.getElem?_eq_none (by simp; omega)] at h; simp at h
 | false =>
  cases r with
  | loc s g =>
   simp only [addRow, cond_false] at h hne
   rw [getRow_loc, lc_setLoc] at h
   by_cases e : site = s
   ·subst e
    simp only [if_true] at h
    by_cases e2 : (st.lc site).1 + 1 = g
    ·subst e2; exact absurd rfl hne
    ·simp [e2] at h
   ·simp only [e, if_false] at h
    rw [getRow_loc]; exact h
  | glob r => exact h
theorem new_fresh [Laid] {gl : Bool} {site : Nat} {row : Row} {c : Ctx} {w : World} (h : WRel c st w) : c.blk (addRow st gl site row).1 = none := by
 cases gl with
 | true => exact h.glb _ (Nat.le_refl _)
 | false => exact h.lcb _ _ (by simp)
theorem new_len {gl : Bool} {site : Nat} {row : Row} {i : Nat} (h : (addRow st gl site row).2.hp.rows.length ≤ i) : (addRow st gl site row).1 ≠ .glob i ∧ st.hp.rows.length ≤ i := by
 cases gl with
 | true => simp [addRow] at h ⊢; omega
 | false => simp [addRow] at h ⊢; omega
theorem new_gen {gl : Bool} {site : Nat} {row : Row} {s g : Nat} (h : ((addRow st gl site row).2.lc s).1 < g) : (addRow st gl site row).1 ≠ .loc s g ∧ (st.lc s).1 < g := by
 cases gl with
 | true => simp only [addRow, cond_true] at h ⊢; exact ⟨by simp, h⟩
 | false =>
  simp only [addRow, cond_false] at h ⊢
  rw [lc_setLoc] at h
  by_cases e : site = s
  ·subst e; simp only [if_true] at h
   refine ⟨fun e => ?_, by omega⟩
   injection e with e1 e2; omega
  ·simp only [e, if_false] at h
   exact ⟨fun e' => by injection e' with e1 e2; exact e e1, h⟩
end
section
variable {P : Program} {c c' : Ctx} {st st' : St} {w w' : World}
theorem RowOk.keep [Laid] {r : Ref} {row : Row} (h : RowOk c w r row) (hle : c.le c')
  (hk : ∀ b, c.blk r = some b → w'.heap[b]? = w.heap[b]? ∧ ∀ o, c'.shut b o = c.shut b o) : RowOk c' w' r row := by
 cases row with
 | gone => trivial
 | cells frz cs =>
  obtain ⟨b, xs, e, fz, h1, h2, h3, h4, h5, h6, h7, h8⟩ := h
  obtain ⟨k1, k2⟩ := hk b h1
  exact ⟨b, xs, e, fz, hle.blk h1, by rw [k1]; exact h2, h3, hle.ext _ _ h4, h5, h6.mono hle, fun hf o => by rw [k2]; exact h7 hf o, fun hf o x hx => by rw [k2]; exact h8 hf o x hx⟩
 | tok =>
  obtain ⟨b, xs, e, fz, n, h1, h2, h3, h4, h5, h6, h7⟩ := h
  obtain ⟨k1, k2⟩ := hk b h1
  exact ⟨b, xs, e, fz, n, hle.blk h1, by rw [k1]; exact h2, h3, hle.ext _ _ h4, hle.text _ _ h5, h6, fun o ho => by rw [k2]; exact h7 o ho⟩
 | iter s pos =>
  obtain ⟨b, h1, h2⟩ := h
  exact ⟨b, hle.blk h1, by rw [(hk b h1).1]; exact h2⟩
 | mp ks vs =>
  obtain ⟨b, es, clk, h1, h2, h0, h3, h4, h5, h6⟩ := h
  exact ⟨b, es, clk, hle.blk h1, by rw [(hk b h1).1]; exact h2, h0, h3.mono hle, h4.mono hle, h5, h6⟩
theorem RowOk.blk [Laid] {r : Ref} {row : Row} (h : RowOk c w r row) (hne : row ≠ .gone) : ∃ b, c.blk r = some b := by
 cases row with
 | gone => exact absurd rfl hne
 | cells frz cs => obtain ⟨b, xs, e, fz, h1, _⟩ := h; exact ⟨b, h1⟩
 | tok => obtain ⟨b, xs, e, fz, n, h1, _⟩ := h; exact ⟨b, h1⟩
 | iter s pos => obtain ⟨b, h1, h2⟩ := h; exact ⟨b, h1⟩
 | mp ks vs => obtain ⟨b, es, clk, h1, h2⟩ := h; exact ⟨b, h1⟩
theorem cell_of_heap {b : Nat} {xs : Array Value} {e : TypeId} {fz : Nat × Nat} (h : w.heap[b]? = some (.cells xs e fz)) (o : Nat) : w.cell? ⟨b, o, none⟩ = xs[o]? := by
 simp [World.cell?, h]
theorem frozen_of_heap {b : Nat} {xs : Array Value} {e : TypeId} {fz : Nat × Nat} (h : w.heap[b]? = some (.cells xs e fz)) (hf : ∀ o, o < xs.size → ¬ (fz.1 ≤ o ∧ o < fz.2)) {o : Nat} (ho : o < xs.size) :
  w.frozen? ⟨b, o, none⟩ = false := by
 simp only [World.frozen?, h]
 have := hf o ho
 simp only [Bool.and_eq_false_iff, decide_eq_false_iff_not]
 by_cases h1 : fz.1 ≤ o
 ·exact .inr (fun h2 => this ⟨h1, h2⟩)
 ·exact .inl h1
def Ctx.bind (c : Ctx) (r : Ref) (b n : Nat) (tx : Option Nat) (sh : Nat → Option Value) : Ctx where
 gl := fun i => if r = .glob i then some b else c.gl i
 lc := fun s g => if r = .loc s g then some b else c.lc s g
 shut := fun i o => if i = b then (match c.shut b o with | some x => some x | none => sh o) else c.shut i o
 ext := fun i => if i = b then some n else c.ext i
 text := fun q => if q = r then tx else c.text q
theorem bind_blk (c : Ctx) (r : Ref) (b n : Nat) (tx : Option Nat) (sh : Nat → Option Value) (q : Ref) : (c.bind r b n tx sh).blk q = if r = q then some b else c.blk q := by
 cases q <;> rfl
theorem bind_le {r : Ref} {b n : Nat} {tx : Option Nat} {sh : Nat → Option Value} (hf : c.blk r = none) (hx : c.text r = none) (he : ∀ m, c.ext b = some m → m = n) : c.le (c.bind r b n tx sh) := by
 refine ⟨fun i j h => ?_, fun s g j h => ?_, fun i o x h => ?_, fun i m h => ?_, fun q m h => ?_⟩
 ·simp only [Ctx.bind]
  rw [if_neg]
  ·exact h
  ·intro e; subst e; simp [Ctx.blk, h] at hf
 ·simp only [Ctx.bind]
  rw [if_neg]
  ·exact h
  ·intro e; subst e; simp [Ctx.blk, h] at hf
 ·simp only [Ctx.bind]
  split
  ·rename_i e; subst e; rw [h]
  ·exact h
 ·simp only [Ctx.bind]
  split
  ·rename_i e; subst e; rw [he m h]
  ·exact h
 ·simp only [Ctx.bind]
  rw [if_neg]
  ·exact h
  ·intro e; subst e; rw [h] at hx; simp at hx
theorem WRel.bindRow [Laid] (h : WRel c st w) {r : Ref} {row : Row} {b n : Nat} {tx : Option Nat} {sh : Nat → Option Value}
  (hfresh : c.blk r = none) (hext : ∀ m, c.ext b = some m → m = n)
  (hsub : ∀ r1 row1, getRow st' r1 = some row1 → row1 ≠ .gone → r1 = r ∨ (r1 ≠ r ∧ getRow st r1 = some row1 ∧ c.blk r1 ≠ some b))
  (hme : getRow st' r = some row) (hok : RowOk (c.bind r b n tx sh) w' r row)
  (hb : b < w'.heap.size) (hsize : w.heap.size ≤ w'.heap.size) (hheap : ∀ i, i ≠ b → i < w.heap.size → w'.heap[i]? = w.heap[i]?)
  (hshut : ∀ o x, (c.bind r b n tx sh).shut b o = some x → w'.cell? ⟨b, o, none⟩ = some x)
  (hglb : ∀ i, st'.hp.rows.length ≤ i → r ≠ .glob i ∧ st.hp.rows.length ≤ i) (hlcb : ∀ s g, (st'.lc s).1 < g → r ≠ .loc s g ∧ (st.lc s).1 < g) :
  WRel (c.bind r b n tx sh) st' w' := by
 have htx : c.text r = none := by
  cases hq : c.text r with
  | none => rfl
  | some m => obtain ⟨b', hb'⟩ := h.tlt r m hq; rw [hb'] at hfresh; simp at hfresh
 have hle := bind_le (tx := tx) (sh := sh) hfresh htx hext
 refine ⟨fun i o x hx => ?_, fun r1 row1 h1 => ?_, fun r1 r2 row1 row2 b' h1 h2 n1 n2 b1 b2 => ?_, fun i hi => ?_, fun s g hg => ?_, fun q j hq => ?_, fun q m hq => ?_, fun j m hq => ?_⟩
 ·by_cases e : i = b
  ·subst e; exact hshut o x hx
  ·have hx' : c.shut i o = some x := by simpa [Ctx.bind, e] using hx
   have := h.shut i o x hx'
   have hlt := h.shut_lt hx'
   rw [← this]
   simp only [World.cell?, hheap i e hlt]
 ·by_cases hg : row1 = .gone
  ·subst hg; trivial
  ·rcases hsub r1 row1 h1 hg with rfl | ⟨hne, hold, hnb⟩
   ·rw [hme] at h1; obtain rfl := Option.some.inj h1; exact hok
   ·refine (h.rows r1 row1 hold).keep hle (fun j hj => ?_)
    have hjb : j ≠ b := by intro e; subst e; exact hnb hj
    exact ⟨hheap j hjb (h.lt r1 j hj), fun o => by simp [Ctx.bind, hjb]⟩
 ·rw [bind_blk] at b1 b2
  rcases hsub r1 row1 h1 n1 with rfl | ⟨hne1, hold1, hnb1⟩
  ·rcases hsub r2 row2 h2 n2 with rfl | ⟨hne2, hold2, hnb2⟩
   ·rfl
   ·simp only [if_true] at b1
    rw [if_neg (Ne.symm hne2)] at b2
    obtain rfl := Option.some.inj b1
    exact absurd b2 hnb2
  ·rcases hsub r2 row2 h2 n2 with rfl | ⟨hne2, hold2, hnb2⟩
   ·simp only [if_true] at b2
    rw [if_neg (Ne.symm hne1)] at b1
    obtain rfl := Option.some.inj b2
    exact absurd b1 hnb1
   ·rw [if_neg (Ne.symm hne1)] at b1
    rw [if_neg (Ne.symm hne2)] at b2
    exact h.inj r1 r2 row1 row2 b' hold1 hold2 n1 n2 b1 b2
 ·obtain ⟨h1, h2⟩ := hglb i hi
  simp only [Ctx.bind, if_neg h1]
  exact h.glb i h2
 ·obtain ⟨h1, h2⟩ := hlcb s g hg
  simp only [Ctx.bind, if_neg h1]
  exact h.lcb s g h2
 ·rw [bind_blk] at hq
  split at hq
  ·obtain rfl := Option.some.inj hq; exact hb
  ·exact Nat.lt_of_lt_of_le (h.lt q j hq) hsize
 ·simp only [Ctx.bind] at hq
  split at hq
  ·rename_i e; subst e; exact ⟨b, by rw [bind_blk]; simp⟩
  ·obtain ⟨j, hj⟩ := h.tlt q m hq
   exact ⟨j, hle.blk hj⟩
 ·simp only [Ctx.bind] at hq
  split at hq
  ·rename_i e; subst e; exact hb
  ·exact Nat.lt_of_lt_of_le (h.elt j m hq) hsize
theorem WRel.laidRow [Laid] (h : WRel c st w) {gl : Bool} {site : Nat} {row : Row} {o : Obj} {n : Nat} {tx : Option Nat} {sh : Nat → Option Value} (hw : w'.heap = w.heap.push o)
  (hok : ∀ r, r = (addRow st gl site row).1 → c.le (c.bind r w.heap.size n tx sh) → RowOk (c.bind r w.heap.size n tx sh) w' r row)
  (hshut : ∀ i x, sh i = some x → w'.cell? ⟨w.heap.size, i, none⟩ = some x) :
  WRel (c.bind (addRow st gl site row).1 w.heap.size n tx sh) (addRow st gl site row).2 w' ∧ c.le (c.bind (addRow st gl site row).1 w.heap.size n tx sh) := by
 have hf : c.blk (addRow st gl site row).1 = none := new_fresh h
 have he : ∀ m, c.ext w.heap.size = some m → m = n := fun m hm => absurd (h.elt _ _ hm) (by omega)
 have htx : c.text (addRow st gl site row).1 = none := by
  cases hq : c.text (addRow st gl site row).1 with
  | none => rfl
  | some m => obtain ⟨b', hb'⟩ := h.tlt _ m hq; rw [hb'] at hf; simp at hf
 have hle := bind_le (tx := tx) (sh := sh) hf htx he
 refine ⟨h.bindRow (row := row) hf he (fun r1 row1 h1 hg => ?_) getRow_new (hok _ rfl hle) (by rw [hw]; simp) (by rw [hw]; simp) (fun i hi hlt => ?_) (fun o x hx => ?_) (fun i hi => new_len hi) (fun s g hg => new_gen hg), hle⟩
 ·by_cases e : r1 = (addRow st gl site row).1
  ·exact .inl e
  ·refine .inr ⟨e, getRow_new_ne h1 e, fun hb => ?_⟩
   have := h.lt _ _ hb; omega
 ·rw [hw, Array.getElem?_push, if_neg hi]
 ·simp only [Ctx.bind, if_true] at hx
  cases hq : c.shut w.heap.size o with
  | none => rw [hq] at hx; exact hshut o x hx
  | some y => have := h.shut_lt hq; omega
end
end Go.AM
end

section
namespace Go.AM
open Go
theorem setCell_heap {w : World} {b o : Nat} {v : Value} {xs : Array Value} {e : TypeId} {fz : Nat × Nat} (h : w.heap[b]? = some (.cells xs e fz)) :
  (w.setCell ⟨b, o, none⟩ v).heap[b]? = some (.cells (xs.setIfInBounds o v) e fz) := by
 simp [World.setCell, Array.getElem?_modify, h]
theorem setCell_heap_ne {w : World} {b o i : Nat} {v : Value} (h : i ≠ b) : (w.setCell ⟨b, o, none⟩ v).heap[i]? = w.heap[i]? := by
 simp only [World.setCell, Array.getElem?_modify]
 rw [if_neg (by simpa using fun e => h e.symm)]
theorem setCells_heap {b : Nat} {e : TypeId} {fz : Nat × Nat} : ∀ (vs : List Value) (o k : Nat) (w : World) (xs : Array Value), w.heap[b]? = some (.cells xs e fz) →
  (w.setCells b (o + k) vs).heap[b]? = some (.cells ((vs.zipIdx k).foldl (fun (cs : Array Value) (p : Value × Nat) => cs.setIfInBounds (o + p.2) p.1) xs) e fz)
 | [], o, k, w, xs, h => h
 | v :: vs, o, k, w, xs, h => by
  simp only [World.setCells, List.zipIdx_cons, List.foldl_cons]
  rw [show o + k + 1 = o + (k + 1) by omega]
  exact setCells_heap vs o (k + 1) _ _ (setCell_heap h)
theorem setCells_heap' {b o : Nat} {e : TypeId} {fz : Nat × Nat} {vs : List Value} {w : World} {xs : Array Value} (h : w.heap[b]? = some (.cells xs e fz)) (hl : o + vs.length ≤ xs.size) :
  (w.setCells b o vs).heap[b]? = some (.cells (lay xs.toList o vs).toArray e fz) := by
 have := setCells_heap vs o 0 w xs h
 rw [Nat.add_zero] at this
 rw [this]
 congr 2
 apply Array.toList_inj.1
 have := foldl_lay o vs 0 xs (by omega)
 simpa using this
theorem setCells_heap_ne {b : Nat} : ∀ (vs : List Value) (o : Nat) (w : World) (i : Nat), i ≠ b → (w.setCells b o vs).heap[i]? = w.heap[i]?
 | [], _, _, _, _ => rfl
 | v :: vs, o, w, i, h => by
  simp only [World.setCells]
  rw [setCells_heap_ne vs (o + 1) _ i h, setCell_heap_ne h]
theorem setCells_size {b : Nat} : ∀ (vs : List Value) (o : Nat) (w : World), (w.setCells b o vs).heap.size = w.heap.size
 | [], _, _ => rfl
 | v :: vs, o, w => by
  simp only [World.setCells]
  rw [setCells_size vs]; simp [World.setCell]
theorem setCells_rest {b : Nat} : ∀ (vs : List Value) (o : Nat) (w : World), (w.setCells b o vs).os = w.os ∧ (w.setCells b o vs).tape = w.tape ∧ (w.setCells b o vs).output = w.output
 | [], _, _ => ⟨rfl, rfl, rfl⟩
 | v :: vs, o, w => by
  simp only [World.setCells]
  obtain ⟨h1, h2, h3⟩ := setCells_rest (b := b) vs (o + 1) (w.setCell ⟨b, o, none⟩ v)
  exact ⟨h1, h2, h3⟩
theorem lay_take (cs : List Value) (off n : Nat) (vs : List Value) (h : off + vs.length ≤ n) (hn : n ≤ cs.length) : (lay cs off vs).take n = lay (cs.take n) off vs := by
 unfold lay
 apply List.ext_getElem?
 intro i
 grind
def StepsTo (P : Program) (s : Sem Next) (w : World) (x : Value) (w' : World) : Prop := s.run P w = .ok (.value x) w' ∨ (s.run P w = .ok .skip w' ∧ x = undef)
section
variable {P : Program} {C : Cfg} {c : Ctx} {st : St} {a : Act} {w : World}
theorem Keep.mk' {c : Ctx} {st st' : St} {w w' : World} (h : w'.os = w.os ∧ w'.tape = w.tape ∧ w'.output = w.output) (hs : w.heap.size ≤ w'.heap.size) {b : Nat}
  (hb : ∀ i, i ≠ b → i < w.heap.size → w'.heap[i]? = w.heap[i]?) (ho : b < w.heap.size → Own c st b) (hown : ∀ b, Own c st' b → Own c st b) : Keep c c st st' w w' :=
 ⟨h.1, h.2.1, h.2.2, hs, fun i hi hn => hb i (fun e => by subst e; exact hn (ho hi)) hi, fun _ _ _ _ => rfl, fun b _ h => hown b h⟩
theorem own_set {c : Ctx} {st : St} {r : Ref} {old row : Row} (h : getRow st r = some old) (hg : old ≠ .gone) (b : Nat) (ho : Own c (setRow st r row) b) : Own c st b := by
 obtain ⟨r1, row1, h1, h2, h3⟩ := ho
 by_cases e : r1 = r
 ·subst e; exact ⟨r1, old, h, hg, h3⟩
 ·rw [getRow_set_ne h e] at h1; exact ⟨r1, row1, h1, h2, h3⟩
theorem WRel.write [Laid] (h : WRel c st w) {r : Ref} {cs vs cs' : List V} {off : Nat} {ys : List Value} (hr : getRow st r = some (.cells false cs)) (hset : setAt cs off vs = some cs')
  (hy : RelL c vs ys) {b : Nat} (hb : c.blk r = some b) :
  WRel c (setRow st r (.cells false cs')) (w.setCells b off ys) ∧ Keep c c st (setRow st r (.cells false cs')) w (w.setCells b off ys) ∧ World.there w b off ys.length := by
 obtain ⟨b', xs, e, fz, h1, h2, h3, h4, h5, h6, h7, h8⟩ := h.rows r _ hr
 rw [hb] at h1
 obtain rfl := Option.some.inj h1
 obtain ⟨hle, hcs'⟩ := setAt_spec hset
 have hfit : off + ys.length ≤ xs.size := by rw [hy.1]; omega
 have hheap := setCells_heap' (vs := ys) h2 hfit
 have hlen : cs'.length = cs.length := by rw [hcs']; simp; omega
 have hnew : RelL c cs' ((lay xs.toList off ys).take cs'.length) := by
  have h9 := RelL.lay hset h6 hy
  rw [hlen]
  have : (lay xs.toList off ys).take cs.length = lay (xs.toList.take cs.length) off ys := by
   exact lay_take _ _ _ _ (by rw [hy.1]; exact hle) (by simpa using h5)
  rw [this]; exact h9
 have hlt := h.lt r b hb
 refine ⟨⟨fun i o x hx => ?_, fun r1 row1 hr1 => ?_, fun r1 r2 row1 row2 b2 g1 g2 n1 n2 => ?_, fun i hi => ?_, fun s g hg => ?_, fun q j hq => ?_, h.tlt, fun j m hq => ?_⟩, ?_, ?_⟩
 ·by_cases e : i = b
  ·subst e; rw [h7 rfl] at hx; simp at hx
  ·rw [← h.shut i o x hx]
   simp only [World.cell?, setCells_heap_ne ys off w i e]
 ·by_cases e : r1 = r
  ·subst e
   rw [getRow_set_same hr] at hr1
   obtain rfl := Option.some.inj hr1
   refine ⟨b, (lay xs.toList off ys).toArray, _, fz, hb, hheap, fun o ho => h3 o (by simpa [lay_length (cs := xs.toList) (off := off) (vs := ys) (by simpa using hfit)] using ho), ?_, ?_, by simpa using hnew, h7, fun hf => by simp at hf⟩
   ·rw [h4]; simp [lay_length (cs := xs.toList) (off := off) (vs := ys) (by simpa using hfit)]
   ·rw [hlen]; simp [lay_length (cs := xs.toList) (off := off) (vs := ys) (by simpa using hfit)]; exact h5
  ·rw [getRow_set_ne hr e] at hr1
   by_cases hg : row1 = .gone
   ·subst hg; trivial
   ·refine (h.rows r1 row1 hr1).keep (Ctx.le.refl c) (fun j hj => ⟨setCells_heap_ne ys off w j (fun e2 => ?_), fun o => rfl⟩)
    subst e2
    exact e (h.inj r1 r _ _ j hr1 hr hg (by simp) hj hb)
 ·have k1 : ∃ ro, getRow st r1 = some ro ∧ ro ≠ .gone := by
   by_cases e : r1 = r
   ·subst e; exact ⟨_, hr, by simp⟩
   ·rw [getRow_set_ne hr e] at g1; exact ⟨_, g1, n1⟩
  have k2 : ∃ ro, getRow st r2 = some ro ∧ ro ≠ .gone := by
   by_cases e : r2 = r
   ·subst e; exact ⟨_, hr, by simp⟩
   ·rw [getRow_set_ne hr e] at g2; exact ⟨_, g2, n2⟩
  obtain ⟨q1, p1, m1⟩ := k1
  obtain ⟨q2, p2, m2⟩ := k2
  exact h.inj r1 r2 q1 q2 b2 p1 p2 m1 m2
 ·exact h.glb i (by rwa [set_len] at hi)
 ·exact h.lcb s g (by rwa [set_lc hr] at hg)
 ·rw [setCells_size]; exact h.lt q j hq
 ·rw [setCells_size]; exact h.elt j m hq
 ·exact Keep.mk' (setCells_rest ys off w) (by rw [setCells_size]; exact Nat.le_refl _) (fun i hi _ => setCells_heap_ne ys off w i hi) (fun _ => ⟨r, _, hr, by simp, hb⟩) (fun b ho => own_set hr (by simp) b ho)
 ·intro j hj
  rw [cell_of_heap h2]
  exact ⟨by rw [Array.getElem?_eq_getElem (by omega)]; rfl, frozen_of_heap h2 h3 (by omega)⟩
theorem load_row [Laid] (h : WRel c st w) {r : Ref} {frz : Bool} {cs : List V} (hr : getRow st r = some (.cells frz cs)) {b off : Nat} (hb : c.blk r = some b) {t : TypeId} {v : V} (hv : partV P t cs off = some v) :
  ∃ x, (Instr.loadAt t (.pointer (some ⟨b, off, none⟩))).run P w = .ok x w ∧ Rel c v x := by
 obtain ⟨b', xs, e, fz, h1, h2, h3, h4, h5, h6, h7, h8⟩ := h.rows r _ hr
 rw [hb] at h1
 obtain rfl := Option.some.inj h1
 unfold partV at hv
 cases hl : layE P t with
 | none => simp [hl] at hv
 | some p =>
  obtain ⟨n, g⟩ := p
  obtain ⟨h0, hz, d, hd, hg⟩ := layE_spec hl
  simp only [hl] at hv
  cases g with
  | true =>
   cases hbe : Nat.ble (off + n) cs.length with
   | false => simp [hbe] at hv
   | true =>
    have hle : off + n ≤ cs.length := by simpa using hbe
    simp [hbe] at hv
    subst hv
    have hrel := (h6.drop off).take n
    have hlen : ((xs.toList.take cs.length).drop off |>.take n).length = n := by simp; omega
    refine ⟨.agg (((xs.toList.take cs.length).drop off).take n).toArray, run_loadAt_mid w b off t _ d (fun j u hu => ?_) hd hg (by rw [hz, hlen]), Rel.mk_agg hrel⟩
    rw [cell_of_heap h2]
    rw [List.getElem?_take] at hu
    split at hu
    ·rw [List.getElem?_drop, List.getElem?_take] at hu
     split at hu
     ·simpa using hu
     ·simp at hu
    ·simp at hu
  | false =>
   simp only [] at hv
   obtain ⟨x, hx, hrel⟩ := h6.get hv
   refine ⟨x, ?_, hrel⟩
   rw [List.getElem?_take] at hx
   have hc : w.cell? ⟨b, off, none⟩ = some x := by
    rw [cell_of_heap h2]
    split at hx
    ·simpa using hx
    ·simp at hx
   simp [Instr.loadAt, Instr.sureAddr, loadVar, run_isAgg' hd, hg, hc]
theorem load_shut [Laid] (h : WRel c st w) {cs : List V} {p : Value} (hp : Rel c (.iptr cs) p) {t : TypeId} {v : V} (hv : partV P t cs 0 = some v) :
  ∃ x, (Instr.loadAt t p).run P w = .ok x w ∧ Rel c v x := by
 obtain ⟨b, off, xs, rfl, hr, hs⟩ := hp.iptr_inv
 unfold partV at hv
 cases hl : layE P t with
 | none => simp [hl] at hv
 | some q =>
  obtain ⟨n, g⟩ := q
  obtain ⟨h0, hz, d, hd, hg⟩ := layE_spec hl
  simp only [hl] at hv
  cases g with
  | true =>
   simp only [Nat.zero_add, List.drop_zero] at hv
   cases hbe : Nat.ble n cs.length with
   | false => simp [hbe] at hv
   | true =>
    have hle : n ≤ cs.length := by simpa using hbe
    simp [hbe] at hv
    subst hv
    have hrel := hr.take n
    have hlen : (xs.take n).length = n := by have := hr.1; simp; omega
    refine ⟨.agg (xs.take n).toArray, run_loadAt_mid w b off t _ d (fun j u hu => ?_) hd hg (by rw [hz, hlen]), Rel.mk_agg hrel⟩
    rw [List.getElem?_take] at hu
    split at hu
    ·exact h.shut _ _ _ (hs j u hu)
    ·simp at hu
  | false =>
   simp only [] at hv
   obtain ⟨x, hx, hrel⟩ := hr.get hv
   have hc : w.cell? ⟨b, off, none⟩ = some x := by have := h.shut _ _ _ (hs 0 x hx); simpa using this
   exact ⟨x, by simp [Instr.loadAt, Instr.sureAddr, loadVar, run_isAgg' hd, hg, hc], hrel⟩
theorem store_row [Laid] (h : WRel c st w) {r : Ref} {cs cs' : List V} (hr : getRow st r = some (.cells false cs)) {b off : Nat} (hb : c.blk r = some b) {t : TypeId} {v : V} {x : Value} (hv : Rel c v x)
  (hok : v.cells.all V.cellOk = true) (hn : lenIs P t v.cells.length = true) (hset : setAt cs off v.cells = some cs') :
  ∃ w', (Instr.storeAt t (.pointer (some ⟨b, off, none⟩)) x).run P w = .ok () w' ∧ WRel c (setRow st r (.cells false cs')) w' ∧ Keep c c st (setRow st r (.cells false cs')) w w' := by
 have hl : v.live = true := by
  cases v <;> first | rfl | (simp [V.cells, V.cellOk] at hok)
 have hcells := hv.cells hl
 obtain ⟨k1, k2, k3⟩ := h.write hr hset hcells hb
 refine ⟨_, ?_, k1, k2⟩
 have hone : ∀ y ∈ x.cells.toList, y.oneCell' = true := by
  intro y hy
  obtain ⟨i, hi⟩ := List.mem_iff_getElem?.1 hy
  have hi2 : i < v.cells.length := by
   rw [← hcells.1]
   rcases Nat.lt_or_ge i x.cells.toList.length with h' | h'
   ·exact h'
   ·rw [List.getElem?_eq_none h'] at hi; simp at hi
  have hu : v.cells[i]? = some v.cells[i] := List.getElem?_eq_getElem hi2
  have hrel := hcells.2 i _ y hu hi
  have hco := List.all_eq_true.1 hok v.cells[i] (List.getElem_mem hi2)
  cases y with
  | agg z => exact absurd rfl (hrel.oneCell hco z).1
  | tuple z => exact absurd rfl (hrel.oneCell hco z).2
  | _ => rfl
 unfold lenIs at hn
 split at hn
 ·rename_i n hn'
  have hn : v.cells.length = n := by simpa using hn
  have hsz : (P.info? t).map (·.size) = some n := hn'
  have hxs : x.cells.size = n := by have := hcells.1; simp at this; omega
  have hrun := run_storeCells_cells (P := P) b off x.cells.toList 0 w (fun j hj => by simpa using (k3 j hj).1) (fun j hj => by simpa using (k3 j hj).2) hone
  simp only [Nat.add_zero] at hrun
  cases hq : P.info? t with
  | none => simp [hq] at hsz
  | some i =>
   have hs : i.size = n := by simpa [hq] using hsz
   simp [Instr.storeAt, Instr.sureAddr, storeVar, sizeOf, typeInfo, hq, hs, hxs, hrun]
 ·simp at hn
theorem szOf_spec {t : TypeId} {n : Nat} (h : szOf P t = some n) : ∃ i, P.info? t = some i ∧ i.size = n := by
 unfold szOf at h
 cases hq : P.info? t with
 | none => simp [hq] at h
 | some i => simp [hq] at h; exact ⟨i, rfl, h⟩
theorem zeroV_spec [Laid] {t : TypeId} {z : V} (h : zeroV P t = some z) : ∃ zz, (∀ w : World, (zeroValue t).run P w = .ok zz w) ∧ (∀ c, Rel c z zz) := by
 unfold zeroV at h
 cases hit : P.info? t with
 | none => simp [hit] at h
 | some it =>
  simp only [hit] at h
  cases hzz : it.zero with
  | none => simp [hzz] at h
  | some zz =>
   simp [hzz] at h
   subst h
   exact ⟨zz, fun w => by simp [zeroValue, typeInfo, hit, hzz], fun c => absV_rel c zz⟩
theorem own_add {gl : Bool} {site : Nat} {row : Row} {n m : Nat} {tx : Option Nat} {sh : Nat → Option Value} {b : Nat} (hb : b < m) (ho : Own (c.bind (addRow st gl site row).1 m n tx sh) (addRow st gl site row).2 b) : Own c st b := by
 obtain ⟨r1, row1, h1, h2, h3⟩ := ho
 rw [bind_blk] at h3
 by_cases e : (addRow st gl site row).1 = r1
 ·rw [if_pos e] at h3; obtain rfl := Option.some.inj h3; omega
 ·rw [if_neg e] at h3
  exact ⟨r1, row1, getRow_new_ne h1 (Ne.symm e), h2, h3⟩
theorem newVar_sound [Laid] (h : WRel c st w) {gl : Bool} {d : Nat} {v : V} {x : Value} (hv : Rel c v x) (hl : v.live = true) (e : TypeId) :
  ∃ c' w', (newVar e x).run P w = .ok ⟨w.heap.size, 0, none⟩ w' ∧ c.le c' ∧ c'.blk (addRow st gl d (.cells false v.cells)).1 = some w.heap.size ∧
   WRel c' (addRow st gl d (.cells false v.cells)).2 w' ∧ Keep c c' st (addRow st gl d (.cells false v.cells)).2 w w' := by
 have hcells := hv.cells hl
 have hw : ({ w with heap := w.heap.push (.cells x.cells e) } : World).heap = w.heap.push (.cells x.cells e) := rfl
 obtain ⟨h1, h2⟩ := h.laidRow (gl := gl) (site := d) (row := .cells false v.cells) (o := .cells x.cells e) (n := x.cells.size) (tx := none) (sh := fun _ => none) hw
  (fun r hr hle => by
   refine ⟨w.heap.size, x.cells, e, (0, 0), by rw [bind_blk]; simp, by simp, fun o _ hx => by simp at hx, by simp [Ctx.bind], ?_, ?_, fun _ o => ?_, fun hf => by simp at hf⟩
   ·have := hcells.1; simp at this; omega
   ·have := hcells.mono hle
    rwa [List.take_of_length_le (by rw [hcells.1]; exact Nat.le_refl _)]
   ·simp only [Ctx.bind, if_true]
    cases hq : c.shut w.heap.size o with
    | none => rfl
    | some y => have := h.shut_lt hq; omega) (fun i x hx => by simp at hx)
 refine ⟨_, _, ?_, h2, by rw [bind_blk]; simp, h1, ⟨rfl, rfl, rfl, by simp, fun b hb _ => ?_, fun b hb _ o => ?_, fun b hb ho => own_add hb ho⟩⟩
 ·simp [newVar, Go.newRow, newObj, Sem.run]
 ·simp [Array.getElem?_push]; intro e; omega
 ·simp only [Ctx.bind]; rw [if_neg (by omega)]
theorem addRow_ptr (st : St) (d : Nat) (row : Row) : addRow st false d row = (.loc d ((st.lc d).1 + 1), { st with loc := aset st.loc d ((st.lc d).1 + 1, row) }) := rfl
theorem WRel.shutBlock [Laid] (h : WRel c st w) (xs : Array Value) (e : TypeId) :
  ∃ c', c.le c' ∧ WRel c' st (w.alloc (.cells xs e)) ∧ Keep c c' st st w (w.alloc (.cells xs e)) ∧ (∀ i x, xs.toList[i]? = some x → c'.shut w.heap.size i = some x) := by
 let c' : Ctx := { c with shut := fun i o => if i = w.heap.size then xs[o]? else c.shut i o }
 have hle : c.le c' := ⟨fun _ _ h => h, fun _ _ _ h => h, fun i o x hx => by
  show (if i = w.heap.size then xs[o]? else c.shut i o) = some x
  rw [if_neg (by intro e; subst e; have := h.shut_lt hx; omega)]; exact hx, fun _ _ h => h, fun _ _ h => h⟩
 have hheap : ∀ i, i < w.heap.size → (w.alloc (.cells xs e)).heap[i]? = w.heap[i]? := fun i hi => by
  show (w.heap.push _)[i]? = _
  rw [Array.getElem?_push, if_neg (by omega)]
 have hsize : (w.alloc (.cells xs e)).heap.size = w.heap.size + 1 := by show (w.heap.push _).size = _; simp
 refine ⟨c', hle, ⟨fun i o x hx => ?_, fun r row hr => ?_, h.inj, h.glb, h.lcb, fun q j hq => ?_, h.tlt, fun j m hq => ?_⟩, ⟨rfl, rfl, rfl, by rw [hsize]; omega, fun i hi _ => hheap i hi, fun i hi _ o => ?_, fun _ _ ho => ho⟩, fun i x hx => ?_⟩
 ·by_cases e1 : i = w.heap.size
  ·subst e1
   have hx' : xs[o]? = some x := by simpa [c'] using hx
   rw [cell_of_heap (xs := xs) (e := e) (fz := (0, 0)) (by show (w.heap.push _)[_]? = _; simp)]
   exact hx'
  ·have hx' : c.shut i o = some x := by simpa [c', e1] using hx
   rw [← h.shut i o x hx']
   simp only [World.cell?, hheap i (h.shut_lt hx')]
 ·by_cases hg : row = .gone
  ·subst hg; trivial
  ·refine (h.rows r row hr).keep hle (fun j hj => ?_)
   have := h.lt r j hj
   exact ⟨hheap j this, fun o => by show (if j = w.heap.size then xs[o]? else c.shut j o) = _; rw [if_neg (by omega)]⟩
 ·rw [hsize]; have := h.lt q j hq; omega
 ·rw [hsize]; have := h.elt j m hq; omega
 ·show (if i = w.heap.size then xs[o]? else c.shut i o) = _
  rw [if_neg (by omega)]
 ·show (if w.heap.size = w.heap.size then xs[i]? else _) = some x
  rw [if_pos rfl]; simpa using hx
theorem loc_sound [Laid] {gl : Nat → Bool} (h : WRel c st w) (hs : Slots c st.ρ a) {o : Oper} {v : V} {u : Option (Nat × Nat × Row)} (hb : isBuildSlice o.op = false)
  (hv : locV P C gl st.ρ st.lc o = some (v, u)) :
  ∃ x w' c', StepsTo P (execOp a.eval o) w x w' ∧ c.le c' ∧ Rel c' v x ∧ WRel c' (applyL st u) w' ∧ Keep c c' st (applyL st u) w w' := by
 unfold locV at hv
 cases ho : o.op with
 | load t y =>
  simp only [ho] at hv
  have hy := opd_rel hs y
  split at hv
  ·rename_i s g off hc
   rw [hc] at hy
   obtain ⟨b, hp, hbk⟩ := hy.ptr_inv
   split at hv
   ·rename_i g' frz cs hlc
    cases hbe : Nat.beq g g' with
    | false => simp [hbe] at hv
    | true =>
     have : g = g' := by simpa using hbe
     subst this
     simp [hbe] at hv
     obtain ⟨v', hpv, rfl, rfl⟩ := hv
     have hrow : getRow st (.loc s g) = some (.cells frz cs) := by rw [getRow_loc, hlc]; simp
     obtain ⟨x, hrun, hrel⟩ := load_row h hrow hbk hpv
     exact ⟨x, w, c, .inl (by simp only [execOp, ho, hp]; rw [Sem.run_bind, hrun]; rfl), .refl c, hrel, h, .refl c st w⟩
   ·simp at hv
  ·rename_i cs hc
   rw [hc] at hy
   simp at hv
   obtain ⟨v', hpv, rfl, rfl⟩ := hv
   obtain ⟨x, hrun, hrel⟩ := load_shut (P := P) h hy hpv
   exact ⟨x, w, c, .inl (by simp only [execOp, ho]; rw [Sem.run_bind, hrun]; rfl), .refl c, hrel, h, .refl c st w⟩
  ·simp at hv
 | store t y z =>
  simp only [ho] at hv
  have hy := opd_rel hs y
  split at hv
  ·rename_i s g off hc
   rw [hc] at hy
   obtain ⟨b, hp, hbk⟩ := hy.ptr_inv
   split at hv
   ·rename_i g' cs hlc
    generalize hg : (Nat.beq g g' && (opd st.ρ z).cells.all V.cellOk && lenIs P t (opd st.ρ z).cells.length) = q at hv
    cases q with
    | false => simp at hv
    | true =>
     simp only [Bool.and_eq_true] at hg
     obtain ⟨⟨g1, g2⟩, g3⟩ := hg
     have : g = g' := by simpa using g1
     subst this
     simp only [cond_true] at hv
     split at hv
     ·rename_i cs' hset
      simp at hv
      obtain ⟨rfl, rfl⟩ := hv
      have hrow : getRow st (.loc s g) = some (.cells false cs) := by rw [getRow_loc, hlc]; simp
      obtain ⟨w', hrun, k1, k2⟩ := store_row h hrow hbk (opd_rel hs z) g2 g3 hset
      exact ⟨undef, w', c, .inr ⟨by simp only [execOp, ho, hp]; rw [Sem.run_bind, hrun]; rfl, rfl⟩, .refl c, Rel.mk_tuple (RelL.nil c), k1, k2⟩
     ·simp at hv
   ·simp at hv
  ·simp at hv
 | alloc t =>
  simp only [ho] at hv
  split at hv
  ·simp at hv
  ·rename_i d hd
   cases hgl : gl d with
   | true => simp [hgl] at hv
   | false =>
    simp only [hgl, cond_false] at hv
    split at hv
    ·rename_i z n hz hn
     generalize hg : (z.live && Nat.beq z.cells.length n) = q at hv
     cases q with
     | false => simp at hv
     | true =>
      simp only [Bool.and_eq_true] at hg
      simp at hv
      obtain ⟨rfl, rfl⟩ := hv
      obtain ⟨zz, hrz, hrelz⟩ := zeroV_spec hz
      obtain ⟨c', w', hrun, hle, hbk, hW, hK⟩ := newVar_sound (P := P) (gl := false) (d := d) h (hrelz c) hg.1 t
      rw [addRow_ptr] at hbk hW
      exact ⟨_, w', c', .inl (by simp only [execOp, ho, Instr.alloc]; simp [hrz, hrun]), hle, .ptr _ _ _ hbk, hW, hK⟩
    ·simp at hv
 | box e y =>
  simp only [ho] at hv
  cases hA : C.isArr e with
  | true =>
   rw [hA] at hv
   simp only [cond_true] at hv
   generalize hg : (opd st.ρ y).weakA.live = q at hv
   cases q with
   | false => simp at hv
   | true =>
    simp only [cond_true, Option.some.injEq, Prod.mk.injEq] at hv
    obtain ⟨rfl, rfl⟩ := hv
    have hrel : Rel c (opd st.ρ y).weakA (a.eval y) := (opd_rel hs y).weakA
    have hcells := hrel.cells hg
    obtain ⟨c', hle, hW, hK, hsh⟩ := h.shutBlock (a.eval y).cells e
    refine ⟨.pointer (some ⟨w.heap.size, 0, none⟩), w.alloc (.cells (a.eval y).cells e), c', .inl ?_, hle, .iptr _ _ _ (a.eval y).cells.toList hcells.1 (fun i x hx => by rw [Nat.zero_add]; exact hsh i x hx) (hcells.mono hle).2, hW, hK⟩
    simp only [execOp, ho, Instr.box]
    simp [newVar, Go.newRow, newObj, Sem.run]
  | false =>
  rw [hA] at hv
  simp only [cond_false] at hv
  split at hv
  ·simp at hv
  ·rename_i d hd
   generalize hg : (gl d || !(opd st.ρ y).live) = q at hv
   cases q with
   | true => simp at hv
   | false =>
    simp at hg
    simp at hv
    obtain ⟨rfl, rfl⟩ := hv
    obtain ⟨c', w', hrun, hle, hbk, hW, hK⟩ := newVar_sound (P := P) (gl := false) (d := d) h (opd_rel hs y) hg.2 e
    rw [addRow_ptr] at hbk hW
    exact ⟨_, w', c', .inl (by simp only [execOp, ho, Instr.box]; simp [hrun]), hle, .ptr _ _ _ hbk, hW, hK⟩
 | range t y =>
  simp only [ho] at hv
  split at hv
  ·rename_i s d hu hy hd
   have ey := opd_str hs hy
   cases hg : gl d with
   | true => simp [hg] at hv
   | false =>
    simp only [hg, cond_false, Option.some.injEq, Prod.mk.injEq] at hv
    obtain ⟨rfl, rfl⟩ := hv
    have hw : ({ w with heap := w.heap.push (.stringIter s.bytes 0) } : World).heap = w.heap.push (.stringIter s.bytes 0) := rfl
    obtain ⟨h1, h2⟩ := h.laidRow (gl := false) (site := d) (row := .iter s 0) (o := .stringIter s.bytes 0) (n := 0) (tx := none) (sh := fun _ => none) hw
     (fun r hr0 hle => ⟨w.heap.size, by rw [bind_blk]; simp, by simp⟩) (fun i x hx => by simp at hx)
    refine ⟨.pointer (some ⟨w.heap.size, 0, none⟩), { w with heap := w.heap.push (.stringIter s.bytes 0) }, _, .inl ?_, h2, .ptr _ _ _ (by rw [bind_blk]; simp [addRow]), h1, ⟨rfl, rfl, rfl, by simp, fun b hb _ => ?_, fun b hb _ o => ?_, fun b hb ho => own_add (gl := false) (site := d) (row := .iter s 0) hb ho⟩⟩
    ·simp only [execOp, ho, ey]
     rw [Sem.run_bind]
     have : (Instr.range t (.string s.bytes)).run P w = .ok (.pointer (some ⟨w.heap.size, 0, none⟩)) { w with heap := w.heap.push (.stringIter s.bytes 0) } := by
      unfold Instr.range
      simp [run_underlying hu, newObj, Sem.run]
     rw [this]; rfl
    ·simp [Array.getElem?_push]; intro e; omega
    ·simp only [Ctx.bind]; rw [if_neg (by omega)]
  ·simp at hv
 | _ =>
  simp only [ho, Option.map_eq_some_iff] at hv
  obtain ⟨v', hpv, he⟩ := hv
  simp at he
  obtain ⟨rfl, rfl⟩ := he
  obtain ⟨x, hrun, hrel⟩ := pure_sound (P := P) (C := C) (w := w) hs hb (by rw [ho]; exact hpv)
  exact ⟨x, w, c, .inl hrun, .refl c, hrel, h, .refl c st w⟩
end
end Go.AM
end

section
namespace Go.AM
open Go
theorem flat_set {sz : Nat} {l : List V} {i : Nat} {v : V} (h : ∀ u ∈ l, u.cells.length = sz) (hv : v.cells.length = sz) (hi : i < l.length) :
  flat (l.set i v) = (flat l).take (i * sz) ++ v.cells ++ (flat l).drop (i * sz + v.cells.length) := by
 rw [List.set_eq_take_append_cons_drop, if_pos hi, flat_append, flat_cons, ← flat_take i h, hv, show i * sz + sz = (i + 1) * sz by rw [Nat.add_mul]; omega, flat_drop (i + 1) h]
 simp
theorem flat_setAt {sz : Nat} {l : List V} {i : Nat} {v : V} (h : ∀ u ∈ l, u.cells.length = sz) (hv : v.cells.length = sz) (hi : i < l.length) :
  setAt (flat l) (i * sz) v.cells = some (flat (l.set i v)) := by
 unfold setAt
 have : Nat.ble (i * sz + v.cells.length) (flat l).length = true := by
  rw [flat_length h, hv, Nat.ble_eq, show i * sz + sz = (i + 1) * sz by rw [Nat.add_mul]; omega]
  exact Nat.mul_le_mul_right _ hi
 rw [this, flat_set h hv hi]; rfl
theorem set_all {sz : Nat} {l : List V} {i : Nat} {v : V} (h : ∀ u ∈ l, u.cells.length = sz) (hv : v.cells.length = sz) : ∀ u ∈ l.set i v, u.cells.length = sz := by
 intro u hu
 rcases List.mem_or_eq_of_mem_set hu with h' | rfl
 ·exact h u h'
 ·exact hv
theorem flat_replicate {sz : Nat} {z : V} (hz : z.cells.length = sz) (h0 : 0 < sz) : ∀ (n i : Nat), i < n * sz → (flat (List.replicate n z))[i]? = z.cells[i % sz]?
 | 0, i, h => by omega
 | n + 1, i, h => by
  rw [List.replicate_succ, flat_cons]
  by_cases hi : i < sz
  ·rw [List.getElem?_append_left (by omega), Nat.mod_eq_of_lt hi]
  ·rw [List.getElem?_append_right (by omega), hz]
   rw [flat_replicate hz h0 n (i - sz) (by rw [Nat.add_mul] at h; omega)]
   congr 1
   rw [Nat.mod_eq_sub_mod (Nat.not_lt.1 hi)]
section
variable {P : Program} {C : Cfg} {c : Ctx} {st : St} {a : Act} {w : World} {ρ : Nat → V}
theorem zeros_rel [Laid] {z : V} {zz : Value} (hz : Rel c z zz) (hl : z.live = true) {sz : Nat} (hs : z.cells.length = sz) (h0 : 0 < sz) (n : Nat) :
  RelL c (flat (List.replicate n z)) ((Array.range (n * sz)).map (zz.cells[· % zz.cells.size]!)).toList := by
 have hc := hz.cells hl
 have hsz : zz.cells.size = sz := by have := hc.1; simp at this; omega
 have hlen : (flat (List.replicate n z)).length = n * sz := by
  rw [flat_length (sz := sz) (fun v hv => by rw [List.eq_of_mem_replicate hv]; exact hs)]; simp
 refine ⟨by simp [hlen], fun i v x hv hx => ?_⟩
 have hi : i < n * sz := by
  rcases Nat.lt_or_ge i (n * sz) with h' | h'
  ·exact h'
  ·rw [List.getElem?_eq_none (by omega)] at hv; simp at hv
 rw [flat_replicate hs h0 n i hi] at hv
 simp only [Array.toList_map, Array.toList_range, List.getElem?_map, List.getElem?_range hi, Option.map_some, Option.some.injEq, hsz] at hx
 refine hc.2 (i % sz) v x hv ?_
 have hm : i % sz < zz.cells.size := by rw [hsz]; exact Nat.mod_lt _ h0
 rw [← hx, getElem!_pos zz.cells _ hm]
 simp [Array.getElem?_eq_getElem hm]
theorem fillE_sound [Laid] (hs : Slots c ρ a) {sz : Nat} (hlay : Prop) :
  ∀ (ps : List (Nat × Operand)) (l l' : List V) (cells : Array Value), fillE sz ρ ps l = some l' → (∀ v ∈ l, v.cells.length = sz) → V.noRefsL l = true → RelL c (flat l) cells.toList →
   ∃ cells', Instr.fill (fun i => some (i * sz, sz)) cells (ps.map fun (i, x) => (i, a.eval x)) = some cells' ∧ RelL c (flat l') cells'.toList ∧ (∀ v ∈ l', v.cells.length = sz) ∧ V.noRefsL l' = true ∧ l'.length = l.length
 | [], l, l', cells, h, hl, hn, hr => by
  simp [fillE] at h
  subst h
  exact ⟨cells, rfl, hr, hl, hn, rfl⟩
 | (i, x) :: ps, l, l', cells, h, hl, hn, hr => by
  simp only [fillE] at h
  generalize hb : ((opd ρ x).weakA.live && (opd ρ x).weakA.noRefs && Nat.beq (opd ρ x).weakA.cells.length sz && Nat.blt i l.length) = b at h
  cases b with
  | false => simp at h
  | true =>
   simp only [cond_true] at h
   simp only [Bool.and_eq_true] at hb
   obtain ⟨⟨⟨b1, b2⟩, b3⟩, b4⟩ := hb
   have e3 : (opd ρ x).weakA.cells.length = sz := by simpa using b3
   have e4 : i < l.length := by simpa [Nat.blt_eq] using b4
   have hrel : Rel c (opd ρ x).weakA (a.eval x) := (opd_rel hs x).weakA
   have hcells := hrel.cells b1
   have hset := flat_setAt (i := i) hl e3 e4
   have hsz : (a.eval x).cells.size = sz := by have := hcells.1; simp at this; omega
   have hle := (setAt_spec hset).1
   have hfit : i * sz + sz ≤ cells.size := by have := hr.1; simp at this; omega
   obtain ⟨cells', hf, hr', hl', hn', hlen⟩ := fillE_sound hs hlay ps (l.set i (opd ρ x).weakA) l' (lay cells.toList (i * sz) (a.eval x).cells.toList).toArray h (set_all hl e3)
    (noRefsL_mem.2 fun v hv => by
     rcases List.mem_or_eq_of_mem_set hv with h' | rfl
     ·exact noRefsL_mem.1 hn v h'
     ·exact b2) (by simpa using RelL.lay hset hr hcells)
   refine ⟨cells', ?_, hr', hl', hn', by simpa using hlen⟩
   simp only [List.map_cons]
   rw [fill_cons _ _ i (i * sz) sz _ _ rfl hsz hfit]
   exact hf
theorem noRefs_cells {v : V} (h : v.noRefs = true) : V.noRefsL v.cells = true := by
 cases v <;> simp [V.cells, V.noRefsL, V.noRefs] at h ⊢ <;> exact h
theorem noRefs_flat {l : List V} (h : V.noRefsL l = true) : V.noRefsL (flat l) = true := by
 rw [noRefsL_mem] at h ⊢
 intro v hv
 simp only [flat, List.mem_flatMap] at hv
 obtain ⟨u, hu, hv⟩ := hv
 exact noRefsL_mem.1 (noRefs_cells (h u hu)) v hv
theorem buildSlice_sound [Laid] {gl : Nat → Bool} (h : WRel c st w) (hs : Slots c st.ρ a) {o : Oper} {v : V} {t : TypeId} {len : Nat} {ps : Array (Nat × Operand)} (ho : o.op = .buildSlice t len ps)
  (hv : pureV P C st.ρ o.op = some v) : ∃ x w' c', StepsTo P (execOp a.eval o) w x w' ∧ c.le c' ∧ Rel c' v x ∧ WRel c' st w' ∧ Keep c c' st st w w' := by
 rw [ho] at hv
 simp only [pureV] at hv
 split at hv
 ·simp at hv
 ·rename_i e he
  split at hv
  ·rename_i n g z hl hz
   obtain ⟨h0, hsz, _⟩ := layE_spec hl
   generalize hg : (!C.isArr t && Nat.ble (len * n) 16777216 && z.noRefs && z.live && Nat.beq z.cells.length n) = q at hv
   cases q with
   | false => simp at hv
   | true =>
    simp only [cond_true] at hv
    simp only [Bool.and_eq_true] at hg
    obtain ⟨⟨⟨⟨g1, g2⟩, g3⟩, g4⟩, g5⟩ := hg
    have e2 : len * n ≤ 16777216 := by simpa using g2
    have e5 : z.cells.length = n := by simpa using g5
    simp only [Option.map_eq_some_iff] at hv
    obtain ⟨l, hf, rfl⟩ := hv
    obtain ⟨zz, hrz, hrelz⟩ := zeroV_spec hz
    have hzr := zeros_rel (hrelz c) g4 e5 h0 len
    obtain ⟨cells', hfill, hr', hl', hn', hlen⟩ := fillE_sound hs True ps.toList _ l ((Array.range (len * n)).map (zz.cells[· % zz.cells.size]!)) hf
     (fun v hv => by rw [List.eq_of_mem_replicate hv]; exact e5) (noRefsL_mem.2 fun v hv => by rw [List.eq_of_mem_replicate hv]; exact g3) hzr
    obtain ⟨c', hle, hW, hK, hsh⟩ := h.shutBlock cells' e
    refine ⟨.slice (some ⟨w.heap.size, 0, none⟩) len len, w.alloc (.cells cells' e), c', .inl ?_, hle, ?_, hW, hK⟩
    ·have ht := elemT_spec he
     have hns : ¬ (len * n > 2 ^ 24) := by omega
     simp only [execOp, ho]
     rw [Sem.run_bind]
     have : (Instr.buildSlice t len (ps.map fun (i, x) => (i, a.eval x))).run P w = .ok (.slice (some ⟨w.heap.size, 0, none⟩) len len) (w.alloc (.cells cells' e)) := by
      unfold Instr.buildSlice
      simp only [Sem.run_bind, run_underlying ht, Result.andThen_ok, run_sizeOf' hsz]
      rw [if_neg hns]
      have hps' : (Array.map (fun x => (x.fst, a.eval x.snd)) ps).toList = ps.toList.map fun (i, x) => (i, a.eval x) := by simp
      split
      ·rename_i h00
       have e0 : Array.map (fun x => (#[] : Array Value)[x % (#[] : Array Value).size]!) (Array.range (len * n)) = (Array.range (len * n)).map (zz.cells[· % zz.cells.size]!) := by rw [h00]; simp
       simp only [Sem.run_bind, Sem.run_pure, Result.andThen_ok]
       rw [hps', e0, hfill]
       simp [Go.newRow, newObj, Sem.run]
      ·simp only [Sem.run_bind, Sem.run_pure, Result.andThen_ok, hrz]
       rw [hps', hfill]
       simp [Go.newRow, newObj, Sem.run]
     rw [this]; rfl
    ·refine Rel.mk_slice (sz := n) hl' (hr'.mono hle) (fun i x hx => ?_) (noRefs_flat hn') (by rw [hlen]; simp) (fun _ => by rw [hlen]; simp) (fun r hr => by simp at hr) (by rw [hlen]; simp)
     rw [Nat.zero_add]; exact hsh i x hx
  ·simp at hv
end
end Go.AM
end

section
namespace Go.AM
open Go
theorem unagg_cells (v : V) : v.unagg.cells = [v.unagg] := by cases v <;> rfl
theorem unagg_rel [Laid] {c : Ctx} {v : V} {x : Value} (h : Rel c v x) : Rel c v.unagg x := by
 cases v <;> first | exact h | exact .dead _
theorem chunk_length (sz : Nat) (ag : Bool) : ∀ (n : Nat) (cs : List V), (chunk sz ag n cs).length = n
 | 0, _ => rfl
 | n + 1, cs => by simp [chunk, chunk_length sz ag n]
theorem chunk_rel [Laid] {c : Ctx} {sz : Nat} {ag : Bool} (hs : ag = true ∨ sz = 1) : ∀ (n : Nat) (cs : List V) (xs : List Value), n * sz ≤ cs.length → RelL c cs xs →
  RelL c (flat (chunk sz ag n cs)) (xs.take (n * sz)) ∧ ∀ v ∈ chunk sz ag n cs, v.cells.length = sz
 | 0, cs, xs, _, _ => ⟨by simp [chunk, flat]; exact RelL.nil c, by simp [chunk]⟩
 | n + 1, cs, xs, hl, hr => by
  have hm : (n + 1) * sz = sz + n * sz := by rw [Nat.add_mul]; omega
  obtain ⟨h1, h2⟩ := chunk_rel hs n (cs.drop sz) (xs.drop sz) (by simp; omega) (hr.drop sz)
  simp only [chunk]
  cases ag with
  | true =>
   simp only [cond_true]
   refine ⟨?_, fun v hv => ?_⟩
   ·rw [flat_cons, hm, List.take_add]
    exact RelL.append (hr.take sz) h1
   ·rcases List.mem_cons.1 hv with rfl | hv
    ·simp [V.cells]; omega
    ·exact h2 v hv
  | false =>
   have hs1 : sz = 1 := by simpa using hs
   subst hs1
   simp only [cond_false]
   refine ⟨?_, fun v hv => ?_⟩
   ·rw [flat_cons, hm, List.take_add, unagg_cells]
    refine RelL.append ?_ h1
    cases cs with
    | nil => simp at hl
    | cons u us =>
     cases xs with
     | nil => have := hr.1; simp at this
     | cons y ys => exact RelL.cons (unagg_rel hr.head) (RelL.nil c)
   ·rcases List.mem_cons.1 hv with rfl | hv
    ·rw [unagg_cells]; rfl
    ·exact h2 v hv
section
variable {P : Program} {C : Cfg} {c : Ctx} {st : St} {a : Act} {w : World}
theorem itemsOf_arr {r : Ref} {off len : Nat} {lim : Option Nat} {sz : Nat} {ag : Bool} {l : List V} (h : itemsOf st (.arr r off len lim sz ag) = some l) :
  ∃ frz cs, getRow st r = some (.cells frz cs) ∧ off + len * sz ≤ cs.length ∧ (ag = true ∨ sz = 1) ∧ l = chunk sz ag len (cs.drop off) := by
 simp only [itemsOf] at h
 split at h
 ·rename_i frz cs hr
  generalize hg : (Nat.ble (off + len * sz) cs.length && (ag || Nat.beq sz 1)) = q at h
  cases q with
  | false => simp at h
  | true =>
   simp at hg h
   exact ⟨frz, cs, hr, hg.1, hg.2, h.symm⟩
 ·simp at h
theorem arr_items [Laid] (h : WRel c st w) {r : Ref} {off len : Nat} {lim : Option Nat} {sz : Nat} {ag : Bool} {x : Value} (hx : Rel c (.arr r off len lim sz ag) x) {l : List V}
  (hi : itemsOf st (.arr r off len lim sz ag) = some l) :
  ∃ b cap xs, x = .slice (some ⟨b, off, none⟩) len cap ∧ c.blk r = some b ∧ RelL c (flat l) xs ∧ (∀ v ∈ l, v.cells.length = sz) ∧ l.length = len ∧
   (∀ i y, xs[i]? = some y → w.cell? ⟨b, off + i, none⟩ = some y) ∧ len ≤ cap := by
 obtain ⟨frz, cs, hr, hle, hs, rfl⟩ := itemsOf_arr hi
 obtain ⟨b, cap, n, rfl, hb, hc, he, hz, hk, hu⟩ := hx.arr_inv
 obtain ⟨b', ys, e, fz, h1, h2, h3, h4, h5, h6, h7, h8⟩ := h.rows r _ hr
 rw [hb] at h1
 obtain rfl := Option.some.inj h1
 obtain ⟨k1, k2⟩ := chunk_rel hs len (cs.drop off) ((ys.toList.take cs.length).drop off) (by simp; omega) (h6.drop off)
 refine ⟨b, cap, _, rfl, hb, k1, k2, chunk_length _ _ _ _, fun i y hy => ?_, hc⟩
 rw [cell_of_heap h2]
 rw [List.getElem?_take] at hy
 split at hy
 ·rw [List.getElem?_drop, List.getElem?_take] at hy
  split at hy
  ·simpa using hy
  ·simp at hy
 ·simp at hy
theorem freeze_sound [Laid] (h : WRel c st w) {r : Ref} {off len : Nat} {lim : Option Nat} {sz : Nat} {ag : Bool} {x : Value} (hx : Rel c (.arr r off len lim sz ag) x) {v : V} {st' : St}
  (hf : freeze st (.arr r off len lim sz ag) = some (v, st')) :
  ∃ c', c.le c' ∧ Rel c' v x ∧ WRel c' st' w ∧ Keep c c' st st' w w ∧ v.noRefs = true ∧ v.noLoc = true ∧ v.live = true ∧ st'.tm = st.tm ∧ ∃ row, st' = setRow st r row := by
 simp only [freeze] at hf
 cases hr : getRow st r with
 | none => simp [hr] at hf
 | some row =>
  cases row with
  | cells frz cs =>
   simp only [hr] at hf
   cases hi : itemsOf st (.arr r off len lim sz ag) with
   | none => simp [hi] at hf
   | some l =>
    simp only [hi] at hf
    cases hn : V.noRefsL l with
    | false => simp [hn] at hf
    | true =>
     simp [hn] at hf
     obtain ⟨rfl, rfl⟩ := hf
     obtain ⟨b, cap, xs, rfl, hb, hrl, hsz, hlen, hcell, hcap⟩ := arr_items h hx hi
     obtain ⟨frz', cs', hr', hle, _, hl⟩ := itemsOf_arr hi
     rw [hr] at hr'
     obtain ⟨rfl, rfl⟩ : frz = frz' ∧ cs = cs' := by simpa using hr'
     obtain ⟨b', ys, e, fz, h1, h2, h3, h4, h5, h6, h7, h8⟩ := h.rows r _ hr
     rw [hb] at h1
     obtain rfl := Option.some.inj h1
     let c' : Ctx := { c with shut := fun i o => if i = b then (match c.shut b o with | some x => some x | none => (ys.toList.take cs.length)[o]?) else c.shut i o }
     have hle' : c.le c' := ⟨fun _ _ h => h, fun _ _ _ h => h, fun i o x hq0 => by
      show (if i = b then (match c.shut b o with | some x => some x | none => (ys.toList.take cs.length)[o]?) else c.shut i o) = some x
      by_cases e0 : i = b
      ·rw [if_pos e0, ← e0, hq0]
      ·rw [if_neg e0]; exact hq0, fun _ _ h => h, fun _ _ h => h⟩
     have hshut : ∀ o x, (ys.toList.take cs.length)[o]? = some x → c'.shut b o = some x := fun o x hx => by
      show (if b = b then (match c.shut b o with | some x => some x | none => (ys.toList.take cs.length)[o]?) else _) = some x
      rw [if_pos rfl]
      cases hq : c.shut b o with
      | none => exact hx
      | some z =>
       have := h.shut b o z hq
       rw [cell_of_heap h2] at this
       rw [List.getElem?_take] at hx
       split at hx
       ·simp at hx
        rw [this] at hx; exact hx
       ·simp at hx
     have hW : WRel c' (setRow st r (.cells true cs)) w := by
      refine ⟨fun i o x hx => ?_, fun r1 row1 hr1 => ?_, fun r1 r2 row1 row2 b2 g1 g2 n1 n2 => ?_, fun i hi => ?_, fun s g hg => ?_, h.lt, h.tlt, h.elt⟩
      ·by_cases e1 : i = b
       ·subst e1
        have hx' : (match c.shut i o with | some x => some x | none => (ys.toList.take cs.length)[o]?) = some x := by simpa [c'] using hx
        cases hq : c.shut i o with
        | some z => rw [hq] at hx'; rw [← hx']; exact h.shut i o z hq
        | none =>
         rw [hq] at hx'
         simp only [] at hx'
         rw [cell_of_heap h2]
         rw [List.getElem?_take] at hx'
         split at hx'
         ·simpa using hx'
         ·simp at hx'
       ·have hx' : c.shut i o = some x := by simpa [c', e1] using hx
        exact h.shut i o x hx'
      ·by_cases e1 : r1 = r
       ·subst e1
        rw [getRow_set_same hr] at hr1
        obtain rfl := Option.some.inj hr1
        exact ⟨b, ys, e, fz, hb, h2, h3, h4, h5, h6.mono hle', fun hf => by simp at hf, fun _ o x hx => hshut o x hx⟩
       ·rw [getRow_set_ne hr e1] at hr1
        by_cases hg : row1 = .gone
        ·subst hg; trivial
        ·refine (h.rows r1 row1 hr1).keep hle' (fun j hj => ⟨rfl, fun o => ?_⟩)
         show (if j = b then _ else c.shut j o) = _
         rw [if_neg]
         intro e2; subst e2
         exact e1 (h.inj r1 r _ _ j hr1 hr hg (by simp) hj hb)
      ·have k1 : ∃ ro, getRow st r1 = some ro ∧ ro ≠ .gone := by
        by_cases e : r1 = r
        ·subst e; exact ⟨_, hr, by simp⟩
        ·rw [getRow_set_ne hr e] at g1; exact ⟨_, g1, n1⟩
       have k2 : ∃ ro, getRow st r2 = some ro ∧ ro ≠ .gone := by
        by_cases e : r2 = r
        ·subst e; exact ⟨_, hr, by simp⟩
        ·rw [getRow_set_ne hr e] at g2; exact ⟨_, g2, n2⟩
       obtain ⟨q1, p1, m1⟩ := k1
       obtain ⟨q2, p2, m2⟩ := k2
       exact h.inj r1 r2 q1 q2 b2 p1 p2 m1 m2
      ·exact h.glb i (by rwa [set_len] at hi)
      ·exact h.lcb s g (by rwa [set_lc hr] at hg)
     refine ⟨c', hle', ?_, hW, ⟨rfl, rfl, rfl, Nat.le_refl _, fun _ _ _ => rfl, fun i hi hn o => ?_, fun i hi ho => ?_⟩, rfl, rfl, rfl, by cases r <;> rfl, _, rfl⟩
     ·refine Rel.mk_slice (sz := sz) hsz (hrl.mono hle') (fun i x hx => ?_) (noRefs_flat hn) (by omega) (fun hf => by simp at hf) (fun r hr => by simp at hr) hlen.symm
      have := hcell i x hx
      rw [cell_of_heap h2] at this
      refine hshut _ _ ?_
      have hi2 : i < xs.length := by
       rcases Nat.lt_or_ge i xs.length with h' | h'
       ·exact h'
       ·rw [List.getElem?_eq_none h'] at hx; simp at hx
      have hl2 : xs.length = len * sz := by rw [hrl.1, flat_length hsz, hlen]
      rw [List.getElem?_take, if_pos (by omega)]
      simpa using this
     ·show (if i = b then _ else c.shut i o) = _
      rw [if_neg]
      intro e1; subst e1; exact hn ⟨r, _, hr, by simp, hb⟩
     ·obtain ⟨r1, row1, q1, q2, q3⟩ := ho
      exact own_set hr (by simp) i ⟨r1, row1, q1, q2, q3⟩
  | _ => simp [hr] at hf
end
end Go.AM
end

section
namespace Go.AM
open Go
theorem lower_spec (d : Option Nat) (r : Nat) : ∃ d', lower d r = some d' ∧ d' ≤ r ∧ ∀ e, d = some e → d' ≤ e := by
 cases d with
 | none => exact ⟨r, rfl, Nat.le_refl _, fun e h => by simp at h⟩
 | some e => exact ⟨min e r, rfl, Nat.min_le_right _ _, fun e' h => by obtain rfl := Option.some.inj h; exact Nat.min_le_left _ _⟩
theorem dirt_set {st : St} (r : Ref) (row : Row) : Dirt st.hp (setRow st r row).hp := by
 cases r with
 | loc s g => exact Dirt.refl _
 | glob r =>
  obtain ⟨d', h1, h2, h3⟩ := lower_spec st.hp.dirty r
  refine ⟨by simp [setRow], fun d hd => ⟨d', by simpa [setRow] using h1, h3 d hd⟩, fun i hi hd => ?_, by simp [setRow], fun h => by simp [setRow] at h⟩
  have : i < d' := hd d' (by simpa [setRow] using h1)
  simp only [setRow]
  rw [List.getElem?_set, if_neg (by omega)]
theorem dirt_add {st : St} (gl : Bool) (site : Nat) (row : Row) : Dirt st.hp (addRow st gl site row).2.hp := by
 cases gl with
 | true =>
  have hr : ∀ i, i < st.hp.rows.length → (addRow st true site row).2.hp.rows[i]? = st.hp.rows[i]? := fun i hi => by
   simp only [addRow, cond_true]
   rw [List.getElem?_append_left hi]
  exact ⟨by simp [addRow], fun d hd => ⟨d, by simpa [addRow] using hd, Nat.le_refl _⟩, fun i hi _ => hr i hi, by simp [addRow], fun _ => ⟨by simp [addRow], hr⟩⟩
 | false => exact Dirt.refl _
section
variable {P : Program} {C : Cfg} {c : Ctx} {st : St} {a : Act} {w : World}
structure Exported [Laid] (c : Ctx) (st : St) (w : World) (v' : V) (x : Value) (c' : Ctx) (st' : St) : Prop where
 le : c.le c'
 rel : Rel c' v' x
 wrel : WRel c' st' w
 keep : Keep c c' st st' w w
 dirt : Dirt st.hp st'.hp
 noLoc : v'.noLoc = true
 live : v'.live = true
 tm : st'.tm = st.tm
theorem exp1_sound [Laid] {fz : Bool} (h : WRel c st w) {v : V} {x : Value} (hx : Rel c v x) {v' : V} {st' : St} (he : exp1 fz st v = some (v', st')) : ∃ c', Exported c st w v' x c' st' := by
 have same : ∀ u, u.noLoc = true → u.live = true → Rel c u x → Exported c st w u x c st := fun u h1 h2 h3 => ⟨.refl c, h3, h, .refl c st w, .refl _, h1, h2, rfl⟩
 unfold exp1 at he
 split at he
 ·rename_i r off len lim sz ag
  cases hb : (fz || isLoc r) with
  | true =>
   simp only [hb, cond_true] at he
   obtain ⟨c', h1, h2, h3, h4, h5, h6, h7, h8, row, h9⟩ := freeze_sound h hx he
   exact ⟨c', h1, h2, h3, h4, by rw [h9]; exact dirt_set _ _, h6, h7, h8⟩
  | false =>
   simp only [hb, cond_false] at he
   simp at he
   obtain ⟨rfl, rfl⟩ := he
   simp at hb
   refine ⟨c, same _ ?_ rfl hx⟩
   cases r with
   | loc s g => simp [isLoc] at hb
   | glob r => rfl
 ·rename_i tok f sz l
  have hweak : Rel c (.slice none f sz l) x := hx.weak
  split at he
  ·rename_i r
   cases fz with
   | true => simp at he; obtain ⟨rfl, rfl⟩ := he; exact ⟨c, same _ rfl rfl hweak⟩
   | false => simp at he; obtain ⟨rfl, rfl⟩ := he; exact ⟨c, same _ rfl rfl hx⟩
  ·simp at he; obtain ⟨rfl, rfl⟩ := he; exact ⟨c, same _ rfl rfl hweak⟩
 ·rename_i h1 h2
  cases hb : (v.live && v.noLoc) with
  | false => simp [hb] at he
  | true =>
   simp [hb] at he
   obtain ⟨rfl, rfl⟩ := he
   simp only [Bool.and_eq_true] at hb
   exact ⟨c, same _ hb.2 hb.1 hx⟩
theorem Exported.trans [Laid] {c1 c2 : Ctx} {s1 s2 : St} {v u : V} {x y : Value} (h : Exported c st w v x c1 s1) (k : Exported c1 s1 w u y c2 s2) :
  c.le c2 ∧ Rel c2 v x ∧ Rel c2 u y ∧ WRel c2 s2 w ∧ Keep c c2 st s2 w w ∧ Dirt st.hp s2.hp ∧ s2.tm = st.tm :=
 ⟨h.le.trans k.le, h.rel.mono k.le, k.rel, k.wrel, h.keep.trans k.keep, h.dirt.trans k.dirt, k.tm.trans h.tm⟩
structure ExportedL [Laid] (c : Ctx) (st : St) (w : World) (vs' : List V) (xs : List Value) (c' : Ctx) (st' : St) : Prop where
 le : c.le c'
 rel : RelL c' vs' xs
 wrel : WRel c' st' w
 keep : Keep c c' st st' w w
 dirt : Dirt st.hp st'.hp
 noLoc : V.noLocL vs' = true
 live : ∀ v ∈ vs', v.live = true
 tm : st'.tm = st.tm
theorem expL_sound [Laid] {fz : Bool} : ∀ (vs : List V) (c : Ctx) (st : St) (xs : List Value) (vs' : List V) (st' : St), WRel c st w → RelL c vs xs → expL fz st vs = some (vs', st') → ∃ c', ExportedL c st w vs' xs c' st'
 | [], c, st, xs, vs', st', h, hr, he => by
  simp [expL] at he
  obtain ⟨rfl, rfl⟩ := he
  exact ⟨c, .refl c, hr, h, .refl c st w, .refl _, rfl, by simp, rfl⟩
 | v :: vs, c, st, xs, vs', st', h, hr, he => by
  cases xs with
  | nil => have := hr.1; simp at this
  | cons x xs =>
   simp only [expL] at he
   split at he
   ·simp at he
   ·rename_i v1 st1 he1
    split at he
    ·simp at he
    ·rename_i l2 st2 he2
     simp at he
     obtain ⟨rfl, rfl⟩ := he
     obtain ⟨c1, k1⟩ := exp1_sound h hr.head he1
     obtain ⟨c2, k2⟩ := expL_sound vs c1 st1 xs l2 st2 k1.wrel (hr.tail.mono k1.le) he2
     exact ⟨c2, k1.le.trans k2.le, RelL.cons (k1.rel.mono k2.le) k2.rel, k2.wrel, k1.keep.trans k2.keep, k1.dirt.trans k2.dirt, by simp [V.noLocL, k1.noLoc, k2.noLoc],
      fun u hu => by rcases List.mem_cons.1 hu with rfl | hu; exact k1.live; exact k2.live u hu, k2.tm.trans k1.tm⟩
theorem exp_sound [Laid] {fz : Bool} (h : WRel c st w) {v : V} {x : Value} (hx : Rel c v x) {v' : V} {st' : St} (he : exp fz st v = some (v', st')) : ∃ c', Exported c st w v' x c' st' := by
 unfold exp at he
 split at he
 ·rename_i cs
  obtain ⟨xs, rfl, hr⟩ := hx.agg_inv
  simp only [Option.map_eq_some_iff] at he
  obtain ⟨⟨l, st1⟩, he1, he2⟩ := he
  simp at he2
  obtain ⟨rfl, rfl⟩ := he2
  obtain ⟨c', k⟩ := expL_sound cs c st xs l st1 h hr he1
  exact ⟨c', k.le, Rel.mk_agg k.rel, k.wrel, k.keep, k.dirt, k.noLoc, rfl, k.tm⟩
 ·exact exp1_sound h hx he
theorem exps_sound [Laid] {fz : Bool} : ∀ (vs : List V) (c : Ctx) (st : St) (xs : List Value) (vs' : List V) (st' : St), WRel c st w → RelL c vs xs → exps fz st vs = some (vs', st') → ∃ c', ExportedL c st w vs' xs c' st'
 | [], c, st, xs, vs', st', h, hr, he => by
  simp [exps] at he
  obtain ⟨rfl, rfl⟩ := he
  exact ⟨c, .refl c, hr, h, .refl c st w, .refl _, rfl, by simp, rfl⟩
 | v :: vs, c, st, xs, vs', st', h, hr, he => by
  cases xs with
  | nil => have := hr.1; simp at this
  | cons x xs =>
   simp only [exps] at he
   split at he
   ·simp at he
   ·rename_i v1 st1 he1
    split at he
    ·simp at he
    ·rename_i l2 st2 he2
     simp at he
     obtain ⟨rfl, rfl⟩ := he
     obtain ⟨c1, k1⟩ := exp_sound h hr.head he1
     obtain ⟨c2, k2⟩ := exps_sound vs c1 st1 xs l2 st2 k1.wrel (hr.tail.mono k1.le) he2
     exact ⟨c2, k1.le.trans k2.le, RelL.cons (k1.rel.mono k2.le) k2.rel, k2.wrel, k1.keep.trans k2.keep, k1.dirt.trans k2.dirt, by simp [V.noLocL, k1.noLoc, k2.noLoc],
      fun u hu => by rcases List.mem_cons.1 hu with rfl | hu; exact k1.live; exact k2.live u hu, k2.tm.trans k1.tm⟩
end
end Go.AM
end

section
namespace Go.AM
open Go
def CallStill (call : CallF) : Prop := ∀ f args h out, call f args h = some out → Dirt h out.hp
def Res.hp : Res → Hp
 | .val _ st => st.hp
 | .enter _ _ st => st.hp
 | .panic _ st => st.hp
section
variable {P : Program} {C : Cfg} {gl : Nat → Bool}
theorem stl_or {α : Type} {b : Bool} {x y : Option α} {r : α} (h : (bif b then x else y) = some r) : x = some r ∨ y = some r := by
 cases b <;> simp at h
 ·exact .inr h
 ·exact .inl h
theorem freeze_dirt {v v' : V} {st st' : St} (h : freeze st v = some (v', st')) : Dirt st.hp st'.hp := by
 unfold freeze at h
 split at h
 ·split at h
  ·split at h
   ·generalize V.noRefsL _ = q at h
    cases q with
    | false => simp at h
    | true => simp at h; rw [← h.2]; exact dirt_set _ _
   ·simp at h
  ·simp at h
 ·simp at h
theorem exp1_dirt {fz : Bool} {v v' : V} {st st' : St} (h : exp1 fz st v = some (v', st')) : Dirt st.hp st'.hp := by
 unfold exp1 at h
 split at h
 ·rcases stl_or h with h | h
  ·exact freeze_dirt h
  ·simp at h; rw [← h.2]; exact .refl _
 ·split at h
  ·cases fz <;> simp at h <;> (rw [← h.2]; exact .refl _)
  ·simp at h; rw [← h.2]; exact .refl _
 ·generalize (V.live _ && V.noLoc _) = q at h
  cases q with
  | false => simp at h
  | true => simp at h; rw [← h.2]; exact .refl _
theorem expL_dirt {fz : Bool} : ∀ (vs vs' : List V) (st st' : St), expL fz st vs = some (vs', st') → Dirt st.hp st'.hp
 | [], vs', st, st', h => by simp [expL] at h; rw [← h.2]; exact .refl _
 | v :: vs, vs', st, st', h => by
  simp only [expL] at h
  split at h
  ·simp at h
  ·rename_i v1 st1 h1
   split at h
   ·simp at h
   ·rename_i l2 st2 h2
    simp at h
    rw [← h.2]
    exact (exp1_dirt h1).trans (expL_dirt _ _ _ _ h2)
theorem exp_dirt {fz : Bool} {v v' : V} {st st' : St} (h : exp fz st v = some (v', st')) : Dirt st.hp st'.hp := by
 cases v with
 | agg cs =>
  simp only [exp, Option.map_eq_some_iff] at h
  obtain ⟨⟨l, s⟩, h1, h2⟩ := h
  simp at h2
  rw [← h2.2]
  exact expL_dirt _ _ _ _ h1
 | _ => simp only [exp] at h; exact exp1_dirt h
theorem exps_dirt {fz : Bool} : ∀ (vs vs' : List V) (st st' : St), exps fz st vs = some (vs', st') → Dirt st.hp st'.hp
 | [], vs', st, st', h => by simp [exps] at h; rw [← h.2]; exact .refl _
 | v :: vs, vs', st, st', h => by
  simp only [exps] at h
  split at h
  ·simp at h
  ·rename_i v1 st1 h1
   split at h
   ·simp at h
   ·rename_i l2 st2 h2
    simp at h
    rw [← h.2]
    exact (exp_dirt h1).trans (exps_dirt _ _ _ _ h2)
theorem growArr_dirt {st : St} {d : Nat} {cs : List V} {len sz : Nat} {ag : Bool} {r : Res} (h : growArr gl st d cs len sz ag = some r) : Dirt st.hp r.hp := by
 unfold growArr at h
 generalize (gl d && !V.noLocL cs) = q at h
 cases q with
 | true => simp at h
 | false => simp at h; subst h; exact dirt_add _ _ _
theorem growImm_dirt {st : St} {d sz : Nat} {l : List V} {r : Res} (h : growImm gl st d sz l = some r) : Dirt st.hp r.hp := by
 unfold growImm at h
 simp at h; subst h; exact dirt_add _ _ _
theorem stl_some {α : Type} {b : Bool} {x : Option α} {r : α} (h : (bif b then x else none) = some r) : x = some r := by
 cases b <;> simp at h; exact h
theorem stl_none {α : Type} {b : Bool} {x : Option α} {r : α} (h : (bif b then none else x) = some r) : x = some r := by
 cases b <;> simp at h; exact h
theorem appendV_dirt {st : St} {d : Nat} {t : TypeId} {x y : V} {r : Res} (h : appendV P C gl st d t x y = some r) : Dirt st.hp r.hp := by
 unfold appendV at h
 split at h
 ·simp at h
 ·split at h
  ·have h := stl_some h
   split at h
   ·split at h
    ·simp at h; subst h; exact .refl _
    ·have h := stl_some h
     generalize C.isArr t = q at h
     cases q with
     | true => exact growArr_dirt h
     | false => exact growImm_dirt (stl_some h)
   ·have h := stl_some h
    split at h
    ·simp at h; subst h; exact .refl _
    ·have h := stl_some h
     generalize C.isArr t = q at h
     cases q with
     | true => exact growArr_dirt (stl_some h)
     | false =>
      have h := stl_some h
      rcases stl_or h with h | h
      ·exact growImm_dirt h
      ·split at h
       ·split at h
        ·exact (dirt_set _ _).trans (growImm_dirt h)
        ·simp at h
       ·simp at h
   ·have h := stl_some h
    split at h
    ·have h := stl_some h
     split at h
     ·simp at h; subst h; exact .refl _
     ·have h := stl_none h
      split at h
      ·generalize (Nat.ble _ _) = q at h
       cases q with
       | true =>
        have h := stl_none h
        split at h
        ·simp at h; subst h; exact dirt_set _ _
        ·simp at h
       | false => exact growArr_dirt h
      ·have h := stl_none h
       generalize (Nat.ble _ _) = q at h
       cases q with
       | true =>
        simp only [cond_true] at h
        split at h
        ·simp at h; subst h; exact dirt_set _ _
        ·simp at h
       | false =>
        simp only [cond_false] at h
        exact (dirt_set _ _).trans (growArr_dirt (stl_some h))
    ·simp at h
   ·simp at h
  ·simp at h
theorem makeV_dirt {st : St} {d : Nat} {t : TypeId} {x y : V} {r : Res} (h : makeV P gl st d t x y = some r) : Dirt st.hp r.hp := by
 unfold makeV at h
 split at h
 ·split at h
  ·have h := stl_some h
   simp at h; subst h; exact dirt_add _ _ _
  ·simp at h
 ·simp at h
theorem copyV_dirt {st : St} {t : TypeId} {x y : V} {r : Res} (h : copyV P st t x y = some r) : Dirt st.hp r.hp := by
 unfold copyV at h
 split at h
 ·simp at h
 ·split at h
  ·have h := stl_some h
   split at h
   ·split at h
    ·have h := stl_some h
     simp at h; subst h; exact dirt_set _ _
    ·simp at h
   ·simp at h
  ·simp at h
theorem clearV_dirt {st : St} {t : TypeId} {x : V} {r : Res} (h : clearV P st t x = some r) : Dirt st.hp r.hp := by
 unfold clearV at h
 split at h
 ·simp at h
 ·split at h
  ·have h := stl_some h
   split at h
   ·split at h
    ·simp at h; subst h; exact dirt_set _ _
    ·simp at h
   ·simp at h
  ·simp at h
theorem convS_dirt {st : St} {d : Nat} {s t : TypeId} {x : V} {r : Res} (h : convS P C gl st d s t x = some r) : Dirt st.hp r.hp := by
 unfold convS at h
 split at h
 ·split at h
  ·split at h
   ·split at h
    ·simp at h
    ·simp only [Option.map_eq_some_iff] at h
     obtain ⟨b, _, h⟩ := h
     subst h; exact .refl _
   ·simp at h
  ·simp at h
 ·split at h
  ·have h := stl_some h
   simp at h; subst h; exact dirt_add _ _ _
  ·simp at h
 ·simp at h
theorem callS_dirt {st : St} {dst : Option Nat} {c : Call} {r : Res} (h : callS P C gl st dst c = some r) : Dirt st.hp r.hp := by
 unfold callS at h
 simp only [] at h
 split at h
 ·split at h
  ·split at h
   ·rename_i l st' he
    simp at h; subst h; exact exps_dirt _ _ _ _ he
   ·simp at h
  ·simp at h
 ·split at h
  ·split at h
   ·exact appendV_dirt (stl_some h)
   ·exact copyV_dirt h
   ·simp at h
  ·split at h
   ·exact copyV_dirt h
   ·exact clearV_dirt h
   ·simp at h
  ·simp at h
 ·simp at h
theorem layM_dirt {st : St} {t : TypeId} {x k v : V} {r : Res} (h : layM P t st x k v = some r) : Dirt st.hp r.hp := by
 unfold layM at h
 split at h
 ·rename_i he
  split at h
  ·have h := stl_some h
   split at h
   ·simp at h; subst h; exact (exp_dirt he).trans (dirt_set _ _)
   ·simp at h; subst h; exact (exp_dirt he).trans (dirt_set _ _)
   ·simp at h
  ·simp at h
 ·simp at h
theorem stepG_dirt {st : St} {o : Oper} {r : Res} (h : stepG P C gl st o = some r) : Dirt st.hp r.hp := by
 unfold stepG at h
 split at h
 ·split at h
  ·split at h
   ·simp only [Option.map_eq_some_iff] at h
    obtain ⟨b, _, h⟩ := h
    subst h; exact .refl _
   ·simp at h
  ·simp at h
 ·split at h
  ·split at h
   ·rename_i he
    split at h
    ·have h := stl_some h
     split at h
     ·simp at h; subst h; exact (exp_dirt he).trans (dirt_set _ _)
     ·simp at h
    ·simp at h
   ·simp at h
  ·simp at h
 ·split at h
  ·simp at h
  ·split at h
   ·have h := stl_some h
    simp at h; subst h; exact dirt_add _ _ _
   ·simp at h
 ·split at h
  ·simp at h
  ·split at h
   ·rename_i he
    have h := stl_some h
    simp at h; subst h; exact (exp_dirt he).trans (dirt_add _ _ _)
   ·simp at h
 ·split at h
  ·rename_i he
   simp only [] at h
   have h := stl_none h
   split at h
   ·simp at h; subst h; exact exps_dirt _ _ _ _ he
   ·simp at h
  ·simp at h
 ·split at h
  ·split at h
   ·rename_i he
    have h := stl_some h
    split at h
    ·simp at h; subst h; exact (exps_dirt _ _ _ _ he).trans (dirt_add _ _ _)
    ·simp at h
   ·simp at h
  ·simp at h
 ·split at h
  ·exact makeV_dirt h
  ·simp at h
 ·split at h
  ·exact convS_dirt h
  ·simp at h
 ·split at h
  ·split at h
   ·rcases stl_or h with h | h
    ·simp at h; subst h; exact dirt_set _ _
    ·simp at h; subst h; exact .refl _
   ·simp at h
  ·simp at h
 ·exact callS_dirt h
 ·split at h
  ·have h := stl_some h
   simp at h; subst h; exact .refl _
  ·simp at h
 ·split at h
  ·simp at h; subst h; exact dirt_add _ _ _
  ·simp at h
 ·simp only [Option.map_eq_some_iff] at h
  obtain ⟨v, _, h⟩ := h
  subst h; exact .refl _
 ·exact layM_dirt h
 ·exact layM_dirt h
 ·simp at h
theorem applyL_hp (st : St) (u : Option (Nat × Nat × Row)) : (applyL st u).hp = st.hp := by
 cases u with
 | none => rfl
 | some q => rfl
theorem stepV_dirt {st : St} {o : Oper} {r : Res} (h : stepV P C gl st o = some r) : Dirt st.hp r.hp := by
 unfold stepV at h
 split at h
 ·simp at h; subst h; simp only [Res.hp, applyL_hp]; exact .refl _
 ·exact stepG_dirt h
theorem putV_hp (st : St) (d : Option Nat) (v : V) : (putV st d v).hp = st.hp := by cases d <;> rfl
theorem oneV_dirt {call : CallF} (hC : CallStill call) {st st' : St} {o : Oper} {ex : Ex} (h : oneV P C call gl st o = some (ex, st')) : Dirt st.hp st'.hp := by
 unfold oneV at h
 split at h
 ·rename_i hs
  simp at h; rw [← h.2]; rw [putV_hp]; exact stepV_dirt hs
 ·rename_i hs
  split at h
  ·rename_i hc
   simp at h; rw [← h.2]; rw [putV_hp]; exact (stepV_dirt hs).trans (hC _ _ _ _ hc)
  ·rename_i hc
   simp at h; rw [← h.2]; exact (stepV_dirt hs).trans (hC _ _ _ _ hc)
  ·simp at h
 ·rename_i hs
  simp at h; rw [← h.2]; exact stepV_dirt hs
 ·simp at h
theorem opsV_dirt {call : CallF} (hC : CallStill call) {all : Array Oper} : ∀ (l : List Oper) (st st' : St) (ex : Ex), opsV P C call gl all l st = some (ex, st') → Dirt st.hp st'.hp
 | [], st, st', ex, h => by simp [opsV] at h; rw [← h.2]; exact .refl _
 | o :: l, st, st', ex, h => by
  simp only [opsV] at h
  split at h
  ·simp at h
  ·have := opsV_dirt hC l _ _ _ h
   rw [putV_hp] at this; exact this
  ·split at h
   ·rename_i h1
    exact (oneV_dirt hC h1).trans (opsV_dirt hC l _ _ _ h)
   ·exact oneV_dirt hC h
theorem consF_some {f : Foot} {r : Option (List Foot × St × Stop)} {fs : List Foot} {s : St} {q : Stop} (h : consF f r = some (fs, s, q)) : ∃ gs, r = some (gs, s, q) ∧ fs = f :: gs := by
 unfold consF at h
 split at h
 ·simp at h; obtain ⟨rfl, rfl, rfl⟩ := h; exact ⟨_, rfl, rfl⟩
 ·simp at h
def Stop.over (q : Stop) (h : Hp) : Hp := match q with
 | none => h
 | some (_, _, h') => h'
theorem drawOps_dirt {call : CallF} (hC : CallStill call) {all : Array Oper} {h0 : Hp} : ∀ (l : List Oper) (k : Nat) (sp : Stop) (st : St) (fs : List Foot) (st' : St) (sp' : Stop), drawOps P C call gl all l k sp st = some (fs, st', sp') → Dirt h0 (sp.over st.hp) → Dirt h0 st.hp → Dirt h0 (sp'.over st'.hp)
 | [], k, sp, st, fs, st', sp', h, hd, _ => by simp [drawOps] at h; obtain ⟨_, rfl, rfl⟩ := h; exact hd
 | o :: l, k, sp, st, fs, st', sp', h, hd, hd2 => by
  have skip : ∀ f, consF f (drawOps P C call gl all l (k + 1) sp (putV st o.dst (.tuple []))) = some (fs, st', sp') → Dirt h0 (sp'.over st'.hp) := fun f h => by
   obtain ⟨gs, h1, _⟩ := consF_some h
   exact drawOps_dirt hC l _ _ _ _ _ _ h1 (by rw [putV_hp]; exact hd) (by rw [putV_hp]; exact hd2)
  simp only [drawOps] at h
  cases hb : behind all.toList k sp with
  | true => rw [hb] at h; exact skip _ h
  | false =>
   rw [hb] at h
   simp only [cond_false] at h
   split at h
   ·simp at h
   ·exact skip _ h
   ·split at h
    ·rename_i h1
     obtain ⟨gs, h2, _⟩ := consF_some h
     have d1 := hd2.trans (oneV_dirt hC h1)
     refine drawOps_dirt hC l _ _ _ _ _ _ h2 ?_ d1
     cases sp with
     | none => exact d1
     | some q => exact hd
    ·rename_i h1
     split at h
     ·obtain ⟨gs, h2, _⟩ := consF_some (stl_some h)
      exact drawOps_dirt hC l _ _ _ _ _ _ h2 (hd2.trans (oneV_dirt hC h1)) (by rw [putV_hp]; exact hd2)
     ·simp at h
    ·simp at h
theorem endV_dirt {P1 P2 : List (Nat × Nat)} {ops : List Oper} {st st1 st' : St} {fs : List Foot} {sp : Stop} {ex : Ex} (h : endV P1 P2 ops st fs st1 sp = some (ex, st')) : st'.hp = sp.over st1.hp := by
 cases sp with
 | none =>
  have h := stl_some h
  simp at h
  rw [← h.2]; rfl
 | some q =>
  obtain ⟨i, v, hh⟩ := q
  have h := stl_some h
  simp at h
  rw [← h.2]; rfl
theorem regionV_dirt {call : CallF} (hC : CallStill call) {f id : Nat} {ops : Array Oper} {draw : Bool} {st st' : St} {ex : Ex} (h : regionV P C call f id ops draw st = some (ex, st')) : Dirt st.hp st'.hp := by
 unfold regionV at h
 cases draw with
 | false =>
  exact opsV_dirt hC _ _ _ _ h
 | true =>
  simp only [] at h
  split at h
  ·rename_i h1
   rw [endV_dirt h]
   exact drawOps_dirt hC _ _ _ _ _ _ _ h1 (.refl _) (.refl _)
  ·simp at h
theorem loopV_dirt {body : St → Option (Ex × St)} (hb : ∀ st ex st', body st = some (ex, st') → Dirt st.hp st'.hp) : ∀ (n : Nat) (st st' : St) (ex : Ex), loopV body n st = some (ex, st') → Dirt st.hp st'.hp
 | 0, st, st', ex, h => by simp [loopV] at h
 | n + 1, st, st', ex, h => by
  simp only [loopV] at h
  cases h1 : body st with
  | none => rw [h1] at h; simp at h
  | some p =>
   obtain ⟨e, s⟩ := p
   rw [h1] at h
   cases e with
   | normal => exact (hb _ _ _ h1).trans (loopV_dirt hb n _ _ _ h)
   | _ => simp at h; obtain ⟨rfl, rfl⟩ := h; exact hb _ _ _ h1
theorem codeV_dirt {call : CallF} (hC : CallStill call) {f fuel : Nat} : ∀ (cd : Code) (st st' : St) (ex : Ex), codeV P C call f fuel cd st = some (ex, st') → Dirt st.hp st'.hp := by
 intro cd
 induction cd with
 | skip => intro st st' ex h; simp [codeV] at h; rw [← h.2]; exact .refl _
 | region id ops draw => intro st st' ex h; simp only [codeV] at h; exact regionV_dirt hC h
 | seq a b iha ihb =>
  intro st st' ex h
  simp only [codeV] at h
  cases h1 : codeV P C call f fuel a st with
  | none => rw [h1] at h; simp at h
  | some p =>
   obtain ⟨e, s⟩ := p
   rw [h1] at h
   cases e with
   | normal => exact (iha _ _ _ h1).trans (ihb _ _ _ h)
   | _ => simp at h; obtain ⟨rfl, rfl⟩ := h; exact iha _ _ _ h1
 | cond c a b iha ihb =>
  intro st st' ex h
  simp only [codeV] at h
  split at h
  ·exact iha _ _ _ h
  ·exact ihb _ _ _ h
  ·simp at h
 | block id b ih =>
  intro st st' ex h
  simp only [codeV] at h
  cases h1 : codeV P C call f fuel b st with
  | none => rw [h1] at h; simp at h
  | some p =>
   obtain ⟨e, s⟩ := p
   rw [h1] at h
   cases e with
   | exit i =>
    simp only [] at h
    generalize Nat.beq i id = q at h
    cases q <;> (simp at h; obtain ⟨rfl, rfl⟩ := h; exact ih _ _ _ h1)
   | _ => simp at h; obtain ⟨rfl, rfl⟩ := h; exact ih _ _ _ h1
 | loop b ih => intro st st' ex h; simp only [codeV] at h; exact loopV_dirt (fun _ _ _ => ih _ _ _) _ _ _ _ h
 | exit i => intro st st' ex h; simp [codeV] at h; rw [← h.2]; exact .refl _
 | ret => intro st st' ex h; simp [codeV] at h; rw [← h.2]; exact .refl _
 | _ => intro st st' ex h; simp [codeV] at h
theorem backHp_dirt {h h' : Hp} {l : List V} (d : Dirt { h with dirty := none } h') : Dirt h (backHp h h' l) := by
 unfold backHp
 cases hc : cleanB h h' with
 | true =>
  have hcl : ∀ k, h'.dirty = some k → h.rows.length ≤ k := fun k hd => by
   unfold cleanB at hc
   rw [hd] at hc
   simpa using hc
  have hsame : ∀ i, i < h.rows.length → h'.rows[i]? = h.rows[i]? := fun i hi => d.same i hi (fun k hd => Nat.lt_of_lt_of_le hi (hcl k hd))
  simp only [cond_true]
  cases hn : V.noRefsL l with
  | true => exact .refl _
  | false =>
   simp only [cond_false]
   exact ⟨d.len, fun k hk => ⟨k, hk, Nat.le_refl _⟩, fun i hi _ => hsame i hi, Nat.le_refl _, fun _ => ⟨rfl, hsame⟩⟩
 | false =>
  simp only [cond_false]
  refine ⟨d.len, fun k hk => ?_, fun i hi hd => ?_, d.mods, fun hm => ?_⟩
  ·simp only [hk]
   cases h'.dirty with
   | none => exact ⟨k, rfl, Nat.le_refl _⟩
   | some d' => exact ⟨_, rfl, Nat.min_le_left _ _⟩
  ·refine d.same i hi (fun k hk => ?_)
   simp only [hk] at hd
   cases hq : h.dirty with
   | none => rw [hq] at hd; exact hd k rfl
   | some d0 =>
    rw [hq] at hd
    have := hd _ rfl
    omega
  ·obtain ⟨s1, s2⟩ := d.still hm
   refine ⟨?_, s2⟩
   have s3 : h'.dirty = none := s1
   simp only [s3]
   cases h.dirty <;> rfl
theorem bodyV_still {call : CallF} (hC : CallStill call) (fuel : Nat) : CallStill (bodyV P C call fuel) := by
 intro f args h out hr
 unfold bodyV at hr
 split at hr
 ·simp at hr
 ·simp at hr
 ·split at hr
  ·simp at hr
  ·rename_i fn _ _ _ cd _
   have fin : ∀ (st : St), Dirt { h with dirty := none } st.hp → (match resV P st fn.results.toList with
      | none => none
      | some l => match exps false st l with
       | none => none
       | some (l, st') => match l with
        | [v] => some (Out.val v (backHp h st'.hp [v]))
        | vs => some (Out.val (.tuple vs) (backHp h st'.hp vs))) = some out → Dirt h out.hp := by
    intro st hd hr
    split at hr
    ·simp at hr
    ·split at hr
     ·simp at hr
     ·rename_i he
      have hd := hd.trans (exps_dirt _ _ _ _ he)
      split at hr <;> (simp only [Option.some.injEq] at hr; rw [← hr]; exact backHp_dirt hd)
   split at hr
   ·rename_i hc; exact fin _ (codeV_dirt hC _ _ _ _ hc) hr
   ·rename_i hc; exact fin _ (codeV_dirt hC _ _ _ _ hc) hr
   ·rename_i hc
    simp only [Option.some.injEq] at hr
    rw [← hr]
    exact backHp_dirt (codeV_dirt hC _ _ _ _ hc)
   ·simp at hr
end
end Go.AM
end

section
namespace Go.AM
open Go
section
variable {P : Program} {C : Cfg} {c : Ctx} {st : St} {a : Act} {w : World} {gl : Nat → Bool}
structure ValOk [Laid] (P : Program) (c : Ctx) (st : St) (w : World) (s : Sem Next) (v : V) (st' : St) (c' : Ctx) (x : Value) (w' : World) : Prop where
 steps : StepsTo P s w x w'
 le : c.le c'
 rel : Rel c' v x
 wrel : WRel c' st' w'
 keep : Keep c c' st st' w w'
 dirt : Dirt st.hp st'.hp
 tm : st'.tm = st.tm
structure EnterOk [Laid] (P : Program) (c : Ctx) (st : St) (w : World) (s : Sem Next) (f : FuncId) (args : List V) (st' : St) (c' : Ctx) (xs : List Value) : Prop where
 steps : ∀ fn cd, P.funcs[f]? = some fn → fn.body = some cd → s.run P w = .ok (.enter f xs.toArray) w
 le : c.le c'
 rel : RelL c' args xs
 wrel : WRel c' st' w
 keep : Keep c c' st st' w w
 dirt : Dirt st.hp st'.hp
 tm : st'.tm = st.tm
 noLoc : V.noLocL args = true
 live : ∀ v ∈ args, v.live = true
def ResOk [Laid] (P : Program) (c : Ctx) (st : St) (w : World) (s : Sem Next) : Res → Prop
 | .val v st' => ∃ c' x w', ValOk P c st w s v st' c' x w'
 | .enter f args st' => ∃ c' xs, EnterOk P c st w s f args st' c' xs
 | .panic v st' => st' = st ∧ v.noLoc = true ∧ ∃ x, s.run P w = .halt (.panic x) w ∧ Rel c v x
theorem ValOk.after [Laid] {s : Sem Next} {st1 : St} {c1 : Ctx} {v : V} {st' : St} {c' : Ctx} {x : Value} {w' : World} (hle : c.le c1) (hk : Keep c c1 st st1 w w) (hd : Dirt st.hp st1.hp) (ht : st1.tm = st.tm)
  (k : ValOk P c1 st1 w s v st' c' x w') : ValOk P c st w s v st' c' x w' :=
 ⟨k.steps, hle.trans k.le, k.rel, k.wrel, hk.trans k.keep, hd.trans k.dirt, k.tm.trans ht⟩
theorem tm_set (r : Ref) (row : Row) : (setRow st r row).tm = st.tm := by cases r <;> rfl
theorem tm_add (gl : Bool) (d : Nat) (row : Row) : (addRow st gl d row).2.tm = st.tm := by cases gl <;> rfl
theorem newRow_ok [Laid] {s : Sem Next} (h : WRel c st w) {gl : Bool} {d : Nat} {v : V} {x : Value} (hv : Rel c v x) (hl : v.live = true) (e : TypeId)
  (hs : ∀ w', (newVar e x).run P w = .ok ⟨w.heap.size, 0, none⟩ w' → StepsTo P s w (.pointer (some ⟨w.heap.size, 0, none⟩)) w') :
  ∃ c' x' w', ValOk P c st w s (.ptr (addRow st gl d (.cells false v.cells)).1 0) (addRow st gl d (.cells false v.cells)).2 c' x' w' := by
 obtain ⟨c', w', hrun, hle, hbk, hW, hK⟩ := newVar_sound (P := P) (gl := gl) (d := d) h hv hl e
 exact ⟨c', _, w', hs w' hrun, hle, .ptr _ _ _ hbk, hW, hK, dirt_add _ _ _, tm_add _ _ _⟩
theorem glob_load [Laid] (h : WRel c st w) (hs : Slots c st.ρ a) {o : Oper} {t : TypeId} {y : Operand} (ho : o.op = .load t y) {res : Res} (hr : stepG P C gl st o = some res) : ResOk P c st w (execOp a.eval o) res := by
 unfold stepG at hr
 simp only [ho] at hr
 have hy := opd_rel hs y
 split at hr
 ·rename_i r off hc
  rw [hc] at hy
  obtain ⟨b, hp, hbk⟩ := hy.ptr_inv
  split at hr
  ·rename_i frz cs hrow
   simp only [Option.map_eq_some_iff] at hr
   obtain ⟨v, hv, rfl⟩ := hr
   obtain ⟨x, hrun, hrel⟩ := load_row (P := P) h (r := .glob r) hrow hbk hv
   exact ⟨c, x, w, .inl (by simp only [execOp, ho, hp]; rw [Sem.run_bind, hrun]; rfl), .refl c, hrel, h, .refl c st w, .refl _, rfl⟩
  ·simp at hr
 ·simp at hr
theorem glob_store [Laid] (h : WRel c st w) (hs : Slots c st.ρ a) {o : Oper} {t : TypeId} {y z : Operand} (ho : o.op = .store t y z) {res : Res} (hr : stepG P C gl st o = some res) : ResOk P c st w (execOp a.eval o) res := by
 unfold stepG at hr
 simp only [ho] at hr
 have hy := opd_rel hs y
 split at hr
 ·rename_i r off hc
  rw [hc] at hy
  obtain ⟨b, hp, hbk⟩ := hy.ptr_inv
  split at hr
  ·rename_i cs0 v st1 hrow0 hexp
   obtain ⟨c1, k⟩ := exp_sound (fz := false) h (opd_rel hs z) hexp
   split at hr
   ·rename_i cs hrow
    generalize hg : (v.cells.all V.cellOk && lenIs P t v.cells.length) = q at hr
    cases q with
    | false => simp at hr
    | true =>
     simp only [Bool.and_eq_true] at hg
     simp only [cond_true] at hr
     split at hr
     ·rename_i cs' hset
      simp at hr
      subst hr
      obtain ⟨w', hrun, k1, k2⟩ := store_row (P := P) k.wrel (r := .glob r) hrow (k.le.blk hbk) k.rel hg.1 hg.2 hset
      exact ⟨c1, undef, w', .inr ⟨by simp only [execOp, ho, hp]; rw [Sem.run_bind, hrun]; rfl, rfl⟩, k.le, Rel.mk_tuple (RelL.nil _), k1, k.keep.trans k2, k.dirt.trans (dirt_set _ _), (tm_set _ _).trans k.tm⟩
     ·simp at hr
   ·simp at hr
  ·simp at hr
 ·simp at hr
theorem glob_alloc [Laid] (h : WRel c st w) (hs : Slots c st.ρ a) {o : Oper} {t : TypeId} (ho : o.op = .alloc t) {res : Res} (hr : stepG P C gl st o = some res) : ResOk P c st w (execOp a.eval o) res := by
 unfold stepG at hr
 simp only [ho] at hr
 split at hr
 ·simp at hr
 ·rename_i d hd
  split at hr
  ·rename_i z n hz hn
   generalize hg : (gl d && z.live && Nat.beq z.cells.length n) = q at hr
   cases q with
   | false => simp at hr
   | true =>
    simp only [Bool.and_eq_true] at hg
    simp only [cond_true, Option.some.injEq] at hr
    subst hr
    obtain ⟨zz, hrz, hrelz⟩ := zeroV_spec hz
    exact newRow_ok (P := P) h (gl := true) (d := d) (hrelz c) hg.1.2 t (fun w' hrun => .inl (by simp only [execOp, ho, Instr.alloc]; simp [hrz, hrun]))
  ·simp at hr
theorem glob_box [Laid] (h : WRel c st w) (hs : Slots c st.ρ a) {o : Oper} {t : TypeId} {y : Operand} (ho : o.op = .box t y) {res : Res} (hr : stepG P C gl st o = some res) : ResOk P c st w (execOp a.eval o) res := by
 unfold stepG at hr
 simp only [ho] at hr
 split at hr
 ·simp at hr
 ·rename_i d hd
  split at hr
  ·rename_i v st1 hexp
   obtain ⟨c1, k⟩ := exp_sound (fz := false) h (opd_rel hs y) hexp
   cases hg : gl d with
   | false => simp [hg] at hr
   | true =>
    simp only [hg, cond_true, Option.some.injEq] at hr
    subst hr
    obtain ⟨c2, x2, w2, k2⟩ := newRow_ok (P := P) (s := execOp a.eval o) k.wrel (gl := true) (d := d) k.rel k.live t (fun w' hrun => .inl (by simp only [execOp, ho, Instr.box]; simp [hrun]))
    exact ⟨c2, x2, w2, k2.after k.le k.keep k.dirt k.tm⟩
  ·simp at hr
theorem relL_getD [Laid] {vs : List V} {xs : List Value} (h : RelL c vs xs) (i : Nat) : Rel c (vs.getD i .dead) (xs.getD i undef) := by
 rw [List.getD_eq_getElem?_getD, List.getD_eq_getElem?_getD]
 cases hv : vs[i]? with
 | none => exact .dead _
 | some v =>
  obtain ⟨x, hx, hrel⟩ := h.get hv
  rw [hx]; exact hrel
theorem slots_list [Laid] {vs : List V} {xs : List Value} (h : RelL c vs xs) (b : Act) : Slots c (fun i => vs.getD i .dead) { b with tmps := xs.toArray } := by
 intro i
 have := relL_getD h i
 simpa [Array.getD_eq_getD_getElem?, List.getD_eq_getElem?_getD] using this
theorem opds_rel [Laid] (hs : Slots c st.ρ a) (l : List Operand) : RelL c (opds st.ρ l) (l.map a.eval) := by
 refine ⟨by simp [opds], fun i v x hv hx => ?_⟩
 simp only [opds, List.getElem?_map, Option.map_eq_some_iff] at hv hx
 obtain ⟨u, hu, rfl⟩ := hv
 obtain ⟨u', hu', rfl⟩ := hx
 rw [hu] at hu'
 obtain rfl := Option.some.inj hu'
 exact opd_rel hs u
theorem glob_build [Laid] (h : WRel c st w) (hs : Slots c st.ρ a) {o : Oper} {t : TypeId} {ps : Array (Nat × Operand)} (ho : o.op = .build t ps) {res : Res} (hr : stepG P C gl st o = some res) : ResOk P c st w (execOp a.eval o) res := by
 unfold stepG at hr
 simp only [ho] at hr
 split at hr
 ·rename_i fs z l st1 hu hz hexp
  obtain ⟨c1, k⟩ := exps_sound (fz := true) _ c st _ l st1 h (opds_rel hs _) hexp
  generalize hg : (z.live && fs.all (fun f => (P.info? f.type).isSome)) = q at hr
  cases q with
  | false => simp at hr
  | true =>
   simp only [Bool.and_eq_true] at hg
   simp only [Bool.not_true, cond_false] at hr
   split at hr
   ·rename_i cs hf
    simp at hr
    subst hr
    have hsl := slots_list k.rel a
    obtain ⟨x, hrun, hrel⟩ := build_sound (P := P) (w := w) hsl (ps := (ps.toList.zipIdx.map fun (p, i) => (p.1, Operand.tmp i)).toArray) hu hz hg.1 hg.2 (by simpa using hf)
    refine ⟨c1, x, w, .inl ?_, k.le, hrel, k.wrel, k.keep, k.dirt, k.tm⟩
    simp only [execOp, ho]
    rw [Sem.run_bind]
    have e : (ps.map fun (i, x) => (i, a.eval x)) = ((ps.toList.zipIdx.map fun (p, i) => (p.1, Operand.tmp i)).toArray.map fun (i, x) => (i, ({ a with tmps := (List.map a.eval (List.map (fun x => x.snd) ps.toList)).toArray } : Act).eval x)) := by
     apply Array.toList_inj.1
     apply List.ext_getElem?
     intro j
     simp only [Array.toList_map, List.getElem?_map, List.getElem?_zipIdx, Nat.zero_add, List.map_map]
     cases hj : ps.toList[j]? with
     | none => simp [hj]
     | some p =>
      have : ps[j]? = some p := by simpa using hj
      simp [Act.eval, this]
    rw [e, hrun]; rfl
   ·simp at hr
 ·simp at hr
end
end Go.AM
end

section
namespace Go.AM
open Go
section
variable {P : Program} {C : Cfg} {c : Ctx} {st : St} {a : Act} {w : World} {gl : Nat → Bool}
theorem laid_sound [Laid] (h : WRel c st w) {w' : World} {e : TypeId} {xs : Array Value} {fz : Nat × Nat} (hw : w'.heap = w.heap.push (.cells xs e fz)) (ho : w'.os = w.os ∧ w'.tape = w.tape ∧ w'.output = w.output)
  (hfz : ∀ o, o < xs.size → ¬ (fz.1 ≤ o ∧ o < fz.2)) {g : Bool} {d : Nat} {cs : List V} (hlen : cs.length ≤ xs.size) (hr : RelL c cs (xs.toList.take cs.length)) :
  ∃ c', c.le c' ∧ c'.blk (addRow st g d (.cells false cs)).1 = some w.heap.size ∧ c'.ext w.heap.size = some xs.size ∧ WRel c' (addRow st g d (.cells false cs)).2 w' ∧
   Keep c c' st (addRow st g d (.cells false cs)).2 w w' := by
 obtain ⟨h1, h2⟩ := h.laidRow (gl := g) (site := d) (row := .cells false cs) (o := .cells xs e fz) (n := xs.size) (tx := none) (sh := fun _ => none) hw
  (fun r hr0 hle => by
   refine ⟨w.heap.size, xs, e, fz, by rw [bind_blk]; simp, by rw [hw]; simp, hfz, by simp [Ctx.bind], hlen, hr.mono hle, fun _ o => ?_, fun hf => by simp at hf⟩
   simp only [Ctx.bind, if_true]
   cases hq : c.shut w.heap.size o with
   | none => rfl
   | some y => have := h.shut_lt hq; omega) (fun i x hx => by simp at hx)
 refine ⟨_, h2, by rw [bind_blk]; simp, by simp [Ctx.bind], h1, ⟨ho.1, ho.2.1, ho.2.2, by rw [hw]; simp, fun b hb _ => ?_, fun b hb _ o => ?_, fun b hb ho => own_add hb ho⟩⟩
 ·rw [hw, Array.getElem?_push, if_neg (by omega)]
 ·simp only [Ctx.bind]; rw [if_neg (by omega)]
theorem newArr_ok [Laid] {s : Sem Next} (h : WRel c st w) {w' : World} {e : TypeId} {xs : Array Value} {fz : Nat × Nat} (hw : w'.heap = w.heap.push (.cells xs e fz)) (ho : w'.os = w.os ∧ w'.tape = w.tape ∧ w'.output = w.output)
  (hfz : ∀ o, o < xs.size → ¬ (fz.1 ≤ o ∧ o < fz.2)) {g : Bool} {d : Nat} {cs : List V} (hlen : cs.length ≤ xs.size) (hr : RelL c cs (xs.toList.take cs.length))
  {len cap sz : Nat} {lim : Option Nat} {ag : Bool} (hc : len ≤ cap) (hz : 0 < sz) (hs : xs.size = cap * sz) (hk : ∀ k, lim = some k → cap = k)
  (hstep : StepsTo P s w (.slice (some ⟨w.heap.size, 0, none⟩) len cap) w') :
  ∃ c' x' w', ValOk P c st w s (.arr (addRow st g d (.cells false cs)).1 0 len lim sz ag) (addRow st g d (.cells false cs)).2 c' x' w' := by
 obtain ⟨c', h1, h2, h3, h4, h5⟩ := laid_sound (g := g) (d := d) h hw ho hfz hlen hr
 exact ⟨c', _, w', hstep, h1, .arr _ _ _ _ _ _ _ _ xs.size h2 hc h3 hz (fun k hk' => ⟨hk k hk', by rw [hs, hk k hk']; omega⟩) (fun _ => by rw [hs]; omega), h4, h5, dirt_add _ _ _, tm_add _ _ _⟩
theorem fillA_sound [Laid] {sz : Nat} :
  ∀ (is : List Nat) (vs : List V) (xs : List Value) (l l' : List V) (cells : Array Value), fillA sz is vs l = some l' → (∀ v ∈ vs, v.live = true) → RelL c vs xs → (∀ v ∈ l, v.cells.length = sz) → RelL c (flat l) cells.toList →
   ∃ cells', Instr.fill (fun i => some (i * sz, sz)) cells (is.zip xs) = some cells' ∧ RelL c (flat l') cells'.toList ∧ (∀ v ∈ l', v.cells.length = sz) ∧ l'.length = l.length ∧ is.length = xs.length
 | [], [], xs, l, l', cells, h, hv, hx, hl, hr => by
  simp [fillA] at h
  subst h
  have : xs = [] := List.eq_nil_of_length_eq_zero (by rw [hx.1]; rfl)
  subst this
  exact ⟨cells, rfl, hr, hl, rfl, rfl⟩
 | [], v :: vs, xs, l, l', cells, h, hv, hx, hl, hr => by simp [fillA] at h
 | i :: is, [], xs, l, l', cells, h, hv, hx, hl, hr => by simp [fillA] at h
 | i :: is, v :: vs, [], l, l', cells, h, hv, hx, hl, hr => by have := hx.1; simp at this
 | i :: is, v :: vs, x :: xs, l, l', cells, h, hv, hx, hl, hr => by
  simp only [fillA] at h
  generalize hb : (Nat.beq v.cells.length sz && Nat.blt i l.length) = b at h
  cases b with
  | false => simp at h
  | true =>
   simp only [cond_true] at h
   simp only [Bool.and_eq_true] at hb
   have e3 : v.cells.length = sz := by simpa using hb.1
   have e4 : i < l.length := by simpa [Nat.blt_eq] using hb.2
   have hcells := hx.head.cells (hv v (by simp))
   have hset := flat_setAt (i := i) hl e3 e4
   have hsz : x.cells.size = sz := by have := hcells.1; simp at this; omega
   have hle := (setAt_spec hset).1
   have hfit : i * sz + sz ≤ cells.size := by have := hr.1; simp at this; omega
   obtain ⟨cells', hf, hr', hl', hlen, hll⟩ := fillA_sound is vs xs (l.set i v) l' (lay cells.toList (i * sz) x.cells.toList).toArray h (fun v hv' => hv v (by simp [hv'])) hx.tail (set_all hl e3) (by simpa using RelL.lay hset hr hcells)
   refine ⟨cells', ?_, hr', hl', by simpa using hlen, by simp [hll]⟩
   simp only [List.zip_cons_cons]
   rw [fill_cons _ _ i (i * sz) sz _ _ rfl hsz hfit]
   exact hf
theorem glob_buildSlice [Laid] (h : WRel c st w) (hs : Slots c st.ρ a) {o : Oper} {t : TypeId} {len : Nat} {ps : Array (Nat × Operand)} (ho : o.op = .buildSlice t len ps) {res : Res} (hr : stepG P C gl st o = some res) : ResOk P c st w (execOp a.eval o) res := by
 unfold stepG at hr
 simp only [ho] at hr
 split at hr
 ·rename_i e d he hd
  split at hr
  ·rename_i n ag z l st1 hl hz hexp
   obtain ⟨h0, hsz, _⟩ := layE_spec hl
   obtain ⟨c1, k⟩ := exps_sound (fz := false) _ c st _ l st1 h (opds_rel hs _) hexp
   generalize hg : (C.isArr t && Nat.ble (len * n) 16777216 && z.live && Nat.beq z.cells.length n && (ag || Nat.beq n 1)) = q at hr
   cases q with
   | false => simp at hr
   | true =>
    simp only [Bool.and_eq_true] at hg
    obtain ⟨⟨⟨⟨g1, g2⟩, g3⟩, g4⟩, g5⟩ := hg
    have e2 : len * n ≤ 16777216 := by simpa using g2
    have e4 : z.cells.length = n := by simpa using g4
    simp only [cond_true] at hr
    split at hr
    ·rename_i items hf
     simp only [Option.some.injEq] at hr
     subst hr
     obtain ⟨zz, hrz, hrelz⟩ := zeroV_spec hz
     have hzr := zeros_rel (hrelz c1) g3 e4 h0 len
     obtain ⟨cells', hfill, hr', hl', hlen, hll⟩ := fillA_sound _ l _ _ items ((Array.range (len * n)).map (zz.cells[· % zz.cells.size]!)) hf k.live k.rel
      (fun v hv => by rw [List.eq_of_mem_replicate hv]; exact e4) hzr
     have hsize : cells'.size = len * n := by
      have h1 := hr'.1
      rw [flat_length hl', hlen] at h1
      simpa using h1
     have hrun : StepsTo P (execOp a.eval o) w (.slice (some ⟨w.heap.size, 0, none⟩) len len) (w.alloc (.cells cells' e)) := by
      refine .inl ?_
      have ht := elemT_spec he
      have hns : ¬ (len * n > 2 ^ 24) := by omega
      simp only [execOp, ho]
      rw [Sem.run_bind]
      have : (Instr.buildSlice t len (ps.map fun (i, x) => (i, a.eval x))).run P w = .ok (.slice (some ⟨w.heap.size, 0, none⟩) len len) (w.alloc (.cells cells' e)) := by
       unfold Instr.buildSlice
       simp only [Sem.run_bind, run_underlying ht, Result.andThen_ok, run_sizeOf' hsz]
       rw [if_neg hns]
       have hps' : (Array.map (fun x => (x.fst, a.eval x.snd)) ps).toList = (ps.toList.map (·.1)).zip (List.map a.eval (List.map (fun x => x.snd) ps.toList)) := by
        apply List.ext_getElem?
        intro j
        simp only [Array.toList_map, List.getElem?_map, List.zip_eq_zipWith, List.getElem?_zipWith]
        cases hj : ps.toList[j]? with
        | none => simp [hj]
        | some p => simp [hj]
       split
       ·rename_i h00
        have e0 : Array.map (fun x => (#[] : Array Value)[x % (#[] : Array Value).size]!) (Array.range (len * n)) = (Array.range (len * n)).map (zz.cells[· % zz.cells.size]!) := by rw [h00]; simp
        simp only [Sem.run_bind, Sem.run_pure, Result.andThen_ok]
        rw [hps', e0, hfill]
        simp [Go.newRow, newObj, Sem.run]
       ·simp only [Sem.run_bind, Sem.run_pure, Result.andThen_ok, hrz]
        rw [hps', hfill]
        simp [Go.newRow, newObj, Sem.run]
      rw [this]; rfl
     obtain ⟨c2, x2, w2, k2⟩ := newArr_ok (P := P) (g := gl d) (d := d) (cs := flat items) (lim := some len) (ag := ag) k.wrel (w' := w.alloc (.cells cells' e)) (xs := cells') (fz := (0, 0)) rfl ⟨rfl, rfl, rfl⟩ (fun o _ hx => by simp at hx)
      (by have := hr'.1; simp at this; omega) (by rwa [List.take_of_length_le (by rw [hr'.1]; exact Nat.le_refl _)]) (Nat.le_refl len) h0 hsize (fun k hk => by simpa using hk) hrun
     exact ⟨c2, x2, w2, k2.after k.le k.keep k.dirt k.tm⟩
    ·simp at hr
  ·simp at hr
 ·simp at hr
theorem zeroV_info {t : TypeId} {z : V} (h : zeroV P t = some z) : ∃ i zz, P.info? t = some i ∧ i.zero = some zz ∧ absV zz = z := by
 unfold zeroV at h
 cases hit : P.info? t with
 | none => simp [hit] at h
 | some it =>
  simp only [hit] at h
  cases hzz : it.zero with
  | none => simp [hzz] at h
  | some zz => simp [hzz] at h; exact ⟨it, zz, rfl, hzz, h⟩
theorem glob_makeSlice [Laid] (h : WRel c st w) (hs : Slots c st.ρ a) {o : Oper} {t : TypeId} {l m : Operand} (ho : o.op = .makeSlice t l m) {res : Res} (hr : stepG P C gl st o = some res) : ResOk P c st w (execOp a.eval o) res := by
 unfold stepG at hr
 simp only [ho] at hr
 split at hr
 ·rename_i d hd
  unfold makeV at hr
  split at hr
  ·rename_i e k1 n k2 cp he hl hm
   have el := opd_int hs hl
   have em := opd_int hs hm
   split at hr
   ·rename_i sz ag bytes z hlay hby hz
    obtain ⟨h0, hsz, _⟩ := layE_spec hlay
    generalize hg : (Nat.ble n cp && Nat.ble (cp * bytes) maxBytes && Nat.ble cp maxBytes && Nat.beq z.cells.length sz && z.live) = q at hr
    cases q with
    | false => simp at hr
    | true =>
     simp only [Bool.and_eq_true] at hg
     obtain ⟨⟨⟨⟨g1, g2⟩, g3⟩, g4⟩, g5⟩ := hg
     have e1 : n ≤ cp := by simpa using g1
     have e2 : cp * bytes ≤ 70368744177664 := by simpa [maxBytes] using g2
     have e3 : cp ≤ 70368744177664 := by simpa [maxBytes] using g3
     have e4 : z.cells.length = sz := by simpa using g4
     simp only [cond_true, Option.some.injEq] at hr
     subst hr
     obtain ⟨i0, zz, hi0, hzz, hzv⟩ := zeroV_info hz
     have hzr := zeros_rel (zz := zz) (by rw [← hzv]; exact absV_rel c zz) g5 e4 h0 cp
     have hflen : (flat (List.replicate cp z)).length = cp * sz := by
      rw [flat_length (sz := sz) (fun v hv => by rw [List.eq_of_mem_replicate hv]; exact e4)]; simp
     refine newArr_ok (P := P) (g := gl d) (d := d) (cs := flat (List.replicate cp z)) (lim := some cp) (ag := ag) h (w' := w.alloc (.cells ((Array.range (cp * sz)).map (zz.cells[· % zz.cells.size]!)) e)) (xs := (Array.range (cp * sz)).map (zz.cells[· % zz.cells.size]!)) (fz := (0, 0)) rfl ⟨rfl, rfl, rfl⟩ (fun o _ hx => by simp at hx)
      (by simp [hflen]) (by rwa [List.take_of_length_le (by rw [hzr.1]; exact Nat.le_refl _)]) e1 h0 (by simp) (fun k hk => by simpa using hk) (.inl ?_)
     have ht := elemT_spec he
     cases hq : P.info? e with
     | none => simp [hq] at hsz
     | some i =>
      obtain rfl : i0 = i := by rw [hi0] at hq; exact Option.some.inj hq
      have hsz' : i0.size = sz := by simpa [hq] using hsz
      have hby' : i0.bytes = bytes := by simpa [hq] using hby
      have hbc : (i0.bytes : Int) * (cp : Int) ≤ 281474976710656 := by
       have h2 : i0.bytes * cp ≤ 281474976710656 := by rw [hby', Nat.mul_comm]; omega
       have h3 : ((i0.bytes * cp : Nat) : Int) ≤ 281474976710656 := by omega
       rwa [Int.natCast_mul] at h3
      have hrun := run_make (P := P) w t e i0 zz ht hq hzz k1 k2 (n : Int) (cp : Int) (by omega) (by omega) hbc (by omega)
      simp only [Int.toNat_natCast, hsz'] at hrun
      have em' : a.eval m = .int k2 (cp : Int) := em
      have el' : a.eval l = .int k1 (n : Int) := el
      simp only [execOp, ho, el', em']
      rw [Sem.run_bind, hrun]; rfl
   ·simp at hr
  ·simp at hr
 ·simp at hr
theorem WRel.setIter [Laid] (h : WRel c st w) {r : Ref} {s : Str} {pos pos' : Nat} (hrow : getRow st r = some (.iter s pos)) {b : Nat} (hb : c.blk r = some b) {w' : World} (hsz : w'.heap.size = w.heap.size)
  (hw : w'.heap[b]? = some (.stringIter s.bytes pos')) (hne : ∀ i, i ≠ b → w'.heap[i]? = w.heap[i]?) (ho : w'.os = w.os ∧ w'.tape = w.tape ∧ w'.output = w.output) :
  WRel c (setRow st r (.iter s pos')) w' ∧ Keep c c st (setRow st r (.iter s pos')) w w' := by
 obtain ⟨b', h1, h2⟩ := h.rows r _ hrow
 rw [hb] at h1
 obtain rfl := Option.some.inj h1
 refine ⟨⟨fun i o x hx => ?_, fun r1 row1 hr1 => ?_, fun r1 r2 row1 row2 b2 g1 g2 n1 n2 => ?_, fun i hi => ?_, fun s g hg => ?_, fun q j hq => ?_, h.tlt, fun j m hq => ?_⟩, ?_⟩
 ·by_cases e : i = b
  ·subst e
   have := h.shut i o x hx
   simp [World.cell?, h2] at this
  ·rw [← h.shut i o x hx]
   simp only [World.cell?, hne i e]
 ·by_cases e : r1 = r
  ·subst e
   rw [getRow_set_same hrow] at hr1
   obtain rfl := Option.some.inj hr1
   exact ⟨b, hb, hw⟩
  ·rw [getRow_set_ne hrow e] at hr1
   by_cases hg : row1 = .gone
   ·subst hg; trivial
   ·refine (h.rows r1 row1 hr1).keep (Ctx.le.refl c) (fun j hj => ⟨hne j (fun e2 => ?_), fun o => rfl⟩)
    subst e2
    exact e (h.inj r1 r _ _ j hr1 hrow hg (by simp) hj hb)
 ·have k1 : ∃ ro, getRow st r1 = some ro ∧ ro ≠ .gone := by
   by_cases e : r1 = r
   ·subst e; exact ⟨_, hrow, by simp⟩
   ·rw [getRow_set_ne hrow e] at g1; exact ⟨_, g1, n1⟩
  have k2 : ∃ ro, getRow st r2 = some ro ∧ ro ≠ .gone := by
   by_cases e : r2 = r
   ·subst e; exact ⟨_, hrow, by simp⟩
   ·rw [getRow_set_ne hrow e] at g2; exact ⟨_, g2, n2⟩
  obtain ⟨q1, p1, m1⟩ := k1
  obtain ⟨q2, p2, m2⟩ := k2
  exact h.inj r1 r2 q1 q2 b2 p1 p2 m1 m2
 ·exact h.glb i (by rwa [set_len] at hi)
 ·exact h.lcb s g (by rwa [set_lc hrow] at hg)
 ·rw [hsz]; exact h.lt q j hq
 ·rw [hsz]; exact h.elt j m hq
 ·exact Keep.mk' ho (by rw [hsz]; exact Nat.le_refl _) (fun i hi _ => hne i hi) (fun _ => ⟨r, _, hrow, by simp, hb⟩) (fun b ho => own_set hrow (by simp) b ho)
theorem glob_next [Laid] (h : WRel c st w) (hs : Slots c st.ρ a) {o : Oper} {isStr : Bool} {y : Operand} (ho : o.op = .next y isStr) {res : Res} (hr : stepG P C gl st o = some res) : ResOk P c st w (execOp a.eval o) res := by
 unfold stepG at hr
 simp only [ho] at hr
 have hy := opd_rel hs y
 split at hr
 ·rename_i r hc
  rw [hc] at hy
  obtain ⟨b, hp, hbk⟩ := hy.ptr_inv
  split at hr
  ·rename_i s pos hrow
   obtain ⟨b', h1, h2⟩ := h.rows r _ hrow
   rw [hbk] at h1
   obtain rfl := Option.some.inj h1
   have hlt := h.lt r b hbk
   have hget : (getObj b).run P w = .ok (.stringIter s.bytes pos) w := by simp [getObj, Sem.run, h2]
   generalize hg : Nat.blt pos s.n = q at hr
   cases q with
   | true =>
    have hps0 : pos < s.n := by simpa [Nat.blt_eq] using hg
    have hps : pos < s.bytes.size := by rw [s.bytes_size]; exact hps0
    rw [s.rune_spec hps0] at hr
    simp only [cond_true, Option.some.injEq] at hr
    subst hr
    obtain ⟨k1, k2⟩ := h.setIter hrow hbk (pos' := pos + (Utf8.decode s.bytes pos).2) (w' := { w with heap := w.heap.setIfInBounds b (.stringIter s.bytes (pos + (Utf8.decode s.bytes pos).2)) }) (by simp) (by simp [hlt]) (fun i hi => by simp [Array.getElem?_setIfInBounds, Ne.symm hi]) ⟨rfl, rfl, rfl⟩
    refine ⟨c, .tuple #[.bool true, goInt pos, .int .i32 (Utf8.decode s.bytes pos).1], _, .inl ?_, .refl c, ?_, k1, k2, dirt_set _ _, tm_set _ _⟩
    ·simp only [execOp, ho, hp]
     rw [Sem.run_bind]
     have : (Instr.next (.pointer (some ⟨b, 0, none⟩)) true o.type).run P w = .ok (.tuple #[.bool true, goInt pos, .int .i32 (Utf8.decode s.bytes pos).1]) { w with heap := w.heap.setIfInBounds b (.stringIter s.bytes (pos + (Utf8.decode s.bytes pos).2)) } := by
      unfold Instr.next
      simp [hget, hps, setObj, Sem.run, h2]
     rw [this]; rfl
    ·exact Rel.mk_tuple (RelL.cons (.bool _) (RelL.cons (.int _ _) (RelL.cons (.int _ _) (RelL.nil c))))
   | false =>
    have hps : ¬ pos < s.bytes.size := by
     intro e
     rw [s.bytes_size] at e
     have : Nat.blt pos s.n = true := by simpa [Nat.blt_eq] using e
     rw [this] at hg; simp at hg
    simp only [cond_false, Option.some.injEq] at hr
    subst hr
    refine ⟨c, .tuple #[.bool false], w, .inl ?_, .refl c, ?_, h, .refl c st w, .refl _, rfl⟩
    ·simp only [execOp, ho, hp]
     rw [Sem.run_bind]
     have : (Instr.next (.pointer (some ⟨b, 0, none⟩)) true o.type).run P w = .ok (.tuple #[.bool false]) w := by
      unfold Instr.next
      simp [hget, hps]
     rw [this]; rfl
    ·exact Rel.mk_tuple (RelL.cons (.bool _) (RelL.nil c))
  ·simp at hr
 ·simp at hr
end
end Go.AM
end

section
namespace Go.AM
open Go
section
variable {P : Program} {C : Cfg} {c : Ctx} {st : St} {a : Act} {w : World} {gl : Nat → Bool}
theorem cell_heap {w w' : World} (h : w'.heap = w.heap) (x : Addr) : w'.cell? x = w.cell? x := by simp [World.cell?, h]
theorem flat_one : ∀ (l : List V), (∀ v ∈ l, v.cells = [v]) → flat l = l
 | [], _ => rfl
 | v :: l, h => by rw [flat_cons, h v (by simp), flat_one l (fun u hu => h u (by simp [hu]))]; rfl
theorem strRel [Laid] (c : Ctx) (s : Str) : RelL c ((bl s.n s.v).map fun b => V.int .u8 b.toNat) (Lib.strCells s.bytes) := by
 rw [← s.bytes_toList]
 generalize s.bytes = s
 refine ⟨by simp [Lib.strCells], fun i v x hv hx => ?_⟩
 simp only [Lib.strCells, List.getElem?_map, Option.map_eq_some_iff] at hv hx
 obtain ⟨b, hb, rfl⟩ := hv
 obtain ⟨b', hb', rfl⟩ := hx
 rw [hb] at hb'
 obtain rfl := Option.some.inj hb'
 exact .int _ _
theorem items_spec [Laid] (h : WRel c st w) {y : V} {yv : Value} (hy : Rel c y yv) {ys : List V} (hi : itemsOf st y = some ys) {sz : Nat} (hsz : ∀ v ∈ ys, v.cells.length = sz) :
  ∃ xs : List Value, RelL c (flat ys) xs ∧ (∀ w', (Builtin.lenOf yv).run P w' = .ok ys.length w') ∧
   ∀ (w' : World) (k : Nat), w'.heap = w.heap → k ≤ ys.length → (Builtin.firstCells sz k yv).run P w' = .ok (xs.take (k * sz)).toArray w' := by
 have rd : ∀ (b off n cap : Nat) (xs : List Value), RelL c (flat ys) xs → (∀ i x, xs[i]? = some x → w.cell? ⟨b, off + i, none⟩ = some x) → ∀ (w' : World) (k : Nat), w'.heap = w.heap → k ≤ ys.length →
   (Builtin.firstCells sz k (.slice (some ⟨b, off, none⟩) n cap)).run P w' = .ok (xs.take (k * sz)).toArray w' := by
  intro b off n cap xs hr hx w' k hw hk
  refine run_firstCells_some (P := P) w' sz k ⟨b, off, none⟩ n cap _ ?_ (fun j v hj => ?_)
  ·have := hr.1
   rw [flat_length hsz] at this
   have h2 : k * sz ≤ ys.length * sz := Nat.mul_le_mul_right _ hk
   simp; omega
  ·rw [Addr.add_lit, cell_heap hw]
   rw [List.getElem?_take] at hj
   split at hj
   ·exact hx j v hj
   ·simp at hj
 cases y with
 | nils =>
  simp [itemsOf] at hi
  subst hi
  obtain rfl := hy.nils_inv
  exact ⟨[], RelL.nil c, fun w' => by simp [Builtin.lenOf], fun w' k _ _ => by simp [Builtin.firstCells]⟩
 | slice tok full sz' l =>
  simp [itemsOf] at hi
  subst hi
  obtain ⟨b, off, cap, xs, rfl, k1, k2, k3, k4, k5, k6, k7⟩ := hy.slice_inv
  exact ⟨xs, k2, fun w' => by simp [Builtin.lenOf], rd b off _ cap xs k2 (fun i x hx => h.shut _ _ _ (k3 i x hx))⟩
 | arr r off len lim sz' ag =>
  obtain ⟨b, cap, xs, rfl, hb, hr, hs, hl, hcell, hcap⟩ := arr_items h hy hi
  exact ⟨xs, hr, fun w' => by simp [Builtin.lenOf, hl], rd b off _ cap xs hr hcell⟩
 | str s =>
  simp [itemsOf] at hi
  subst hi
  obtain rfl := hy.str_inv
  refine ⟨Lib.strCells s.bytes, ?_, fun w' => by simp [Builtin.lenOf, bl_length, s.bytes_size], fun w' k hw hk => ?_⟩
  ·rw [flat_one _ (fun v hv => by simp only [List.mem_map] at hv; obtain ⟨b, _, rfl⟩ := hv; rfl)]
   exact strRel c s
  ·have hk2 : k ≤ s.bytes.size := by rw [s.bytes_size]; simpa [bl_length] using hk
   simp only [Builtin.firstCells, Sem.run_pure]
   congr 1
   apply Array.toList_inj.1
   by_cases h0 : s.bytes.size = 0
   ·have : k = 0 := by omega
    subst this
    simp
   ·have : sz = 1 := by
     have h2 : 0 < s.bytes.data.size := by have : s.bytes.data.size = s.bytes.size := rfl; omega
     have := hsz (.int .u8 (s.bytes.data[0]).toNat) (by
      simp only [List.mem_map]
      exact ⟨s.bytes.data[0], by rw [← s.bytes_toList]; simp, rfl⟩)
     simpa [V.cells] using this.symm
    subst this
    simp [Lib.strCells, ByteArray.data_extract, Array.toList_extract, List.extract]
 | _ => simp [itemsOf] at hi
theorem bytesOf_spec [Laid] : ∀ (l : List V) (bs : List UInt8) (xs : List Value), bytesOf l = some bs → RelL c l xs → ∃ ns : List Int, xs = ns.map (Value.int .u8) ∧ bs = ns.map (fun n => UInt8.ofNat n.toNat)
 | [], bs, xs, h, hr => by
  simp [bytesOf] at h
  subst h
  have : xs = [] := List.eq_nil_of_length_eq_zero (by rw [hr.1]; rfl)
  subst this
  exact ⟨[], rfl, rfl⟩
 | v :: l, bs, xs, h, hr => by
  cases xs with
  | nil => have := hr.1; simp at this
  | cons x xs =>
   cases v with
   | int k n =>
    cases k with
    | u8 =>
     simp only [bytesOf, Option.map_eq_some_iff] at h
     obtain ⟨bs', h', rfl⟩ := h
     obtain ⟨ns, rfl, rfl⟩ := bytesOf_spec l bs' xs h' hr.tail
     obtain rfl := hr.head.int_inv
     exact ⟨n :: ns, rfl, rfl⟩
    | _ => simp [bytesOf] at h
   | _ => simp [bytesOf] at h
theorem bytesOf_cells : ∀ (l : List V) (bs : List UInt8), bytesOf l = some bs → ∀ v ∈ l, v.cells = [v]
 | [], bs, h, v, hv => by simp at hv
 | u :: l, bs, h, v, hv => by
  cases u with
  | int k n =>
   cases k with
   | u8 =>
    simp only [bytesOf, Option.map_eq_some_iff] at h
    obtain ⟨bs', h', rfl⟩ := h
    rcases List.mem_cons.1 hv with rfl | hv
    ·rfl
    ·exact bytesOf_cells l bs' h' v hv
   | _ => simp [bytesOf] at h
  | _ => simp [bytesOf] at h
theorem bytesWorld_push (w : World) (e : TypeId) (s : ByteArray) : (Lib.bytesWorld w e s).heap = w.heap.push (.cells (Lib.bytesCells w e s) e ((Lib.bytesCells w e s).size, (Lib.bytesCells w e s).size + 1)) := by
 apply Array.ext_getElem?
 intro i
 rw [Array.getElem?_push]
 by_cases hi : i = w.heap.size
 ·subst hi; simp [Lib.bytesWorld_at_new]
 ·rw [if_neg hi]
  rcases Nat.lt_or_ge i w.heap.size with h' | h'
  ·exact Lib.bytesWorld_at_old w e s i h'
  ·rw [Array.getElem?_eq_none (by rw [Lib.bytesWorld_size]; omega), Array.getElem?_eq_none (by omega)]
theorem glob_convert [Laid] (h : WRel c st w) (hs : Slots c st.ρ a) {o : Oper} {s t : TypeId} {y : Operand} (ho : o.op = .convert s t y) {res : Res} (hr : stepG P C gl st o = some res) : ResOk P c st w (execOp a.eval o) res := by
 unfold stepG at hr
 simp only [ho] at hr
 have hy := opd_rel hs y
 split at hr
 ·rename_i d hd
  unfold convS at hr
  split at hr
  ·rename_i e hus hut
   split at hr
   ·rename_i hue
    split at hr
    ·rename_i l hi
     split at hr
     ·simp at hr
     ·rename_i hns
      simp only [Option.map_eq_some_iff] at hr
      obtain ⟨bs, hb, rfl⟩ := hr
      have hone := bytesOf_cells l bs hb
      obtain ⟨xs, hx, hlen, hfc⟩ := items_spec (P := P) h hy hi (sz := 1) (fun v hv => by rw [hone v hv]; rfl)
      rw [flat_one l hone] at hx
      obtain ⟨ns, rfl, rfl⟩ := bytesOf_spec l bs xs hb hx
      have hfc2 := hfc w l.length rfl (Nat.le_refl _)
      rw [Nat.mul_one, List.take_of_length_le (by rw [hx.1]; exact Nat.le_refl _)] at hfc2
      have hrun : (convert s t (a.eval y)).run P w = .ok (.string ⟨(ns.map (fun n => UInt8.ofNat n.toNat)).toArray⟩) w := by
       have hln := hlen w
       cases hv : a.eval y with
       | slice ad n cp =>
        rw [hv] at hfc2 hln
        have hn : n = l.length := by simpa [Builtin.lenOf] using hln
        rw [run_convert_bytes_string w s t e ad n cp hus hue hut]
        cases ad with
        | none =>
         simp [Builtin.firstCells] at hfc2
         have : ns = [] := by cases ns <;> simp_all
         subst this
         simp [Conv.bytesToString]; rfl
        | some ad =>
         simp only [Builtin.firstCells, Nat.mul_one] at hfc2
         rw [hn, run_bytesToString w ad _ cp ns hfc2, foldl_push_bytes]
         simp [ByteArray.empty, ByteArray.emptyWithCapacity]
         rfl
       | string z =>
        exfalso
        rw [hv] at hy
        cases hu : opd st.ρ y with
        | str z => exact hns _ hu
        | dead => rw [hu] at hi; simp [itemsOf] at hi
        | _ => rw [hu] at hy; cases hy
       | _ => rw [hv] at hln; simp [Builtin.lenOf, stuck] at hln
      refine ⟨c, _, w, .inl ?_, .refl c, .strL _, h, .refl c st w, .refl _, rfl⟩
      simp only [execOp, ho]
      rw [Sem.run_bind, hrun]; rfl
    ·simp at hr
   ·simp at hr
  ·rename_i e hus hut
   split at hr
   ·rename_i z hue hyv
    rw [hyv] at hy
    have ey := hy.str_inv
    generalize hg : (C.isArr t && Nat.ble z.n maxBytes) = q at hr
    cases q with
    | false => simp at hr
    | true =>
     simp only [cond_true, Option.some.injEq] at hr
     subst hr
     have hzn := z.bytes_size
     rw [← hzn]
     have hbl : ∀ n v, (bl n v).length = n := bl_length
     have hge := grownCap_ge w z.bytes.size 0 e
     have hszz : (Lib.bytesCells w e z.bytes).size = grownCap w z.bytes.size 0 e := by
      have : z.bytes.data.size = z.bytes.size := rfl
      simp [Lib.bytesCells]; omega
     have hl : ((bl z.bytes.size z.v).map fun b => V.int .u8 b.toNat).length = z.bytes.size := by simp [hbl]
     refine newArr_ok (P := P) (g := gl d) (d := d) (lim := none) (ag := false) (cap := grownCap w z.bytes.size 0 e) h (bytesWorld_push w e z.bytes) ⟨rfl, rfl, rfl⟩ (fun o ho hx => by omega) (by rw [hl, hszz]; exact hge) ?_ hge (by omega) (by rw [hszz]; omega) (fun k hk => by simp at hk) (.inl ?_)
     ·have : (Lib.bytesCells w e z.bytes).toList.take ((bl z.bytes.size z.v).map fun b => V.int .u8 b.toNat).length = Lib.strCells z.bytes := by
       rw [hl]
       simp only [Lib.bytesCells, Array.toList_append, Array.toList_map]
       rw [List.take_append_of_le_length (by simp)]
       rw [List.take_of_length_le (by simp)]
       rfl
      rw [this]; have h9 := strRel c z; rw [← hzn] at h9; exact h9
     ·simp only [execOp, ho, ey]
      rw [Sem.run_bind, Lib.run_convert_string_bytes w s t e z.bytes hus hut hue]; rfl
   ·simp at hr
  ·simp at hr
 ·simp at hr
end
end Go.AM
end

section
namespace Go.AM
open Go
section
variable {P : Program} {C : Cfg} {c : Ctx} {st : St} {a : Act} {w : World} {gl : Nat → Bool}
structure ArgT (P : Program) (ts : Array TypeId) (t e : TypeId) (i : TypeInfo) : Prop where
 t0 : ts[0]? = some t
 t1 : ∃ u d, ts[1]? = some u ∧ P.underlying u = some d ∧ ∀ k, d ≠ .int k
 ht : P.underlying t = some (.slice e)
 hi : P.info? e = some i
theorem run_append_room' {ts : Array TypeId} {t e ty : TypeId} {i : TypeInfo} (hT : ArgT P ts t e i) {y : Value} {n : Nat} {news : List Value} (hlen : (Builtin.lenOf y).run P w = .ok n w)
  (hnews : (Builtin.firstCells i.size n y).run P w = .ok news.toArray w) {base : Option Addr} {sLen sCap : Nat} (hroom : sLen + n ≤ sCap) {w' : World}
  (hst : match base with | none => w' = w | some b => (storeCells (b.add (sLen * i.size)) news).run P w = .ok () w') :
  (Builtin.append_ ts ty #[.slice base sLen sCap, y]).run P w = .ok (.slice base (sLen + n) sCap) w' := by
 obtain ⟨u, d, h1, hu, hd⟩ := hT.t1
 have hm : (match d with | .int _ => true | _ => false) = false := by
  cases d <;> first | rfl | exact absurd rfl (hd _)
 cases base with
 | none =>
  subst hst
  simp [Builtin.append_, hT.t0, h1, run_underlying hT.ht, run_underlying hu, hm, sizeOf, typeInfo, hT.hi, hlen, hroom, hnews]
 | some b =>
  simp [Builtin.append_, hT.t0, h1, run_underlying hT.ht, run_underlying hu, hm, sizeOf, typeInfo, hT.hi, hlen, hroom, hnews, hst]
theorem run_append_grow' {ts : Array TypeId} {t e ty : TypeId} {i : TypeInfo} (hT : ArgT P ts t e i) {z : Value} (hz : i.zero = some z) {y : Value} {n : Nat} {olds news : List Value} (hlen : (Builtin.lenOf y).run P w = .ok n w)
  {base : Option Addr} {sLen sCap : Nat} (holds : (Builtin.firstCells i.size sLen (.slice base sLen sCap)).run P w.drew = .ok olds.toArray w.drew)
  (hnews : (Builtin.firstCells i.size n y).run P w.drew = .ok news.toArray w.drew) (hg : sCap < sLen + n) (h63 : sLen + n ≤ 70368744177664) (hfit : (sLen + n) * i.bytes ≤ 70368744177664) :
  (Builtin.append_ ts ty #[.slice base sLen sCap, y]).run P w = .ok (.slice (some ⟨w.heap.size, 0, none⟩) (sLen + n) (grownCap w (sLen + n) sCap e))
   (w.drew.alloc (.cells ((olds ++ news).toArray ++ Builtin.zeroCells z.cells (grownCap w (sLen + n) sCap e - (sLen + n))) e)) := by
 obtain ⟨u, d, h1, hu, hd⟩ := hT.t1
 have hm : (match d with | .int _ => true | _ => false) = false := by
  cases d <;> first | rfl | exact absurd rfl (hd _)
 have hn : ¬ (sLen + n ≤ sCap) := by omega
 have h63' : ¬ (9223372036854775807 < ((sLen : Int) + (n : Int))) := by omega
 have h48 := growslice_fits hg (bytes := i.bytes) (by omega)
 have h48' : ¬ (281474976710656 < Builtin.nextslicecap (sLen + n) sCap * i.bytes) := by omega
 simp [Builtin.append_, hT.t0, h1, run_underlying hT.ht, run_underlying hu, hm, sizeOf, typeInfo, zeroValue, hT.hi, hz, hlen, hn, h63', h48', Question.forced, holds, hnews, newRow, grownCap]
 congr 2
 apply Array.toList_inj.1
 simp
theorem WRel.gone [Laid] (h : WRel c st w) {r : Ref} {row : Row} (hr : getRow st r = some row) (hne : row ≠ .gone) : WRel c (setRow st r .gone) w ∧ Keep c c st (setRow st r .gone) w w := by
 have sub : ∀ r1 row1, getRow (setRow st r .gone) r1 = some row1 → row1 ≠ .gone → r1 ≠ r ∧ getRow st r1 = some row1 := by
  intro r1 row1 h1 hg
  by_cases e : r1 = r
  ·subst e; rw [getRow_set_same hr] at h1; obtain rfl := Option.some.inj h1; exact absurd rfl hg
  ·rw [getRow_set_ne hr e] at h1; exact ⟨e, h1⟩
 refine ⟨⟨h.shut, fun r1 row1 hr1 => ?_, fun r1 r2 row1 row2 b2 g1 g2 n1 n2 => ?_, fun i hi => ?_, fun s g hg => ?_, h.lt, h.tlt, h.elt⟩, ⟨rfl, rfl, rfl, Nat.le_refl _, fun _ _ _ => rfl, fun _ _ _ _ => rfl, fun b _ ho => own_set hr hne b ho⟩⟩
 ·by_cases hg : row1 = .gone
  ·subst hg; trivial
  ·exact h.rows r1 row1 (sub r1 row1 hr1 hg).2
 ·exact h.inj r1 r2 row1 row2 b2 (sub r1 row1 g1 n1).2 (sub r2 row2 g2 n2).2 n1 n2
 ·exact h.glb i (by rwa [set_len] at hi)
 ·exact h.lcb s g (by rwa [set_lc hr] at hg)
theorem newTok_ok [Laid] {s : Sem Next} (h : WRel c st w) {w' : World} {e : TypeId} {xs : Array Value} (hw : w'.heap = w.heap.push (.cells xs e)) (ho : w'.os = w.os ∧ w'.tape = w.tape ∧ w'.output = w.output)
  {g : Bool} {d : Nat} {l : List V} {sz cap : Nat} (hsz : ∀ v ∈ l, v.cells.length = sz) (hn : V.noRefsL (flat l) = true) (hr : RelL c (flat l) (xs.toList.take (flat l).length)) (hc : l.length ≤ cap) (hz : 0 < sz)
  (hs : xs.size = cap * sz) (hstep : StepsTo P s w (.slice (some ⟨w.heap.size, 0, none⟩) l.length cap) w') :
  ∃ c' x' w', ValOk P c st w s (.slice (some (addRow st g d .tok).1) false sz l) (addRow st g d .tok).2 c' x' w' := by
 have hfl := flat_length hsz
 have hle0 : (flat l).length ≤ xs.size := by rw [hfl, hs]; exact Nat.mul_le_mul_right _ hc
 obtain ⟨h1, h2⟩ := h.laidRow (gl := g) (site := d) (row := .tok) (o := .cells xs e) (n := xs.size) (tx := some (flat l).length) (sh := fun o => (xs.toList.take (flat l).length)[o]?) hw
  (fun r hr0 hle => by
   refine ⟨w.heap.size, xs, e, (0, 0), (flat l).length, by rw [bind_blk]; simp, by rw [hw]; simp, fun o _ hx => by simp at hx, by simp [Ctx.bind], by simp [Ctx.bind], hle0, fun o ho => ?_⟩
   simp only [Ctx.bind, if_true]
   cases hq : c.shut w.heap.size o with
   | none => simp only []; rw [List.getElem?_eq_none]; simp; omega
   | some y => have := h.shut_lt hq; omega) (fun i x hx => by
   rw [cell_of_heap (xs := xs) (e := e) (fz := (0, 0)) (by rw [hw]; simp)]
   rw [List.getElem?_take] at hx
   split at hx
   ·simpa using hx
   ·simp at hx)
 refine ⟨_, _, w', hstep, h2, ?_, h1, ⟨ho.1, ho.2.1, ho.2.2, by rw [hw]; simp, fun b hb _ => ?_, fun b hb _ o => ?_, fun b hb ho => own_add hb ho⟩, dirt_add _ _ _, tm_add _ _ _⟩
 ·refine Rel.mk_slice (sz := sz) hsz (hr.mono h2) (fun i x hx => ?_) hn hc (fun hf => by simp at hf) (fun r hr => ?_) rfl
  ·rw [Nat.zero_add]
   simp only [Ctx.bind, if_true]
   cases hq : c.shut w.heap.size i with
   | none => exact hx
   | some y => have := h.shut_lt hq; omega
  ·obtain rfl := Option.some.inj hr
   exact ⟨by rw [bind_blk]; simp, rfl, hz, by simp [Ctx.bind, hs], by simp [Ctx.bind, hfl]⟩
 ·rw [hw, Array.getElem?_push, if_neg (by omega)]
 ·simp only [Ctx.bind]; rw [if_neg (by omega)]
theorem grown_cells {olds news : List Value} {z : Array Value} {n need sz : Nat} (ho : (olds ++ news).length = need * sz) (hz : z.size = sz) (hn : need ≤ n) :
  ((olds ++ news).toArray ++ Builtin.zeroCells z (n - need)).size = n * sz ∧ ((olds ++ news).toArray ++ Builtin.zeroCells z (n - need)).toList.take (need * sz) = olds ++ news := by
 refine ⟨?_, ?_⟩
 ·simp only [Array.size_append, List.size_toArray, size_zeroCells, ho, hz, ← Nat.add_mul]
  congr 1; omega
 ·rw [Array.toList_append, ← ho]; exact List.take_left
end
end Go.AM
end

section
namespace Go.AM
open Go
section
variable {P : Program} {C : Cfg} {c : Ctx} {st : St} {a : Act} {w : World} {gl : Nat → Bool}
theorem taken_sound [Laid] (h : WRel c st w) {r : Ref} {row0 : Row} (hr : getRow st r = some row0) (hne : row0 ≠ .gone) {b m : Nat} (hb : c.blk r = some b) (hm : c.ext b = some m) {g : Bool} {d : Nat} {row : Row} {tx : Option Nat} {sh : Nat → Option Value}
  {w' : World} (hsize : w'.heap.size = w.heap.size) (hheap : ∀ i, i ≠ b → w'.heap[i]? = w.heap[i]?) (ho : w'.os = w.os ∧ w'.tape = w.tape ∧ w'.output = w.output)
  (hshut : ∀ o x, c.shut b o = some x → w'.cell? ⟨b, o, none⟩ = some x) (hshut2 : ∀ o x, sh o = some x → w'.cell? ⟨b, o, none⟩ = some x)
  (hok : ∀ r', r' = (addRow (setRow st r .gone) g d row).1 → c.le (c.bind r' b m tx sh) → RowOk (c.bind r' b m tx sh) w' r' row) :
  c.le (c.bind (addRow (setRow st r .gone) g d row).1 b m tx sh) ∧ WRel (c.bind (addRow (setRow st r .gone) g d row).1 b m tx sh) (addRow (setRow st r .gone) g d row).2 w' ∧
   Keep c (c.bind (addRow (setRow st r .gone) g d row).1 b m tx sh) st (addRow (setRow st r .gone) g d row).2 w w' := by
 have h1 := (h.gone hr hne).1
 have hf : c.blk (addRow (setRow st r .gone) g d row).1 = none := new_fresh h1
 have htx : c.text (addRow (setRow st r .gone) g d row).1 = none := by
  cases hq : c.text (addRow (setRow st r .gone) g d row).1 with
  | none => rfl
  | some m => obtain ⟨b', hb'⟩ := h.tlt _ m hq; rw [hb'] at hf; simp at hf
 have he : ∀ m', c.ext b = some m' → m' = m := fun m' h' => by rw [hm] at h'; exact (Option.some.inj h').symm
 have hle := bind_le (tx := tx) (sh := sh) hf htx he
 have hlt := h.lt r b hb
 have sub : ∀ r1 row1, getRow (setRow st r .gone) r1 = some row1 → row1 ≠ .gone → r1 ≠ r ∧ getRow st r1 = some row1 := by
  intro r1 row1 h1 hg
  by_cases e : r1 = r
  ·subst e; rw [getRow_set_same hr] at h1; obtain rfl := Option.some.inj h1; exact absurd rfl hg
  ·rw [getRow_set_ne hr e] at h1; exact ⟨e, h1⟩
 refine ⟨hle, h1.bindRow (row := row) hf he (fun r1 row1 g1 hg => ?_) getRow_new (hok _ rfl hle) (by rw [hsize]; exact hlt) (by rw [hsize]; exact Nat.le_refl _) (fun i hi _ => hheap i hi) (fun o x hx => ?_) (fun i hi => new_len hi) (fun s g hg => new_gen hg), ⟨ho.1, ho.2.1, ho.2.2, by rw [hsize]; exact Nat.le_refl _, fun i hi hn => hheap i (fun e => ?_), fun i hi hn o => ?_, fun i hi hown => ?_⟩⟩
 ·by_cases e : r1 = (addRow (setRow st r .gone) g d row).1
  ·exact .inl e
  ·have g2 := getRow_new_ne g1 e
   obtain ⟨g3, g4⟩ := sub r1 row1 g2 hg
   exact .inr ⟨e, g2, fun hb1 => g3 (h.inj r1 r row1 row0 b g4 hr hg hne hb1 hb)⟩
 ·simp only [Ctx.bind, if_true] at hx
  cases hq : c.shut b o with
  | none => rw [hq] at hx; exact hshut2 o x hx
  | some y => rw [hq] at hx; rw [← hx]; exact hshut o y hq
 ·subst e; exact hn ⟨r, row0, hr, hne, hb⟩
 ·simp only [Ctx.bind]
  rw [if_neg]
  intro e; subst e; exact hn ⟨r, row0, hr, hne, hb⟩
 ·obtain ⟨r1, row1, g1, g2, g3⟩ := hown
  rw [bind_blk] at g3
  by_cases e : (addRow (setRow st r .gone) g d row).1 = r1
  ·rw [if_pos e] at g3
   obtain rfl := Option.some.inj g3
   exact ⟨r, row0, hr, hne, hb⟩
  ·rw [if_neg e] at g3
   obtain ⟨g4, g5⟩ := sub r1 row1 (getRow_new_ne g1 (Ne.symm e)) g2
   exact ⟨r1, row1, g5, g2, g3⟩
theorem dirt_taken {r : Ref} {g : Bool} {d : Nat} {row : Row} : Dirt st.hp (addRow (setRow st r .gone) g d row).2.hp := (dirt_set _ _).trans (dirt_add _ _ _)
theorem tm_taken {r : Ref} {g : Bool} {d : Nat} {row : Row} : (addRow (setRow st r .gone) g d row).2.tm = st.tm := (tm_add _ _ _).trans (tm_set _ _)
theorem items_ok {ys : List V} {sz : Nat} (h : ys.all (fun v => Nat.beq v.cells.length sz && v.cells.all V.cellOk) = true) : (∀ v ∈ ys, v.cells.length = sz) ∧ ∀ v ∈ flat ys, v.cellOk = true := by
 refine ⟨fun v hv => ?_, fun v hv => ?_⟩
 ·have := List.all_eq_true.1 h v hv
  simp only [Bool.and_eq_true] at this
  simpa using this.1
 ·simp only [flat, List.mem_flatMap] at hv
  obtain ⟨u, hu, hv⟩ := hv
  have := List.all_eq_true.1 h u hu
  simp only [Bool.and_eq_true] at this
  exact List.all_eq_true.1 this.2 v hv
theorem oneCells [Laid] {vs : List V} {xs : List Value} (hr : RelL c vs xs) (h : ∀ v ∈ vs, v.cellOk = true) : ∀ y ∈ xs, y.oneCell' = true := by
 intro y hy
 obtain ⟨i, hi⟩ := List.mem_iff_getElem?.1 hy
 have hi2 : i < vs.length := by
  rw [← hr.1]
  rcases Nat.lt_or_ge i xs.length with h' | h'
  ·exact h'
  ·rw [List.getElem?_eq_none h'] at hi; simp at hi
 have hu : vs[i]? = some vs[i] := List.getElem?_eq_getElem hi2
 have hrel := hr.2 i _ y hu hi
 have hco := h vs[i] (List.getElem_mem hi2)
 cases y with
 | agg z => exact absurd rfl (hrel.oneCell hco z).1
 | tuple z => exact absurd rfl (hrel.oneCell hco z).2
 | _ => rfl
theorem grow_tok_here [Laid] (h : WRel c st w) {s : Sem Next} {r : Ref} (hr : getRow st r = some .tok) {b cap sz : Nat} (hb : c.blk r = some b) (hext : c.ext b = some (cap * sz)) {l ys : List V} (htx : c.text r = some (l.length * sz))
  (hz : 0 < sz) (hl : ∀ v ∈ l, v.cells.length = sz) (hy : ∀ v ∈ ys, v.cells.length = sz) (hn : V.noRefsL (flat (l ++ ys)) = true) (hroom : l.length + ys.length ≤ cap)
  {xs news : List Value} (hx : RelL c (flat l) xs) (hsh : ∀ i x, xs[i]? = some x → c.shut b i = some x) (hnew : RelL c (flat ys) news) {g : Bool} {d : Nat}
  (hstep : StepsTo P s w (.slice (some ⟨b, 0, none⟩) (l.length + ys.length) cap) (w.setCells b (l.length * sz) news)) :
  ∃ c' x' w', ValOk P c st w s (.slice (some (addRow (setRow st r .gone) g d .tok).1) false sz (l ++ ys)) (addRow (setRow st r .gone) g d .tok).2 c' x' w' := by
 obtain ⟨b', cs, e, fz, n, k1, k2, k3, k4, k5, k6, k7⟩ := h.rows r _ hr
 rw [hb] at k1
 obtain rfl := Option.some.inj k1
 rw [hext] at k4
 have hcs : cap * sz = cs.size := Option.some.inj k4
 rw [htx] at k5
 obtain rfl := Option.some.inj k5
 have hall : ∀ v ∈ l ++ ys, v.cells.length = sz := fun v hv => by rcases List.mem_append.1 hv with h' | h'; exact hl v h'; exact hy v h'
 have hfl : (flat (l ++ ys)).length = (l.length + ys.length) * sz := by rw [flat_length hall, List.length_append]
 have hxl : xs.length = l.length * sz := by rw [hx.1, flat_length hl]
 have hnl : news.length = ys.length * sz := by rw [hnew.1, flat_length hy]
 have hmul : l.length * sz + ys.length * sz ≤ cap * sz := by rw [← Nat.add_mul]; exact Nat.mul_le_mul_right _ hroom
 have hheap := setCells_heap' (vs := news) k2 (show l.length * sz + news.length ≤ cs.size by omega)
 have hlay : (lay cs.toList (l.length * sz) news).length = cs.size := by simpa using lay_length (cs := cs.toList) (off := l.length * sz) (vs := news) (by simp; omega)
 have hcell : ∀ o, (w.setCells b (l.length * sz) news).cell? ⟨b, o, none⟩ = (lay cs.toList (l.length * sz) news)[o]? := fun o => by
  rw [cell_of_heap hheap]; simp
 have hold : ∀ o, o < l.length * sz → (lay cs.toList (l.length * sz) news)[o]? = cs[o]? := fun o ho => by
  unfold lay
  rw [List.append_assoc, List.getElem?_append_left (by simp; omega), List.getElem?_take, if_pos ho]; simp
 have hxs : ∀ i, i < l.length * sz → cs[i]? = xs[i]? := fun i hi => by
  have hx1 : xs[i]? = some (xs[i]'(by omega)) := List.getElem?_eq_getElem _
  have := h.shut b i _ (hsh i _ hx1)
  rw [cell_of_heap k2] at this
  rw [this, hx1]
 have htake : ∀ o, o < (l.length + ys.length) * sz → (lay cs.toList (l.length * sz) news)[o]? = (xs ++ news)[o]? := fun o ho => by
  by_cases h1 : o < l.length * sz
  ·rw [hold o h1, List.getElem?_append_left (by omega), hxs o h1]
  ·have e1 : (xs ++ news)[o]? = news[o - xs.length]? := List.getElem?_append_right (by omega)
   have hlen2 : (cs.toList.take (l.length * sz)).length = l.length * sz := by simp; omega
   have hon : o - l.length * sz < news.length := by rw [Nat.add_mul] at ho; omega
   have e2 : (lay cs.toList (l.length * sz) news)[o]? = news[o - l.length * sz]? := by
    unfold lay
    rw [List.append_assoc, List.getElem?_append_right (by omega), hlen2, List.getElem?_append_left hon]
   rw [e1, e2, hxl]
 obtain ⟨t1, t2, t3⟩ := taken_sound (g := g) (d := d) (row := .tok) (tx := some ((l.length + ys.length) * sz)) (sh := fun o => (xs ++ news)[o]?) (w' := w.setCells b (l.length * sz) news) h hr (by simp) hb hext
  (by rw [setCells_size]) (fun i hi => setCells_heap_ne news _ w i hi) (setCells_rest news _ w) (fun o x hx => by
   have ho : o < l.length * sz := by
    rcases Nat.lt_or_ge o (l.length * sz) with h' | h'
    ·exact h'
    ·rw [k7 o h'] at hx; simp at hx
   rw [hcell, hold o ho]
   have := h.shut b o x hx
   rwa [cell_of_heap k2] at this) (fun o x hx => by
   have ho : o < (l.length + ys.length) * sz := by
    rcases Nat.lt_or_ge o ((l.length + ys.length) * sz) with h' | h'
    ·exact h'
    ·rw [List.getElem?_eq_none (by rw [Nat.add_mul] at h'; simp; omega)] at hx; simp at hx
   rw [hcell, htake o ho]; exact hx) (fun r' hr' hle => by
   refine ⟨b, (lay cs.toList (l.length * sz) news).toArray, e, fz, (l.length + ys.length) * sz, by rw [bind_blk]; simp, hheap, fun o ho => k3 o (by simp at ho; omega), by simp [Ctx.bind, hlay, hcs], by simp [Ctx.bind], ?_, fun o ho => ?_⟩
   ·simp only [List.size_toArray, hlay]; rw [Nat.add_mul]; omega
   ·simp only [Ctx.bind, if_true]
    rw [k7 o (by rw [Nat.add_mul] at ho; omega)]
    simp only []
    rw [List.getElem?_eq_none (by rw [Nat.add_mul] at ho; simp; omega)])
 refine ⟨_, _, _, hstep, t1, ?_, t2, t3, dirt_taken, tm_taken⟩
 refine Rel.mk_slice (sz := sz) (xs := xs ++ news) hall (by rw [flat_append]; exact RelL.append (hx.mono t1) (hnew.mono t1)) (fun i x hxi => ?_) hn (by simpa using hroom) (fun hf => by simp at hf) (fun r' hr' => ?_) (by simp)
 ·rw [Nat.zero_add]
  simp only [Ctx.bind, if_true]
  cases hq : c.shut b i with
  | none => exact hxi
  | some y =>
   simp only []
   have hi : i < l.length * sz := by
    rcases Nat.lt_or_ge i (l.length * sz) with h' | h'
    ·exact h'
    ·rw [k7 i h'] at hq; simp at hq
   rw [List.getElem?_append_left (by omega)] at hxi
   have := hsh i x hxi
   rw [hq] at this; exact this
 ·obtain rfl := Option.some.inj hr'
  exact ⟨by rw [bind_blk]; simp, rfl, hz, by simp [Ctx.bind], by simp [Ctx.bind]⟩
theorem grow_arr_here [Laid] (h : WRel c st w) {s : Sem Next} {r : Ref} {cs : List V} (hr : getRow st r = some (.cells false cs)) {b cap len sz : Nat} {ag : Bool} (hb : c.blk r = some b) (hext : c.ext b = some (cap * sz)) {ys : List V} (hlen : len * sz = cs.length)
  (hz : 0 < sz) (hy : ∀ v ∈ ys, v.cells.length = sz) (hroom : len + ys.length ≤ cap) {news : List Value} (hnew : RelL c (flat ys) news) {g : Bool} {d : Nat}
  (hstep : StepsTo P s w (.slice (some ⟨b, 0, none⟩) (len + ys.length) cap) (w.setCells b (len * sz) news)) :
  ∃ c' x' w', ValOk P c st w s (.arr (addRow (setRow st r .gone) g d (.cells false (cs ++ flat ys))).1 0 (len + ys.length) none sz ag) (addRow (setRow st r .gone) g d (.cells false (cs ++ flat ys))).2 c' x' w' := by
 obtain ⟨b', xs, e, fz, k1, k2, k3, k4, k5, k6, k7, k8⟩ := h.rows r _ hr
 rw [hb] at k1
 obtain rfl := Option.some.inj k1
 rw [hext] at k4
 have hcs : cap * sz = xs.size := Option.some.inj k4
 have hyl : (flat ys).length = ys.length * sz := flat_length hy
 have hnl : news.length = ys.length * sz := by rw [hnew.1, hyl]
 have hmul : len * sz + ys.length * sz ≤ cap * sz := by rw [← Nat.add_mul]; exact Nat.mul_le_mul_right _ hroom
 have hheap := setCells_heap' (vs := news) k2 (show len * sz + news.length ≤ xs.size by omega)
 have hlay : (lay xs.toList (len * sz) news).length = xs.size := by simpa using lay_length (cs := xs.toList) (off := len * sz) (vs := news) (by simp; omega)
 have htake : (lay xs.toList (len * sz) news).take (cs ++ flat ys).length = xs.toList.take cs.length ++ news := by
  unfold lay
  rw [hlen]
  rw [List.take_append_of_le_length (by simp; omega), List.take_of_length_le (by simp; omega)]
 obtain ⟨t1, t2, t3⟩ := taken_sound (g := g) (d := d) (row := .cells false (cs ++ flat ys)) (tx := none) (sh := fun _ => none) (w' := w.setCells b (len * sz) news) h hr (by simp) hb hext
  (by rw [setCells_size]) (fun i hi => setCells_heap_ne news _ w i hi) (setCells_rest news _ w) (fun o x hx => by rw [k7 rfl] at hx; simp at hx) (fun o x hx => by simp at hx) (fun r' hr' hle => by
   refine ⟨b, (lay xs.toList (len * sz) news).toArray, e, fz, by rw [bind_blk]; simp, hheap, fun o ho => k3 o (by simp at ho; omega), by simp [Ctx.bind, hlay, hcs], by simp [hlay]; omega, ?_, fun _ o => ?_, fun hf => by simp at hf⟩
   ·rw [htake]; exact RelL.append (k6.mono hle) (hnew.mono hle)
   ·simp only [Ctx.bind, if_true]
    rw [k7 rfl])
 exact ⟨_, _, _, hstep, t1, .arr _ _ _ _ _ _ _ _ (cap * sz) (by rw [bind_blk]; simp) hroom (by simp [Ctx.bind]) hz (fun k hk => by simp at hk) (fun _ => by omega), t2, t3, dirt_taken, tm_taken⟩
theorem arr_cells [Laid] (h : WRel c st w) {r : Ref} {frz : Bool} {cs : List V} (hr : getRow st r = some (.cells frz cs)) {b off n : Nat} (hb : c.blk r = some b) (hle : off + n ≤ cs.length) :
  ∃ xs : List Value, RelL c ((cs.drop off).take n) xs ∧ xs.length = n ∧ ∀ i y, xs[i]? = some y → w.cell? ⟨b, off + i, none⟩ = some y := by
 obtain ⟨b', ys, e, fz, h1, h2, h3, h4, h5, h6, h7, h8⟩ := h.rows r _ hr
 rw [hb] at h1
 obtain rfl := Option.some.inj h1
 refine ⟨((ys.toList.take cs.length).drop off).take n, (h6.drop off).take n, by simp; omega, fun i y hy => ?_⟩
 rw [cell_of_heap h2]
 rw [List.getElem?_take] at hy
 split at hy
 ·rw [List.getElem?_drop, List.getElem?_take] at hy
  split at hy
  ·simpa using hy
  ·simp at hy
 ·simp at hy
end
end Go.AM
end
