/- An abstract machine for the model's code, proved sound: what it computes, every run of the code comes to (part 1). -/
import Derived.Test.YtjldfkldmfmkiaaDoorAm0
import Derived.Orders
set_option linter.unusedVariables false
set_option linter.unusedSimpArgs false
set_option linter.unusedSectionVars false
section
namespace Go.AM
open Go
section
variable {P : Program} {C : Cfg} {c : Ctx} {st : St} {a : Act} {w : World} {gl : Nat → Bool}
theorem grow_step {s : Sem Next} {ts : Array TypeId} {t e ty : TypeId} {i : TypeInfo} (hT : ArgT P ts t e i) {z : Value} (hz : i.zero = some z) (hzs : z.cells.size = i.size) {yv : Value} {n : Nat} {olds news : List Value}
  (hlen : (Builtin.lenOf yv).run P w = .ok n w) {base : Option Addr} {sLen sCap : Nat} (holds : (Builtin.firstCells i.size sLen (.slice base sLen sCap)).run P w.drew = .ok olds.toArray w.drew)
  (hnews : (Builtin.firstCells i.size n yv).run P w.drew = .ok news.toArray w.drew) (ho : (olds ++ news).length = (sLen + n) * i.size) (hg : sCap < sLen + n) (h63 : sLen + n ≤ 70368744177664) (hfit : (sLen + n) * i.bytes ≤ 70368744177664)
  (hs : ∀ v w', (Builtin.append_ ts ty #[.slice base sLen sCap, yv]).run P w = .ok v w' → StepsTo P s w v w') :
  ∃ (xs : Array Value) (cap : Nat) (w' : World), w'.heap = w.heap.push (.cells xs e) ∧ (w'.os = w.os ∧ w'.tape = w.tape ∧ w'.output = w.output) ∧ xs.size = cap * i.size ∧ xs.toList.take ((sLen + n) * i.size) = olds ++ news ∧ sLen + n ≤ cap ∧
   StepsTo P s w (.slice (some ⟨w.heap.size, 0, none⟩) (sLen + n) cap) w' := by
 have hrun := run_append_grow' (ty := ty) hT hz hlen holds hnews hg h63 hfit
 have hge := grownCap_ge w (sLen + n) sCap e
 obtain ⟨g1, g2⟩ := grown_cells (z := z.cells) ho hzs hge
 exact ⟨_, _, w.drew.alloc (.cells _ e), rfl, ⟨rfl, rfl, rfl⟩, g1, g2, hge, hs _ _ hrun⟩
theorem byteE_spec {e : TypeId} {n : Nat} (h : byteE P e = some n) : 0 < n ∧ ∃ i z, P.info? e = some i ∧ i.bytes = n ∧ i.zero = some z ∧ z.cells.size = i.size := by
 unfold byteE at h
 cases hq : P.info? e with
 | none => simp [hq] at h
 | some i =>
  simp only [hq, Option.bind_some] at h
  split at h
  ·rename_i z hz
   generalize hb : (Nat.beq i.bytes 0 || !Nat.beq z.cells.size i.size) = q at h
   cases q with
   | true => simp at h
   | false =>
    simp at h
    simp only [Bool.or_eq_false_iff, Bool.not_eq_false'] at hb
    refine ⟨?_, i, z, rfl, h, hz, by simpa using hb.2⟩
    rcases Nat.eq_zero_or_pos n with h0 | h0
    ·rw [h0] at h; rw [h] at hb; simp at hb
    ·exact h0
  ·simp at h
theorem cond_some {α : Type} {b : Bool} {x : Option α} {y : α} (h : (bif b then none else x) = some y) : b = false ∧ x = some y := by
 cases b with
 | true => simp at h
 | false => exact ⟨rfl, h⟩
theorem need_small {n b : Nat} (hb : 0 < b) (h : n * b ≤ 70368744177664) : n ≤ 70368744177664 := Nat.le_trans (Nat.le_mul_of_pos_right n hb) h
theorem notInt_spec {o : Option TypeId} (h : notInt P o = true) : ∃ u d, o = some u ∧ P.underlying u = some d ∧ ∀ k, d ≠ .int k := by
 unfold notInt at h
 cases o with
 | none => simp at h
 | some u =>
  simp only [Option.bind_some] at h
  cases hq : P.underlying u with
  | none => simp [hq] at h
  | some d =>
   rw [hq] at h
   exact ⟨u, d, rfl, hq, fun k e => by subst e; simp at h⟩
theorem append_sound [Laid] (h : WRel c st w) {x y : V} {xv yv : Value} (hx : Rel c x xv) (hy : Rel c y yv) {t ty : TypeId} {d : Nat} {ts : Array TypeId} {res : Res} (hr : appendV P C gl st d t x y = some res) (h0 : ts[0]? = some t) (h1 : notInt P ts[1]? = true)
  {s : Sem Next} (hs : ∀ v w', (Builtin.append_ ts ty #[xv, yv]).run P w = .ok v w' → StepsTo P s w v w') : ResOk P c st w s res := by
 unfold appendV at hr
 split at hr
 ·simp at hr
 ·rename_i e he
  split at hr
  ·rename_i sz ag bytes ys hlay hby hi
   obtain ⟨hz0, hsz, _⟩ := layE_spec hlay
   obtain ⟨hb0, i, z, hinfo, hbytes, hzz, hzs⟩ := byteE_spec hby
   have hisz : i.size = sz := by rw [hinfo] at hsz; simpa using hsz
   have hT : ArgT P ts t e i := ⟨h0, notInt_spec h1, elemT_spec he, hinfo⟩
   generalize hg : (ys.all (fun v => Nat.beq v.cells.length sz && v.cells.all V.cellOk)) = q at hr
   cases q with
   | false => simp at hr
   | true =>
    simp only [cond_true] at hr
    obtain ⟨hyl, hyc⟩ := items_ok hg
    obtain ⟨news, hnr, hnlen, hnf⟩ := items_spec (P := P) h hy hi hyl
    have hnews : ∀ w' : World, w'.heap = w.heap → (Builtin.firstCells i.size ys.length yv).run P w' = .ok news.toArray w' := by
     intro w' hw
     have := hnf w' ys.length hw (Nat.le_refl _)
     rw [List.take_of_length_le (by rw [hnr.1, flat_length hyl]; exact Nat.le_refl _)] at this
     rw [hisz]; exact this
    have hnl : news.length = ys.length * sz := by rw [hnr.1, flat_length hyl]
    subst hisz
    subst hbytes
    have nothing : ys = [] → ∀ base n cap, xv = .slice base n cap → n ≤ cap → Rel c x xv → ResOk P c st w s (.val x st) := by
     intro hys base n cap hxv hcap hrel
     subst hys
     subst hxv
     have hn0 : news = [] := List.eq_nil_of_length_eq_zero (by simpa using hnl)
     subst hn0
     have hrun := run_append_room' (ty := ty) hT (hnlen w) (hnews w rfl) (base := base) (sLen := n) (sCap := cap) (by simpa using hcap) (w' := w) (by cases base <;> rfl)
     refine ⟨c, _, w, hs _ _ hrun, .refl c, ?_, h, .refl c st w, .refl _, rfl⟩
     simpa using hrel
    split at hr
    ·
     obtain rfl := hx.nils_inv
     split at hr
     ·simp only [Option.some.injEq] at hr
      subst hr
      exact nothing rfl _ _ _ rfl (Nat.le_refl _) hx
     ·rename_i hne
      have hpos : 0 < ys.length := by cases ys with | nil => exact absurd rfl hne | cons v vs => simp
      generalize hgb : Nat.ble (ys.length * i.bytes) maxBytes = q2 at hr
      cases q2 with
      | false => simp at hr
      | true =>
       have hfit : ys.length * i.bytes ≤ 70368744177664 := by simpa [maxBytes] using hgb
       simp only [cond_true] at hr
       obtain ⟨xs, cap, w', k1, k2, k3, k4, k5, k6⟩ := grow_step (P := P) (s := s) (ty := ty) hT hzz hzs (hnlen w) (base := none) (sLen := 0) (sCap := 0) (olds := []) (by simp [Builtin.firstCells]) (hnews w.drew rfl) (by simpa using hnl) (by omega)
        (by have := need_small hb0 hfit; omega) (by simpa using hfit) hs
       simp only [Nat.zero_add, List.nil_append] at k4 k5 k6
       cases hA : C.isArr t with
       | true =>
        simp only [hA, cond_true, growArr] at hr
        replace hr := (cond_some hr).2
        simp only [Option.some.injEq] at hr
        subst hr
        refine newArr_ok (P := P) h k1 k2 (fun o _ hx => by simp at hx) (by rw [flat_length hyl, k3]; exact Nat.mul_le_mul_right _ k5) ?_ k5 hz0 k3 (fun k hk => by simp at hk) k6
        rw [flat_length hyl, k4]; exact hnr
       | false =>
        simp only [hA, cond_false] at hr
        cases hN : V.noRefsL ys with
        | false => simp [hN] at hr
        | true =>
         simp only [hN, cond_true, growImm, Option.some.injEq] at hr
         subst hr
         refine newTok_ok (P := P) h k1 k2 hyl (noRefs_flat hN) ?_ k5 hz0 k3 k6
         rw [flat_length hyl, k4]; exact hnr
    ·
     rename_i tok full sz' l
     obtain ⟨b, off, cap, xs0, rfl, p1, p2, p3, p4, p5, p6, p7⟩ := hx.slice_inv
     generalize hgs : Nat.beq i.size sz' = q2 at hr
     cases q2 with
     | false => simp at hr
     | true =>
      have hsz' : i.size = sz' := by simpa using hgs
      subst hsz'
      simp only [cond_true] at hr
      split at hr
      ·simp only [Option.some.injEq] at hr
       subst hr
       exact nothing rfl _ _ _ rfl p5 hx
      ·rename_i hne
       have hpos : 0 < ys.length := by cases ys with | nil => exact absurd rfl hne | cons v vs => simp
       generalize hgb : Nat.ble ((l.length + ys.length) * i.bytes) maxBytes = q3 at hr
       cases q3 with
       | false => simp at hr
       | true =>
        have hfit : (l.length + ys.length) * i.bytes ≤ 70368744177664 := by simpa [maxBytes] using hgb
        simp only [cond_true] at hr
        have hall : ∀ v ∈ l ++ ys, v.cells.length = i.size := fun v hv => by rcases List.mem_append.1 hv with h' | h'; exact p1 v h'; exact hyl v h'
        have hxl : xs0.length = l.length * i.size := by rw [p2.1, flat_length p1]
        have holds : ∀ w' : World, w'.heap = w.heap → (Builtin.firstCells i.size l.length (.slice (some ⟨b, off, none⟩) l.length cap)).run P w' = .ok xs0.toArray w' := fun w' hw =>
         run_firstCells_some (P := P) w' i.size l.length ⟨b, off, none⟩ l.length cap xs0 hxl (fun j v hj => by rw [Addr.add_lit, cell_heap hw]; exact h.shut _ _ _ (p3 j v hj))
        have grown : cap < l.length + ys.length → ∃ (xs : Array Value) (cap' : Nat) (w' : World), w'.heap = w.heap.push (.cells xs e) ∧ (w'.os = w.os ∧ w'.tape = w.tape ∧ w'.output = w.output) ∧ xs.size = cap' * i.size ∧ xs.toList.take ((l.length + ys.length) * i.size) = xs0 ++ news ∧ l.length + ys.length ≤ cap' ∧
          StepsTo P s w (.slice (some ⟨w.heap.size, 0, none⟩) (l.length + ys.length) cap') w' := fun hlt =>
         grow_step (P := P) (s := s) (ty := ty) hT hzz hzs (hnlen w) (base := some ⟨b, off, none⟩) (sLen := l.length) (sCap := cap) (holds w.drew rfl) (hnews w.drew rfl) (by rw [List.length_append, hxl, hnl, Nat.add_mul]) hlt
          (need_small hb0 hfit) hfit hs
        have hfl : (flat (l ++ ys)).length = (l.length + ys.length) * i.size := by rw [flat_length hall, List.length_append]
        have hrel : RelL c (flat (l ++ ys)) (xs0 ++ news) := by rw [flat_append]; exact RelL.append p2 hnr
        cases hA : C.isArr t with
        | true =>
         simp only [hA, cond_true] at hr
         cases full with
         | false => simp at hr
         | true =>
          simp only [cond_true, growArr] at hr
          replace hr := (cond_some hr).2
          simp only [Option.some.injEq] at hr
          subst hr
          obtain ⟨xs, cap', w', k1, k2, k3, k4, k5, k6⟩ := grown (by rw [p6 rfl]; omega)
          refine newArr_ok (P := P) h k1 k2 (fun o _ hx => by simp at hx) (by rw [hfl, k3]; exact Nat.mul_le_mul_right _ k5) ?_ k5 hz0 k3 (fun k hk => by simp at hk) k6
          rw [hfl, k4]; exact hrel
        | false =>
         simp only [hA, cond_false] at hr
         cases hN : V.noRefsL ys with
         | false => simp [hN] at hr
         | true =>
          simp only [hN, cond_true] at hr
          have hnf2 : V.noRefsL (flat (l ++ ys)) = true := by rw [flat_append, noRefsL_append, p4, noRefs_flat hN]; rfl
          cases full with
          | true =>
           simp only [cond_true, growImm, Option.some.injEq] at hr
           subst hr
           obtain ⟨xs, cap', w', k1, k2, k3, k4, k5, k6⟩ := grown (by rw [p6 rfl]; omega)
           refine newTok_ok (P := P) h k1 k2 hall hnf2 ?_ (by simpa using k5) hz0 k3 (by simpa using k6)
           rw [hfl, k4]; exact hrel
          | false =>
           simp only [cond_false] at hr
           split at hr
           ·rename_i r
            split at hr
            ·rename_i hrow
             simp only [growImm, Option.some.injEq] at hr
             subst hr
             obtain ⟨q1, q2, q3, q4, q5⟩ := p7 r rfl
             subst q2
             by_cases hroom : l.length + ys.length ≤ cap
             ·refine grow_tok_here (P := P) h hrow q1 q4 q5 hz0 p1 hyl hnf2 hroom p2 (fun i x hx => by have := p3 i x hx; rwa [Nat.zero_add] at this) hnr ?_
              obtain ⟨b', cs, e', fz, n', m1, m2, m3, m4, m5, m6, m7⟩ := h.rows r _ hrow
              rw [q1] at m1
              obtain rfl := Option.some.inj m1
              rw [q4] at m4
              have hcs : cap * i.size = cs.size := Option.some.inj m4
              have hfit2 : l.length * i.size + news.length ≤ cs.size := by
               rw [hnl, ← Nat.add_mul, ← hcs]; exact Nat.mul_le_mul_right _ hroom
              have hst := run_storeCells_cells (P := P) b (l.length * i.size) news 0 w (fun j hj => by rw [cell_of_heap m2]; rw [Array.getElem?_eq_getElem (by omega)]; rfl)
               (fun j hj => frozen_of_heap m2 m3 (by omega)) (oneCells hnr hyc)
              simp only [Nat.add_zero] at hst
              have hrun := run_append_room' (ty := ty) hT (hnlen w) (hnews w rfl) (base := some ⟨b, 0, none⟩) (sLen := l.length) (sCap := cap) hroom (w' := w.setCells b (l.length * i.size) news)
               (by show (storeCells ((⟨b, 0, none⟩ : Addr).add (l.length * i.size)) news).run P w = _; rw [Addr.add_lit, Nat.zero_add]; exact hst)
              exact hs _ _ hrun
             ·obtain ⟨xs, cap', w', k1, k2, k3, k4, k5, k6⟩ := grown (by omega)
              obtain ⟨g1, g2⟩ := h.gone hrow (by simp)
              obtain ⟨c2, x2, w2, k⟩ := newTok_ok (P := P) (s := s) (g := gl d) (d := d) (l := l ++ ys) (sz := i.size) (cap := cap') g1 k1 k2 hall hnf2 (by rw [hfl, k4]; exact hrel) (by simpa using k5) hz0 k3 (by simpa using k6)
              exact ⟨c2, x2, w2, k.after (.refl c) g2 (dirt_set _ _) (tm_set _ _)⟩
            ·simp at hr
           ·simp at hr
    ·
     rename_i r off len lim sz' ag'
     obtain ⟨b, cap, n, rfl, hb, hcap, he1, hzz1, hk, hu⟩ := hx.arr_inv
     generalize hgs : (Nat.beq i.size sz' && (ag == ag')) = q2 at hr
     cases q2 with
     | false => simp at hr
     | true =>
      simp only [Bool.and_eq_true] at hgs
      have hsz' : i.size = sz' := by simpa using hgs.1
      have hag : ag = ag' := by simpa using hgs.2
      subst hsz'
      subst hag
      simp only [cond_true] at hr
      split at hr
      ·rename_i frz cs hrow
       generalize hgl : (Nat.ble (off + len * i.size) cs.length && Nat.ble ((len + ys.length) * i.bytes) maxBytes) = q3 at hr
       cases q3 with
       | false => simp at hr
       | true =>
        simp only [Bool.and_eq_true] at hgl
        have hle : off + len * i.size ≤ cs.length := by simpa using hgl.1
        have hfit : (len + ys.length) * i.bytes ≤ 70368744177664 := by simpa [maxBytes] using hgl.2
        simp only [cond_true] at hr
        split at hr
        ·simp only [Option.some.injEq] at hr
         subst hr
         exact nothing rfl _ _ _ rfl hcap hx
        ·rename_i hne
         have hpos : 0 < ys.length := by cases ys with | nil => exact absurd rfl hne | cons v vs => simp
         obtain ⟨olds, ho1, ho2, ho3⟩ := arr_cells h hrow hb hle
         have holds : ∀ w' : World, w'.heap = w.heap → (Builtin.firstCells i.size len (.slice (some ⟨b, off, none⟩) len cap)).run P w' = .ok olds.toArray w' := fun w' hw =>
          run_firstCells_some (P := P) w' i.size len ⟨b, off, none⟩ len cap olds ho2 (fun j v hj => by rw [Addr.add_lit, cell_heap hw]; exact ho3 j v hj)
         have grown : cap < len + ys.length → ∃ (xs : Array Value) (cap' : Nat) (w' : World), w'.heap = w.heap.push (.cells xs e) ∧ (w'.os = w.os ∧ w'.tape = w.tape ∧ w'.output = w.output) ∧ xs.size = cap' * i.size ∧ xs.toList.take ((len + ys.length) * i.size) = olds ++ news ∧ len + ys.length ≤ cap' ∧
           StepsTo P s w (.slice (some ⟨w.heap.size, 0, none⟩) (len + ys.length) cap') w' := fun hlt =>
          grow_step (P := P) (s := s) (ty := ty) hT hzz hzs (hnlen w) (base := some ⟨b, off, none⟩) (sLen := len) (sCap := cap) (holds w.drew rfl) (hnews w.drew rfl) (by rw [List.length_append, ho2, hnl, Nat.add_mul]) hlt
           (need_small hb0 hfit) hfit hs
         have hnyl : (flat ys).length = ys.length * i.size := flat_length hyl
         have hol : ((cs.drop off).take (len * i.size)).length = len * i.size := by simp; omega
         have here : len + ys.length ≤ cap → off + (len * i.size + news.length) ≤ n → StepsTo P s w (.slice (some ⟨b, off, none⟩) (len + ys.length) cap) (w.setCells b (off + len * i.size) news) := by
          intro hroom hfit2
          obtain ⟨b', xs, e', fz, m1, m2, m3, m4, m5, m6, m7, m8⟩ := h.rows r _ hrow
          rw [hb] at m1
          obtain rfl := Option.some.inj m1
          rw [he1] at m4
          have hcs : n = xs.size := Option.some.inj m4
          have hst := run_storeCells_cells (P := P) b (off + len * i.size) news 0 w (fun j hj => by rw [cell_of_heap m2]; rw [Array.getElem?_eq_getElem (by omega)]; rfl)
           (fun j hj => frozen_of_heap m2 m3 (by omega)) (oneCells hnr hyc)
          simp only [Nat.add_zero] at hst
          have hrun := run_append_room' (ty := ty) hT (hnlen w) (hnews w rfl) (base := some ⟨b, off, none⟩) (sLen := len) (sCap := cap) hroom (w' := w.setCells b (off + len * i.size) news)
           (by show (storeCells ((⟨b, off, none⟩ : Addr).add (len * i.size)) news).run P w = _; rw [Addr.add_lit]; exact hst)
          exact hs _ _ hrun
         have written : ∀ cs', frz = false → len + ys.length ≤ cap → setAt cs (off + len * i.size) (flat ys) = some cs' → ResOk P c st w s (.val (.arr r off (len + ys.length) lim i.size ag) (setRow st r (.cells false cs'))) := by
          intro cs' hfz hroom hset
          subst hfz
          obtain ⟨k1, k2, k3⟩ := h.write hrow hset hnr hb
          have hle2 := (setAt_spec hset).1
          obtain ⟨b', xs, e', fz, m1, m2, m3, m4, m5, m6, m7, m8⟩ := h.rows r _ hrow
          rw [hb] at m1
          obtain rfl := Option.some.inj m1
          rw [he1] at m4
          have hcs : n = xs.size := Option.some.inj m4
          have hst := here hroom (by rw [hnyl] at hle2; rw [hnl]; omega)
          exact ⟨c, _, _, hst, .refl c, .arr _ _ _ _ _ _ _ _ n hb hroom he1 hzz1 hk hu, k1, k2, dirt_set _ _, tm_set _ _⟩
         replace hr := (cond_some hr).2
         split at hr
         ·rename_i c0
          obtain ⟨rfl, hk2⟩ := hk c0 rfl
          generalize hgr : Nat.ble (len + ys.length) cap = q4 at hr
          cases q4 with
          | true =>
           have hroom : len + ys.length ≤ cap := by simpa using hgr
           simp only [cond_true] at hr
           cases frz with
           | true => simp at hr
           | false =>
            simp only [cond_false] at hr
            split at hr
            ·rename_i cs' hset
             simp only [Option.some.injEq] at hr
             subst hr
             exact written cs' rfl hroom hset
            ·simp at hr
          | false =>
           have hroom : ¬ len + ys.length ≤ cap := by
            intro hc; have : Nat.ble (len + ys.length) cap = true := by simpa using hc
            rw [this] at hgr; simp at hgr
           simp only [cond_false, growArr] at hr
           replace hr := (cond_some hr).2
           simp only [Option.some.injEq] at hr
           subst hr
           obtain ⟨xs, cap', w', k1, k2, k3, k4, k5, k6⟩ := grown (by omega)
           have hll : (((cs.drop off).take (len * i.size)) ++ flat ys).length = (len + ys.length) * i.size := by rw [List.length_append, hol, hnyl, Nat.add_mul]
           refine newArr_ok (P := P) h k1 k2 (fun o _ hx => by simp at hx) (by rw [hll, k3]; exact Nat.mul_le_mul_right _ k5) ?_ k5 hz0 k3 (fun k hk => by simp at hk) k6
           rw [hll, k4]; exact RelL.append ho1 hnr
         ·have hcap2 := hu rfl
          cases frz with
          | true => simp at hr
          | false =>
           simp only [cond_false] at hr
           obtain ⟨b', xs1, e', fz, m1, m2, m3, m4, m5, m6, m7, m8⟩ := h.rows r _ hrow
           rw [hb] at m1
           obtain rfl := Option.some.inj m1
           rw [he1] at m4
           have hcs : n = xs1.size := Option.some.inj m4
           generalize hgr : Nat.ble (off + (len + ys.length) * i.size) cs.length = q4 at hr
           cases q4 with
           | true =>
            have hin : off + (len + ys.length) * i.size ≤ cs.length := by simpa using hgr
            have hroom : len + ys.length ≤ cap := by
             refine Nat.le_of_mul_le_mul_right (c := i.size) ?_ hz0
             omega
            simp only [cond_true] at hr
            split at hr
            ·rename_i cs' hset
             simp only [Option.some.injEq] at hr
             subst hr
             exact written cs' rfl hroom hset
            ·simp at hr
           | false =>
            simp only [cond_false] at hr
            generalize hgo : (Nat.beq off 0 && Nat.beq (len * i.size) cs.length) = q5 at hr
            cases q5 with
            | false => simp at hr
            | true =>
             simp only [Bool.and_eq_true] at hgo
             have ho0 : off = 0 := by simpa using hgo.1
             have hlen : len * i.size = cs.length := by simpa using hgo.2
             subst ho0
             simp only [cond_true, growArr] at hr
             replace hr := (cond_some hr).2
             simp only [Option.some.injEq] at hr
             subst hr
             by_cases hroom : len + ys.length ≤ cap
             ·have hnn : n = cap * i.size := by omega
              subst hnn
              have hmul : (len + ys.length) * i.size ≤ cap * i.size := Nat.mul_le_mul_right _ hroom
              have hst := here hroom (by rw [Nat.add_mul] at hmul; omega)
              rw [Nat.zero_add] at hst
              exact grow_arr_here (P := P) h hrow hb he1 hlen hz0 hyl hroom hnr hst
             ·obtain ⟨xs, cap', w', k1, k2, k3, k4, k5, k6⟩ := grown (by omega)
              obtain ⟨g1, g2⟩ := h.gone hrow (by simp)
              have hll : (cs ++ flat ys).length = (len + ys.length) * i.size := by rw [List.length_append, hnyl, Nat.add_mul, hlen]
              have hcseq : (cs.drop 0).take (len * i.size) = cs := by rw [hlen]; simp
              rw [hcseq] at ho1
              obtain ⟨c2, x2, w2, k⟩ := newArr_ok (P := P) (s := s) (g := gl d) (d := d) (cs := cs ++ flat ys) (len := len + ys.length) (cap := cap') (sz := i.size) (lim := none) (ag := ag) g1 k1 k2 (fun o _ hx => by simp at hx) (by rw [hll, k3]; exact Nat.mul_le_mul_right _ k5)
               (by rw [hll, k4]; exact RelL.append ho1 hnr) k5 hz0 k3 (fun k hk => by simp at hk) k6
              exact ⟨c2, x2, w2, k.after (.refl c) g2 (dirt_set _ _) (tm_set _ _)⟩
      ·simp at hr
    ·simp at hr
  ·simp at hr
end
end Go.AM
end

section
namespace Go.AM
open Go
section
variable {P : Program} {C : Cfg} {c : Ctx} {st : St} {a : Act} {w : World} {gl : Nat → Bool}
theorem Rel.mref_inv [Laid] {r : Ref} {x : Value} (h : Rel c (.mref r) x) : ∃ b, x = .map (some b) ∧ c.blk r = some b := by
 cases h; exact ⟨_, rfl, by assumption⟩
inductive KeyIs [Laid] (c : Ctx) : V → Value → TypeDesc → Prop
 | int (k : IntKind) (n : Int) (k' : IntKind) : KeyIs c (.int k n) (.int k n) (.int k')
 | str (s : Str) : KeyIs c (.str s) (.string s.bytes) .string
 | bool (b : Bool) : KeyIs c (.bool b) (.bool b) .bool
theorem keyFits_spec [Laid] {kt : TypeId} {k : V} {x : Value} (h : keyFits P kt k = true) (hr : Rel c k x) : ∃ d, P.underlying kt = some d ∧ KeyIs c k x d := by
 unfold keyFits at h
 split at h
 ·rename_i k' _ _ _ hu; exact ⟨_, hu, by cases hr; exact .int _ _ _⟩
 ·rename_i hu; exact ⟨_, hu, by cases hr; exact .str _⟩
 ·rename_i hu; exact ⟨_, hu, by cases hr; exact .bool _⟩
 ·simp at h
theorem run_checkKey [Laid] {kt : TypeId} {d : TypeDesc} {k : V} {x : Value} (hu : P.underlying kt = some d) (hk : KeyIs c k x d) (e : Bool) (w : World) : (Instr.checkKey e 10000 kt x).run P w = .ok () w := by
 have key : ∀ n, (Instr.checkKey e (n + 1) kt x).run P w = .ok () w := fun n => by
  cases hk <;> simp [Instr.checkKey, run_underlying hu]
 exact key 9999
theorem ba_beq (a b : ByteArray) : (a == b) = true ↔ a = b := by
 obtain ⟨x⟩ := a
 obtain ⟨y⟩ := b
 show (x == y) = true ↔ _
 simp
theorem sameK_now [Laid] {d : TypeDesc} {k v : V} {x y : Value} (hk : KeyIs c k x d) (hv : Rel c v y) {b : Bool} (h : sameK k v = some b) : Instr.sameNow d x y = some b := by
 cases hk with
 | int k n k' =>
  cases v <;> simp [sameK] at h
  obtain rfl := hv.int_inv
  obtain ⟨rfl, rfl⟩ := h
  simp [Instr.sameNow]
 | str s =>
  cases v <;> simp [sameK] at h
  obtain rfl := hv.str_inv
  subst h
  simp only [Instr.sameNow, Option.some.injEq]
  rename_i s2
  rw [Bool.eq_iff_iff, ba_beq, Str.same_spec]
 | bool q =>
  cases v <;> simp [sameK] at h
  obtain rfl := hv.bool_inv
  subst h
  simp [Instr.sameNow]
theorem findV_now [Laid] {d : TypeDesc} {k : V} {x : Value} (hk : KeyIs c k x d) : ∀ (ks : List V) (es : List MapEntry) (i : Nat) (r : Option Nat), RelL c ks (es.map (·.key)) → findV k ks i = some r →
  match r with
  | none => Instr.findNow d x es i = some none
  | some j => i ≤ j ∧ ∃ e, es[j - i]? = some e ∧ Instr.findNow d x es i = some (some (j, e.val))
 | [], es, i, r, hr, h => by
  simp [findV] at h
  subst h
  have h0 := hr.1
  have : es = [] := by simpa using h0
  subst this
  rfl
 | v :: ks, [], i, r, hr, h => by have h0 := hr.1; simp at h0
 | v :: ks, e :: es, i, r, hr, h => by
  have hv : Rel c v e.key := hr.head
  have ht : RelL c ks (es.map (·.key)) := hr.tail
  simp only [findV] at h
  split at h
  ·rename_i hs
   simp at h
   subst h
   exact ⟨Nat.le_refl _, e, by simp, by simp only [Instr.findNow, sameK_now hk hv hs]⟩
  ·rename_i hs
   have ih := findV_now hk ks es (i + 1) r ht h
   cases r with
   | none =>
    show Instr.findNow d x (e :: es) i = some none
    simp only [Instr.findNow, sameK_now hk hv hs]
    exact ih
   | some j =>
    obtain ⟨h1, e', h2, h3⟩ := ih
    refine ⟨by omega, e', ?_, ?_⟩
    ·rw [show j - i = (j - (i + 1)) + 1 by omega]; simpa using h2
    ·simp only [Instr.findNow, sameK_now hk hv hs]; exact h3
  ·simp at h
theorem run_findKey [Laid] {kt : TypeId} {d : TypeDesc} {x : Value} {es : List MapEntry} {r : Option (Nat × Value)} (hu : P.underlying kt = some d) (h : Instr.findNow d x es 0 = some r) (w : World) : (Instr.findKey kt x es).run P w = .ok r w := by
 simp [Instr.findKey, run_underlying hu, h]
theorem run_getMap {b : Nat} {es : Array MapEntry} {clk : Nat} (h : w.heap[b]? = some (.map es clk)) : (getObj b).run P w = .ok (.map es clk) w := by simp [getObj, Sem.run, h]
theorem map_look [Laid] (h : WRel c st w) {t : TypeId} {x k : V} {xv kv : Value} (hx : Rel c x xv) (hk : Rel c k kv) {ok : Bool} {v : V} (hr : lookV P t st.hp x k ok = some v) :
  ∃ y, (Instr.lookup t xv kv ok).run P w = .ok y w ∧ Rel c v y := by
 unfold lookV at hr
 split at hr
 ·rename_i r
  obtain ⟨b, rfl, hb⟩ := hx.mref_inv
  split at hr
  ·rename_i ks vs kt et hrow hu
   obtain ⟨b', es, clk, h1, h2, h0, h3, h4, h5, h6⟩ := h.rows (.glob r) _ hrow
   rw [hb] at h1
   obtain rfl := Option.some.inj h1
   cases hf : keyFits P kt k with
   | false => simp [hf] at hr
   | true =>
    simp only [hf, cond_true] at hr
    obtain ⟨d, hd, hki⟩ := keyFits_spec hf hk
    split at hr
    ·rename_i j hfind
     obtain ⟨_, e, he, hnow⟩ := findV_now hki ks es.toList 0 _ h3 hfind
     split at hr
     ·rename_i u hu'
      simp only [Option.some.injEq] at hr
      obtain ⟨y, hy, hrel⟩ := h4.get hu'
      have hye : y = e.val := by
       rw [Nat.sub_zero] at he
       rw [List.getElem?_map, he] at hy
       simpa using hy.symm
      subst hye
      cases ok with
      | false =>
       simp only [cond_false] at hr
       subst hr
       exact ⟨e.val, by simp [Instr.lookup, run_underlying hu, run_getMap h2, run_checkKey hd hki, run_findKey hd hnow], hrel⟩
      | true =>
       simp only [cond_true] at hr
       subst hr
       exact ⟨.tuple #[e.val, .bool true], by simp [Instr.lookup, run_underlying hu, run_getMap h2, run_checkKey hd hki, run_findKey hd hnow], Rel.mk_tuple (RelL.cons hrel (RelL.cons (.bool true) (RelL.nil c)))⟩
     ·simp at hr
    ·rename_i hfind
     have hnow := findV_now hki ks es.toList 0 _ h3 hfind
     split at hr
     ·rename_i z hz
      obtain ⟨zz, hrz, hrelz⟩ := zeroV_spec (P := P) hz
      simp only [Option.some.injEq] at hr
      cases ok with
      | false =>
       simp only [cond_false] at hr
       subst hr
       exact ⟨zz, by simp [Instr.lookup, run_underlying hu, run_getMap h2, run_checkKey hd hki, run_findKey hd hnow, hrz], hrelz c⟩
      | true =>
       simp only [cond_true] at hr
       subst hr
       exact ⟨.tuple #[zz, .bool false], by simp [Instr.lookup, run_underlying hu, run_getMap h2, run_checkKey hd hki, run_findKey hd hnow, hrz], Rel.mk_tuple (RelL.cons (hrelz c) (RelL.cons (.bool false) (RelL.nil c)))⟩
     ·simp at hr
    ·simp at hr
  ·simp at hr
 ·simp at hr
theorem WRel.setMap [Laid] (h : WRel c st w) {r : Ref} {ks vs ks' vs' : List V} (hrow : getRow st r = some (.mp ks vs)) {b : Nat} (hb : c.blk r = some b) {es' : Array MapEntry} {clk' : Nat}
  (h0 : ks'.length = vs'.length) (h3 : RelL c ks' (es'.toList.map (·.key))) (h4 : RelL c vs' (es'.toList.map (·.val))) (h5 : V.noLocL ks' = true) (h6 : V.noLocL vs' = true) {w' : World} (hsz : w'.heap.size = w.heap.size)
  (hw : w'.heap[b]? = some (.map es' clk')) (hne : ∀ i, i ≠ b → w'.heap[i]? = w.heap[i]?) (ho : w'.os = w.os ∧ w'.tape = w.tape ∧ w'.output = w.output) :
  WRel c (setRow st r (.mp ks' vs')) w' ∧ Keep c c st (setRow st r (.mp ks' vs')) w w' := by
 obtain ⟨b', es, clk, h1, h2, _⟩ := h.rows r _ hrow
 rw [hb] at h1
 obtain rfl := Option.some.inj h1
 refine ⟨⟨fun i o x hx => ?_, fun r1 row1 hr1 => ?_, fun r1 r2 row1 row2 b2 g1 g2 n1 n2 => ?_, fun i hi => ?_, fun s g hg => ?_, fun q j hq => ?_, h.tlt, fun j m hq => ?_⟩, ?_⟩
 ·by_cases e : i = b
  ·subst e
   have := h.shut i o x hx
   simp [World.cell?, h2] at this
  ·rw [← h.shut i o x hx]
   simp only [World.cell?, hne i e]
 ·by_cases e : r1 = r
  ·subst e
   rw [getRow_set_same hrow] at hr1
   obtain rfl := Option.some.inj hr1
   exact ⟨b, es', clk', hb, hw, h0, h3, h4, h5, h6⟩
  ·rw [getRow_set_ne hrow e] at hr1
   by_cases hg : row1 = .gone
   ·subst hg; trivial
   ·refine (h.rows r1 row1 hr1).keep (Ctx.le.refl c) (fun j hj => ⟨hne j (fun e2 => ?_), fun o => rfl⟩)
    subst e2
    exact e (h.inj r1 r _ _ j hr1 hrow hg (by simp) hj hb)
 ·have k1 : ∃ ro, getRow st r1 = some ro ∧ ro ≠ .gone := by
   by_cases e : r1 = r
   ·subst e; exact ⟨_, hrow, by simp⟩
   ·rw [getRow_set_ne hrow e] at g1; exact ⟨_, g1, n1⟩
  have k2 : ∃ ro, getRow st r2 = some ro ∧ ro ≠ .gone := by
   by_cases e : r2 = r
   ·subst e; exact ⟨_, hrow, by simp⟩
   ·rw [getRow_set_ne hrow e] at g2; exact ⟨_, g2, n2⟩
  obtain ⟨q1, p1, m1⟩ := k1
  obtain ⟨q2, p2, m2⟩ := k2
  exact h.inj r1 r2 q1 q2 b2 p1 p2 m1 m2
 ·exact h.glb i (by rwa [set_len] at hi)
 ·exact h.lcb s g (by rwa [set_lc hrow] at hg)
 ·rw [hsz]; exact h.lt q j hq
 ·rw [hsz]; exact h.elt j m hq
 ·exact Keep.mk' ho (by rw [hsz]; exact Nat.le_refl _) (fun i hi _ => hne i hi) (fun _ => ⟨r, _, hrow, by simp, hb⟩) (fun b ho => own_set hrow (by simp) b ho)
theorem keyIs_noLoc [Laid] {k : V} {x : Value} {d : TypeDesc} (h : KeyIs c k x d) : k.noLoc = true := by cases h <;> rfl
theorem sameBits_refl [Laid] {k : V} {x : Value} {d : TypeDesc} (h : KeyIs c k x d) (n : Nat) : Instr.sameBits n x x = true := by
 cases h <;> cases n <;> simp [Instr.sameBits, ba_beq]
theorem noLocL_set {l : List V} {v : V} {j : Nat} (h : V.noLocL l = true) (hv : v.noLoc = true) : V.noLocL (l.set j v) = true := by
 induction l generalizing j with
 | nil => rfl
 | cons x l ih =>
  simp only [V.noLocL, Bool.and_eq_true] at h
  cases j with
  | zero => simp only [List.set_cons_zero, V.noLocL, Bool.and_eq_true]; exact ⟨hv, h.2⟩
  | succ j => simp only [List.set_cons_succ, V.noLocL, Bool.and_eq_true]; exact ⟨h.1, ih h.2⟩
theorem noLocL_snoc {l : List V} {v : V} (h : V.noLocL l = true) (hv : v.noLoc = true) : V.noLocL (l ++ [v]) = true := by
 induction l with
 | nil => simp [V.noLocL, hv]
 | cons x l ih =>
  simp only [V.noLocL, Bool.and_eq_true] at h
  simp only [List.cons_append, V.noLocL, Bool.and_eq_true]
  exact ⟨h.1, ih h.2⟩
theorem findNow_key [Laid] {d : TypeDesc} {k : V} {x : Value} (hk : KeyIs c k x d) : ∀ (ks : List V) (es : List MapEntry) (i j : Nat), RelL c ks (es.map (·.key)) → findV k ks i = some (some j) → ∃ e, es[j - i]? = some e ∧ e.key = x
 | [], es, i, j, hr, h => by simp [findV] at h
 | v :: ks, [], i, j, hr, h => by have h0 := hr.1; simp at h0
 | v :: ks, e :: es, i, j, hr, h => by
  have hv : Rel c v e.key := hr.head
  have ht : RelL c ks (es.map (·.key)) := hr.tail
  simp only [findV] at h
  split at h
  ·rename_i hs
   simp at h
   subst h
   refine ⟨e, by simp, ?_⟩
   have h2 := sameK_now hk hv hs
   cases hk with
   | int k n k' =>
    cases v <;> simp [sameK] at hs
    obtain ⟨rfl, rfl⟩ := hs
    exact hv.int_inv
   | str s =>
    cases v <;> simp [sameK] at hs
    rw [Str.same_spec] at hs
    rw [hv.str_inv, hs]
   | bool q =>
    cases v <;> simp [sameK] at hs
    subst hs
    exact hv.bool_inv
  ·rename_i hs
   have := findV_now hk ks es (i + 1) (some j) ht h
   obtain ⟨e', h1, h2⟩ := findNow_key hk ks es (i + 1) j ht h
   exact ⟨e', by rw [show j - i = (j - (i + 1)) + 1 by omega]; simpa using h1, h2⟩
  ·simp at h
theorem modify_key (es : Array MapEntry) (j : Nat) (kv vv : Value) : (es.modify j fun e => { e with key := kv, val := vv }).toList.map (·.key) = (es.toList.map (·.key)).set j kv := by
 apply List.ext_getElem?
 intro i
 simp only [List.getElem?_map, List.getElem?_set, List.length_map, Array.getElem?_toList, Array.getElem?_modify, Array.length_toList]
 by_cases e : j = i
 ·subst e
  simp only [if_true]
  by_cases hl : j < es.size
  ·simp [hl, Array.getElem?_eq_getElem hl]
  ·simp [hl, Array.getElem?_eq_none (Nat.not_lt.1 hl)]
 ·simp [e]
theorem modify_val (es : Array MapEntry) (j : Nat) (kv vv : Value) : (es.modify j fun e => { e with key := kv, val := vv }).toList.map (·.val) = (es.toList.map (·.val)).set j vv := by
 apply List.ext_getElem?
 intro i
 simp only [List.getElem?_map, List.getElem?_set, List.length_map, Array.getElem?_toList, Array.getElem?_modify, Array.length_toList]
 by_cases e : j = i
 ·subst e
  simp only [if_true]
  by_cases hl : j < es.size
  ·simp [hl, Array.getElem?_eq_getElem hl]
  ·simp [hl, Array.getElem?_eq_none (Nat.not_lt.1 hl)]
 ·simp [e]
theorem map_lay [Laid] (h : WRel c st w) {t : TypeId} {x k v : V} {xv kv vv : Value} (hx : Rel c x xv) (hk : Rel c k kv) (hv : Rel c v vv) {res : Res} (hr : layM P t st x k v = some res) {s : Sem Next}
  (hs : ∀ w', (Instr.mapUpdate t xv kv vv).run P w = .ok () w' → s.run P w = .ok .skip w') : ResOk P c st w s res := by
 unfold layM at hr
 split at hr
 ·rename_i r v' st1 hexp
  obtain ⟨b, rfl, hb⟩ := hx.mref_inv
  obtain ⟨c1, k1⟩ := exp_sound (fz := false) h hv hexp
  split at hr
  ·rename_i ks vs kt et hrow hu
   have hb1 := k1.le.blk hb
   obtain ⟨b', es, clk, h1, h2, h0, h3, h4, h5, h6⟩ := k1.wrel.rows (.glob r) _ hrow
   rw [hb1] at h1
   obtain rfl := Option.some.inj h1
   have hlt : b < w.heap.size := k1.wrel.lt _ _ hb1
   cases hf : keyFits P kt k with
   | false => simp [hf] at hr
   | true =>
    simp only [hf, cond_true] at hr
    obtain ⟨d, hd, hki⟩ := keyFits_spec hf (hk.mono k1.le)
    split at hr
    ·rename_i j hfind
     simp only [Option.some.injEq] at hr
     subst hr
     obtain ⟨_, e, he, hnow⟩ := findV_now hki ks es.toList 0 _ h3 hfind
     obtain ⟨e2, he2, hkey⟩ := findNow_key hki ks es.toList 0 j h3 hfind
     rw [he] at he2
     obtain rfl := Option.some.inj he2
     rw [Nat.sub_zero] at he
     have hee : es[j]? = some e := by simpa using he
     have hstay : (Instr.keyThatStays kv kv).run P w = .ok kv w := by simp [Instr.keyThatStays, sameBits_refl hki]
     obtain ⟨m1, m2⟩ := k1.wrel.setMap (r := .glob r) (ks' := ks.set j k) (vs' := vs.set j v') (es' := es.modify j fun e => { e with key := kv, val := vv }) (clk' := clk) hrow hb1 (by simpa using h0)
      (by rw [modify_key]; exact h3.set j (hk.mono k1.le)) (by rw [modify_val]; exact h4.set j k1.rel) (noLocL_set h5 (keyIs_noLoc hki)) (noLocL_set h6 k1.noLoc)
      (w' := { w with heap := w.heap.setIfInBounds b (.map (es.modify j fun e => { e with key := kv, val := vv }) clk) }) (by simp) (by simp [hlt]) (fun i hi => by simp [Array.getElem?_setIfInBounds, Ne.symm hi]) ⟨rfl, rfl, rfl⟩
     refine ⟨c1, undef, _, .inr ⟨hs _ ?_, rfl⟩, k1.le, Rel.mk_tuple (RelL.nil _), m1, k1.keep.trans m2, k1.dirt.trans (dirt_set _ _), (tm_set _ _).trans k1.tm⟩
     simp [Instr.mapUpdate, run_underlying hu, run_getMap h2, run_checkKey hd hki, run_findKey hd hnow, hee, hkey, hstay, setObj, Sem.run]
     rw [h2]
    ·rename_i hfind
     simp only [Option.some.injEq] at hr
     subst hr
     have hnow := findV_now hki ks es.toList 0 _ h3 hfind
     obtain ⟨m1, m2⟩ := k1.wrel.setMap (r := .glob r) (ks' := ks ++ [k]) (vs' := vs ++ [v']) (es' := es.push { key := kv, val := vv, born := clk }) (clk' := clk + 1) hrow hb1 (by simp [h0])
      (by rw [Array.toList_push, List.map_append]; exact h3.append (RelL.cons (hk.mono k1.le) (RelL.nil _))) (by rw [Array.toList_push, List.map_append]; exact h4.append (RelL.cons k1.rel (RelL.nil _))) (noLocL_snoc h5 (keyIs_noLoc hki)) (noLocL_snoc h6 k1.noLoc)
      (w' := { w with heap := w.heap.setIfInBounds b (.map (es.push { key := kv, val := vv, born := clk }) (clk + 1)) }) (by simp) (by simp [hlt]) (fun i hi => by simp [Array.getElem?_setIfInBounds, Ne.symm hi]) ⟨rfl, rfl, rfl⟩
     refine ⟨c1, undef, _, .inr ⟨hs _ ?_, rfl⟩, k1.le, Rel.mk_tuple (RelL.nil _), m1, k1.keep.trans m2, k1.dirt.trans (dirt_set _ _), (tm_set _ _).trans k1.tm⟩
     simp [Instr.mapUpdate, run_underlying hu, run_getMap h2, run_checkKey hd hki, run_findKey hd hnow, setObj, Sem.run]
     rw [h2]
    ·simp at hr
  ·simp at hr
 ·simp at hr
theorem map_make [Laid] (h : WRel c st w) {d : Nat} {t : TypeId} {s : Sem Next} (hs : ∀ x w', (Instr.makeMap t none).run P w = .ok x w' → s.run P w = .ok (.value x) w') :
  ResOk P c st w s (.val (.mref (addRow st true d (.mp [] [])).1) (addRow st true d (.mp [] [])).2) := by
 have hw : ({ w with heap := w.heap.push (.map #[] 0) } : World).heap = w.heap.push (.map #[] 0) := rfl
 obtain ⟨h1, h2⟩ := h.laidRow (gl := true) (site := d) (row := .mp [] []) (o := .map #[] 0) (n := 0) (tx := none) (sh := fun _ => none) hw
  (fun r hr0 hle => ⟨w.heap.size, #[], 0, by rw [bind_blk]; simp, by simp, rfl, RelL.nil _, RelL.nil _, rfl, rfl⟩) (fun i x hx => by simp at hx)
 refine ⟨_, .map (some w.heap.size), { w with heap := w.heap.push (.map #[] 0) }, .inl (hs _ _ ?_), h2, .mref _ _ (by rw [bind_blk]; simp [addRow]), h1, ⟨rfl, rfl, rfl, by simp, fun b hb _ => ?_, fun b hb _ o => ?_, fun b hb ho => own_add (gl := true) (site := d) (row := .mp [] []) hb ho⟩, dirt_add _ _ _, tm_add _ _ _⟩
 ·simp [Instr.makeMap, newObj, Sem.run]
 ·simp [Array.getElem?_push]; intro e; omega
 ·simp only [Ctx.bind]; rw [if_neg (by omega)]
end
end Go.AM
end

section
namespace Go.AM
open Go
def Named (P : Program) : Prop := ∀ (f : Nat) fn, P.funcs[f]? = some fn → (fn.name == "runtime.NumGoroutine") = false
section
variable {P : Program} {C : Cfg} {c : Ctx} {st : St} {a : Act} {w : World} {gl : Nat → Bool}
theorem copy_sound [Laid] (h : WRel c st w) {x y : V} {xv yv : Value} (hx : Rel c x xv) (hy : Rel c y yv) {t ty : TypeId} {ts : Array TypeId} {res : Res} (hr : copyV P st t x y = some res) (h0 : ts[0]? = some t)
  {s : Sem Next} (hs : ∀ v w', (Builtin.copy_ ts ty #[xv, yv]).run P w = .ok v w' → StepsTo P s w v w') : ResOk P c st w s res := by
 unfold copyV at hr
 split at hr
 ·simp at hr
 ·rename_i e he
  split at hr
  ·rename_i sz ag ys r off len lim sz' ag' hlay hi
   obtain ⟨hz0, hsz, _⟩ := layE_spec hlay
   generalize hg : (Nat.beq sz sz' && (isLoc r || V.noLocL (flat ys)) && ys.all (fun v => Nat.beq v.cells.length sz && v.cells.all V.cellOk)) = q at hr
   cases q with
   | false => simp at hr
   | true =>
    simp only [cond_true] at hr
    simp only [Bool.and_eq_true] at hg
    have : sz = sz' := by simpa using hg.1.1
    subst this
    obtain ⟨hyl, hyc⟩ := items_ok (ys := ys) (sz := sz) hg.2
    obtain ⟨xs, hxr, hxlen, hxf⟩ := items_spec (P := P) h hy hi hyl
    split at hr
    ·rename_i cs hrow
     split at hr
     ·rename_i cs' hset
      generalize hgl : Nat.ble (off + len * sz) cs.length = q2 at hr
      cases q2 with
      | false => simp at hr
      | true =>
       simp only [cond_true, Option.some.injEq] at hr
       subst hr
       obtain ⟨b, cap, n, rfl, hb, hcap, he1, hzz1, hk, hu⟩ := hx.arr_inv
       have hf := hxf w (min ys.length len) rfl (Nat.min_le_left _ _)
       have htk : ys.take len = ys.take (min ys.length len) := by
        by_cases h1 : ys.length ≤ len
        ·rw [List.take_of_length_le h1, List.take_of_length_le (by omega)]
        ·rw [Nat.min_eq_right (by omega)]
       have hrel : RelL c (flat (ys.take len)) (xs.take (min ys.length len * sz)) := by
        rw [htk, ← flat_take _ hyl]; exact hxr.take _
       obtain ⟨k1, k2, k3⟩ := h.write hrow hset hrel hb
       have hone := oneCells hrel (fun v hv => hyc v (by rw [← flat_take _ hyl] at hv; exact List.mem_of_mem_take hv))
       obtain ⟨b', cs2, e', fz, m1, m2, m3, m4, m5, m6, m7, m8⟩ := h.rows r _ hrow
       rw [hb] at m1
       obtain rfl := Option.some.inj m1
       have hl2 := (setAt_spec hset).1
       have hst := run_storeCells_cells (P := P) b off (xs.take (min ys.length len * sz)) 0 w (fun j hj => by rw [cell_of_heap m2]; rw [Array.getElem?_eq_getElem (by rw [hrel.1] at hj; omega)]; rfl)
        (fun j hj => frozen_of_heap m2 m3 (by rw [hrel.1] at hj; omega)) hone
       simp only [Nat.add_zero] at hst
       have hrun : (Builtin.copy_ ts ty #[.slice (some ⟨b, off, none⟩) len cap, yv]).run P w = .ok (goInt (min ys.length len : Nat)) (w.setCells b off (xs.take (min ys.length len * sz))) := by
        have hmin : Nat.min ys.length len = min ys.length len := rfl
        simp [Builtin.copy_, h0, run_underlying (elemT_spec he), hxlen w, run_sizeOf' hsz, hmin, hf, hst]
       exact ⟨c, _, _, hs _ _ hrun, .refl c, .int _ _, k1, k2, dirt_set _ _, tm_set _ _⟩
     ·simp at hr
    ·simp at hr
  ·simp at hr
theorem clear_sound [Laid] (h : WRel c st w) {x : V} {xv : Value} (hx : Rel c x xv) {t ty : TypeId} {ts : Array TypeId} {res : Res} (hr : clearV P st t x = some res) (h0 : ts[0]? = some t)
  {s : Sem Next} (hs : ∀ v w', (Builtin.clear_ ts ty #[xv]).run P w = .ok v w' → StepsTo P s w v w') : ResOk P c st w s res := by
 unfold clearV at hr
 split at hr
 ·simp at hr
 ·rename_i e he
  split at hr
  ·rename_i sz ag z r off len lim sz' ag' hlay hz
   obtain ⟨hz0, hsz, _⟩ := layE_spec hlay
   generalize hg : (Nat.beq sz sz' && Nat.blt 0 len && z.live && Nat.beq z.cells.length sz && z.cells.all V.cellOk && (isLoc r || z.noLoc)) = q at hr
   cases q with
   | false => simp at hr
   | true =>
    simp only [cond_true] at hr
    simp only [Bool.and_eq_true] at hg
    obtain ⟨⟨⟨⟨⟨g1, g2⟩, g3⟩, g4⟩, g5⟩, g6⟩ := hg
    have : sz = sz' := by simpa using g1
    subst this
    have hlen : 0 < len := by simpa [Nat.blt_eq] using g2
    have e4 : z.cells.length = sz := by simpa using g4
    obtain ⟨i0, zz, hi0, hzz, hzv⟩ := zeroV_info hz
    have hrz0 : Rel c z zz := by rw [← hzv]; exact absV_rel c zz
    have hzr := zeros_rel hrz0 g3 e4 hz0 len
    have hzs : zz.cells.size = sz := by have := (hrz0.cells g3).1; simp at this; omega
    split at hr
    ·rename_i cs hrow
     split at hr
     ·rename_i cs' hset
      simp only [Option.some.injEq] at hr
      subst hr
      obtain ⟨b, cap, n, rfl, hb, hcap, he1, hzz1, hk, hu⟩ := hx.arr_inv
      obtain ⟨k1, k2, k3⟩ := h.write hrow hset hzr hb
      have hone := oneCells hzr (fun v hv => by
       simp only [flat, List.mem_flatMap] at hv
       obtain ⟨u, hu, hv⟩ := hv
       rw [List.eq_of_mem_replicate hu] at hv
       exact List.all_eq_true.1 g5 v hv)
      obtain ⟨b', cs2, e', fz, m1, m2, m3, m4, m5, m6, m7, m8⟩ := h.rows r _ hrow
      rw [hb] at m1
      obtain rfl := Option.some.inj m1
      have hl2 := (setAt_spec hset).1
      have hst := run_storeCells_cells (P := P) b off ((Array.range (len * sz)).map (zz.cells[· % zz.cells.size]!)).toList 0 w (fun j hj => by rw [cell_of_heap m2]; rw [Array.getElem?_eq_getElem (by rw [hzr.1] at hj; omega)]; rfl)
       (fun j hj => frozen_of_heap m2 m3 (by rw [hzr.1] at hj; omega)) hone
      simp only [Nat.add_zero] at hst
      have hrzero : (zeroValue e).run P w = .ok zz w := by
       have hti : (typeInfo e).run P w = .ok i0 w := by simp [typeInfo, hi0]
       simp [zeroValue, hti, hzz]
      have hrun : (Builtin.clear_ ts ty #[.slice (some ⟨b, off, none⟩) len cap]).run P w = .ok (.tuple #[]) (w.setCells b off ((Array.range (len * sz)).map (zz.cells[· % zz.cells.size]!)).toList) := by
       obtain ⟨m, rfl⟩ : ∃ m, len = m + 1 := ⟨len - 1, by omega⟩
       simp [Builtin.clear_, Builtin.zeroCells, h0, run_underlying (elemT_spec he), hrzero, hzs] at hst ⊢
       simp [hst]
      exact ⟨c, _, _, hs _ _ hrun, .refl c, .tuple _ _ rfl (fun i v x p _ => by simp at p), k1, k2, dirt_set _ _, tm_set _ _⟩
     ·simp at hr
    ·simp at hr
  ·simp at hr
theorem call_sound [Laid] (hN : Named P) (h : WRel c st w) (hs : Slots c st.ρ a) {o : Oper} {cl : Call} (ho : o.op = .call cl) {res : Res} (hr : callS P C gl st o.dst cl = some res) : ResOk P c st w (execOp a.eval o) res := by
 unfold callS at hr
 dsimp only at hr
 have hargs : RelL c (opds st.ρ cl.args.toList) (cl.args.map a.eval).toList := by simpa using opds_rel hs cl.args.toList
 split at hr
 ·rename_i f hcal
  split at hr
  ·rename_i g first caps hf
   have hfr := opd_rel hs f
   rw [hf] at hfr
   split at hr
   ·rename_i l st1 hexp
    simp only [Option.some.injEq] at hr
    subst hr
    generalize hev : a.eval f = fv at hfr
    cases hfr with
    | fn _ _ _ xa xb ha hb hra hrb =>
     have r1 : RelL c first xa.toList := ⟨by simpa using ha, fun i v x p q => hra i v x p (by simpa using q)⟩
     have r2 : RelL c caps xb.toList := ⟨by simpa using hb, fun i v x p q => hrb i v x p (by simpa using q)⟩
     obtain ⟨c', k⟩ := exps_sound (fz := false) _ c st _ l st1 h (RelL.append (RelL.append r1 hargs) r2) hexp
     refine ⟨c', _, fun fn cd h1 h2 => ?_, k.le, k.rel, k.wrel, k.keep, k.dirt, k.tm, k.noLoc, k.live⟩
     have hnm := hN g fn h1
     simp only [execOp, ho, resolve, hcal, hev]
     have hnm2 : ¬ (fn.name = "runtime.NumGoroutine") := by simpa using hnm
     simp [Deferred.ofValue, invoke, callFunc, h1, hnm2, h2]
   ·simp at hr
  ·simp at hr
 ·rename_i b hcal
  have two : ∀ {x y : V}, opds st.ρ cl.args.toList = [x, y] → ∃ xv yv, cl.args.map a.eval = #[xv, yv] ∧ Rel c x xv ∧ Rel c y yv := by
   intro x y hxy
   rw [hxy] at hargs
   cases hl : (cl.args.map a.eval).toList with
   | nil => rw [hl] at hargs; have := hargs.1; simp at this
   | cons xv r =>
    cases r with
    | nil => rw [hl] at hargs; have := hargs.1; simp at this
    | cons yv r =>
     cases r with
     | cons _ _ => rw [hl] at hargs; have := hargs.1; simp at this
     | nil =>
      rw [hl] at hargs
      exact ⟨xv, yv, by apply Array.toList_inj.1; rw [hl], hargs.head, hargs.tail.head⟩
  have app : ∀ {t x y d}, cl.argTypes[0]? = some t → b = .append → opds st.ρ cl.args.toList = [x, y] → (bif notInt P cl.argTypes[1]? then appendV P C gl st d t x y else none) = some res → ResOk P c st w (execOp a.eval o) res := by
   intro t x y d h0 hb hxy hr2
   clear hr
   subst hb
   obtain ⟨xv, yv, e1, r1, r2⟩ := two hxy
   cases hn : notInt P cl.argTypes[1]? with
   | false => simp [hn] at hr2
   | true =>
    simp only [hn, cond_true] at hr2
    refine append_sound (P := P) (ty := o.type) h r1 r2 hr2 h0 hn (fun v w' hrun => .inl ?_)
    simp only [execOp, ho, resolve, hcal, e1]
    simp [invoke, builtin, hrun]
  have cop : ∀ {t x y}, cl.argTypes[0]? = some t → b = .copy → opds st.ρ cl.args.toList = [x, y] → copyV P st t x y = some res → ResOk P c st w (execOp a.eval o) res := by
   intro t x y h0 hb hxy hr2
   clear hr
   subst hb
   obtain ⟨xv, yv, e1, r1, r2⟩ := two hxy
   refine copy_sound (P := P) (ty := o.type) h r1 r2 hr2 h0 (fun v w' hrun => .inl ?_)
   simp only [execOp, ho, resolve, hcal, e1]
   simp [invoke, builtin, hrun]
  have clr : ∀ {t x}, cl.argTypes[0]? = some t → b = .clear → opds st.ρ cl.args.toList = [x] → clearV P st t x = some res → ResOk P c st w (execOp a.eval o) res := by
   intro t x h0 hb hxy hr2
   clear hr
   subst hb
   have hx1 : ∃ xv, cl.args.map a.eval = #[xv] ∧ Rel c x xv := by
    rw [hxy] at hargs
    cases hl : (cl.args.map a.eval).toList with
    | nil => rw [hl] at hargs; have := hargs.1; simp at this
    | cons xv r =>
     cases r with
     | cons _ _ => rw [hl] at hargs; have := hargs.1; simp at this
     | nil =>
      rw [hl] at hargs
      exact ⟨xv, by apply Array.toList_inj.1; rw [hl], hargs.head⟩
   obtain ⟨xv, e1, r1⟩ := hx1
   refine clear_sound (P := P) (ty := o.type) h r1 hr2 h0 (fun v w' hrun => .inl ?_)
   simp only [execOp, ho, resolve, hcal, e1]
   simp [invoke, builtin, hrun]
  split at hr
  ·rename_i t d h0 hd
   split at hr
   ·rename_i x y hxy; exact app h0 rfl hxy hr
   ·rename_i x y hxy; exact cop h0 rfl hxy hr
   ·simp at hr
  ·rename_i t h0 hd
   split at hr
   ·rename_i x y hxy; exact cop h0 rfl hxy hr
   ·rename_i x hxy; exact clr h0 rfl hxy hr
   ·simp at hr
  ·simp at hr
 ·simp at hr
theorem stepG_sound [Laid] (hN : Named P) (h : WRel c st w) (hs : Slots c st.ρ a) {o : Oper} {res : Res} (hr : stepG P C gl st o = some res) : ResOk P c st w (execOp a.eval o) res := by
 cases ho : o.op with
 | load t y => exact glob_load h hs ho hr
 | store t y z => exact glob_store h hs ho hr
 | alloc t => exact glob_alloc h hs ho hr
 | box t y => exact glob_box h hs ho hr
 | build t ps => exact glob_build h hs ho hr
 | buildSlice t len ps => exact glob_buildSlice h hs ho hr
 | makeSlice t l m => exact glob_makeSlice h hs ho hr
 | convert s t y => exact glob_convert h hs ho hr
 | next y b => exact glob_next h hs ho hr
 | makeMap t rs =>
  unfold stepG at hr
  simp only [ho] at hr
  cases rs with
  | some x => simp at hr
  | none =>
   simp only [] at hr
   cases hd : o.dst with
   | none => rw [hd] at hr; simp at hr
   | some d =>
    rw [hd] at hr
    simp only [Option.some.injEq] at hr
    subst hr
    exact map_make (P := P) (t := t) h (fun x w' hrun => by simp only [execOp, ho, Option.map_none]; rw [Sem.run_bind, hrun]; rfl)
 | lookup t y z b =>
  unfold stepG at hr
  simp only [ho, Option.map_eq_some_iff] at hr
  obtain ⟨v, hv, rfl⟩ := hr
  obtain ⟨x, hrun, hrel⟩ := map_look (P := P) h (opd_rel hs y) (opd_rel hs z) hv
  exact ⟨c, x, w, .inl (by simp only [execOp, ho]; rw [Sem.run_bind, hrun]; rfl), .refl c, hrel, h, .refl c st w, .refl _, rfl⟩
 | mapUpdate t m y z =>
  unfold stepG at hr
  simp only [ho] at hr
  exact map_lay (P := P) h (opd_rel hs m) (opd_rel hs y) (opd_rel hs z) hr (fun w' hrun => by simp only [execOp, ho]; rw [Sem.run_bind, hrun]; rfl)
 | insert t m y z =>
  unfold stepG at hr
  simp only [ho] at hr
  exact map_lay (P := P) h (opd_rel hs m) (opd_rel hs y) (opd_rel hs z) hr (fun w' hrun => by simp only [execOp, ho]; rw [Sem.run_bind, hrun]; rfl)
 | call cl => unfold stepG at hr; simp only [ho] at hr; exact call_sound hN h hs ho hr
 | panic y =>
  unfold stepG at hr
  simp only [ho] at hr
  split at hr
  ·rename_i t v hy
   cases hb : v.noLoc with
   | false => simp [hb] at hr
   | true =>
    simp only [hb, cond_true, Option.some.injEq] at hr
    subst hr
    have hrel := opd_rel hs y
    rw [hy] at hrel
    refine ⟨rfl, by simpa [V.noLoc] using hb, a.eval y, ?_, hrel⟩
    cases hrel' : a.eval y with
    | iface t' x =>
     simp only [execOp, ho, hrel']
     have e : (Instr.panic (.iface t' x)).run P w = .halt (.panic (.iface t' x)) w := rfl
     rw [Sem.run_bind, e]; rfl
    | _ => rw [hrel'] at hrel; cases hrel
  ·simp at hr
 | _ => unfold stepG at hr; simp only [ho] at hr; simp at hr
theorem applyL_dirt (st : St) (u : Option (Nat × Nat × Row)) : (applyL st u).hp = st.hp ∧ (applyL st u).tm = st.tm := by
 cases u with
 | none => exact ⟨rfl, rfl⟩
 | some p => exact ⟨rfl, rfl⟩
theorem stepV_sound [Laid] (hN : Named P) (h : WRel c st w) (hs : Slots c st.ρ a) {o : Oper} {res : Res} (hr : stepV P C gl st o = some res) : ResOk P c st w (execOp a.eval o) res := by
 unfold stepV at hr
 split at hr
 ·rename_i v u hl
  simp only [Option.some.injEq] at hr
  subst hr
  cases hb : isBuildSlice o.op with
  | false =>
   obtain ⟨x, w', c', k1, k2, k3, k4, k5⟩ := loc_sound (P := P) h hs hb hl
   exact ⟨c', x, w', k1, k2, k3, k4, k5, by rw [(applyL_dirt st u).1]; exact .refl _, (applyL_dirt st u).2⟩
  | true =>
   cases ho : o.op with
   | buildSlice t len ps =>
    unfold locV at hl
    simp only [ho, Option.map_eq_some_iff] at hl
    obtain ⟨v', hv, e⟩ := hl
    simp at e
    obtain ⟨rfl, rfl⟩ := e
    obtain ⟨x, w', c', k1, k2, k3, k4, k5⟩ := buildSlice_sound (P := P) (C := C) (gl := gl) h hs ho (by rw [ho]; exact hv)
    exact ⟨c', x, w', k1, k2, k3, k4, k5, .refl _, rfl⟩
   | _ => rw [ho] at hb; simp [isBuildSlice] at hb
 ·exact stepG_sound hN h hs hr
end
end Go.AM
end

section
namespace Go.AM
open Go
def HpOk (h : Hp) : Prop := ∀ (r : Nat) frz cs, h.rows[r]? = some (.cells frz cs) → V.noLocL cs = true
theorem noLocL_mem {l : List V} : V.noLocL l = true ↔ ∀ v ∈ l, v.noLoc = true := by
 induction l with
 | nil => simp [V.noLocL]
 | cons v l ih => simp [V.noLocL, ih]
theorem noLoc_cells {v : V} (h : v.noLoc = true) : V.noLocL v.cells = true := by
 cases v <;> simp [V.cells, V.noLocL, V.noLoc] at h ⊢ <;> first | exact h | skip
 all_goals first | (rename_i r _ ; cases r <;> simp_all [V.noLoc]) | skip
theorem noLoc_flat {l : List V} (h : V.noLocL l = true) : V.noLocL (flat l) = true := by
 rw [noLocL_mem] at h ⊢
 intro v hv
 simp only [flat, List.mem_flatMap] at hv
 obtain ⟨u, hu, hv⟩ := hv
 exact noLocL_mem.1 (noLoc_cells (h u hu)) v hv
theorem absS_noLoc (x : Value) : (absS x).noLoc = true := by unfold absS; split <;> rfl
theorem absV_noLoc (x : Value) : (absV x).noLoc = true := by
 unfold absV
 split
 ·simp only [V.noLoc]
  rw [noLocL_mem]
  intro v hv
  simp only [List.mem_map] at hv
  obtain ⟨y, _, rfl⟩ := hv
  exact absS_noLoc y
 ·exact absS_noLoc _
section
variable {P : Program} {C : Cfg} {st st' : St} {gl : Nat → Bool}
theorem zeroV_noLoc {t : TypeId} {z : V} (h : zeroV P t = some z) : z.noLoc = true := by
 obtain ⟨i, zz, _, _, rfl⟩ := zeroV_info h
 exact absV_noLoc zz
theorem hp_set (h : HpOk st.hp) {r : Ref} {row : Row} (hr : ∀ frz cs, row = .cells frz cs → isLoc r = false → V.noLocL cs = true) : HpOk (setRow st r row).hp := by
 cases r with
 | loc s g => exact h
 | glob r =>
  intro i frz cs hi
  simp only [setRow] at hi
  rw [List.getElem?_set] at hi
  split at hi
  ·split at hi
   ·exact hr frz cs (by simpa using hi) rfl
   ·simp at hi
  ·exact h i frz cs hi
theorem hp_add (h : HpOk st.hp) {g : Bool} {d : Nat} {row : Row} (hr : ∀ frz cs, row = .cells frz cs → g = true → V.noLocL cs = true) : HpOk (addRow st g d row).2.hp := by
 cases g with
 | false => exact h
 | true =>
  intro i frz cs hi
  simp only [addRow, cond_true] at hi
  rw [List.getElem?_append] at hi
  split at hi
  ·exact h i frz cs hi
  ·rw [List.getElem?_singleton] at hi
   split at hi
   ·exact hr frz cs (by simpa using hi) rfl
   ·simp at hi
theorem hp_row (h : HpOk st.hp) {r : Ref} {frz : Bool} {cs : List V} (hr : getRow st r = some (.cells frz cs)) (hl : isLoc r = false) : V.noLocL cs = true := by
 cases r with
 | loc s g => simp [isLoc] at hl
 | glob r => exact h r frz cs hr
theorem setAt_noLoc {cs vs cs' : List V} {off : Nat} (h : setAt cs off vs = some cs') (h1 : V.noLocL cs = true) (h2 : V.noLocL vs = true) : V.noLocL cs' = true := by
 obtain ⟨_, rfl⟩ := setAt_spec h
 rw [noLocL_mem] at *
 intro v hv
 simp only [List.mem_append] at hv
 rcases hv with (hv | hv) | hv
 ·exact h1 v (List.mem_of_mem_take hv)
 ·exact h2 v hv
 ·exact h1 v (List.mem_of_mem_drop hv)
theorem freeze_hp (h : HpOk st.hp) {v v' : V} (hf : freeze st v = some (v', st')) : HpOk st'.hp ∧ v'.noLoc = true := by
 unfold freeze at hf
 split at hf
 ·rename_i r off len lim sz ag
  split at hf
  ·rename_i frz cs hrow
   split at hf
   ·rename_i l hi
    cases hn : V.noRefsL l with
    | false => simp [hn] at hf
    | true =>
     simp [hn] at hf
     obtain ⟨rfl, rfl⟩ := hf
     exact ⟨hp_set h (fun f c e hl => by simp at e; obtain ⟨_, rfl⟩ := e; exact hp_row h hrow hl), rfl⟩
   ·simp at hf
  ·simp at hf
 ·simp at hf
theorem exp1_hp (h : HpOk st.hp) {fz : Bool} {v v' : V} (hf : exp1 fz st v = some (v', st')) : HpOk st'.hp ∧ v'.noLoc = true := by
 unfold exp1 at hf
 split at hf
 ·rename_i r off len lim sz ag
  cases hb : (fz || isLoc r) with
  | true => simp only [hb, cond_true] at hf; exact freeze_hp h hf
  | false =>
   simp [hb] at hf
   obtain ⟨rfl, rfl⟩ := hf
   simp at hb
   refine ⟨h, ?_⟩
   cases r with
   | loc s g => simp [isLoc] at hb
   | glob r => rfl
 ·split at hf
  ·cases fz <;> simp at hf <;> obtain ⟨rfl, rfl⟩ := hf <;> exact ⟨h, rfl⟩
  ·simp at hf; obtain ⟨rfl, rfl⟩ := hf; exact ⟨h, rfl⟩
 ·cases hb : (v.live && v.noLoc) with
  | false => simp [hb] at hf
  | true =>
   simp [hb] at hf
   obtain ⟨rfl, rfl⟩ := hf
   simp only [Bool.and_eq_true] at hb
   exact ⟨h, hb.2⟩
theorem expL_hp {fz : Bool} : ∀ (vs : List V) (st st' : St) (vs' : List V), HpOk st.hp → expL fz st vs = some (vs', st') → HpOk st'.hp ∧ V.noLocL vs' = true
 | [], st, st', vs', h, he => by simp [expL] at he; obtain ⟨rfl, rfl⟩ := he; exact ⟨h, rfl⟩
 | v :: vs, st, st', vs', h, he => by
  simp only [expL] at he
  split at he
  ·simp at he
  ·rename_i v1 st1 he1
   split at he
   ·simp at he
   ·rename_i l2 st2 he2
    simp at he
    obtain ⟨rfl, rfl⟩ := he
    obtain ⟨h1, n1⟩ := exp1_hp h he1
    obtain ⟨h2, n2⟩ := expL_hp vs st1 st2 l2 h1 he2
    exact ⟨h2, by simp [V.noLocL, n1, n2]⟩
theorem exp_hp (h : HpOk st.hp) {fz : Bool} {v v' : V} (hf : exp fz st v = some (v', st')) : HpOk st'.hp ∧ v'.noLoc = true := by
 unfold exp at hf
 split at hf
 ·simp only [Option.map_eq_some_iff] at hf
  obtain ⟨⟨l, s⟩, h1, h2⟩ := hf
  simp at h2
  obtain ⟨rfl, rfl⟩ := h2
  obtain ⟨k1, k2⟩ := expL_hp _ _ _ _ h h1
  exact ⟨k1, k2⟩
 ·exact exp1_hp h hf
theorem exps_hp {fz : Bool} : ∀ (vs : List V) (st st' : St) (vs' : List V), HpOk st.hp → exps fz st vs = some (vs', st') → HpOk st'.hp ∧ V.noLocL vs' = true
 | [], st, st', vs', h, he => by simp [exps] at he; obtain ⟨rfl, rfl⟩ := he; exact ⟨h, rfl⟩
 | v :: vs, st, st', vs', h, he => by
  simp only [exps] at he
  split at he
  ·simp at he
  ·rename_i v1 st1 he1
   split at he
   ·simp at he
   ·rename_i l2 st2 he2
    simp at he
    obtain ⟨rfl, rfl⟩ := he
    obtain ⟨h1, n1⟩ := exp_hp h he1
    obtain ⟨h2, n2⟩ := exps_hp vs st1 st2 l2 h1 he2
    exact ⟨h2, by simp [V.noLocL, n1, n2]⟩
theorem fillA_noLoc {sz : Nat} : ∀ (is : List Nat) (vs l l' : List V), fillA sz is vs l = some l' → V.noLocL vs = true → V.noLocL l = true → V.noLocL l' = true
 | [], [], l, l', h, _, hl => by simp [fillA] at h; subst h; exact hl
 | [], v :: vs, l, l', h, _, _ => by simp [fillA] at h
 | i :: is, [], l, l', h, _, _ => by simp [fillA] at h
 | i :: is, v :: vs, l, l', h, hv, hl => by
  simp only [fillA] at h
  generalize hb : (Nat.beq v.cells.length sz && Nat.blt i l.length) = b at h
  cases b with
  | false => simp at h
  | true =>
   simp only [cond_true] at h
   simp only [V.noLocL, Bool.and_eq_true] at hv
   refine fillA_noLoc is vs _ l' h hv.2 ?_
   rw [noLocL_mem] at hl ⊢
   intro u hu
   rcases List.mem_or_eq_of_mem_set hu with h' | rfl
   ·exact hl u h'
   ·exact hv.1
def Res.state : Res → St
 | .val _ s => s
 | .enter _ _ s => s
 | .panic _ s => s
theorem growArr_hp (h : HpOk st.hp) {d : Nat} {cs : List V} {len sz : Nat} {ag : Bool} {res : Res} (hr : growArr gl st d cs len sz ag = some res) : HpOk res.state.hp := by
 unfold growArr at hr
 obtain ⟨h1, h2⟩ := cond_some hr
 simp only [Option.some.injEq] at h2
 subst h2
 refine hp_add h (fun frz cs' e hg => ?_)
 simp at e
 obtain ⟨_, rfl⟩ := e
 rw [hg] at h1
 simpa using h1
theorem growImm_hp (h : HpOk st.hp) {d : Nat} {sz : Nat} {l : List V} {res : Res} (hr : growImm gl st d sz l = some res) : HpOk res.state.hp := by
 unfold growImm at hr
 simp only [Option.some.injEq] at hr
 subst hr
 exact hp_add h (fun frz cs' e hg => by simp at e)
theorem append_hp (h : HpOk st.hp) {x y : V} {t : TypeId} {d : Nat} {res : Res} (hr : appendV P C gl st d t x y = some res) : HpOk res.state.hp := by
 unfold appendV at hr
 split at hr
 ·simp at hr
 ·split at hr
  ·rename_i sz ag bytes ys hlay hby hi
   generalize (ys.all (fun v => Nat.beq v.cells.length sz && v.cells.all V.cellOk)) = q at hr
   cases q with
   | false => simp at hr
   | true =>
    simp only [cond_true] at hr
    split at hr
    ·split at hr
     ·simp only [Option.some.injEq] at hr; subst hr; exact h
     ·cases hb : Nat.ble (ys.length * bytes) maxBytes with
      | false => simp [hb] at hr
      | true =>
       simp only [hb, cond_true] at hr
       cases hA : C.isArr t with
       | true => simp only [hA, cond_true] at hr; exact growArr_hp h hr
       | false =>
        simp only [hA, cond_false] at hr
        cases hN : V.noRefsL ys with
        | false => simp [hN] at hr
        | true => simp only [hN, cond_true] at hr; exact growImm_hp h hr
    ·rename_i tok full sz' l
     cases hb0 : Nat.beq sz sz' with
     | false => simp [hb0] at hr
     | true =>
      simp only [hb0, cond_true] at hr
      split at hr
      ·simp only [Option.some.injEq] at hr; subst hr; exact h
      ·cases hb : Nat.ble ((l.length + ys.length) * bytes) maxBytes with
       | false => simp [hb] at hr
       | true =>
        simp only [hb, cond_true] at hr
        cases hA : C.isArr t with
        | true =>
         simp only [hA, cond_true] at hr
         cases full with
         | false => simp at hr
         | true => simp only [cond_true] at hr; exact growArr_hp h hr
        | false =>
         simp only [hA, cond_false] at hr
         cases hN : V.noRefsL ys with
         | false => simp [hN] at hr
         | true =>
          simp only [hN, cond_true] at hr
          cases full with
          | true => simp only [cond_true] at hr; exact growImm_hp h hr
          | false =>
           simp only [cond_false] at hr
           split at hr
           ·split at hr
            ·exact growImm_hp (hp_set h (fun f c e _ => by simp at e)) hr
            ·simp at hr
           ·simp at hr
    ·rename_i r off len lim sz' ag'
     cases hb0 : (Nat.beq sz sz' && (ag == ag')) with
     | false => simp [hb0] at hr
     | true =>
      simp only [hb0, cond_true] at hr
      split at hr
      ·rename_i frz cs hrow
       cases hb : (Nat.ble (off + len * sz) cs.length && Nat.ble ((len + ys.length) * bytes) maxBytes) with
       | false => simp [hb] at hr
       | true =>
        simp only [hb, cond_true] at hr
        split at hr
        ·simp only [Option.some.injEq] at hr; subst hr; exact h
        ·obtain ⟨hl, hr⟩ := cond_some hr
         have wr : ∀ cs' f, setAt cs (off + len * sz) (flat ys) = some cs' → HpOk (setRow st r (.cells f cs')).hp := fun cs' f hset =>
          hp_set h (fun f2 c e hloc => by
           simp at e
           obtain ⟨_, rfl⟩ := e
           rw [hloc] at hl
           exact setAt_noLoc hset (hp_row h hrow hloc) (by simpa using hl))
         split at hr
         ·generalize Nat.ble (len + ys.length) _ = q at hr
          cases q with
          | true =>
           simp only [cond_true] at hr
           cases frz with
           | true => simp at hr
           | false =>
            simp only [cond_false] at hr
            split at hr
            ·rename_i cs' hset
             simp only [Option.some.injEq] at hr
             subst hr
             exact wr cs' _ hset
            ·simp at hr
          | false => simp only [cond_false] at hr; exact growArr_hp h hr
         ·cases frz with
          | true => simp at hr
          | false =>
           simp only [cond_false] at hr
           cases hc : Nat.ble (off + (len + ys.length) * sz) cs.length with
           | true =>
            simp only [hc, cond_true] at hr
            split at hr
            ·rename_i cs' hset
             simp only [Option.some.injEq] at hr
             subst hr
             exact wr cs' _ hset
            ·simp at hr
           | false =>
            simp only [hc, cond_false] at hr
            cases hc2 : (Nat.beq off 0 && Nat.beq (len * sz) cs.length) with
            | false => simp [hc2] at hr
            | true => simp only [hc2, cond_true] at hr; exact growArr_hp (hp_set h (fun f c e _ => by simp at e)) hr
      ·simp at hr
    ·simp at hr
  ·simp at hr
theorem copy_hp (h : HpOk st.hp) {x y : V} {t : TypeId} {res : Res} (hr : copyV P st t x y = some res) : HpOk res.state.hp := by
 unfold copyV at hr
 split at hr
 ·simp at hr
 ·split at hr
  ·rename_i sz ag ys r off len lim sz' ag' hlay hi
   generalize hg : (Nat.beq sz sz' && (isLoc r || V.noLocL (flat ys)) && ys.all (fun v => Nat.beq v.cells.length sz && v.cells.all V.cellOk)) = q at hr
   cases q with
   | false => simp at hr
   | true =>
    simp only [cond_true] at hr
    simp only [Bool.and_eq_true] at hg
    split at hr
    ·rename_i cs hrow
     split at hr
     ·rename_i cs' hset
      cases hb : Nat.ble (off + len * sz) cs.length with
      | false => simp [hb] at hr
      | true =>
       simp only [hb, cond_true, Option.some.injEq] at hr
       subst hr
       refine hp_set h (fun f2 c e hloc => ?_)
       simp at e
       obtain ⟨_, rfl⟩ := e
       refine setAt_noLoc hset (hp_row h hrow hloc) ?_
       have h2 := hg.1.2
       rw [hloc] at h2
       have h3 : V.noLocL (flat ys) = true := by simpa using h2
       rw [noLocL_mem] at h3 ⊢
       intro v hv
       refine h3 v ?_
       simp only [flat, List.mem_flatMap] at hv ⊢
       obtain ⟨u, hu, hv⟩ := hv
       exact ⟨u, List.mem_of_mem_take hu, hv⟩
     ·simp at hr
    ·simp at hr
  ·simp at hr
theorem noLocL_replicate {z : V} (h : z.noLoc = true) (n : Nat) : V.noLocL (List.replicate n z) = true := by
 rw [noLocL_mem]
 intro v hv
 rw [List.eq_of_mem_replicate hv]; exact h
theorem clear_hp (h : HpOk st.hp) {x : V} {t : TypeId} {res : Res} (hr : clearV P st t x = some res) : HpOk res.state.hp := by
 unfold clearV at hr
 split at hr
 ·simp at hr
 ·split at hr
  ·rename_i sz ag z r off len lim sz' ag' hlay hz
   generalize hg : (Nat.beq sz sz' && Nat.blt 0 len && z.live && Nat.beq z.cells.length sz && z.cells.all V.cellOk && (isLoc r || z.noLoc)) = q at hr
   cases q with
   | false => simp at hr
   | true =>
    simp only [cond_true] at hr
    split at hr
    ·rename_i cs hrow
     split at hr
     ·rename_i cs' hset
      simp only [Option.some.injEq] at hr
      subst hr
      refine hp_set h (fun f2 c e hloc => ?_)
      simp at e
      obtain ⟨_, rfl⟩ := e
      exact setAt_noLoc hset (hp_row h hrow hloc) (noLoc_flat (noLocL_replicate (zeroV_noLoc hz) _))
     ·simp at hr
    ·simp at hr
  ·simp at hr
theorem make_hp (h : HpOk st.hp) {d : Nat} {t : TypeId} {l m : V} {res : Res} (hr : makeV P gl st d t l m = some res) : HpOk res.state.hp := by
 unfold makeV at hr
 split at hr
 ·split at hr
  ·rename_i sz ag bytes z hlay hby hz
   simp only [] at hr
   generalize (Nat.ble _ _ && Nat.ble _ maxBytes && Nat.ble _ maxBytes && Nat.beq z.cells.length sz && z.live) = q at hr
   cases q with
   | false => simp at hr
   | true =>
    simp only [cond_true, Option.some.injEq] at hr
    subst hr
    refine hp_add h (fun f c e _ => ?_)
    simp at e
    obtain ⟨_, rfl⟩ := e
    exact noLoc_flat (noLocL_replicate (zeroV_noLoc hz) _)
  ·simp at hr
 ·simp at hr
theorem conv_hp (h : HpOk st.hp) {d : Nat} {s t : TypeId} {x : V} {res : Res} (hr : convS P C gl st d s t x = some res) : HpOk res.state.hp := by
 unfold convS at hr
 split at hr
 ·split at hr
  ·split at hr
   ·split at hr
    ·simp at hr
    ·simp only [Option.map_eq_some_iff] at hr
     obtain ⟨b, hb, rfl⟩ := hr
     exact h
   ·simp at hr
  ·simp at hr
 ·split at hr
  ·generalize (C.isArr t && Nat.ble _ maxBytes) = q at hr
   cases q with
   | false => simp at hr
   | true =>
    simp only [cond_true, Option.some.injEq] at hr
    subst hr
    refine hp_add h (fun f c e _ => ?_)
    simp at e
    obtain ⟨_, rfl⟩ := e
    rw [noLocL_mem]
    intro v hv
    simp only [List.mem_map] at hv
    obtain ⟨b, _, rfl⟩ := hv
    rfl
  ·simp at hr
 ·simp at hr
theorem call_hp (h : HpOk st.hp) {dst : Option Nat} {cl : Call} {res : Res} (hr : callS P C gl st dst cl = some res) : HpOk res.state.hp := by
 unfold callS at hr
 dsimp only at hr
 split at hr
 ·split at hr
  ·split at hr
   ·rename_i l st1 hexp
    simp only [Option.some.injEq] at hr
    subst hr
    exact (exps_hp _ _ _ _ h hexp).1
   ·simp at hr
  ·simp at hr
 ·split at hr
  ·split at hr
   ·cases hn : notInt P cl.argTypes[1]? with
    | false => simp [hn] at hr
    | true => simp only [hn, cond_true] at hr; exact append_hp h hr
   ·exact copy_hp h hr
   ·simp at hr
  ·split at hr
   ·exact copy_hp h hr
   ·exact clear_hp h hr
   ·simp at hr
  ·simp at hr
 ·simp at hr
theorem layM_hp (h : HpOk st.hp) {t : TypeId} {x k v : V} {res : Res} (hr : layM P t st x k v = some res) : HpOk res.state.hp := by
 unfold layM at hr
 split at hr
 ·rename_i r v' st1 hexp
  obtain ⟨h1, n1⟩ := exp_hp h hexp
  split at hr
  ·generalize keyFits P _ k = q at hr
   cases q with
   | false => simp at hr
   | true =>
    simp only [cond_true] at hr
    split at hr
    ·simp only [Option.some.injEq] at hr
     subst hr
     simp only [Res.state]
     exact hp_set h1 (fun f c e _ => by cases e)
    ·simp only [Option.some.injEq] at hr
     subst hr
     simp only [Res.state]
     exact hp_set h1 (fun f c e _ => by cases e)
    ·simp at hr
  ·simp at hr
 ·simp at hr
theorem stepG_hp (h : HpOk st.hp) {o : Oper} {res : Res} (hr : stepG P C gl st o = some res) : HpOk res.state.hp := by
 unfold stepG at hr
 split at hr
 ·split at hr
  ·split at hr
   ·simp only [Option.map_eq_some_iff] at hr
    obtain ⟨v, hv, rfl⟩ := hr
    exact h
   ·simp at hr
  ·simp at hr
 ·split at hr
  ·split at hr
   ·rename_i cs0 v st1 hrow0 hexp
    obtain ⟨h1, n1⟩ := exp_hp h hexp
    split at hr
    ·rename_i cs hrow
     generalize (v.cells.all V.cellOk && lenIs P _ v.cells.length) = q at hr
     cases q with
     | false => simp at hr
     | true =>
      simp only [cond_true] at hr
      split at hr
      ·rename_i cs' hset
       simp only [Option.some.injEq] at hr
       subst hr
       simp only [Res.state]
       refine hp_set h1 (fun f c e _ => ?_)
       simp at e
       obtain ⟨_, rfl⟩ := e
       exact setAt_noLoc hset (h1 _ _ _ hrow) (noLoc_cells n1)
      ·simp at hr
    ·simp at hr
   ·simp at hr
  ·simp at hr
 ·split at hr
  ·simp at hr
  ·split at hr
   ·rename_i z n hz hn
    generalize (gl _ && z.live && Nat.beq z.cells.length n) = q at hr
    cases q with
    | false => simp at hr
    | true =>
     simp only [cond_true, Option.some.injEq] at hr
     subst hr
     refine hp_add h (fun f c e _ => ?_)
     simp at e
     obtain ⟨_, rfl⟩ := e
     exact noLoc_cells (zeroV_noLoc hz)
   ·simp at hr
 ·split at hr
  ·simp at hr
  ·split at hr
   ·rename_i v st1 hexp
    obtain ⟨h1, n1⟩ := exp_hp h hexp
    generalize gl _ = q at hr
    cases q with
    | false => simp at hr
    | true =>
     simp only [cond_true, Option.some.injEq] at hr
     subst hr
     refine hp_add h1 (fun f c e _ => ?_)
     simp at e
     obtain ⟨_, rfl⟩ := e
     exact noLoc_cells n1
   ·simp at hr
 ·split at hr
  ·rename_i fs z l st1 hu hz hexp
   obtain ⟨h1, n1⟩ := exps_hp _ _ _ _ h hexp
   generalize (!(z.live && fs.all (fun f => (P.info? f.type).isSome))) = q at hr
   cases q with
   | true => simp at hr
   | false =>
    simp only [cond_false] at hr
    split at hr
    ·simp only [Option.some.injEq] at hr
     subst hr
     exact h1
    ·simp at hr
  ·simp at hr
 ·split at hr
  ·split at hr
   ·rename_i e d he hd n ag z l st1 hl hz hexp
    obtain ⟨h1, n1⟩ := exps_hp _ _ _ _ h hexp
    generalize (C.isArr _ && Nat.ble _ 16777216 && z.live && Nat.beq z.cells.length n && (ag || Nat.beq n 1)) = q at hr
    cases q with
    | false => simp at hr
    | true =>
     simp only [cond_true] at hr
     split at hr
     ·rename_i items hf
      simp only [Option.some.injEq] at hr
      subst hr
      refine hp_add h1 (fun f c e _ => ?_)
      simp at e
      obtain ⟨_, rfl⟩ := e
      exact noLoc_flat (fillA_noLoc _ _ _ _ hf n1 (noLocL_replicate (zeroV_noLoc hz) _))
     ·simp at hr
   ·simp at hr
  ·simp at hr
 ·split at hr
  ·exact make_hp h hr
  ·simp at hr
 ·split at hr
  ·exact conv_hp h hr
  ·simp at hr
 ·split at hr
  ·split at hr
   ·generalize Nat.blt _ _ = q at hr
    cases q with
    | true =>
     simp only [cond_true, Option.some.injEq] at hr
     subst hr
     exact hp_set h (fun f c e _ => by simp at e)
    | false =>
     simp only [cond_false, Option.some.injEq] at hr
     subst hr
     exact h
   ·simp at hr
  ·simp at hr
 ·exact call_hp h hr
 ·split at hr
  ·generalize V.noLoc _ = q at hr
   cases q with
   | false => simp at hr
   | true =>
    simp only [cond_true, Option.some.injEq] at hr
    subst hr
    exact h
  ·simp at hr
 ·split at hr
  ·simp only [Option.some.injEq] at hr
   subst hr
   simp only [Res.state]
   exact hp_add h (fun f c e _ => by cases e)
  ·simp at hr
 ·simp only [Option.map_eq_some_iff] at hr
  obtain ⟨v, _, rfl⟩ := hr
  exact h
 ·exact layM_hp h hr
 ·exact layM_hp h hr
 ·simp at hr
theorem stepV_hp (h : HpOk st.hp) {o : Oper} {res : Res} (hr : stepV P C gl st o = some res) : HpOk res.state.hp := by
 unfold stepV at hr
 split at hr
 ·rename_i v u hl
  simp only [Option.some.injEq] at hr
  subst hr
  show HpOk (applyL st u).hp
  rw [(applyL_dirt st u).1]; exact h
 ·exact stepG_hp h hr
end
end Go.AM
end

section
namespace Go.AM
open Go
mutual
theorem noLoc_of_noRefs : ∀ v : V, v.noRefs = true → v.noLoc = true
 | .dead, _ => rfl
 | .int _ _, _ => rfl
 | .bool _, _ => rfl
 | .sym _, _ => rfl
 | .str _, _ => rfl
 | .nilp, _ => rfl
 | .ptr _ _, h => by simp [V.noRefs] at h
 | .iptr cs, h => by simp only [V.noRefs] at h; simp only [V.noLoc]; exact noLocL_of_noRefsL cs h
 | .nils, _ => rfl
 | .slice tok _ _ _, h => by
  cases tok with
  | none => rfl
  | some r => simp [V.noRefs] at h
 | .arr .., h => by simp [V.noRefs] at h
 | .mref _, h => by simp [V.noRefs] at h
 | .nilm, _ => rfl
 | .fn _ a b, h => by
  simp only [V.noRefs, Bool.and_eq_true] at h
  simp only [V.noLoc, Bool.and_eq_true]
  exact ⟨noLocL_of_noRefsL a h.1, noLocL_of_noRefsL b h.2⟩
 | .nilf, _ => rfl
 | .iface _ v, h => by simp only [V.noRefs] at h; simp only [V.noLoc]; exact noLoc_of_noRefs v h
 | .nili, _ => rfl
 | .agg cs, h => by simp only [V.noRefs] at h; simp only [V.noLoc]; exact noLocL_of_noRefsL cs h
 | .tuple cs, h => by simp only [V.noRefs] at h; simp only [V.noLoc]; exact noLocL_of_noRefsL cs h
theorem noLocL_of_noRefsL : ∀ l : List V, V.noRefsL l = true → V.noLocL l = true
 | [], _ => rfl
 | v :: l, h => by
  simp only [V.noRefsL, Bool.and_eq_true] at h
  simp only [V.noLocL, Bool.and_eq_true]
  exact ⟨noLoc_of_noRefs v h.1, noLocL_of_noRefsL l h.2⟩
end
section
variable {c d e : Ctx} {st : St} {w w' : World}
theorem Rel.bare [Laid] (hsh : ∀ b o x, c.shut b o = some x → d.shut b o = some x) {v : V} {x : Value} (h : Rel c v x) : v.noRefs = true → Rel d v x := by
 induction h with
 | dead x => intro _; exact .dead x
 | int k n => intro _; exact .int k n
 | bool b => intro _; exact .bool b
 | sym i => intro _; exact .sym i
 | mref r b hb => intro hn; simp [V.noRefs] at hn
 | nilm => intro _; exact .nilm
 | str s => intro _; exact .str s
 | nilp => intro _; exact .nilp
 | ptr r off b hb => intro hn; simp [V.noRefs] at hn
 | iptr cs b off xs hl hs hr ih =>
  intro hn
  simp only [V.noRefs] at hn
  exact .iptr cs b off xs hl (fun i x hx => hsh _ _ _ (hs i x hx)) (fun i v x hv hx => ih i v x hv hx (noRefsL_mem.1 hn v (List.mem_of_getElem? hv)))
 | nils => intro _; exact .nils
 | slice tok full sz l b off cap xs hsz hl hs hr hn0 hc hf ht ih =>
  intro hn
  cases tok with
  | some r => simp [V.noRefs] at hn
  | none =>
   exact .slice none full sz l b off cap xs hsz hl (fun i x hx => hsh _ _ _ (hs i x hx)) (fun i v x hv hx => ih i v x hv hx (noRefsL_mem.1 hn0 v (List.mem_of_getElem? hv))) hn0 hc hf (fun r hr => by simp at hr)
 | arr => intro hn; simp [V.noRefs] at hn
 | fn f a b xa xb ha hb hra hrb iha ihb =>
  intro hn
  simp only [V.noRefs, Bool.and_eq_true] at hn
  exact .fn f a b xa xb ha hb (fun i v x hv hx => iha i v x hv hx (noRefsL_mem.1 hn.1 v (List.mem_of_getElem? hv))) (fun i v x hv hx => ihb i v x hv hx (noRefsL_mem.1 hn.2 v (List.mem_of_getElem? hv)))
 | nilf => intro _; exact .nilf
 | iface t v x hx ih => intro hn; simp only [V.noRefs] at hn; exact .iface t v x (ih hn)
 | nili => intro _; exact .nili
 | agg cs xs hl hr ih => intro hn; simp only [V.noRefs] at hn; exact .agg cs xs hl (fun i v x hv hx => ih i v x hv hx (noRefsL_mem.1 hn v (List.mem_of_getElem? hv)))
 | tuple cs xs hl hr ih => intro hn; simp only [V.noRefs] at hn; exact .tuple cs xs hl (fun i v x hv hx => ih i v x hv hx (noRefsL_mem.1 hn v (List.mem_of_getElem? hv)))
structure Ctx.leG (c d : Ctx) : Prop where
 gl : ∀ r b, c.gl r = some b → d.gl r = some b
 shut : ∀ b o x, c.shut b o = some x → d.shut b o = some x
 ext : ∀ b n, c.ext b = some n → d.ext b = some n
 text : ∀ r n, c.text (.glob r) = some n → d.text (.glob r) = some n
theorem Ctx.le.leG (h : c.le d) : c.leG d := ⟨h.gl, h.shut, h.ext, fun r n => h.text _ n⟩
theorem Rel.away [Laid] (hd : c.leG d) {v : V} {x : Value} (h : Rel c v x) : v.noLoc = true → Rel d v x := by
 induction h with
 | dead x => intro _; exact .dead x
 | int k n => intro _; exact .int k n
 | bool b => intro _; exact .bool b
 | sym i => intro _; exact .sym i
 | mref r b hb =>
  intro hn
  cases r with
  | loc s g => simp [V.noLoc] at hn
  | glob r => exact .mref _ b (hd.gl r b hb)
 | nilm => intro _; exact .nilm
 | str s => intro _; exact .str s
 | nilp => intro _; exact .nilp
 | ptr r off b hb =>
  intro hn
  cases r with
  | loc s g => simp [V.noLoc] at hn
  | glob r => exact .ptr _ off b (hd.gl r b hb)
 | iptr cs b off xs hl hs hr ih =>
  intro hn
  simp only [V.noLoc] at hn
  exact .iptr cs b off xs hl (fun i x hx => hd.shut _ _ _ (hs i x hx)) (fun i v x hv hx => ih i v x hv hx (noLocL_mem.1 hn v (List.mem_of_getElem? hv)))
 | nils => intro _; exact .nils
 | slice tok full sz l b off cap xs hsz hl hs hr hn0 hc hf ht ih =>
  intro hn
  refine .slice tok full sz l b off cap xs hsz hl (fun i x hx => hd.shut _ _ _ (hs i x hx)) (fun i v x hv hx => ih i v x hv hx (noLoc_of_noRefs v (noRefsL_mem.1 hn0 v (List.mem_of_getElem? hv)))) hn0 hc hf (fun r hr => ?_)
  subst hr
  cases r with
  | loc s g => simp [V.noLoc] at hn
  | glob r =>
   obtain ⟨h1, h2, h3, h4, h5⟩ := ht _ rfl
   exact ⟨hd.gl r b h1, h2, h3, hd.ext _ _ h4, hd.text _ _ h5⟩
 | arr r off len lim sz ag b cap n hb hc he hz hk hu =>
  intro hn
  cases r with
  | loc s g => simp [V.noLoc] at hn
  | glob r => exact .arr _ off len lim sz ag b cap n (hd.gl r b hb) hc (hd.ext _ _ he) hz hk hu
 | fn f a b xa xb ha hb hra hrb iha ihb =>
  intro hn
  simp only [V.noLoc, Bool.and_eq_true] at hn
  exact .fn f a b xa xb ha hb (fun i v x hv hx => iha i v x hv hx (noLocL_mem.1 hn.1 v (List.mem_of_getElem? hv))) (fun i v x hv hx => ihb i v x hv hx (noLocL_mem.1 hn.2 v (List.mem_of_getElem? hv)))
 | nilf => intro _; exact .nilf
 | iface t v x hx ih => intro hn; simp only [V.noLoc] at hn; exact .iface t v x (ih hn)
 | nili => intro _; exact .nili
 | agg cs xs hl hr ih => intro hn; simp only [V.noLoc] at hn; exact .agg cs xs hl (fun i v x hv hx => ih i v x hv hx (noLocL_mem.1 hn v (List.mem_of_getElem? hv)))
 | tuple cs xs hl hr ih => intro hn; simp only [V.noLoc] at hn; exact .tuple cs xs hl (fun i v x hv hx => ih i v x hv hx (noLocL_mem.1 hn v (List.mem_of_getElem? hv)))
theorem RelL.away [Laid] (hd : c.leG d) {vs : List V} {xs : List Value} (h : RelL c vs xs) (hn : V.noLocL vs = true) : RelL d vs xs :=
 ⟨h.1, fun i v x hv hx => (h.2 i v x hv hx).away hd (noLocL_mem.1 hn v (List.mem_of_getElem? hv))⟩
def Ctx.with (c e : Ctx) : Ctx := { c with shut := e.shut, ext := e.ext }
theorem Rel.merge [Laid] (hce : c.leG e) {v : V} {x : Value} (h : Rel c v x) : ∀ y, Rel e v y → v.noLoc = true → Rel (c.with e) v y := by
 induction h with
 | dead x => intro y _ _; exact .dead y
 | int k n => intro y hy _; obtain rfl := hy.int_inv; exact .int k n
 | bool b => intro y hy _; obtain rfl := hy.bool_inv; exact .bool b
 | sym i => intro y hy _; cases hy; exact .sym i
 | mref r b hb =>
  intro y hy hn
  cases r with
  | loc s g => simp [V.noLoc] at hn
  | glob r =>
   obtain ⟨b', rfl, hb'⟩ := hy.mref_inv
   have h1 := hce.gl r b hb
   have h2 : e.gl r = some b' := hb'
   rw [h1] at h2
   obtain rfl := Option.some.inj h2
   exact .mref _ b hb
 | nilm => intro y hy _; cases hy; exact .nilm
 | str s => intro y hy _; obtain rfl := hy.str_inv; exact .str s
 | nilp => intro y hy _; cases hy; exact .nilp
 | ptr r off b hb =>
  intro y hy hn
  cases r with
  | loc s g => simp [V.noLoc] at hn
  | glob r =>
   obtain ⟨b', rfl, hb'⟩ := hy.ptr_inv
   have h1 := hce.gl r b hb
   have h2 : e.gl r = some b' := hb'
   rw [h1] at h2
   obtain rfl := Option.some.inj h2
   exact .ptr _ off b hb
 | iptr cs b off xs hl hs hr ih =>
  intro y hy hn
  simp only [V.noLoc] at hn
  cases hy with
  | iptr _ b2 off2 ys hl2 hs2 hr2 =>
   refine .iptr cs b2 off2 ys hl2 hs2 (fun i v y hv hy => ?_)
   have hi : i < xs.length := by
    rw [hl]
    rcases Nat.lt_or_ge i cs.length with h' | h'
    ·exact h'
    ·rw [List.getElem?_eq_none h'] at hv; simp at hv
   exact ih i v _ hv (List.getElem?_eq_getElem hi) y (hr2 i v y hv hy) (noLocL_mem.1 hn v (List.mem_of_getElem? hv))
 | nils => intro y hy _; obtain rfl := hy.nils_inv; exact .nils
 | slice tok full sz l b off cap xs hsz hl hs hr hn0 hc hf ht ih =>
  intro y hy hn
  cases hy with
  | slice _ _ _ _ b2 off2 cap2 ys hsz2 hl2 hs2 hr2 hn2 hc2 hf2 ht2 =>
   refine .slice tok full sz l b2 off2 cap2 ys hsz2 hl2 hs2 (fun i v y hv hy => ?_) hn2 hc2 hf2 (fun r hr' => ?_)
   ·exact Rel.bare (c := e) (d := c.with e) (fun _ _ _ h => h) (hr2 i v y hv hy) (noRefsL_mem.1 hn0 v (List.mem_of_getElem? hv))
   ·subst hr'
    cases r with
    | loc s g => simp [V.noLoc] at hn
    | glob r =>
     obtain ⟨h1, h2, h3, h4, h5⟩ := ht _ rfl
     obtain ⟨k1, k2, k3, k4, k5⟩ := ht2 _ rfl
     have h6 := hce.gl r b h1
     have h7 : e.gl r = some b2 := k1
     rw [h6] at h7
     obtain rfl := Option.some.inj h7
     have h8 := hce.text r _ h5
     exact ⟨h1, k2, k3, k4, h5⟩
 | arr r off len lim sz ag b cap n hb hc he hz hk hu =>
  intro y hy hn
  cases r with
  | loc s g => simp [V.noLoc] at hn
  | glob r =>
   obtain ⟨b', cap', n', rfl, hb', hc', he', hz', hk', hu'⟩ := hy.arr_inv
   have h1 := hce.gl r b hb
   have h2 : e.gl r = some b' := hb'
   rw [h1] at h2
   obtain rfl := Option.some.inj h2
   exact .arr _ off len lim sz ag b cap' n' hb hc' he' hz' hk' hu'
 | fn f a b xa xb ha hb hra hrb iha ihb =>
  intro y hy hn
  simp only [V.noLoc, Bool.and_eq_true] at hn
  cases hy with
  | fn _ _ _ ya yb ha2 hb2 hra2 hrb2 =>
   refine .fn f a b ya yb ha2 hb2 (fun i v y hv hy => ?_) (fun i v y hv hy => ?_)
   ·have hi : i < xa.size := by
     rw [ha]
     rcases Nat.lt_or_ge i a.length with h' | h'
     ·exact h'
     ·rw [List.getElem?_eq_none h'] at hv; simp at hv
    exact iha i v _ hv (Array.getElem?_eq_getElem hi) y (hra2 i v y hv hy) (noLocL_mem.1 hn.1 v (List.mem_of_getElem? hv))
   ·have hi : i < xb.size := by
     rw [hb]
     rcases Nat.lt_or_ge i b.length with h' | h'
     ·exact h'
     ·rw [List.getElem?_eq_none h'] at hv; simp at hv
    exact ihb i v _ hv (Array.getElem?_eq_getElem hi) y (hrb2 i v y hv hy) (noLocL_mem.1 hn.2 v (List.mem_of_getElem? hv))
 | nilf => intro y hy _; cases hy; exact .nilf
 | iface t v x hx ih =>
  intro y hy hn
  simp only [V.noLoc] at hn
  cases hy with
  | iface _ _ y' hy' => exact .iface t v y' (ih y' hy' hn)
 | nili => intro y hy _; cases hy; exact .nili
 | agg cs xs hl hr ih =>
  intro y hy hn
  simp only [V.noLoc] at hn
  cases hy with
  | agg _ ys hl2 hr2 =>
   refine .agg cs ys hl2 (fun i v y hv hy => ?_)
   have hi : i < xs.size := by
    rw [hl]
    rcases Nat.lt_or_ge i cs.length with h' | h'
    ·exact h'
    ·rw [List.getElem?_eq_none h'] at hv; simp at hv
   exact ih i v _ hv (Array.getElem?_eq_getElem hi) y (hr2 i v y hv hy) (noLocL_mem.1 hn v (List.mem_of_getElem? hv))
 | tuple cs xs hl hr ih =>
  intro y hy hn
  simp only [V.noLoc] at hn
  cases hy with
  | tuple _ ys hl2 hr2 =>
   refine .tuple cs ys hl2 (fun i v y hv hy => ?_)
   have hi : i < xs.size := by
    rw [hl]
    rcases Nat.lt_or_ge i cs.length with h' | h'
    ·exact h'
    ·rw [List.getElem?_eq_none h'] at hv; simp at hv
   exact ih i v _ hv (Array.getElem?_eq_getElem hi) y (hr2 i v y hv hy) (noLocL_mem.1 hn v (List.mem_of_getElem? hv))
theorem RelL.merge [Laid] (hce : c.leG e) {vs : List V} {xs ys : List Value} (h : RelL c vs xs) (k : RelL e vs ys) (hn : V.noLocL vs = true) : RelL (c.with e) vs ys :=
 ⟨k.1, fun i v y hv hy => by
  obtain ⟨x, hx, hrel⟩ := h.get hv
  exact hrel.merge hce y (k.2 i v y hv hy) (noLocL_mem.1 hn v (List.mem_of_getElem? hv))⟩
end
end Go.AM
end

section
namespace Go.AM
open Go
theorem WRel.tm [Laid] {c : Ctx} {st : St} {w : World} (h : WRel c st w) (tm : Tr V) : WRel c { st with tm := tm } w :=
 ⟨h.shut, h.rows, h.inj, h.glb, h.lcb, h.lt, h.tlt, h.elt⟩
theorem Own.tm {c : Ctx} {st : St} {b : Nat} {tm : Tr V} (h : Own c { st with tm := tm } b) : Own c st b := h
theorem Keep.tm {c c' : Ctx} {st st' : St} {w w' : World} (h : Keep c c' st st' w w') (tm : Tr V) : Keep c c' st { st' with tm := tm } w w' :=
 ⟨h.os, h.tape, h.output, h.size, h.block, h.shut, h.own⟩
structure Ret [Laid] (c : Ctx) (st : St) (w : World) (v : V) (h : Hp) (c' : Ctx) (x : Value) (w' : World) : Prop where
 le : c.le c'
 rel : Rel c' v x
 wrel : WRel c' { st with hp := h } w'
 keep : Keep c c' st { st with hp := h } w w'
 dirt : Dirt st.hp h
 hp : HpOk h
def OutOk [Laid] (c : Ctx) (st : St) (w : World) : Out → Ending → World → Prop
 | .val v h, .returned x, w' => ∃ c', Ret c st w v h c' x w'
 | .panic v h, .panicked ch, w' => v.noLoc = true ∧ ∃ c' x, ch = [{ v := x, recovered := false }] ∧ Ret c st w v h c' x w'
 | _, _, _ => False
def CallOk [Laid] (P : Program) (call : CallF) : Prop := ∀ (f : FuncId) (args : List V) (h : Hp) (out : Out), call f args h = some out →
 ∀ (c : Ctx) (w : World) (st : St) (xs : List Value), st.hp = h → WRel c st w → HpOk h → RelL c args xs → V.noLocL args = true → (∀ b o x, Laid.cells b o = some x → c.shut b o = some x) →
  (∃ fn cd, P.funcs[f]? = some fn ∧ fn.body = some cd) ∧ Calls P f xs.toArray w (OutOk c st w out)
structure Sim [Laid] (D : List Deferred) (n : Nat) (c0 : Ctx) (st0 : St) (w0 : World) (st : St) (a : Act) (w : World) (c : Ctx) : Prop where
 le : c0.le c
 wrel : WRel c st w
 slots : Slots c st.ρ a
 size : n ≤ a.tmps.size
 defers : a.defers = D
 keep : Keep c0 c st0 st w0 w
 dirt : Dirt st0.hp st.hp
 hp : HpOk st.hp
 laid : ∀ b o x, Laid.cells b o = some x → c.shut b o = some x
section
variable {D : List Deferred} {P : Program} {C : Cfg} {c0 c c' : Ctx} {st0 st st' : St} {w0 w w' : World} {a : Act} {n : Nat} {gl : Nat → Bool}
def dstOk (n : Nat) (o : Oper) : Bool := match o.dst with
 | none => true
 | some d => Nat.blt d n
theorem putV_ρ (st : St) (i : Nat) (v : V) (j : Nat) : (putV st (some i) v).ρ j = if i = j then v else st.ρ j := aget_aset _ _ _ _ _
theorem put_slots [Laid] (hs : Slots c st.ρ a) (hn : n ≤ a.tmps.size) {d : Option Nat} (hd : ∀ i, d = some i → i < n) {v : V} {x : Value} (hv : Rel c v x) : Slots c (putV st d v).ρ (a.put d x) := by
 cases d with
 | none => exact hs
 | some i =>
  intro j
  rw [putV_ρ]
  have hi := hd i rfl
  simp only [Act.put]
  by_cases e : i = j
  ·subst e
   rw [if_pos rfl]
   have : (a.tmps.setIfInBounds i x).getD i undef = x := by
    have h2 : i < a.tmps.size := by omega
    simp [Array.getD_eq_getD_getElem?, h2]
   rw [this]; exact hv
  ·rw [if_neg e]
   have : (a.tmps.setIfInBounds i x).getD j undef = a.tmps.getD j undef := by
    simp [Array.getD_eq_getD_getElem?, Array.getElem?_setIfInBounds, e]
   rw [this]; exact hs j
theorem put_size (a : Act) (d : Option Nat) (x : Value) : (a.put d x).tmps.size = a.tmps.size ∧ (a.put d x).defers = a.defers := by
 cases d <;> simp [Act.put]
theorem putV_same (st : St) (d : Option Nat) (v : V) : ∃ tm, putV st d v = { st with tm := tm } := by
 cases d with
 | none => exact ⟨st.tm, rfl⟩
 | some i => exact ⟨aset st.tm i v, rfl⟩
theorem Sim.put [Laid] (h : Sim D n c0 st0 w0 st a w c) (hle : c.le c') (hW : WRel c' st' w') (hK : Keep c c' st st' w w') (hD : Dirt st.hp st'.hp) (hH : HpOk st'.hp) (ht : st'.tm = st.tm) {d : Option Nat} (hd : ∀ i, d = some i → i < n) {v : V} {x : Value} (hv : Rel c' v x) :
  Sim D n c0 st0 w0 (putV st' d v) (a.put d x) w' c' := by
 have hs : Slots c' st'.ρ a := by
  have := h.slots.mono hle
  unfold St.ρ at this ⊢
  rw [ht]; exact this
 obtain ⟨tm, e⟩ := putV_same st' d v
 refine ⟨h.le.trans hle, by rw [e]; exact hW.tm tm, put_slots hs h.size hd hv, by rw [(put_size a d x).1]; exact h.size, by rw [(put_size a d x).2]; exact h.defers, ?_, ?_, ?_, fun b o y hy => hle.shut _ _ _ (h.laid b o y hy)⟩
 ·rw [e]; exact (h.keep.trans hK).tm tm
 ·rw [e]; exact h.dirt.trans hD
 ·rw [e]; exact hH
def exIs [Laid] (c : Ctx) : Ex → Exit → Prop
 | .normal, .normal => True
 | .exit i, .exit j => i = j
 | .ret, .ret => True
 | .panic v, .panic ch => v.noLoc = true ∧ ∃ x, ch = [{ v := x, recovered := false }] ∧ Rel c v x
 | _, _ => False
theorem oneV_sound [Laid] (hN : Named P) {call : CallF} (hC : CallOk P call) (h : Sim D n c0 st0 w0 st a w c) {o : Oper} (hd : dstOk n o = true) {ex : Ex} (hr : oneV P C call gl st o = some (ex, st')) :
  ∀ (K : Act → World → Prop) (Q : Exit → Act → World → Prop), (ex = .normal → ∀ a' w' c', Sim D n c0 st0 w0 st' a' w' c' → K a' w') →
   (∀ e a' w' c', ex ≠ .normal → exIs c' ex e → Sim D n c0 st0 w0 st' a' w' c' → Q e a' w') → o.wp P a w K Q := by
 have hdst : ∀ i, o.dst = some i → i < n := fun i hi => by
  unfold dstOk at hd; rw [hi] at hd; simpa [Nat.blt_eq] using hd
 unfold oneV at hr
 split at hr
 ·rename_i v st1 hst
  simp at hr
  obtain ⟨rfl, rfl⟩ := hr
  intro K Q hK _
  obtain ⟨c1, x, w1, k⟩ := stepV_sound (P := P) hN h.wrel h.slots hst
  have hH := stepV_hp h.hp hst
  have hsim := h.put (d := o.dst) k.le k.wrel k.keep k.dirt hH k.tm hdst k.rel
  rcases k.steps with hrun | ⟨hrun, rfl⟩
  ·unfold Oper.wp; rw [hrun]; exact hK rfl _ _ _ hsim
  ·unfold Oper.wp; rw [hrun]; exact hK rfl _ _ _ hsim
 ·rename_i f args st1 hst
  obtain ⟨c1, xs, k⟩ := stepV_sound (P := P) hN h.wrel h.slots hst
  have hH := stepV_hp h.hp hst
  split at hr
  ·rename_i v hp hcall
   simp at hr
   obtain ⟨rfl, rfl⟩ := hr
   obtain ⟨⟨fn, cd, hf1, hf2⟩, hcalls⟩ := hC f args st1.hp _ hcall c1 w st1 xs rfl k.wrel hH k.rel k.noLoc (fun b o y hy => k.le.shut _ _ _ (h.laid b o y hy))
   intro K Q hK _
   unfold Oper.wp
   rw [k.steps fn cd hf1 hf2]
   refine hcalls.mono (fun e w' he => ?_)
   cases e with
   | returned x =>
    obtain ⟨c2, r⟩ := he
    exact hK rfl _ _ _ (h.put (d := o.dst) (st' := { st1 with hp := hp }) (k.le.trans r.le) r.wrel (k.keep.trans r.keep) (k.dirt.trans r.dirt) r.hp k.tm hdst r.rel)
   | panicked ch => exact he.elim
   | outgrown => exact he.elim
  ·rename_i v hp hcall
   simp at hr
   obtain ⟨rfl, rfl⟩ := hr
   obtain ⟨⟨fn, cd, hf1, hf2⟩, hcalls⟩ := hC f args st1.hp _ hcall c1 w st1 xs rfl k.wrel hH k.rel k.noLoc (fun b o y hy => k.le.shut _ _ _ (h.laid b o y hy))
   intro K Q _ hQ
   unfold Oper.wp
   rw [k.steps fn cd hf1 hf2]
   refine hcalls.mono (fun e w' he => ?_)
   cases e with
   | returned x => exact he.elim
   | panicked ch =>
    obtain ⟨hv, c2, x, rfl, r⟩ := he
    refine hQ _ _ _ c2 (by simp) ⟨hv, x, rfl, r.rel⟩ (h.put (d := none) (v := .dead) (x := undef) (st' := { st1 with hp := hp }) (k.le.trans r.le) r.wrel (k.keep.trans r.keep) (k.dirt.trans r.dirt) r.hp k.tm (fun i hi => by simp at hi) (.dead _))
   | outgrown => exact he.elim
  ·simp at hr
 ·rename_i v st1 hst
  simp at hr
  obtain ⟨rfl, rfl⟩ := hr
  obtain ⟨rfl, hv, x, hrun, hrel⟩ := stepV_sound (P := P) hN h.wrel h.slots hst
  intro K Q _ hQ
  unfold Oper.wp
  rw [hrun]
  exact hQ _ _ _ c (by simp) ⟨hv, x, rfl, hrel⟩ h
 ·simp at hr
theorem wanted_sound [Laid] (hs : Slots c st.ρ a) {ops : Array Oper} {o : Oper} {b : Bool} (hw : wantedV ops o st.ρ = some b) : Region.wanted o (yielded ops a.tmps) = b := by
 unfold wantedV at hw
 unfold Region.wanted
 split at hw
 ·rename_i hg
  simp at hw; subst hw
  rw [hg]
 ·rename_i j wt hg
  rw [hg]
  simp only []
  unfold yielded
  split at hw
  ·simp at hw
  ·rename_i d hd
   rw [hd]
   have hrel := hs d
   have hget : ∀ bb : Bool, a.tmps.getD d undef = .bool bb → a.tmps[d]? = some (.bool bb) := by
    intro bb hb
    rw [Array.getD_eq_getD_getElem?] at hb
    cases hq : a.tmps[d]? with
    | none => rw [hq] at hb; simp [undef] at hb
    | some y => rw [hq] at hb; simp at hb; rw [hb]
   simp only [Option.bind_some]
   split at hw
   ·rename_i bb hv
    rw [hv] at hrel
    rw [hget bb hrel.bool_inv]
    simp at hw
    subst hw
    simp
   ·simp at hw
   ·rename_i h1 h2
    simp at hw
    subst hw
    cases hq : a.tmps[d]? with
    | none => rfl
    | some y =>
     have h3 : a.tmps.getD d undef = y := by rw [Array.getD_eq_getD_getElem?, hq]; rfl
     rw [h3] at hrel
     cases y with
     | bool bb =>
      exfalso
      cases hv : st.ρ d with
      | dead => exact h2 hv
      | bool b2 => exact h1 b2 hv
      | _ => rw [hv] at hrel; cases hrel
     | _ => rfl
theorem opsV_sound [Laid] (hN : Named P) {call : CallF} (hC : CallOk P call) {ops : Array Oper} (hd : ∀ o ∈ ops.toList, dstOk n o = true) :
  ∀ (l : List Nat) (st : St) (a : Act) (w : World) (c : Ctx) (ex : Ex) (st' : St), Sim D n c0 st0 w0 st a w c → opsV P C call gl ops (l.filterMap (ops[·]?)) st = some (ex, st') →
   ∀ (Q : Exit → Act → World → Prop), (∀ e a' w' c', exIs c' ex e → Sim D n c0 st0 w0 st' a' w' c' → Q e a' w') → wpOps P ops Q l a w
 | [], st, a, w, c, ex, st', h, hr, Q, hQ => by
  simp [opsV] at hr
  obtain ⟨rfl, rfl⟩ := hr
  exact hQ _ _ _ _ trivial h
 | i :: l, st, a, w, c, ex, st', h, hr, Q, hQ => by
  cases hi : ops[i]? with
  | none =>
   simp only [List.filterMap_cons, hi] at hr
   simp only [wpOps, hi]
   exact opsV_sound hN hC hd l st a w c ex st' h hr Q hQ
  | some o =>
   simp only [List.filterMap_cons, hi, opsV] at hr
   have hmem : o ∈ ops.toList := by
    rw [List.mem_iff_getElem?]
    exact ⟨i, by simpa using hi⟩
   have hdo := hd o hmem
   have hdst : ∀ i, o.dst = some i → i < n := fun i hi => by
    unfold dstOk at hdo; rw [hi] at hdo; simpa [Nat.blt_eq] using hdo
   split at hr
   ·simp at hr
   ·rename_i hw
    have hw' := wanted_sound h.slots hw
    have hsim := h.put (d := o.dst) (Ctx.le.refl c) h.wrel (Keep.refl c st w) (.refl _) h.hp rfl hdst (v := .tuple []) (x := undef) (Rel.mk_tuple (RelL.nil c))
    simp only [wpOps, hi, hw', if_false, Bool.false_eq_true]
    exact opsV_sound hN hC hd l _ _ w c ex st' hsim hr Q hQ
   ·rename_i hw
    have hw' := wanted_sound h.slots hw
    simp only [wpOps, hi, hw', if_true]
    split at hr
    ·rename_i st1 hone
     have k := oneV_sound hN hC h hdo hone
     exact .inl (k _ Q (fun _ a' w' c' hs => opsV_sound hN hC hd l st1 a' w' c' ex st' hs hr Q hQ) (fun e a' w' c' hne => absurd rfl hne))
    ·rename_i r hne
     have k := oneV_sound hN hC h hdo hr
     have hex : ex ≠ .normal := fun e => by subst e; exact hne st' hr
     exact .inl (k _ Q (fun e => absurd e hex) (fun e a' w' c' _ he hs => hQ e a' w' c' he hs))
theorem filterMap_range' {α : Type} : ∀ (l pre : List α), (List.range' pre.length l.length).filterMap (fun j => (pre ++ l)[j]?) = l
 | [], pre => rfl
 | x :: l, pre => by
  have ih := filterMap_range' l (pre ++ [x])
  rw [List.length_cons, List.range'_succ, List.filterMap_cons]
  have h1 : (pre ++ x :: l)[pre.length]? = some x := by simp
  rw [h1]
  simp only []
  rw [List.length_append, List.append_assoc] at ih
  simp only [List.length_singleton, List.singleton_append] at ih
  rw [ih]
theorem range_ops (ops : Array Oper) : (List.range ops.size).filterMap (ops[·]?) = ops.toList := by
 have := filterMap_range' ops.toList []
 simp only [List.length_nil, Array.length_toList, List.nil_append] at this
 rw [List.range_eq_range']
 rw [← this]
 congr 1
 funext j
 simp
def CodeOk [Laid] (P : Program) (D : List Deferred) (n : Nat) (c0 : Ctx) (st0 : St) (w0 : World) (code : Code) (run : St → Option (Ex × St)) : Prop :=
 ∀ (st : St) (a : Act) (w : World) (c : Ctx) (ex : Ex) (st' : St), Sim D n c0 st0 w0 st a w c → run st = some (ex, st') →
  code.wp P (fun e a' w' => ∃ c', exIs c' ex e ∧ Sim D n c0 st0 w0 st' a' w' c') a w
theorem code_skip [Laid] : CodeOk P D n c0 st0 w0 .skip (fun st => some (.normal, st)) := by
 intro st a w c ex st' h hr
 simp at hr
 obtain ⟨rfl, rfl⟩ := hr
 exact wp_skip ⟨c, trivial, h⟩
theorem code_exit [Laid] (i : Nat) : CodeOk P D n c0 st0 w0 (.exit i) (fun st => some (.exit i, st)) := by
 intro st a w c ex st' h hr
 simp at hr
 obtain ⟨rfl, rfl⟩ := hr
 exact wp_exit ⟨c, rfl, h⟩
theorem code_ret [Laid] : CodeOk P D n c0 st0 w0 .ret (fun st => some (.ret, st)) := by
 intro st a w c ex st' h hr
 simp at hr
 obtain ⟨rfl, rfl⟩ := hr
 exact wp_ret ⟨c, trivial, h⟩
theorem code_seq [Laid] {x y : Code} {f g : St → Option (Ex × St)} (hx : CodeOk P D n c0 st0 w0 x f) (hy : CodeOk P D n c0 st0 w0 y g) :
  CodeOk P D n c0 st0 w0 (.seq x y) (fun st => match f st with | some (.normal, st') => g st' | r => r) := by
 intro st a w c ex st' h hr
 dsimp only at hr
 split at hr
 ·rename_i st1 hf
  refine wp_seq (wp_mono (hx st a w c .normal st1 h hf) (fun e a' w' k => ?_))
  obtain ⟨c1, k1, k2⟩ := k
  cases e with
  | normal => exact hy st1 a' w' c1 ex st' k2 hr
  | _ => exact k1.elim
 ·rename_i r hne
  refine wp_seq (wp_mono (hx st a w c ex st' h hr) (fun e a' w' k => ?_))
  obtain ⟨c1, k1, k2⟩ := k
  cases e with
  | normal =>
   cases ex with
   | normal => exact absurd hr (hne st')
   | _ => exact k1.elim
  | _ => exact ⟨c1, k1, k2⟩
theorem code_cond [Laid] {b : Operand} {x y : Code} {f g : St → Option (Ex × St)} (hx : CodeOk P D n c0 st0 w0 x f) (hy : CodeOk P D n c0 st0 w0 y g) :
  CodeOk P D n c0 st0 w0 (.cond b x y) (fun st => match opd st.ρ b with | .bool true => f st | .bool false => g st | _ => none) := by
 intro st a w c ex st' h hr
 dsimp only at hr
 split at hr
 ·rename_i hb
  exact wp_cond_true (opd_bool h.slots hb) (hx st a w c ex st' h hr)
 ·rename_i hb
  exact wp_cond_false (opd_bool h.slots hb) (hy st a w c ex st' h hr)
 ·simp at hr
theorem code_block [Laid] {id : Nat} {x : Code} {f : St → Option (Ex × St)} (hx : CodeOk P D n c0 st0 w0 x f) :
  CodeOk P D n c0 st0 w0 (.block id x) (fun st => match f st with | some (.exit i, st') => bif Nat.beq i id then some (.normal, st') else some (.exit i, st') | r => r) := by
 intro st a w c ex st' h hr
 dsimp only at hr
 split at hr
 ·rename_i i st1 hf
  refine wp_block (wp_mono (hx st a w c (.exit i) st1 h hf) (fun e a' w' k => ?_))
  obtain ⟨c1, k1, k2⟩ := k
  cases e with
  | exit j =>
   have e1 : i = j := k1
   subst e1
   simp only [Exit.inBlock]
   cases hb : Nat.beq i id with
   | true =>
    have : i = id := by simpa using hb
    simp [hb] at hr
    obtain ⟨rfl, rfl⟩ := hr
    rw [if_pos this]
    exact ⟨c1, trivial, k2⟩
   | false =>
    have : i ≠ id := by intro e; subst e; simp at hb
    simp [hb] at hr
    obtain ⟨rfl, rfl⟩ := hr
    rw [if_neg this]
    exact ⟨c1, rfl, k2⟩
  | _ => exact k1.elim
 ·rename_i r hne
  refine wp_block (wp_mono (hx st a w c ex st' h hr) (fun e a' w' k => ?_))
  obtain ⟨c1, k1, k2⟩ := k
  cases e with
  | exit j =>
   cases ex with
   | exit i => exact absurd hr (hne i st')
   | _ => exact k1.elim
  | _ => exact ⟨c1, k1, k2⟩
theorem code_loop [Laid] {x : Code} {f : St → Option (Ex × St)} (hx : CodeOk P D n c0 st0 w0 x f) (m : Nat) : CodeOk P D n c0 st0 w0 (.loop x) (fun st => loopV f m st) := by
 intro st a w c ex st' h hr b k cs
 have key : ∀ m st a w c, Sim D n c0 st0 w0 st a w c → loopV f m st = some (ex, st') →
   ∃ e a' w', (∃ c', exIs c' ex e ∧ Sim D n c0 st0 w0 st' a' w' c') ∧ Arrives P (lone (b.at a (.code x :: .inLoop x :: k)) cs w) b k cs e a' w' := by
  intro m
  induction m with
  | zero => intro st a w c h hr; simp [loopV] at hr
  | succ m ih =>
   intro st a w c h hr
   simp only [loopV] at hr
   split at hr
   ·rename_i st1 hf
    obtain ⟨e, a₁, w₁, ⟨c1, q1, q2⟩, harr⟩ := hx st a w c .normal st1 h hf b (.inLoop x :: k) cs
    cases e with
    | normal =>
     obtain ⟨e₂, a₂, w₂, hq₂, harr₂⟩ := ih st1 a₁ w₁ c1 q2 hr
     exact ⟨e₂, a₂, w₂, hq₂, .of_steps (Steps.trans harr (.one step_inLoop)) harr₂⟩
    | _ => exact q1.elim
   ·rename_i r hne
    obtain ⟨e, a₁, w₁, hq, harr⟩ := hx st a w c ex st' h hr b (.inLoop x :: k) cs
    cases e with
    | normal =>
     cases ex with
     | normal => exact absurd hr (hne st')
     | _ => obtain ⟨_, hq1, _⟩ := hq; exact hq1.elim
    | exit id => exact ⟨_, a₁, w₁, hq, .pass (x := .inLoop x) rfl (fun _ _ => .inl (by simp)) harr⟩
    | goto l => exact ⟨_, a₁, w₁, hq, .pass (x := .inLoop x) rfl (fun _ _ => .inl (by simp)) harr⟩
    | ret => exact ⟨_, a₁, w₁, hq, .pass (x := .inLoop x) rfl (fun _ _ => .inl (by simp)) harr⟩
    | panic ch => exact ⟨_, a₁, w₁, hq, .pass (x := .inLoop x) rfl (fun _ _ => .inl (by simp)) harr⟩
    | outgrown => exact ⟨_, a₁, w₁, hq, .pass (x := .inLoop x) rfl (fun _ _ => .inl (by simp)) harr⟩
 obtain ⟨e, a', w', hq, harr⟩ := key m st a w c h hr
 exact ⟨e, a', w', hq, .of_steps (.one step_loop) harr⟩
theorem code_region [Laid] (hN : Named P) {call : CallF} (hC : CallOk P call) {f id : Nat} {ops : Array Oper} (hd : ∀ o ∈ ops.toList, dstOk n o = true) :
  CodeOk P D n c0 st0 w0 (.region id ops false) (regionV P C call f id ops false) := by
 intro st a w c ex st' h hr
 unfold regionV at hr
 dsimp only at hr
 rw [← range_ops ops] at hr
 exact wp_region (opsV_sound hN hC hd _ st a w c ex st' h hr _ (fun e a' w' c' he hs => ⟨c', he, hs⟩))
def Code.fits (n : Nat) : Code → Bool
 | .region _ ops _ => ops.toList.all (dstOk n)
 | .seq a b => Code.fits n a && Code.fits n b
 | .cond _ a b => Code.fits n a && Code.fits n b
 | .block _ b => Code.fits n b
 | .loop b => Code.fits n b
 | _ => true
end
end Go.AM
end

section
namespace Go.AM
open Go
def Ctx.called (c : Ctx) : Ctx := { c with lc := fun _ _ => none, text := fun r => match r with | .glob i => c.text (.glob i) | .loc _ _ => none }
def Ctx.back (c e : Ctx) : Ctx := { gl := e.gl, lc := c.lc, shut := e.shut, ext := e.ext, text := fun r => match r with | .glob i => e.text (.glob i) | .loc s g => c.text (.loc s g) }
section
variable {P : Program} {C : Cfg} {c e : Ctx} {st st' : St} {w w' : World}
theorem called_leG (c : Ctx) : c.leG c.called := ⟨fun _ _ h => h, fun _ _ _ h => h, fun _ _ h => h, fun _ _ h => h⟩
theorem RowOk.away [Laid] (hd : c.leG e) {r : Nat} {row : Row} (h : RowOk c w (.glob r) row) (hn : ∀ frz cs, row = .cells frz cs → V.noLocL cs = true) (hsh : ∀ b o, c.gl r = some b → e.shut b o = c.shut b o) : RowOk e w (.glob r) row := by
 cases row with
 | gone => trivial
 | cells frz cs =>
  obtain ⟨b, xs, t, fz, h1, h2, h3, h4, h5, h6, h7, h8⟩ := h
  exact ⟨b, xs, t, fz, hd.gl _ _ h1, h2, h3, hd.ext _ _ h4, h5, h6.away hd (hn _ _ rfl), fun hf o => by rw [hsh b o h1]; exact h7 hf o, fun hf o x hx => by rw [hsh b o h1]; exact h8 hf o x hx⟩
 | tok =>
  obtain ⟨b, xs, t, fz, n, h1, h2, h3, h4, h5, h6, h7⟩ := h
  exact ⟨b, xs, t, fz, n, hd.gl _ _ h1, h2, h3, hd.ext _ _ h4, hd.text _ _ h5, h6, fun o ho => by rw [hsh b o h1]; exact h7 o ho⟩
 | iter s pos =>
  obtain ⟨b, h1, h2⟩ := h
  exact ⟨b, hd.gl _ _ h1, h2⟩
 | mp ks vs =>
  obtain ⟨b, es, clk, h1, h2, h0, h3, h4, h5, h6⟩ := h
  exact ⟨b, es, clk, hd.gl _ _ h1, h2, h0, h3.away hd h5, h4.away hd h6, h5, h6⟩
def St.called (st : St) (tm : Tr V) : St := { tm := tm, loc := .lf, hp := { st.hp with dirty := none } }
theorem called_loc (st : St) (tm : Tr V) (s g : Nat) (row : Row) (h : getRow (st.called tm) (.loc s g) = some row) : row = .gone := by
 rw [getRow_loc] at h
 have : (st.called tm).lc s = (0, .gone) := aget_lf _ _
 rw [this] at h
 split at h
 ·simpa using h.symm
 ·simp at h
theorem called_glob (st : St) (tm : Tr V) (r : Nat) : getRow (st.called tm) (.glob r) = getRow st (.glob r) := rfl
theorem called_own {tm : Tr V} {b : Nat} (h : Own c.called (st.called tm) b) : ∃ r row, getRow st (.glob r) = some row ∧ row ≠ .gone ∧ c.gl r = some b := by
 obtain ⟨r, row, h1, h2, h3⟩ := h
 cases r with
 | loc s g => exact absurd (called_loc st tm s g row h1) h2
 | glob r => exact ⟨r, row, h1, h2, h3⟩
theorem called_wrel [Laid] (h : WRel c st w) (hH : HpOk st.hp) (tm : Tr V) : WRel c.called (st.called tm) w := by
 refine ⟨h.shut, fun r row hr => ?_, fun r1 r2 row1 row2 b g1 g2 n1 n2 b1 b2 => ?_, h.glb, fun s g hg => rfl, fun r b hb => ?_, fun r n hn => ?_, h.elt⟩
 ·cases r with
  | loc s g => rw [called_loc st tm s g row hr]; trivial
  | glob r => exact RowOk.away (called_leG c) (h.rows (.glob r) row hr) (fun frz cs e => by subst e; exact hH r frz cs hr) (fun _ _ _ => rfl)
 ·cases r1 with
  | loc s g => exact absurd (called_loc st tm s g row1 g1) n1
  | glob r1 =>
   cases r2 with
   | loc s g => exact absurd (called_loc st tm s g row2 g2) n2
   | glob r2 => exact h.inj (.glob r1) (.glob r2) row1 row2 b g1 g2 n1 n2 b1 b2
 ·cases r with
  | loc s g => simp [Ctx.called, Ctx.blk] at hb
  | glob r => exact h.lt (.glob r) b hb
 ·cases r with
  | loc s g => simp [Ctx.called] at hn
  | glob r => obtain ⟨b, hb⟩ := h.tlt (.glob r) n hn; exact ⟨b, hb⟩
theorem called_notown [Laid] (h : WRel c st w) {tm : Tr V} {s g : Nat} {row : Row} {b : Nat} (hr : getRow st (.loc s g) = some row) (hg : row ≠ .gone) (hb : c.lc s g = some b) : ¬ Own c.called (st.called tm) b := by
 intro ho
 obtain ⟨r, row2, h1, h2, h3⟩ := called_own ho
 have := h.inj (.loc s g) (.glob r) row row2 b hr h1 hg h2 hb h3
 simp at this
theorem own_called {tm : Tr V} {b : Nat} (hn : ¬ Own c st b) : ¬ Own c.called (st.called tm) b := fun ho => by
 obtain ⟨r, row, h1, h2, h3⟩ := called_own ho
 exact hn ⟨.glob r, row, h1, h2, h3⟩
theorem loc_still [Laid] (h : WRel c st w) {tm : Tr V} (hK : Keep c.called e (st.called tm) st' w w') {d : Ctx} (hle : c.le d) (hsh : ∀ b o, d.shut b o = e.shut b o) {s g : Nat} {row : Row} (hr : getRow st (.loc s g) = some row) : RowOk d w' (.loc s g) row := by
 by_cases hg : row = .gone
 ·subst hg; trivial
 ·refine (h.rows _ row hr).keep hle (fun b hb => ?_)
  have hno := called_notown (tm := tm) h hr hg hb
  have hlt := h.lt _ b hb
  exact ⟨hK.block b hlt hno, fun o => by rw [hsh]; exact hK.shut b hlt hno o⟩
theorem back_le [Laid] {tm : Tr V} (h : WRel c st w) (hle : c.called.le e) : c.le (c.back e) :=
 ⟨fun r b hb => hle.gl r b hb, fun _ _ _ h => h, fun b o x hx => hle.shut b o x hx, fun b n hb => hle.ext b n hb, fun r n hn => by
  cases r with
  | loc s g => exact hn
  | glob r => exact hle.text (.glob r) n hn⟩
theorem back_wrel [Laid] (h : WRel c st w) {tm : Tr V} (hle : c.called.le e) (hW : WRel e st' w') (hK : Keep c.called e (st.called tm) st' w w') (hH : HpOk st'.hp) (dd : Option Nat) (mm : Nat) :
  WRel (c.back e) { st with hp := { st'.hp with dirty := dd, mods := mm } } w' ∧ Keep c (c.back e) st { st with hp := { st'.hp with dirty := dd, mods := mm } } w w' := by
 have hbl := back_le (tm := tm) h hle
 refine ⟨⟨hW.shut, fun r row hr => ?_, fun r1 r2 row1 row2 b g1 g2 n1 n2 b1 b2 => ?_, fun r hr => hW.glb r hr, fun s g hg => h.lcb s g hg, fun r b hb => ?_, fun r n hn => ?_, hW.elt⟩, ⟨hK.os, hK.tape, hK.output, hK.size, fun b hb hn => hK.block b hb (own_called hn), fun b hb hn o => hK.shut b hb (own_called hn) o, fun b hb ho => ?_⟩⟩
 ·cases r with
  | loc s g => exact loc_still h hK hbl (fun _ _ => rfl) hr
  | glob r => exact RowOk.away (c := e) (e := c.back e) ⟨fun _ _ h => h, fun _ _ _ h => h, fun _ _ h => h, fun _ _ h => h⟩ (hW.rows (.glob r) row hr) (fun frz cs e => by subst e; exact hH r frz cs hr) (fun _ _ _ => rfl)
 ·have mixed : ∀ (s g r : Nat) (rowa rowb : Row), getRow st (.loc s g) = some rowa → rowa ≠ .gone → c.lc s g = some b → getRow st' (.glob r) = some rowb → rowb ≠ .gone → e.gl r = some b → False := by
   intro s g r rowa rowb ha na ba hb nb bb
   exact called_notown (tm := tm) h ha na ba (hK.own b (h.lt (.loc s g) b ba) ⟨.glob r, rowb, hb, nb, bb⟩)
  cases r1 with
  | loc s1 g1' =>
   cases r2 with
   | loc s2 g2' => exact h.inj (.loc s1 g1') (.loc s2 g2') row1 row2 b g1 g2 n1 n2 b1 b2
   | glob r2 => exact (mixed s1 g1' r2 row1 row2 g1 n1 b1 g2 n2 b2).elim
  | glob r1 =>
   cases r2 with
   | loc s2 g2' => exact (mixed s2 g2' r1 row2 row1 g2 n2 b2 g1 n1 b1).elim
   | glob r2 => exact hW.inj (.glob r1) (.glob r2) row1 row2 b g1 g2 n1 n2 b1 b2
 ·cases r with
  | loc s g => exact Nat.lt_of_lt_of_le (h.lt (.loc s g) b hb) hK.size
  | glob r => exact hW.lt (.glob r) b hb
 ·cases r with
  | loc s g => exact h.tlt (.loc s g) n hn
  | glob r => exact hW.tlt (.glob r) n hn
 ·obtain ⟨r, row, h1, h2, h3⟩ := ho
  cases r with
  | loc s g => exact ⟨.loc s g, row, h1, h2, h3⟩
  | glob r =>
   have ho2 : Own e st' b := ⟨.glob r, row, h1, h2, h3⟩
   obtain ⟨r2, row2, k1, k2, k3⟩ := called_own (hK.own b hb ho2)
   exact ⟨.glob r2, row2, k1, k2, k3⟩
theorem same_wrel [Laid] (h : WRel c st w) (hH : HpOk st.hp) {tm : Tr V} (hle : c.called.le e) (hW : WRel e st' w') (hK : Keep c.called e (st.called tm) st' w w') (hD : Dirt (st.called tm).hp st'.hp)
  (hnd : ∀ d, st'.hp.dirty = some d → st.hp.rows.length ≤ d) :
  c.le (c.with e) ∧ WRel (c.with e) st w' ∧ Keep c (c.with e) st st w w' := by
 have hwl : c.le (c.with e) := ⟨fun _ _ h => h, fun _ _ _ h => h, fun b o x hx => hle.shut b o x hx, fun b n hb => hle.ext b n hb, fun _ _ h => h⟩
 have hce : c.leG e := ⟨fun r b hb => hle.gl r b hb, fun b o x hx => hle.shut b o x hx, fun b n hb => hle.ext b n hb, fun r n hn => hle.text (.glob r) n hn⟩
 refine ⟨hwl, ⟨hW.shut, fun r row hr => ?_, h.inj, h.glb, h.lcb, fun r b hb => Nat.lt_of_lt_of_le (h.lt r b hb) hK.size, h.tlt, hW.elt⟩, ⟨hK.os, hK.tape, hK.output, hK.size, fun b hb hn => hK.block b hb (own_called hn), fun b hb hn o => hK.shut b hb (own_called hn) o, fun _ _ ho => ho⟩⟩
 cases r with
 | loc s g => exact loc_still h hK hwl (fun _ _ => rfl) hr
 | glob r =>
  have hlt : r < st.hp.rows.length := by
   rcases Nat.lt_or_ge r st.hp.rows.length with h' | h'
   ·exact h'
   ·simp only [getRow] at hr; rw [List.getElem?_eq_none h'] at hr; simp at hr
  have hsame : getRow st' (.glob r) = some row := by
   have := hD.same r hlt (fun d hd => Nat.lt_of_lt_of_le hlt (hnd d hd))
   simp only [getRow] at hr ⊢
   rw [this]; exact hr
  have hnew := hW.rows (.glob r) row hsame
  have hold := h.rows (.glob r) row hr
  cases row with
  | gone => trivial
  | cells frz cs =>
   obtain ⟨b, xs, t, fz, h1, h2, h3, h4, h5, h6, h7, h8⟩ := hold
   obtain ⟨b', ys, t', fz', k1, k2, k3, k4, k5, k6, k7, k8⟩ := hnew
   have h9 : e.gl r = some b := hce.gl r b h1
   have h10 : e.gl r = some b' := k1
   rw [h9] at h10
   obtain rfl := Option.some.inj h10
   exact ⟨b, ys, t', fz', h1, k2, k3, k4, k5, h6.merge hce k6 (hH r frz cs hr), k7, k8⟩
  | tok =>
   obtain ⟨b, xs, t, fz, n, h1, h2, h3, h4, h5, h6, h7⟩ := hold
   obtain ⟨b', ys, t', fz', n', k1, k2, k3, k4, k5, k6, k7⟩ := hnew
   have h9 : e.gl r = some b := hce.gl r b h1
   have h10 : e.gl r = some b' := k1
   rw [h9] at h10
   obtain rfl := Option.some.inj h10
   have h11 := hce.text r n h5
   rw [k5] at h11
   obtain rfl := Option.some.inj h11
   exact ⟨b, ys, t', fz', n', h1, k2, k3, k4, h5, k6, k7⟩
  | iter s pos =>
   obtain ⟨b, h1, h2⟩ := hold
   obtain ⟨b', k1, k2⟩ := hnew
   have h9 : e.gl r = some b := hce.gl r b h1
   have h10 : e.gl r = some b' := k1
   rw [h9] at h10
   obtain rfl := Option.some.inj h10
   exact ⟨b, h1, k2⟩
  | mp ks vs =>
   obtain ⟨b, es, clk, h1, h2, h0, h3, h4, h5, h6⟩ := hold
   obtain ⟨b', es', clk', k1, k2, k0, k3, k4, k5, k6⟩ := hnew
   have h9 : e.gl r = some b := hce.gl r b h1
   have h10 : e.gl r = some b' := k1
   rw [h9] at h10
   obtain rfl := Option.some.inj h10
   exact ⟨b, es', clk', h1, k2, k0, h3.merge hce k3 h5, h4.merge hce k4 h6, h5, h6⟩
end
end Go.AM
end

section
namespace Go.AM
open Go
section
variable {P : Program} {C : Cfg} {gl : Nat → Bool}
def Agree (ρ σ : Nat → V) (o : Oper) : Prop := ∀ x ∈ o.op.operands.toList, opd ρ x = opd σ x
theorem optInt_congr {ρ σ : Nat → V} {x : Option Operand} (h : ∀ y, x = some y → opd ρ y = opd σ y) : optInt ρ x = optInt σ x := by
 cases x with
 | none => rfl
 | some y => simp only [optInt, h y rfl]
theorem fillP_congr {ρ σ : Nat → V} {t : TypeId} : ∀ (ps : List (Nat × Operand)) (cs : List V), (∀ p ∈ ps, opd ρ p.2 = opd σ p.2) → fillP P t ρ ps cs = fillP P t σ ps cs
 | [], cs, _ => rfl
 | (i, x) :: ps, cs, h => by
  have hx : opd ρ x = opd σ x := h (i, x) (by simp)
  simp only [fillP, hx]
  split
  ·rfl
  ·generalize (((opd σ x).weakB.plain && (bif Nat.beq (opd σ x).weakB.cells.length _ then true else false))) = q
   cases q with
   | false => rfl
   | true =>
    simp only [cond_true]
    split
    ·exact fillP_congr ps _ (fun p hp => h p (by simp [hp]))
    ·rfl
theorem fillE_congr {ρ σ : Nat → V} {sz : Nat} : ∀ (ps : List (Nat × Operand)) (l : List V), (∀ p ∈ ps, opd ρ p.2 = opd σ p.2) → fillE sz ρ ps l = fillE sz σ ps l
 | [], l, _ => rfl
 | (i, x) :: ps, l, h => by
  have hx : opd ρ x = opd σ x := h (i, x) (by simp)
  simp only [fillE, hx]
  generalize ((opd σ x).weakA.live && (opd σ x).weakA.noRefs && Nat.beq (opd σ x).weakA.cells.length sz && Nat.blt i l.length) = q
  cases q with
  | false => rfl
  | true => simp only [cond_true]; exact fillE_congr ps _ (fun p hp => h p (by simp [hp]))
theorem map_congr' {ρ σ : Nat → V} {l : List Operand} (h : ∀ x ∈ l, opd ρ x = opd σ x) : l.map (opd ρ) = l.map (opd σ) := List.map_congr_left h
theorem pureV_congr {ρ σ : Nat → V} {o : Oper} (h : Agree ρ σ o) : pureV P C ρ o.op = pureV P C σ o.op := by
 unfold Agree at h
 cases ho : o.op with
 | move x => simp only [ho, Op.operands] at h; simp only [pureV, h x (by simp)]
 | assign x => simp only [ho, Op.operands] at h; simp only [pureV, h x (by simp)]
 | pick c a b => simp only [ho, Op.operands] at h; simp only [pureV, h c (by simp), h a (by simp), h b (by simp)]
 | nilCheck x => simp only [ho, Op.operands] at h; simp only [pureV, h x (by simp)]
 | binOp op t x y u => simp only [ho, Op.operands] at h; simp only [pureV, h x (by simp), h y (by simp)]
 | unOp op t x => simp only [ho, Op.operands] at h; simp only [pureV, h x (by simp)]
 | convert s d x => simp only [ho, Op.operands] at h; simp only [pureV, h x (by simp)]
 | slice t x lo hi mx =>
  simp only [ho, Op.operands] at h
  have e1 := optInt_congr (ρ := ρ) (σ := σ) (x := lo) (fun y hy => h y (by subst hy; simp))
  have e2 := optInt_congr (ρ := ρ) (σ := σ) (x := hi) (fun y hy => h y (by subst hy; simp))
  have e3 := optInt_congr (ρ := ρ) (σ := σ) (x := mx) (fun y hy => h y (by subst hy; simp))
  simp only [pureV, h x (by simp), e1, e2, e3]
 | fieldAddr t x i => simp only [ho, Op.operands] at h; simp only [pureV, h x (by simp)]
 | field t x i => simp only [ho, Op.operands] at h; simp only [pureV, h x (by simp)]
 | indexAddr t x i => simp only [ho, Op.operands] at h; simp only [pureV, h x (by simp), h i (by simp)]
 | index t x i => simp only [ho, Op.operands] at h; simp only [pureV, h x (by simp), h i (by simp)]
 | extract x i => simp only [ho, Op.operands] at h; simp only [pureV, h x (by simp)]
 | makeFunc f a b =>
  simp only [ho, Op.operands] at h
  simp only [pureV, map_congr' (ρ := ρ) (σ := σ) (l := a.toList) (fun x hx => h x (by simp at hx ⊢; exact .inl hx)), map_congr' (ρ := ρ) (σ := σ) (l := b.toList) (fun x hx => h x (by simp at hx ⊢; exact .inr hx))]
 | makeInterface t x => simp only [ho, Op.operands] at h; simp only [pureV, h x (by simp)]
 | build t ps =>
  simp only [ho, Op.operands] at h
  have hp : ∀ p ∈ ps.toList, opd ρ p.2 = opd σ p.2 := fun p hp => h p.2 (by simp only [List.mem_map]; exact ⟨p, hp, rfl⟩)
  simp only [pureV]
  split
  ·rw [fillP_congr ps.toList _ hp]
  ·rfl
 | buildSlice t len ps =>
  simp only [ho, Op.operands] at h
  have hp : ∀ p ∈ ps.toList, opd ρ p.2 = opd σ p.2 := fun p hp => h p.2 (by simp only [List.mem_map]; exact ⟨p, hp, rfl⟩)
  simp only [pureV]
  split
  ·rfl
  ·split
   ·rw [fillE_congr ps.toList _ hp]
   ·rfl
 | call cl =>
  simp only [ho, Op.operands, Call.operands] at h
  simp only [pureV]
  split
  ·rename_i x hcal hargs
   have hx : opd ρ x = opd σ x := h x (by rw [Array.toList_append, hargs]; simp)
   simp only [hx]
  ·rename_i x y hcal hargs
   have hx : opd ρ x = opd σ x := h x (by rw [Array.toList_append, hargs]; simp)
   have hy : opd ρ y = opd σ y := h y (by rw [Array.toList_append, hargs]; simp)
   simp only [hx, hy]
  ·rename_i x y hcal hargs
   have hx : opd ρ x = opd σ x := h x (by rw [Array.toList_append, hargs]; simp)
   have hy : opd ρ y = opd σ y := h y (by rw [Array.toList_append, hargs]; simp)
   simp only [hx, hy]
  ·rfl
 | _ => rfl
def AgreeAt (l m : Nat → Nat × Row) (rd : List Nat) : Prop := ∀ s ∈ rd, l s = m s
theorem locV_congr {ρ σ : Nat → V} {l m : Nat → Nat × Row} {o : Oper} (h : Agree ρ σ o) {ft : Foot} {r : V × Option (Nat × Nat × Row)} (hl : locV P C gl ρ l o = some r) (hf : footV P C gl ρ l o = some ft) (hm : AgreeAt l m ft.rd) :
  locV P C gl σ m o = some r ∧ footV P C gl σ m o = some ft := by
 have hl0 := hl
 unfold footV at hf
 rw [hl0] at hf
 cases ho : o.op with
 | load t y =>
  have hy : opd ρ y = opd σ y := by unfold Agree at h; simp only [ho, Op.operands] at h; exact h y (by simp)
  unfold locV at hl
  simp only [ho] at hl hf
  have key : locV P C gl σ m o = some r := by
   unfold locV
   simp only [ho, ← hy]
   split at hl
   ·rename_i s g off hp
    obtain ⟨v, u⟩ := r
    cases u with
    | none =>
     simp only [hp, Option.some.injEq] at hf
     subst hf
     have : l s = m s := hm s (by simp)
     simp only [hp, ← this]
     exact hl
    | some q =>
     exfalso
     split at hl
     ·rename_i g' frz cs _
      generalize Nat.beq g g' = b at hl
      cases b with
      | false => simp at hl
      | true => simp at hl
     ·simp at hl
   ·rename_i cs hp
    first | exact hl | (trace_state; simp only [hp]; exact hl)
   ·simp at hl
  refine ⟨key, ?_⟩
  unfold footV
  rw [key]
  simp only [ho, ← hy]
  exact hf
 | store t y z =>
  have hy : opd ρ y = opd σ y := by unfold Agree at h; simp only [ho, Op.operands] at h; exact h y (by simp)
  have hz : opd ρ z = opd σ z := by unfold Agree at h; simp only [ho, Op.operands] at h; exact h z (by simp)
  unfold locV at hl
  simp only [ho] at hl hf
  have key : locV P C gl σ m o = some r := by
   unfold locV
   simp only [ho, ← hy, ← hz]
   split at hl
   ·rename_i s g off hp
    split at hl
    ·rename_i g' cs hls
     generalize hb : (Nat.beq g g' && (opd ρ z).cells.all V.cellOk && lenIs P t (opd ρ z).cells.length) = b at hl
     cases b with
     | false => simp at hl
     | true =>
      simp only [cond_true] at hl
      split at hl
      ·rename_i cs' hset
       simp only [Option.some.injEq] at hl
       subst hl
       simp only [Option.some.injEq] at hf
       subst hf
       have : l s = m s := hm s (by simp)
       simp only [hp, ← this, hls, hb, cond_true, hset]
      ·simp at hl
    ·simp at hl
   ·simp at hl
  refine ⟨key, ?_⟩
  unfold footV
  rw [key]
  simp only [ho]
  obtain ⟨v, u⟩ := r
  cases u with
  | none => exact hf
  | some q => exact hf
 | alloc t =>
  unfold locV at hl
  simp only [ho] at hl hf
  have key : locV P C gl σ m o = some r := by
   unfold locV
   simp only [ho]
   split at hl
   ·simp at hl
   ·rename_i d hd
    cases hg : gl d with
    | true => simp [hg] at hl
    | false =>
     simp only [hg, cond_false] at hl
     split at hl
     ·rename_i z n hz hn
      generalize hb : (z.live && Nat.beq z.cells.length n) = b at hl
      cases b with
      | false => simp at hl
      | true =>
       simp only [cond_true, Option.some.injEq] at hl
       subst hl
       simp only [Option.some.injEq] at hf
       subst hf
       have : l d = m d := hm d (by simp)
       simp only [hd, hg, cond_false, hz, hn, hb, cond_true, ← this]
     ·simp at hl
  refine ⟨key, ?_⟩
  unfold footV
  rw [key]
  simp only [ho]
  exact hf
 | box t y =>
  have hy : opd ρ y = opd σ y := by unfold Agree at h; simp only [ho, Op.operands] at h; exact h y (by simp)
  unfold locV at hl
  simp only [ho] at hl hf
  have key : locV P C gl σ m o = some r := by
   unfold locV
   simp only [ho, ← hy]
   cases hA : C.isArr t with
   | true => rw [hA] at hl; exact hl
   | false =>
   rw [hA] at hl
   simp only [cond_false] at hl ⊢
   split at hl
   ·simp at hl
   ·rename_i d hd
    generalize hg : (gl d || !(opd ρ y).live) = q at hl
    cases q with
    | true => simp at hl
    | false =>
     simp only [cond_false, Option.some.injEq] at hl
     subst hl
     simp only [Option.some.injEq] at hf
     subst hf
     have : l d = m d := hm d (by simp)
     simp only [hd, hg, cond_false, ← this]
  refine ⟨key, ?_⟩
  unfold footV
  rw [key]
  simp only [ho]
  rw [← hy]
  exact hf
 | range t y =>
  have hy : opd ρ y = opd σ y := by unfold Agree at h; simp only [ho, Op.operands] at h; exact h y (by simp)
  unfold locV at hl
  simp only [ho] at hl hf
  have key : locV P C gl σ m o = some r := by
   unfold locV
   simp only [ho, ← hy]
   split at hl
   ·rename_i s d hu hs hd
    cases hg : gl d with
    | true => simp [hg] at hl
    | false =>
     simp only [hg, cond_false, Option.some.injEq] at hl
     subst hl
     simp only [Option.some.injEq] at hf
     subst hf
     have : l d = m d := hm d (by simp)
     simp only [hu, hs, hd, hg, cond_false, ← this]
   ·simp at hl
  refine ⟨key, ?_⟩
  unfold footV
  rw [key]
  simp only [ho]
  exact hf
 | _ =>
  have hp := pureV_congr (P := P) (C := C) h
  unfold locV at hl
  simp only [ho] at hl hf hp
  have key : locV P C gl σ m o = some r := by
   unfold locV
   simp only [ho, ← hp]
   exact hl
  refine ⟨key, ?_⟩
  unfold footV
  rw [key]
  simp only [ho]
  obtain ⟨v, u⟩ := r
  cases u with
  | none => exact hf
  | some q => exact hf
end
end Go.AM
end

section
namespace Go.AM
open Go
section
variable {P : Program} {C : Cfg} {gl : Nat → Bool}
theorem exp1_quiet {v v' : V} {st st' : St} (hq : quiet1 v = true) (he : exp1 false st v = some (v', st')) : st' = st ∧ ∀ st2, exp1 false st2 v = some (v', st2) := by
 cases v with
 | arr r off len lim sz ag =>
  cases r with
  | loc s g => simp [quiet1] at hq
  | glob r =>
   simp [exp1, isLoc] at he
   obtain ⟨rfl, rfl⟩ := he
   exact ⟨rfl, fun st2 => by simp [exp1, isLoc]⟩
 | slice tok f sz l =>
  simp only [exp1] at he ⊢
  split at he
  ·simp at he; obtain ⟨rfl, rfl⟩ := he; exact ⟨rfl, fun st2 => by simp⟩
  ·simp at he; obtain ⟨rfl, rfl⟩ := he; exact ⟨rfl, fun st2 => rfl⟩
 | _ =>
  simp only [exp1] at he ⊢
  generalize hb : (V.live _ && V.noLoc _) = b at he
  cases b with
  | false => simp at he
  | true =>
   simp only [cond_true, Option.some.injEq, Prod.mk.injEq] at he
   obtain ⟨rfl, rfl⟩ := he
   exact ⟨rfl, fun st2 => by simp [hb]⟩
theorem expL_quiet : ∀ (vs vs' : List V) (st st' : St), vs.all quiet1 = true → expL false st vs = some (vs', st') → st' = st ∧ ∀ st2, expL false st2 vs = some (vs', st2)
 | [], vs', st, st', _, he => by simp [expL] at he; obtain ⟨rfl, rfl⟩ := he; exact ⟨rfl, fun st2 => rfl⟩
 | v :: vs, vs', st, st', hq, he => by
  simp only [List.all_cons, Bool.and_eq_true] at hq
  simp only [expL] at he
  split at he
  ·simp at he
  ·rename_i v1 st1 he1
   split at he
   ·simp at he
   ·rename_i l2 st2 he2
    simp at he
    obtain ⟨rfl, rfl⟩ := he
    obtain ⟨rfl, k1⟩ := exp1_quiet hq.1 he1
    obtain ⟨rfl, k2⟩ := expL_quiet vs l2 _ _ hq.2 he2
    exact ⟨rfl, fun st2 => by simp only [expL, k1 st2, k2 st2]⟩
theorem exp_quiet {v v' : V} {st st' : St} (hq : quiet v = true) (he : exp false st v = some (v', st')) : st' = st ∧ ∀ st2, exp false st2 v = some (v', st2) := by
 cases v with
 | agg cs =>
  simp only [exp, Option.map_eq_some_iff] at he
  obtain ⟨⟨l, s⟩, h1, h2⟩ := he
  simp at h2
  obtain ⟨rfl, rfl⟩ := h2
  obtain ⟨k1, k2⟩ := expL_quiet cs l st _ hq h1
  exact ⟨k1, fun st2 => by simp only [exp, k2 st2, Option.map_some]⟩
 | _ => simp only [exp] at he ⊢; exact exp1_quiet hq he
theorem exps_quiet : ∀ (vs vs' : List V) (st st' : St), vs.all quiet = true → exps false st vs = some (vs', st') → st' = st ∧ ∀ st2, exps false st2 vs = some (vs', st2)
 | [], vs', st, st', _, he => by simp [exps] at he; obtain ⟨rfl, rfl⟩ := he; exact ⟨rfl, fun st2 => rfl⟩
 | v :: vs, vs', st, st', hq, he => by
  simp only [List.all_cons, Bool.and_eq_true] at hq
  simp only [exps] at he
  split at he
  ·simp at he
  ·rename_i v1 st1 he1
   split at he
   ·simp at he
   ·rename_i l2 st2 he2
    simp at he
    obtain ⟨rfl, rfl⟩ := he
    obtain ⟨rfl, k1⟩ := exp_quiet hq.1 he1
    obtain ⟨rfl, k2⟩ := exps_quiet vs l2 _ _ hq.2 he2
    exact ⟨rfl, fun st2 => by simp only [exps, k1 st2, k2 st2]⟩
structure Eff where
 v : V
 row : List (Nat × Nat × Row)
 hp : Option Hp
def applyLs (st : St) : List (Nat × Nat × Row) → St
 | [] => st
 | u :: l => applyLs (applyL st (some u)) l
theorem applyLs_opt (st : St) (u : Option (Nat × Nat × Row)) : applyLs st u.toList = applyL st u := by cases u <;> rfl
theorem applyLs_tm (st : St) (l : List (Nat × Nat × Row)) : (applyLs st l).tm = st.tm := by
 induction l generalizing st with
 | nil => rfl
 | cons u l ih => simp only [applyLs]; rw [ih]; obtain ⟨s, g, row⟩ := u; rfl
theorem applyLs_hp (st : St) (l : List (Nat × Nat × Row)) : (applyLs st l).hp = st.hp := by
 induction l generalizing st with
 | nil => rfl
 | cons u l ih => simp only [applyLs]; rw [ih]; obtain ⟨s, g, row⟩ := u; rfl
def Eff.on (e : Eff) (st : St) (d : Option Nat) : St := putV { applyLs st e.row with hp := e.hp.getD st.hp } d e.v
theorem itemsOf_congr {st st2 : St} {y : V} {b : List Nat} (hb : itemsFoot y = some b) (h : ∀ s ∈ b, st.lc s = st2.lc s) : itemsOf st2 y = itemsOf st y := by
 cases y with
 | arr r off len lim sz ag =>
  cases r with
  | loc s g =>
   simp [itemsFoot] at hb
   subst hb
   have hs := h s (by simp)
   simp only [itemsOf, getRow, ← hs]
  | glob r => simp [itemsFoot] at hb
 | _ => rfl
theorem grow_arr_local {st : St} {d len sz : Nat} {cs : List V} {ag : Bool} {r : Res} (hd : gl d = false) (h : growArr gl st d cs len sz ag = some r) :
  ∃ v row, r = .val v (applyLs st [row]) ∧ row.1 = d ∧ ∀ st2 : St, st.lc d = st2.lc d → growArr gl st2 d cs len sz ag = some (.val v (applyLs st2 [row])) := by
 simp only [growArr, hd, Bool.false_and, cond_false, addRow, Option.some.injEq] at h
 subst h
 refine ⟨_, (d, (st.lc d).1 + 1, .cells false cs), rfl, rfl, fun st2 hl => ?_⟩
 simp only [growArr, hd, Bool.false_and, cond_false, addRow, ← hl]
 rfl
theorem grow_imm_local {st : St} {d sz : Nat} {l : List V} {r : Res} (hd : gl d = false) (h : growImm gl st d sz l = some r) :
  ∃ v row, r = .val v (applyLs st [row]) ∧ row.1 = d ∧ ∀ st2 : St, st.lc d = st2.lc d → growImm gl st2 d sz l = some (.val v (applyLs st2 [row])) := by
 simp only [growImm, hd, addRow, cond_false, Option.some.injEq] at h
 subst h
 refine ⟨_, (d, (st.lc d).1 + 1, .tok), rfl, rfl, fun st2 hl => ?_⟩
 simp only [growImm, hd, addRow, cond_false, ← hl]
 rfl
theorem setRow_lc (st : St) (s g : Nat) (row : Row) (d : Nat) : (setRow st (.loc s g) row).lc d = if s = d then (g, row) else st.lc d := lc_setLoc s (g, row) d
theorem appendV_local {st : St} {d : Nat} {t : TypeId} {x y : V} {a b : List Nat} {r : Res} (hd : gl d = false) (ha : sliceFoot x = some a) (hb : itemsFoot y = some b) (h : appendV P C gl st d t x y = some r) :
  ∃ v rows, r = .val v (applyLs st rows) ∧ (∀ u ∈ rows, u.1 ∈ d :: a) ∧
   ∀ st2 : St, st.lc d = st2.lc d → (∀ s ∈ a, st.lc s = st2.lc s) → (∀ s ∈ b, st.lc s = st2.lc s) → appendV P C gl st2 d t x y = some (.val v (applyLs st2 rows)) := by
 have hi : ∀ st2 : St, (∀ s ∈ b, st.lc s = st2.lc s) → itemsOf st2 y = itemsOf st y := fun st2 hlb => itemsOf_congr (st := st) (st2 := st2) hb hlb
 unfold appendV at h
 split at h
 ·simp at h
 ·rename_i e he
  split at h
  ·rename_i sz ag bytes ys h1 h2 h3
   cases q0 : (ys.all fun v => Nat.beq v.cells.length sz && v.cells.all V.cellOk) with
   | false => rw [q0] at h; simp at h
   | true =>
    simp only [q0, cond_true] at h
    cases x with
    | nils =>
     simp only [] at h
     cases ys with
     | nil =>
      simp at h; subst h
      refine ⟨_, [], rfl, fun u hu => by simp at hu, fun st2 hl hla hlb => ?_⟩
      simp only [appendV, he, h1, h2, hi st2 hlb, h3, q0, cond_true, applyLs]
     | cons y0 ys =>
      simp only [] at h
      cases q1 : Nat.ble ((y0 :: ys).length * bytes) maxBytes with
      | false => rw [q1] at h; simp at h
      | true =>
       simp only [q1, cond_true] at h
       cases q2 : C.isArr t with
       | true =>
        simp only [q2, cond_true] at h
        obtain ⟨v, row, k1, k2, k3⟩ := grow_arr_local hd h
        refine ⟨v, [row], k1, fun u hu => by simp at hu; subst hu; simp [k2], fun st2 hl hla hlb => ?_⟩
        simp only [appendV, he, h1, h2, hi st2 hlb, h3, q0, q1, q2, cond_true, k3 st2 hl]
       | false =>
        simp only [q2, cond_false] at h
        cases q3 : V.noRefsL (y0 :: ys) with
        | false => rw [q3] at h; simp at h
        | true =>
         simp only [q3, cond_true] at h
         obtain ⟨v, row, k1, k2, k3⟩ := grow_imm_local hd h
         refine ⟨v, [row], k1, fun u hu => by simp at hu; subst hu; simp [k2], fun st2 hl hla hlb => ?_⟩
         simp only [appendV, he, h1, h2, hi st2 hlb, h3, q0, q1, q2, q3, cond_true, cond_false, k3 st2 hl]
    | slice tok full sz' l =>
     simp only [] at h
     cases q1 : Nat.beq sz sz' with
     | false => rw [q1] at h; simp at h
     | true =>
      simp only [q1, cond_true] at h
      cases ys with
      | nil =>
       simp at h; subst h
       refine ⟨_, [], rfl, fun u hu => by simp at hu, fun st2 hl hla hlb => ?_⟩
       simp only [appendV, he, h1, h2, hi st2 hlb, h3, q0, q1, cond_true, applyLs]
      | cons y0 ys =>
       simp only [] at h
       cases q2 : Nat.ble ((l.length + (y0 :: ys).length) * bytes) maxBytes with
       | false => rw [q2] at h; simp at h
       | true =>
        simp only [q2, cond_true] at h
        cases q3 : C.isArr t with
        | true =>
         simp only [q3, cond_true] at h
         cases full with
         | false => simp at h
         | true =>
          simp only [cond_true] at h
          obtain ⟨v, row, k1, k2, k3⟩ := grow_arr_local hd h
          refine ⟨v, [row], k1, fun u hu => by simp at hu; subst hu; simp [k2], fun st2 hl hla hlb => ?_⟩
          simp only [appendV, he, h1, h2, hi st2 hlb, h3, q0, q1, q2, q3, cond_true, k3 st2 hl]
        | false =>
         simp only [q3, cond_false] at h
         cases q4 : V.noRefsL (y0 :: ys) with
         | false => rw [q4] at h; simp at h
         | true =>
          simp only [q4, cond_true] at h
          cases full with
          | true =>
           simp only [cond_true] at h
           obtain ⟨v, row, k1, k2, k3⟩ := grow_imm_local hd h
           refine ⟨v, [row], k1, fun u hu => by simp at hu; subst hu; simp [k2], fun st2 hl hla hlb => ?_⟩
           simp only [appendV, he, h1, h2, hi st2 hlb, h3, q0, q1, q2, q3, q4, cond_true, cond_false, k3 st2 hl]
          | false =>
           simp only [cond_false] at h
           cases tok with
           | none => simp at h
           | some r0 =>
            cases r0 with
            | glob r0 => simp [sliceFoot] at ha
            | loc s g =>
             simp [sliceFoot] at ha
             subst ha
             simp only [] at h
             split at h
             ·rename_i htok
              obtain ⟨v, row, k1, k2, k3⟩ := grow_imm_local hd h
              refine ⟨v, [(s, g, .gone), row], k1, fun u hu => by
               simp at hu
               rcases hu with rfl | rfl
               ·simp
               ·simp [k2], fun st2 hl hla hlb => ?_⟩
              have hg : getRow st2 (.loc s g) = getRow st (.loc s g) := by simp only [getRow, ← hla s (by simp)]
              have hl2 : (setRow st (.loc s g) .gone).lc d = (setRow st2 (.loc s g) .gone).lc d := by rw [setRow_lc, setRow_lc, hl]
              have k4 := k3 _ hl2
              simp only [appendV, he, h1, h2, hi st2 hlb, h3, q0, q1, q2, q3, q4, cond_true, cond_false, hg, htok, k4]
              rfl
             ·simp at h
    | arr r0 off len lim sz' ag' =>
     simp only [] at h
     cases q1 : (Nat.beq sz sz' && (ag == ag')) with
     | false => rw [q1] at h; simp at h
     | true =>
      simp only [q1, cond_true] at h
      cases r0 with
      | glob r0 => simp [sliceFoot] at ha
      | loc s g =>
       simp [sliceFoot] at ha
       subst ha
       have hg : ∀ st2 : St, (∀ s' ∈ [s], st.lc s' = st2.lc s') → getRow st2 (.loc s g) = getRow st (.loc s g) := fun st2 hla => by simp only [getRow, ← hla s (by simp)]
       have setR : ∀ {rr : Res} {row : Row} {v : V} {q : St → Option Res}, rr = .val v (setRow st (.loc s g) row) →
         (∀ st2 : St, (∀ s' ∈ [s], st.lc s' = st2.lc s') → (∀ s ∈ b, st.lc s = st2.lc s) → q st2 = some (.val v (setRow st2 (.loc s g) row))) →
         ∃ v rows, rr = .val v (applyLs st rows) ∧ (∀ u ∈ rows, u.1 ∈ d :: [s]) ∧ ∀ st2 : St, st.lc d = st2.lc d → (∀ s' ∈ [s], st.lc s' = st2.lc s') → (∀ s ∈ b, st.lc s = st2.lc s) → q st2 = some (.val v (applyLs st2 rows)) := by
        intro rr row v q h1 h3
        exact ⟨v, [(s, g, row)], h1, fun u hu => by simp at hu; subst hu; simp, fun st2 _ hla hlb => h3 st2 hla hlb⟩
       split at h
       ·rename_i frz cs hrow
        cases q2 : (Nat.ble (off + len * sz) cs.length && Nat.ble ((len + ys.length) * bytes) maxBytes) with
        | false => rw [q2] at h; simp at h
        | true =>
         simp only [q2, cond_true] at h
         cases ys with
         | nil =>
          simp at h; subst h
          refine ⟨_, [], rfl, fun u hu => by simp at hu, fun st2 hl hla hlb => ?_⟩
          simp only [appendV, he, h1, h2, hi st2 hlb, h3, q0, q1, hg st2 hla, hrow, q2, cond_true, applyLs]
         | cons y0 ys =>
          simp only [] at h
          cases q3 : (!isLoc (Ref.loc s g) && !V.noLocL (flat (y0 :: ys))) with
          | true => rw [q3] at h; simp at h
          | false =>
           simp only [q3, cond_false] at h
           cases lim with
           | some c =>
            simp only [] at h
            cases q4 : Nat.ble (len + (y0 :: ys).length) c with
            | true =>
             simp only [q4, cond_true] at h
             cases frz with
             | true => simp at h
             | false =>
              simp only [cond_false] at h
              split at h
              ·rename_i cs' hset
               simp at h; subst h
               refine setR rfl (fun st2 hla hlb => ?_)
               simp only [appendV, he, h1, h2, hi st2 hlb, h3, q0, q1, hg st2 hla, hrow, q2, q3, q4, hset, cond_true, cond_false]
               rfl
              ·simp at h
            | false =>
             simp only [q4, cond_false] at h
             obtain ⟨v, row, k1, k2, k3⟩ := grow_arr_local hd h
             refine ⟨v, [row], k1, fun u hu => by simp at hu; subst hu; simp [k2], fun st2 hl hla hlb => ?_⟩
             simp only [appendV, he, h1, h2, hi st2 hlb, h3, q0, q1, hg st2 hla, hrow, q2, q3, q4, cond_true, cond_false, k3 st2 hl]
           | none =>
            simp only [] at h
            cases frz with
            | true => simp at h
            | false =>
             simp only [cond_false] at h
             cases q4 : Nat.ble (off + (len + (y0 :: ys).length) * sz) cs.length with
             | true =>
              simp only [q4, cond_true] at h
              split at h
              ·rename_i cs' hset
               simp at h; subst h
               refine setR rfl (fun st2 hla hlb => ?_)
               simp only [appendV, he, h1, h2, hi st2 hlb, h3, q0, q1, hg st2 hla, hrow, q2, q3, q4, hset, cond_true, cond_false]
               rfl
              ·simp at h
             | false =>
              simp only [q4, cond_false] at h
              cases q5 : (Nat.beq off 0 && Nat.beq (len * sz) cs.length) with
              | false => rw [q5] at h; simp at h
              | true =>
               simp only [q5, cond_true] at h
               obtain ⟨v, row, k1, k2, k3⟩ := grow_arr_local hd h
               refine ⟨v, [(s, g, .gone), row], k1, fun u hu => by
                simp at hu
                rcases hu with rfl | rfl
                ·simp
                ·simp [k2], fun st2 hl hla hlb => ?_⟩
               have hl2 : (setRow st (.loc s g) .gone).lc d = (setRow st2 (.loc s g) .gone).lc d := by rw [setRow_lc, setRow_lc, hl]
               have k4 := k3 _ hl2
               simp only [appendV, he, h1, h2, hi st2 hlb, h3, q0, q1, hg st2 hla, hrow, q2, q3, q4, q5, cond_true, cond_false, k4]
               rfl
       ·simp at h
    | _ => simp at h
  ·simp at h
theorem grow_arr_far {st : St} {d len sz : Nat} {cs : List V} {ag : Bool} {r : Res} (hd : gl d = true) (h : growArr gl st d cs len sz ag = some r) :
  ∃ v h', r = .val v { st with hp := h' } ∧ ∀ st2 : St, st.hp = st2.hp → growArr gl st2 d cs len sz ag = some (.val v { st2 with hp := h' }) := by
 simp only [growArr, hd, Bool.true_and] at h
 cases hq : V.noLocL cs with
 | false => simp [hq] at h
 | true =>
  simp only [hq, Bool.not_true, cond_false, addRow, cond_true, Option.some.injEq] at h
  subst h
  refine ⟨_, _, rfl, fun st2 hl => ?_⟩
  simp only [growArr, hd, Bool.true_and, hq, Bool.not_true, cond_false, addRow, cond_true, ← hl]
theorem grow_imm_far {st : St} {d sz : Nat} {l : List V} {r : Res} (hd : gl d = true) (h : growImm gl st d sz l = some r) :
  ∃ v h', r = .val v { st with hp := h' } ∧ ∀ st2 : St, st.hp = st2.hp → growImm gl st2 d sz l = some (.val v { st2 with hp := h' }) := by
 simp only [growImm, hd, addRow, cond_true, Option.some.injEq] at h
 subst h
 refine ⟨_, _, rfl, fun st2 hl => ?_⟩
 simp only [growImm, hd, addRow, cond_true, ← hl]
theorem itemsOf_far {st st2 : St} {y : V} (hm : AgreeAt st.lc st2.lc (itemsLoc y)) (hh : st.hp = st2.hp) : itemsOf st2 y = itemsOf st y := by
 cases y with
 | arr r off len lim sz ag =>
  cases r with
  | loc s g =>
   have hs := hm s (by simp [itemsLoc])
   simp only [itemsOf, getRow, ← hs]
  | glob r => simp only [itemsOf, getRow, hh]
 | _ => rfl
theorem appendV_far {st : St} {d : Nat} {t : TypeId} {x y : V} {r : Res} (hd : gl d = true) (hx : farX x = true) (h : appendV P C gl st d t x y = some r) :
  ∃ v h', r = .val v { st with hp := h' } ∧ ∀ st2 : St, AgreeAt st.lc st2.lc (itemsLoc y) → st.hp = st2.hp → appendV P C gl st2 d t x y = some (.val v { st2 with hp := h' }) := by
 have hi : ∀ st2 : St, AgreeAt st.lc st2.lc (itemsLoc y) → st.hp = st2.hp → itemsOf st2 y = itemsOf st y := fun st2 hm hh => itemsOf_far hm hh
 unfold appendV at h
 split at h
 ·simp at h
 ·rename_i e he
  split at h
  ·rename_i sz ag bytes ys h1 h2 h3
   cases q0 : (ys.all fun v => Nat.beq v.cells.length sz && v.cells.all V.cellOk) with
   | false => rw [q0] at h; simp at h
   | true =>
    simp only [q0, cond_true] at h
    cases x with
    | nils =>
     simp only [] at h
     cases ys with
     | nil =>
      simp at h; subst h
      refine ⟨_, st.hp, rfl, fun st2 hm hh => ?_⟩
      simp only [appendV, he, h1, h2, hi st2 hm hh, h3, q0, cond_true, hh]
     | cons y0 ys =>
      simp only [] at h
      cases q1 : Nat.ble ((y0 :: ys).length * bytes) maxBytes with
      | false => rw [q1] at h; simp at h
      | true =>
       simp only [q1, cond_true] at h
       cases q2 : C.isArr t with
       | true =>
        simp only [q2, cond_true] at h
        obtain ⟨v, h', k1, k3⟩ := grow_arr_far hd h
        refine ⟨v, h', k1, fun st2 hm hh => ?_⟩
        simp only [appendV, he, h1, h2, hi st2 hm hh, h3, q0, q1, q2, cond_true, k3 st2 hh]
       | false =>
        simp only [q2, cond_false] at h
        cases q3 : V.noRefsL (y0 :: ys) with
        | false => rw [q3] at h; simp at h
        | true =>
         simp only [q3, cond_true] at h
         obtain ⟨v, h', k1, k3⟩ := grow_imm_far hd h
         refine ⟨v, h', k1, fun st2 hm hh => ?_⟩
         simp only [appendV, he, h1, h2, hi st2 hm hh, h3, q0, q1, q2, q3, cond_true, cond_false, k3 st2 hh]
    | slice tok full sz' l =>
     simp only [] at h
     cases q1 : Nat.beq sz sz' with
     | false => rw [q1] at h; simp at h
     | true =>
      simp only [q1, cond_true] at h
      cases ys with
      | nil =>
       simp at h; subst h
       refine ⟨_, st.hp, rfl, fun st2 hm hh => ?_⟩
       simp only [appendV, he, h1, h2, hi st2 hm hh, h3, q0, q1, cond_true, hh]
      | cons y0 ys =>
       simp only [] at h
       cases q2 : Nat.ble ((l.length + (y0 :: ys).length) * bytes) maxBytes with
       | false => rw [q2] at h; simp at h
       | true =>
        simp only [q2, cond_true] at h
        cases q3 : C.isArr t with
        | true =>
         simp only [q3, cond_true] at h
         cases full with
         | false => simp at h
         | true =>
          simp only [cond_true] at h
          obtain ⟨v, h', k1, k3⟩ := grow_arr_far hd h
          refine ⟨v, h', k1, fun st2 hm hh => ?_⟩
          simp only [appendV, he, h1, h2, hi st2 hm hh, h3, q0, q1, q2, q3, cond_true, k3 st2 hh]
        | false =>
         simp only [q3, cond_false] at h
         cases q4 : V.noRefsL (y0 :: ys) with
         | false => rw [q4] at h; simp at h
         | true =>
          simp only [q4, cond_true] at h
          cases full with
          | true =>
           simp only [cond_true] at h
           obtain ⟨v, h', k1, k3⟩ := grow_imm_far hd h
           refine ⟨v, h', k1, fun st2 hm hh => ?_⟩
           simp only [appendV, he, h1, h2, hi st2 hm hh, h3, q0, q1, q2, q3, q4, cond_true, cond_false, k3 st2 hh]
          | false =>
           simp only [cond_false] at h
           cases tok with
           | none => simp at h
           | some r0 =>
            cases r0 with
            | loc s g => simp [farX] at hx
            | glob r0 =>
             simp only [] at h
             split at h
             ·rename_i htok
              obtain ⟨v, h', k1, k3⟩ := grow_imm_far hd h
              refine ⟨v, h', k1, fun st2 hm hh => ?_⟩
              have hg : getRow st2 (.glob r0) = getRow st (.glob r0) := by simp only [getRow, hh]
              have k4 := k3 (setRow st2 (.glob r0) .gone) (by simp only [setRow, hh])
              simp only [appendV, he, h1, h2, hi st2 hm hh, h3, q0, q1, q2, q3, q4, cond_true, cond_false, hg, htok, k4]
              rfl
             ·simp at h
    | arr r0 off len lim sz' ag' =>
     simp only [] at h
     cases q1 : (Nat.beq sz sz' && (ag == ag')) with
     | false => rw [q1] at h; simp at h
     | true =>
      simp only [q1, cond_true] at h
      cases r0 with
      | loc s g => simp [farX] at hx
      | glob r0 =>
       have hg : ∀ st2 : St, st.hp = st2.hp → getRow st2 (.glob r0) = getRow st (.glob r0) := fun st2 hh => by simp only [getRow, hh]
       have setR : ∀ {rr : Res} {row : Row} {v : V} {q : St → Option Res}, rr = .val v (setRow st (.glob r0) row) →
         (∀ st2 : St, AgreeAt st.lc st2.lc (itemsLoc y) → st.hp = st2.hp → q st2 = some (.val v (setRow st2 (.glob r0) row))) →
         ∃ v h', rr = .val v { st with hp := h' } ∧ ∀ st2 : St, AgreeAt st.lc st2.lc (itemsLoc y) → st.hp = st2.hp → q st2 = some (.val v { st2 with hp := h' }) := by
        intro rr row v q h1 h3
        refine ⟨v, (setRow st (.glob r0) row).hp, h1, fun st2 hm hh => ?_⟩
        rw [h3 st2 hm hh]
        simp only [setRow, hh]
       split at h
       ·rename_i frz cs hrow
        cases q2 : (Nat.ble (off + len * sz) cs.length && Nat.ble ((len + ys.length) * bytes) maxBytes) with
        | false => rw [q2] at h; simp at h
        | true =>
         simp only [q2, cond_true] at h
         cases ys with
         | nil =>
          simp at h; subst h
          refine ⟨_, st.hp, rfl, fun st2 hm hh => ?_⟩
          simp only [appendV, he, h1, h2, hi st2 hm hh, h3, q0, q1, hg st2 hh, hrow, q2, cond_true, hh]
         | cons y0 ys =>
          simp only [] at h
          cases q3 : (!isLoc (Ref.glob r0) && !V.noLocL (flat (y0 :: ys))) with
          | true => rw [q3] at h; simp at h
          | false =>
           simp only [q3, cond_false] at h
           cases lim with
           | some c =>
            simp only [] at h
            cases q4 : Nat.ble (len + (y0 :: ys).length) c with
            | true =>
             simp only [q4, cond_true] at h
             cases frz with
             | true => simp at h
             | false =>
              simp only [cond_false] at h
              split at h
              ·rename_i cs' hset
               simp at h; subst h
               refine setR rfl (fun st2 hm hh => ?_)
               simp only [appendV, he, h1, h2, hi st2 hm hh, h3, q0, q1, hg st2 hh, hrow, q2, q3, q4, hset, cond_true, cond_false]
               rfl
              ·simp at h
            | false =>
             simp only [q4, cond_false] at h
             obtain ⟨v, h', k1, k3⟩ := grow_arr_far hd h
             refine ⟨v, h', k1, fun st2 hm hh => ?_⟩
             simp only [appendV, he, h1, h2, hi st2 hm hh, h3, q0, q1, hg st2 hh, hrow, q2, q3, q4, cond_true, cond_false, k3 st2 hh]
           | none =>
            simp only [] at h
            cases frz with
            | true => simp at h
            | false =>
             simp only [cond_false] at h
             cases q4 : Nat.ble (off + (len + (y0 :: ys).length) * sz) cs.length with
             | true =>
              simp only [q4, cond_true] at h
              split at h
              ·rename_i cs' hset
               simp at h; subst h
               refine setR rfl (fun st2 hm hh => ?_)
               simp only [appendV, he, h1, h2, hi st2 hm hh, h3, q0, q1, hg st2 hh, hrow, q2, q3, q4, hset, cond_true, cond_false]
               rfl
              ·simp at h
             | false =>
              simp only [q4, cond_false] at h
              cases q5 : (Nat.beq off 0 && Nat.beq (len * sz) cs.length) with
              | false => rw [q5] at h; simp at h
              | true =>
               simp only [q5, cond_true] at h
               obtain ⟨v, h', k1, k3⟩ := grow_arr_far hd h
               refine ⟨v, h', k1, fun st2 hm hh => ?_⟩
               have k4 := k3 (setRow st2 (.glob r0) .gone) (by simp only [setRow, hh])
               simp only [appendV, he, h1, h2, hi st2 hm hh, h3, q0, q1, hg st2 hh, hrow, q2, q3, q4, q5, cond_true, cond_false, k4]
               rfl
       ·simp at h
    | _ => simp at h
  ·simp at h
theorem stl_some' {α : Type} {b : Bool} {x : Option α} {r : α} (h : (bif b then x else none) = some r) : x = some r := by
 cases b with
 | false => simp at h
 | true => simpa using h
theorem layM_quiet {st : St} {t : TypeId} {x k v : V} {res : Res} (hq : quiet v = true) (h : layM P t st x k v = some res) :
  ∃ h', res = .val (.tuple []) { st with hp := h' } ∧ ∀ st2 : St, st.hp = st2.hp → layM P t st2 x k v = some (.val (.tuple []) { st2 with hp := h' }) := by
 unfold layM at h
 split at h
 ·rename_i r v' st1 hexp
  obtain ⟨rfl, hex2⟩ := exp_quiet hq hexp
  split at h
  ·rename_i ks vs kt et hrow hu
   have hb := h
   cases hf : keyFits P kt k with
   | false => simp [hf] at h
   | true =>
    simp only [hf, cond_true] at h
    split at h
    ·rename_i j hfind
     simp only [Option.some.injEq] at h
     subst h
     refine ⟨_, rfl, fun st2 hh => ?_⟩
     unfold layM
     rw [hex2 st2]
     simp only [← hh, hrow, hu, hf, cond_true, hfind]
     simp only [setRow, ← hh]
    ·rename_i hfind
     simp only [Option.some.injEq] at h
     subst h
     refine ⟨_, rfl, fun st2 hh => ?_⟩
     unfold layM
     rw [hex2 st2]
     simp only [← hh, hrow, hu, hf, cond_true, hfind]
     simp only [setRow, ← hh]
    ·simp at h
  ·simp at h
 ·simp at h
theorem oneV_local {call : CallF} {st st' : St} {o : Oper} {ft : Foot} (hf : footV P C gl st.ρ st.lc o = some ft) {ex : Ex} (hr : oneV P C call gl st o = some (ex, st')) (hex : ex = .normal) :
  ∃ e : Eff, st' = e.on st o.dst ∧ (∀ u ∈ e.row, u.1 ∈ ft.wr) ∧ (∀ h, e.hp = some h → ft.hp = true) ∧
   ∀ st2 : St, Agree st.ρ st2.ρ o → AgreeAt st.lc st2.lc ft.rd → (ft.hr = true → st.hp = st2.hp) → oneV P C call gl st2 o = some (.normal, e.on st2 o.dst) ∧ footV P C gl st2.ρ st2.lc o = some ft := by
 subst hex
 cases hl : locV P C gl st.ρ st.lc o with
 | some p =>
  obtain ⟨v, u⟩ := p
  have e0 : st' = Eff.on ⟨v, u.toList, none⟩ st o.dst := by
   simp only [oneV, stepV, hl] at hr
   simp at hr
   rw [← hr]
   unfold Eff.on
   cases u with
   | none => rfl
   | some q => rfl
  have hft : ∀ q ∈ u.toList, q.1 ∈ ft.wr := by
   unfold footV at hf
   rw [hl] at hf
   cases u with
   | none => intro q hq; simp at hq
   | some q =>
    obtain ⟨s, g, row⟩ := q
    simp only [Option.some.injEq] at hf
    subst hf
    intro q hq
    simp at hq
    subst hq
    simp
  refine ⟨⟨v, u.toList, none⟩, e0, hft, fun h hh => by simp at hh, fun st2 ha hm _ => ?_⟩
  obtain ⟨k1, k2⟩ := locV_congr ha hl hf hm
  refine ⟨?_, k2⟩
  simp only [oneV, stepV, k1]
  unfold Eff.on
  cases u with
  | none => rfl
  | some q => rfl
 | none =>
  unfold footV at hf
  rw [hl] at hf
  simp only [] at hf
  split at hf
  ·rename_i cl ho
   split at hf
   ·rename_i f hcal
    split at hf
    ·rename_i g first caps hfn
     generalize hq : (first.all quiet && (opds st.ρ cl.args.toList).all quiet && caps.all quiet) = q at hf
     cases q with
     | false => simp at hf
     | true =>
      simp only [cond_true, Option.some.injEq] at hf
      subst hf
      simp only [Bool.and_eq_true] at hq
      have hall : (first ++ opds st.ρ cl.args.toList ++ caps).all quiet = true := by
       simp only [List.all_append, Bool.and_eq_true]; exact hq
      have hpure : pureV P C st.ρ o.op = none := by
       unfold locV at hl
       simp only [ho, Option.map_eq_none_iff] at hl
       rw [ho]; exact hl
      cases hexp : exps false st (first ++ opds st.ρ cl.args.toList ++ caps) with
      | none => simp only [oneV, stepV, hl, stepG, ho, callS, hcal, hfn, hexp] at hr; simp at hr
      | some p =>
       obtain ⟨l, st1⟩ := p
       obtain ⟨rfl, hex2⟩ := exps_quiet _ l st st1 hall hexp
       cases hc : call g l st1.hp with
       | none => simp only [oneV, stepV, hl, stepG, ho, callS, hcal, hfn, hexp, hc] at hr; simp at hr
       | some out =>
        cases out with
        | panic v h => simp only [oneV, stepV, hl, stepG, ho, callS, hcal, hfn, hexp, hc] at hr; simp at hr
        | val v h =>
         simp only [oneV, stepV, hl, stepG, ho, callS, hcal, hfn, hexp, hc] at hr
         simp at hr
         refine ⟨⟨v, [], some h⟩, hr.symm, fun u hu => by simp at hu, fun _ _ => rfl, fun st2 ha _ hh => ?_⟩
         have hfo : opd st2.ρ f = .fn (.func g) first caps := by
          rw [← hfn]
          refine (ha f ?_).symm
          simp [ho, Op.operands, Call.operands, hcal]
         have hargs : opds st2.ρ cl.args.toList = opds st1.ρ cl.args.toList := by
          refine (List.map_congr_left (fun x hx => ?_)).symm
          refine ha x ?_
          simp only [ho, Op.operands, Call.operands, Array.toList_append, List.mem_append]
          exact .inr hx
         have hl2 : locV P C gl st2.ρ st2.lc o = none := by
          unfold locV
          simp only [ho, Option.map_eq_none_iff]
          have := pureV_congr (P := P) (C := C) ha
          rw [← ho, ← this]; exact hpure
         have hex3 := hex2 st2
         have hhp := hh rfl
         refine ⟨?_, ?_⟩
         ·simp only [oneV, stepV, hl2, stepG, ho, callS, hcal, hfo, hargs, hex3, ← hhp, hc]
          rfl
         ·unfold footV
          rw [hl2]
          simp only [ho, hcal, hfo, hargs]
          rw [hq.1.1, hq.1.2, hq.2]; rfl
    ·simp at hf
   ·rename_i hcal
    unfold appFoot at hf
    split at hf
    ·rename_i d x y hd hargs
     cases hgl : gl d with
     | true =>
      simp only [hgl, cond_true] at hf
      cases hfx : farX (opd st.ρ x) with
      | false => simp [hfx] at hf
      | true =>
       simp only [hfx, cond_true, Option.some.injEq] at hf
       subst hf
       have hpure : pureV P C st.ρ o.op = none := by
        unfold locV at hl
        simp only [ho, Option.map_eq_none_iff] at hl
        rw [ho]; exact hl
       simp only [oneV, stepV, hl] at hr
       cases hsg : stepG P C gl st o with
       | none => rw [hsg] at hr; simp at hr
       | some res =>
        have hsg0 := hsg
        simp only [stepG, ho, callS, hcal, hd, opds, hargs, List.map_cons, List.map_nil] at hsg
        split at hsg
        ·rename_i t d' h0 hd'
         simp at hd'
         subst hd'
         generalize hni : notInt P cl.argTypes[1]? = q at hsg
         cases q with
         | false => simp at hsg
         | true =>
          simp only [cond_true] at hsg
          have key : ∀ st2 : St, Agree st.ρ st2.ρ o → opd st2.ρ x = opd st.ρ x ∧ opd st2.ρ y = opd st.ρ y := by
           intro st2 ha
           refine ⟨(ha x ?_).symm, (ha y ?_).symm⟩
           ·simp only [ho, Op.operands, Call.operands, Array.toList_append, List.mem_append]
            right; rw [hargs]; simp
           ·simp only [ho, Op.operands, Call.operands, Array.toList_append, List.mem_append]
            right; rw [hargs]; simp
          obtain ⟨v, h', k1, e3⟩ := appendV_far hgl hfx hsg
          subst k1
          rw [hsg0] at hr
          simp at hr
          refine ⟨⟨v, [], some h'⟩, hr.symm, fun u hu => by simp at hu, fun _ _ => rfl, fun st2 ha hm hh => ?_⟩
          obtain ⟨hx2, hy2⟩ := key st2 ha
          have hhp := hh rfl
          have hl2 : locV P C gl st2.ρ st2.lc o = none := by
           unfold locV
           simp only [ho, Option.map_eq_none_iff]
           have := pureV_congr (P := P) (C := C) ha
           rw [← ho, ← this]; exact hpure
          refine ⟨?_, ?_⟩
          ·simp only [oneV, stepV, hl2, stepG, ho, callS, hcal, hd, opds, hargs, List.map_cons, List.map_nil, h0, hni, cond_true, hx2, hy2, e3 st2 hm hhp]
           rfl
          ·unfold footV
           rw [hl2]
           simp only [ho, hcal, appFoot, hd, hargs, hx2, hy2, hgl, hfx, cond_true]
        ·rename_i hd'; simp at hd'
        ·simp at hsg
     | false =>
      simp only [hgl, cond_false] at hf
      split at hf
      ·rename_i sa sb hsa hsb
       simp only [Option.some.injEq] at hf
       subst hf
       have hpure : pureV P C st.ρ o.op = none := by
        unfold locV at hl
        simp only [ho, Option.map_eq_none_iff] at hl
        rw [ho]; exact hl
       simp only [oneV, stepV, hl] at hr
       cases hsg : stepG P C gl st o with
       | none => rw [hsg] at hr; simp at hr
       | some res =>
        have hsg0 := hsg
        simp only [stepG, ho, callS, hcal, hd, opds, hargs, List.map_cons, List.map_nil] at hsg
        split at hsg
        ·rename_i t d' h0 hd'
         simp at hd'
         subst hd'
         generalize hni : notInt P cl.argTypes[1]? = q at hsg
         cases q with
         | false => simp at hsg
         | true =>
          simp only [cond_true] at hsg
          have key : ∀ st2 : St, Agree st.ρ st2.ρ o → AgreeAt st.lc st2.lc (d :: (sa ++ sb)) → opd st2.ρ x = opd st.ρ x ∧ opd st2.ρ y = opd st.ρ y ∧ st.lc d = st2.lc d ∧ (∀ s ∈ sa, st.lc s = st2.lc s) ∧ (∀ s ∈ sb, st.lc s = st2.lc s) := by
           intro st2 ha hm
           refine ⟨(ha x ?_).symm, (ha y ?_).symm, hm d (by simp), fun s hs => hm s (by simp [hs]), fun s hs => hm s (by simp [hs])⟩
           ·simp only [ho, Op.operands, Call.operands, Array.toList_append, List.mem_append]
            right; rw [hargs]; simp
           ·simp only [ho, Op.operands, Call.operands, Array.toList_append, List.mem_append]
            right; rw [hargs]; simp
          obtain ⟨v, rows, k1, k2, e3⟩ := appendV_local hgl hsa hsb hsg
          subst k1
          rw [hsg0] at hr
          simp at hr
          refine ⟨⟨v, rows, none⟩, ?_, k2, fun h hh => by simp at hh, fun st2 ha hm _ => ?_⟩
          ·rw [← hr]
           unfold Eff.on
           simp only [Option.getD_none, applyLs_hp]
           rw [← applyLs_hp st rows]
          ·obtain ⟨hx2, hy2, h2d, h2a, h2b⟩ := key st2 ha hm
           have hl2 : locV P C gl st2.ρ st2.lc o = none := by
            unfold locV
            simp only [ho, Option.map_eq_none_iff]
            have := pureV_congr (P := P) (C := C) ha
            rw [← ho, ← this]; exact hpure
           refine ⟨?_, ?_⟩
           ·simp only [oneV, stepV, hl2, stepG, ho, callS, hcal, hd, opds, hargs, List.map_cons, List.map_nil, h0, hni, cond_true, hx2, hy2, e3 st2 h2d h2a h2b]
            unfold Eff.on
            simp only [Option.getD_none, applyLs_hp]
            rw [← applyLs_hp st2 rows]
           ·unfold footV
            rw [hl2]
            simp only [ho, hcal, appFoot, hd, hargs, hx2, hy2, hsa, hsb, hgl, cond_false]
        ·rename_i hd'; simp at hd'
        ·simp at hsg
      ·simp at hf
    ·simp at hf
   ·simp at hf
  ·rename_i t x ho
   split at hf
   ·rename_i r off hx
    simp only [Option.some.injEq] at hf
    subst hf
    cases hrow : st.hp.rows[r]? with
    | none => simp only [oneV, stepV, hl, stepG, ho, hx, hrow] at hr; simp at hr
    | some row =>
     cases row with
     | cells frz cs =>
      cases hp : partV P t cs off with
      | none => simp only [oneV, stepV, hl, stepG, ho, hx, hrow, hp] at hr; simp at hr
      | some v =>
       simp only [oneV, stepV, hl, stepG, ho, hx, hrow, hp, Option.map_some] at hr
       simp at hr
       refine ⟨⟨v, [], none⟩, hr.symm, fun u hu => by simp at hu, fun h hh => by simp at hh, fun st2 ha _ hh => ?_⟩
       have hx2 : opd st2.ρ x = .ptr (.glob r) off := by rw [← hx]; exact (ha x (by simp [ho, Op.operands])).symm
       have hhp := hh rfl
       have hl2 : locV P C gl st2.ρ st2.lc o = none := by unfold locV; simp only [ho, hx2]
       refine ⟨?_, ?_⟩
       ·simp only [oneV, stepV, hl2, stepG, ho, hx2, ← hhp, hrow, hp, Option.map_some]
        rfl
       ·unfold footV
        rw [hl2]
        simp only [ho, hx2]
     | _ => simp only [oneV, stepV, hl, stepG, ho, hx, hrow] at hr; simp at hr
   ·simp at hf
  ·rename_i t y x ho
   split at hf
   ·rename_i r off hy
    cases hq : quiet (opd st.ρ x) with
    | false => simp [hq] at hf
    | true =>
     simp only [hq, cond_true, Option.some.injEq] at hf
     subst hf
     have fin : ∀ cs cs' v, st.hp.rows[r]? = some (.cells false cs) → exp false st (opd st.ρ x) = some (v, st) → (v.cells.all V.cellOk && lenIs P t v.cells.length) = true → setAt cs off v.cells = some cs' →
       ∀ st2 : St, opd st2.ρ y = .ptr (.glob r) off → opd st2.ρ x = opd st.ρ x → st.hp = st2.hp → (∀ st3, exp false st3 (opd st.ρ x) = some (v, st3)) →
        stepG P C gl st2 o = some (.val (.tuple []) (setRow st2 (.glob r) (.cells false cs'))) := by
      intro cs cs' v hrow hexp hb hset st2 hy2 hx2 hhp hex2
      have hrow2 : st2.hp.rows[r]? = some (.cells false cs) := by rw [← hhp]; exact hrow
      simp only [stepG, ho, hy2, hx2, hrow2, hex2 st2, hb, cond_true, hset]
     have hl2 : ∀ st2 : St, opd st2.ρ y = .ptr (.glob r) off → locV P C gl st2.ρ st2.lc o = none := fun st2 hy2 => by
      unfold locV; simp only [ho, hy2]
     simp only [oneV, stepV, hl] at hr
     cases hsg : stepG P C gl st o with
     | none => rw [hsg] at hr; simp at hr
     | some res =>
      have hsg0 := hsg
      simp only [stepG, ho, hy] at hsg
      split at hsg
      ·rename_i cs0 v st1 hrow0 hexp
       obtain ⟨rfl, hex2⟩ := exp_quiet hq hexp
       split at hsg
       ·rename_i cs hrow
        cases hb : (v.cells.all V.cellOk && lenIs P t v.cells.length) with
        | false => simp [hb] at hsg
        | true =>
         simp only [hb, cond_true] at hsg
         split at hsg
         ·rename_i cs' hset
          simp only [Option.some.injEq] at hsg
          subst hsg
          rw [hsg0] at hr
          simp at hr
          refine ⟨⟨.tuple [], [], some (setRow st1 (.glob r) (.cells false cs')).hp⟩, hr.symm, fun u hu => by simp at hu, fun _ _ => rfl, fun st2 ha _ hh => ?_⟩
          have hy2 : opd st2.ρ y = .ptr (.glob r) off := by rw [← hy]; exact (ha y (by simp [ho, Op.operands])).symm
          have hx2 : opd st2.ρ x = opd st1.ρ x := (ha x (by simp [ho, Op.operands])).symm
          have hhp := hh rfl
          refine ⟨?_, ?_⟩
          ·simp only [oneV, stepV, hl2 st2 hy2, fin cs cs' v hrow hexp hb hset st2 hy2 hx2 hhp hex2]
           unfold Eff.on
           simp only [applyLs, Option.getD_some, setRow, hhp]
          ·unfold footV
           rw [hl2 st2 hy2]
           simp only [ho, hy2, hx2, hq, cond_true]
         ·simp at hsg
       ·simp at hsg
      ·simp at hsg
   ·simp at hf
  ·rename_i t ho
   simp only [Option.some.injEq] at hf
   subst hf
   simp only [oneV, stepV, hl] at hr
   cases hd : o.dst with
   | none => simp [stepG, ho, hd] at hr
   | some d =>
    cases hgl : gl d with
    | false =>
     simp only [stepG, ho, hd, hgl, Bool.false_and, cond_false] at hr
     split at hr
     ·rename_i hq
      split at hq <;> simp at hq
     ·rename_i hq
      split at hq <;> simp at hq
     ·rename_i hq
      split at hq <;> simp at hq
     ·simp at hr
    | true =>
     cases hsg : stepG P C gl st o with
     | none => rw [hsg] at hr; simp at hr
     | some res =>
      have hsg0 := hsg
      simp only [stepG, ho, hd, hgl, Bool.true_and] at hsg
      split at hsg
      ·rename_i z n hz hn
       cases hb : (z.live && Nat.beq z.cells.length n) with
       | false => simp [hb] at hsg
       | true =>
        simp only [hb, cond_true, addRow, Option.some.injEq] at hsg
        subst hsg
        rw [hsg0] at hr
        simp at hr
        have hl2 : ∀ st2 : St, locV P C gl st2.ρ st2.lc o = none := fun st2 => by unfold locV; simp only [ho, hd, hgl, cond_true]
        refine ⟨⟨_, [], some _⟩, by rw [← hr, ← hd]; rfl, fun u hu => by simp at hu, fun _ _ => rfl, fun st2 ha _ hh => ?_⟩
        have hhp := hh rfl
        refine ⟨?_, ?_⟩
        ·simp only [oneV, stepV, hl2 st2, stepG, ho, hd, hgl, hz, hn, hb, Bool.true_and, cond_true, addRow, ← hhp]
         rfl
        ·unfold footV
         rw [hl2 st2]
         simp only [ho]
      ·simp at hsg
  ·rename_i t x ho
   cases hq : quiet (opd st.ρ x) with
   | false => simp [hq] at hf
   | true =>
    simp only [hq, cond_true, Option.some.injEq] at hf
    subst hf
    simp only [oneV, stepV, hl] at hr
    cases hsg : stepG P C gl st o with
    | none => rw [hsg] at hr; simp at hr
    | some res =>
     have hsg0 := hsg
     cases hd : o.dst with
     | none => simp [stepG, ho, hd] at hsg
     | some d =>
      simp only [stepG, ho, hd] at hsg
      split at hsg
      ·rename_i v st1 hexp
       obtain ⟨rfl, hex2⟩ := exp_quiet hq hexp
       cases hgl : gl d with
       | false => simp [hgl] at hsg
       | true =>
        simp only [hgl, cond_true, addRow, Option.some.injEq] at hsg
        subst hsg
        rw [hsg0] at hr
        simp at hr
        have hl2 : ∀ st2 : St, opd st2.ρ x = opd st1.ρ x → locV P C gl st2.ρ st2.lc o = none := fun st2 e => by
         unfold locV at hl ⊢
         simp only [ho, hd, hgl, Bool.true_or, cond_true, e] at hl ⊢
         exact hl
        refine ⟨⟨_, [], some _⟩, by rw [← hr, ← hd]; rfl, fun u hu => by simp at hu, fun _ _ => rfl, fun st2 ha _ hh => ?_⟩
        have hhp := hh rfl
        have hx2 : opd st2.ρ x = opd st1.ρ x := (ha x (by simp [ho, Op.operands])).symm
        refine ⟨?_, ?_⟩
        ·simp only [oneV, stepV, hl2 st2 hx2, stepG, ho, hd, hgl, hx2, hex2 st2, cond_true, addRow, ← hhp]
         rfl
        ·unfold footV
         rw [hl2 st2 hx2]
         simp only [ho, hx2, hq, cond_true]
      ·simp at hsg
  ·rename_i x ho
   exfalso
   simp only [oneV, stepV, hl] at hr
   cases hsg : stepG P C gl st o with
   | none => rw [hsg] at hr; simp at hr
   | some res =>
    have hsg0 := hsg
    simp only [stepG, ho] at hsg
    split at hsg
    ·have := stl_some' hsg
     simp at this
     subst this
     rw [hsg0] at hr
     simp at hr
    ·simp at hsg
  ·rename_i s0 t x ho
   unfold convFoot at hf
   split at hf
   ·rename_i s g off len lim sz ag hu hx
    simp only [Option.some.injEq] at hf
    subst hf
    have hpure : pureV P C st.ρ o.op = none := by
     unfold locV at hl
     simp only [ho, Option.map_eq_none_iff] at hl
     rw [ho]; exact hl
    simp only [oneV, stepV, hl] at hr
    cases hsg : stepG P C gl st o with
    | none => rw [hsg] at hr; simp at hr
    | some res =>
     have hsg0 := hsg
     cases hd : o.dst with
     | none => simp [stepG, ho, hd] at hsg
     | some d =>
      have key : ∀ st2 : St, opd st2.ρ x = opd st.ρ x → itemsOf st2 (opd st.ρ x) = itemsOf st (opd st.ρ x) → ∃ v, res = .val v st ∧ stepG P C gl st2 o = some (.val v st2) := by
       intro st2 hx2 hi2
       simp only [stepG, ho, hd, convS, hu, hx] at hsg
       simp only [stepG, ho, hd, convS, hu, hx2]
       rw [hx] at hi2 ⊢
       split at hsg
       ·rename_i e h1 h2
        split at hsg
        ·rename_i h3
         split at hsg
         ·rename_i l hl3
          simp only [Option.map_eq_some_iff] at hsg
          obtain ⟨b, hb, rfl⟩ := hsg
          refine ⟨_, rfl, ?_⟩
          simp only [h3, hi2, hl3, hb, Option.map_some]
         ·simp at hsg
        ·simp at hsg
       ·rename_i h2; simp at h2
       ·simp at hsg
      obtain ⟨v, rfl, _⟩ := key st rfl rfl
      rw [hsg0] at hr
      simp at hr
      refine ⟨⟨v, [], none⟩, by rw [← hr, ← hd]; rfl, fun u hu => by simp at hu, fun h hh => by simp at hh, fun st2 ha hm _ => ?_⟩
      have hx2 : opd st2.ρ x = opd st.ρ x := (ha x (by simp [ho, Op.operands])).symm
      have hl2 : locV P C gl st2.ρ st2.lc o = none := by
       unfold locV
       simp only [ho, Option.map_eq_none_iff]
       have := pureV_congr (P := P) (C := C) ha
       rw [← ho, ← this]; exact hpure
      obtain ⟨v', e1, e2⟩ := key st2 hx2 (itemsOf_congr (b := [s]) (by rw [hx]; rfl) (fun q hq => hm q hq))
      obtain rfl : v = v' := by simpa using e1
      refine ⟨?_, ?_⟩
      ·simp only [oneV, stepV, hl2, e2, hd]
       rfl
      ·unfold footV
       rw [hl2]
       simp only [ho, hu, hx2, hx, convFoot]
   ·simp at hf
  ·rename_i t rs ho
   simp only [Option.some.injEq] at hf
   subst hf
   have hl2 : ∀ st2 : St, locV P C gl st2.ρ st2.lc o = none := fun st2 => by unfold locV; simp only [ho, pureV, Option.map_none]
   cases rs with
   | some x => simp [oneV, stepV, hl, stepG, ho] at hr
   | none =>
    cases hd : o.dst with
    | none => simp [oneV, stepV, hl, stepG, ho, hd] at hr
    | some d =>
     simp only [oneV, stepV, hl, stepG, ho, hd, addRow, cond_true] at hr
     simp at hr
     refine ⟨⟨_, [], some _⟩, by rw [← hr]; rfl, fun u hu => by simp at hu, fun _ _ => rfl, fun st2 ha _ hh => ?_⟩
     have hhp := hh rfl
     refine ⟨?_, ?_⟩
     ·simp only [oneV, stepV, hl2 st2, stepG, ho, hd, addRow, cond_true, ← hhp]
      rfl
     ·unfold footV
      rw [hl2 st2]
      simp only [ho]
  ·rename_i t y z b ho
   simp only [Option.some.injEq] at hf
   subst hf
   have hl2 : ∀ st2 : St, locV P C gl st2.ρ st2.lc o = none := fun st2 => by unfold locV; simp only [ho, pureV, Option.map_none]
   simp only [oneV, stepV, hl, stepG, ho] at hr
   cases hv : lookV P t st.hp (opd st.ρ y) (opd st.ρ z) b with
   | none => rw [hv] at hr; simp at hr
   | some v =>
    rw [hv] at hr
    simp at hr
    refine ⟨⟨v, [], none⟩, hr.symm, fun u hu => by simp at hu, fun h hh => by simp at hh, fun st2 ha _ hh => ?_⟩
    have hhp := hh rfl
    have h1 : opd st2.ρ y = opd st.ρ y := (ha y (by simp [ho, Op.operands])).symm
    have h2 : opd st2.ρ z = opd st.ρ z := (ha z (by simp [ho, Op.operands])).symm
    refine ⟨?_, ?_⟩
    ·simp only [oneV, stepV, hl2, stepG, ho, h1, h2, ← hhp, hv, Option.map_some]
     rfl
    ·unfold footV
     rw [hl2]
     simp only [ho]
  ·rename_i t m k x ho
   cases hq : quiet (opd st.ρ x) with
   | false => simp [hq] at hf
   | true =>
    simp only [hq, cond_true, Option.some.injEq] at hf
    subst hf
    simp only [oneV, stepV, hl] at hr
    cases hsg : stepG P C gl st o with
    | none => rw [hsg] at hr; simp at hr
    | some res =>
     have hsg0 := hsg
     simp only [stepG, ho] at hsg
     obtain ⟨h', rfl, hall⟩ := layM_quiet hq hsg
     rw [hsg0] at hr
     simp at hr
     have hl2 : ∀ st2 : St, locV P C gl st2.ρ st2.lc o = none := fun st2 => by unfold locV; simp only [ho, pureV, Option.map_none]
     refine ⟨⟨_, [], some h'⟩, hr.symm, fun u hu => by simp at hu, fun _ _ => rfl, fun st2 ha _ hh => ?_⟩
     have hhp := hh rfl
     have h1 : opd st2.ρ m = opd st.ρ m := (ha m (by simp [ho, Op.operands])).symm
     have h2 : opd st2.ρ k = opd st.ρ k := (ha k (by simp [ho, Op.operands])).symm
     have h3 : opd st2.ρ x = opd st.ρ x := (ha x (by simp [ho, Op.operands])).symm
     refine ⟨?_, ?_⟩
     ·simp only [oneV, stepV, hl2 st2, stepG, ho, h1, h2, h3, hall st2 hhp]
      rfl
     ·unfold footV
      rw [hl2 st2]
      simp only [ho, h3, hq, cond_true]
  ·rename_i t m k x ho
   cases hq : quiet (opd st.ρ x) with
   | false => simp [hq] at hf
   | true =>
    simp only [hq, cond_true, Option.some.injEq] at hf
    subst hf
    simp only [oneV, stepV, hl] at hr
    cases hsg : stepG P C gl st o with
    | none => rw [hsg] at hr; simp at hr
    | some res =>
     have hsg0 := hsg
     simp only [stepG, ho] at hsg
     obtain ⟨h', rfl, hall⟩ := layM_quiet hq hsg
     rw [hsg0] at hr
     simp at hr
     have hl2 : ∀ st2 : St, locV P C gl st2.ρ st2.lc o = none := fun st2 => by unfold locV; simp only [ho, pureV, Option.map_none]
     refine ⟨⟨_, [], some h'⟩, hr.symm, fun u hu => by simp at hu, fun _ _ => rfl, fun st2 ha _ hh => ?_⟩
     have hhp := hh rfl
     have h1 : opd st2.ρ m = opd st.ρ m := (ha m (by simp [ho, Op.operands])).symm
     have h2 : opd st2.ρ k = opd st.ρ k := (ha k (by simp [ho, Op.operands])).symm
     have h3 : opd st2.ρ x = opd st.ρ x := (ha x (by simp [ho, Op.operands])).symm
     refine ⟨?_, ?_⟩
     ·simp only [oneV, stepV, hl2 st2, stepG, ho, h1, h2, h3, hall st2 hhp]
      rfl
     ·unfold footV
      rw [hl2 st2]
      simp only [ho, h3, hq, cond_true]
  ·simp at hf
theorem oneV_stop {call : CallF} {st st' : St} {o : Oper} {ft : Foot} (hs : stopOp o = true) (hf : footV P C gl st.ρ st.lc o = some ft) {v : V} (hr : oneV P C call gl st o = some (.panic v, st')) :
  ft.wr = [] ∧ ft.hr = true ∧ ∀ st2 : St, Agree st.ρ st2.ρ o → st.hp = st2.hp → oneV P C call gl st2 o = some (.panic v, { st2 with hp := st'.hp }) := by
 cases hl : locV P C gl st.ρ st.lc o with
 | some p =>
  obtain ⟨v, u⟩ := p
  simp only [oneV, stepV, hl] at hr
  simp at hr
 | none =>
  unfold footV at hf
  rw [hl] at hf
  simp only [] at hf
  unfold stopOp at hs
  cases ho : o.op with
  | call cl =>
   rw [ho] at hs
   simp only [ho] at hf
   cases hcal : cl.callee with
   | value f =>
    simp only [hcal] at hf
    split at hf
    ·rename_i g first caps hfn
     generalize hq : (first.all quiet && (opds st.ρ cl.args.toList).all quiet && caps.all quiet) = q at hf
     cases q with
     | false => simp at hf
     | true =>
      simp only [cond_true, Option.some.injEq] at hf
      subst hf
      simp only [Bool.and_eq_true] at hq
      have hall : (first ++ opds st.ρ cl.args.toList ++ caps).all quiet = true := by
       simp only [List.all_append, Bool.and_eq_true]; exact hq
      have hpure : pureV P C st.ρ o.op = none := by
       unfold locV at hl
       simp only [ho, Option.map_eq_none_iff] at hl
       rw [ho]; exact hl
      cases hexp : exps false st (first ++ opds st.ρ cl.args.toList ++ caps) with
      | none => simp only [oneV, stepV, hl, stepG, ho, callS, hcal, hfn, hexp] at hr; simp at hr
      | some p =>
       obtain ⟨l, st1⟩ := p
       obtain ⟨rfl, hex2⟩ := exps_quiet _ l st st1 hall hexp
       cases hc : call g l st1.hp with
       | none => simp only [oneV, stepV, hl, stepG, ho, callS, hcal, hfn, hexp, hc] at hr; simp at hr
       | some out =>
        cases out with
        | val v h => simp only [oneV, stepV, hl, stepG, ho, callS, hcal, hfn, hexp, hc] at hr; simp at hr
        | panic v' h =>
         simp only [oneV, stepV, hl, stepG, ho, callS, hcal, hfn, hexp, hc] at hr
         simp at hr
         obtain ⟨rfl, rfl⟩ := hr
         refine ⟨rfl, rfl, fun st2 ha hhp => ?_⟩
         have hfo : opd st2.ρ f = .fn (.func g) first caps := by
          rw [← hfn]
          refine (ha f ?_).symm
          simp [ho, Op.operands, Call.operands, hcal]
         have hargs : opds st2.ρ cl.args.toList = opds st1.ρ cl.args.toList := by
          refine (List.map_congr_left (fun x hx => ?_)).symm
          refine ha x ?_
          simp only [ho, Op.operands, Call.operands, Array.toList_append, List.mem_append]
          exact .inr hx
         have hl2 : locV P C gl st2.ρ st2.lc o = none := by
          unfold locV
          simp only [ho, Option.map_eq_none_iff]
          have := pureV_congr (P := P) (C := C) ha
          rw [← ho, ← this]; exact hpure
         have hex3 := hex2 st2
         simp only [oneV, stepV, hl2, stepG, ho, callS, hcal, hfo, hargs, hex3, ← hhp, hc]
    ·simp at hf
   | builtin b => simp [hcal] at hs
   | invoke a b => simp [hcal] at hs
  | panic x =>
   simp only [ho, Option.some.injEq] at hf
   subst hf
   refine ⟨rfl, rfl, fun st2 ha hhp => ?_⟩
   have hx2 : opd st2.ρ x = opd st.ρ x := (ha x (by simp [ho, Op.operands])).symm
   have hl2 : locV P C gl st2.ρ st2.lc o = none := by
    unfold locV
    simp only [ho, pureV, Option.map_none]
   simp only [oneV, stepV, hl] at hr
   simp only [oneV, stepV, hl2]
   simp only [stepG, ho] at hr
   simp only [stepG, ho, hx2]
   split at hr
   ·rename_i v1 st1 heq
    split at heq
    ·rename_i t u _
     have := stl_some' heq
     simp at this
    ·simp at heq
   ·rename_i f args st1 heq
    split at heq
    ·have := stl_some' heq
     simp at this
    ·simp at heq
   ·rename_i v1 st1 heq
    split at heq
    ·rename_i t u hop
     have hb : u.noLoc = true := by
      cases hq : u.noLoc with
      | true => rfl
      | false => simp [hq] at heq
     have := stl_some' heq
     simp at this
     obtain ⟨rfl, rfl⟩ := this
     simp at hr
     obtain ⟨rfl, rfl⟩ := hr
     simp only [hop, hb, cond_true]
     rw [hhp]
    ·simp at heq
   ·simp at hr
  | _ => rw [ho] at hs; simp at hs
end
end Go.AM
end

section
namespace Go.AM
open Go
def lastW {α : Type} (S : Nat → Bool) (w : Nat → Option α) (d : α) : Nat → α
 | 0 => d
 | k + 1 => match S k, w k with
  | true, some a => a
  | _, _ => lastW S w d k
theorem lastW_congr {α : Type} {S S' : Nat → Bool} {w : Nat → Option α} {d : α} : ∀ n, (∀ k, k < n → (w k).isSome = true → S k = S' k) → lastW S w d n = lastW S' w d n
 | 0, _ => rfl
 | n + 1, h => by
  have ih := lastW_congr (d := d) n (fun k hk => h k (by omega))
  simp only [lastW]
  cases hw : w n with
  | none => cases S n <;> cases S' n <;> exact ih
  | some a =>
   have := h n (by omega) (by rw [hw]; rfl)
   rw [this]
   cases S' n with
   | true => rfl
   | false => exact ih
theorem lastW_insert {α : Type} {S S' : Nat → Bool} {w : Nat → Option α} {d : α} {i : Nat} (hS : ∀ k, S' k = (S k || k == i)) : ∀ n, i < n → S i = false → (∀ k, k < n → i < k → (w k).isSome = true → (w i).isSome = true → S k = false) →
    lastW S' w d n = match w i with | some a => a | none => lastW S w d n
  | 0, h, _, _ => by omega
  | n + 1, hi, hn, hl => by
    by_cases e : i = n
    · subst e
      simp only [lastW, hS]
      cases hw : w i with
      | some a => simp
      | none =>
        have : lastW S' w d i = lastW S w d i := lastW_congr i (fun k hk _ => by rw [hS]; have : (k == i) = false := by simp; omega
                                                                                 rw [this]; simp)
        simp [hn, this]
    · have ih := lastW_insert (d := d) hS n (by omega) hn (fun k hk => hl k (by omega))
      have hni : (n == i) = false := by simp; omega
      simp only [lastW, hS, hni, Bool.or_false]
      cases hw : w n with
      | none => cases S n <;> exact ih
      | some a =>
        cases hs : S n with
        | false => exact ih
        | true =>
          cases hwi : w i with
          | none => rfl
          | some b =>
            have := hl n (by omega) (by omega) (by rw [hw]; rfl) (by rw [hwi]; rfl)
            rw [hs] at this; simp at this
theorem lastW_all {α : Type} {S : Nat → Bool} {w : Nat → Option α} {d : α} (n : Nat) (h : ∀ k, k < n → S k = true) : lastW S w d n = lastW (fun _ => true) w d n :=
 lastW_congr n (fun k hk _ => h k hk)
inductive Prec (ops : Array Oper) : Nat → Nat → Prop
 | edge {i j : Nat} {o : Oper} {e : Edge} (ho : ops[j]? = some o) (he : e ∈ o.after.toList) (hb : Region.binds .any e = true) (hi : e.on = i) : Prec ops i j
 | step {i k j : Nat} {o : Oper} {e : Edge} (ho : ops[j]? = some o) (he : e ∈ o.after.toList) (hb : Region.binds .any e = true) (hk : e.on = k) (hp : Prec ops i k) : Prec ops i j
theorem Prec.closed {ops : Array Oper} {S : Nat → Bool} (hc : ∀ j o e, ops[j]? = some o → S j = true → e ∈ o.after.toList → Region.binds .any e = true → S e.on = true) {i j : Nat} (h : Prec ops i j) : S j = true → S i = true := by
 induction h with
 | edge ho he hb hi => intro hj; subst hi; exact hc _ _ _ ho hj he hb
 | step ho he hb hk hp ih => intro hj; subst hk; exact ih (hc _ _ _ ho hj he hb)
theorem maskOf_spec {acc : List Nat} {i : Nat} : ∀ (l : List Edge), (maskOf acc l).testBit i = true → ∃ e ∈ l, Region.binds .any e = true ∧ (e.on = i ∨ (acc.getD e.on 0).testBit i = true)
 | [], h => by simp [maskOf] at h
 | e :: l, h => by
  simp only [maskOf] at h
  cases hb : Region.binds .any e with
  | false =>
   simp only [hb, cond_false] at h
   obtain ⟨e', h1, h2⟩ := maskOf_spec l h
   exact ⟨e', by simp [h1], h2⟩
  | true =>
   simp only [hb, cond_true, Nat.testBit_or, Bool.or_eq_true] at h
   rcases h with (h | h) | h
   ·refine ⟨e, by simp, hb, .inl ?_⟩
    simp only [Nat.testBit_shiftLeft, Bool.and_eq_true, decide_eq_true_eq] at h
    have h2 := h.2
    rcases Nat.eq_zero_or_pos (i - e.on) with h0 | h0
    ·omega
    ·rw [show (1 : Nat) = 2 ^ 0 from rfl, Nat.testBit_two_pow] at h2
     simp at h2; omega
   ·exact ⟨e, by simp, hb, .inr h⟩
   ·obtain ⟨e', h1, h2⟩ := maskOf_spec l h
    exact ⟨e', by simp [h1], h2⟩
end Go.AM
end

section
namespace Go.AM
open Go
theorem masks_spec {ops : Array Oper} : ∀ (l : List Oper) (pre : List Oper) (acc : List Nat), ops.toList = pre ++ l → acc.length = pre.length →
  (∀ j i, (acc.getD j 0).testBit i = true → Prec ops i j) → ∀ j i, ((masks l acc).getD j 0).testBit i = true → Prec ops i j
 | [], pre, acc, h, hl, hg => hg
 | o :: l, pre, acc, h, hl, hg => by
  refine masks_spec l (pre ++ [o]) (acc ++ [maskOf acc o.after.toList]) (by rw [h]; simp) (by simp [hl]) (fun j i hb => ?_)
  rw [List.getD_eq_getElem?_getD, List.getElem?_append] at hb
  split at hb
  ·exact hg j i (by rw [List.getD_eq_getElem?_getD]; exact hb)
  ·rename_i hlt
   have ho : ops[acc.length]? = some o := by
    have : ops.toList[acc.length]? = some o := by rw [h, hl]; simp
    simpa using this
   rcases Nat.eq_or_lt_of_le (Nat.not_lt.1 hlt) with h0 | h0
   ·subst h0
    simp only [Nat.sub_self, List.getElem?_cons_zero, Option.getD_some] at hb
    obtain ⟨e, he, hbind, hor⟩ := maskOf_spec _ hb
    rcases hor with h1 | h1
    ·exact .edge ho he hbind h1
    ·exact .step ho he hbind rfl (hg e.on i h1)
   ·rw [List.getElem?_eq_none (by simp; omega)] at hb
    simp at hb
def cls : Op → Nat
 | .load .. => 1
 | .store .. => 2
 | .alloc _ => 2
 | .box .. => 2
 | .range .. => 2
 | .call c => (match c.callee with
  | .value _ => 3
  | .builtin .append => 4
  | _ => 0)
 | .panic _ => 3
 | .convert .. => 1
 | .makeMap _ _ => 2
 | .lookup .. => 1
 | .mapUpdate .. => 2
 | .insert .. => 2
 | _ => 0
def calm : Nat → Nat → Bool
 | 0, _ => true
 | _, 0 => true
 | 1, 1 => true
 | 3, 1 => true
 | 3, 2 => true
 | 1, 3 => true
 | 2, 3 => true
 | 3, 4 => true
 | 4, 3 => true
 | _, _ => false
section
variable {P : Program} {C : Cfg} {gl : Nat → Bool} {ρ σ : Nat → V} {l m : Nat → Nat × Row}
theorem cls_foot {o : Oper} {ft : Foot} (h : footV P C gl ρ l o = some ft) :
  (cls o.op = 0 → ft = ⟨[], [], false, false, false, false⟩) ∧ (cls o.op = 1 → ft.wr = [] ∧ ft.hp = false) ∧ (cls o.op = 3 → ft = ⟨[], [], true, true, false, false⟩) ∧ (ft.far o = false → cls o.op ≠ 3 → ft.hr = false ∧ ft.hp = false) ∧ cls o.op ≤ 4 := by
 unfold footV at h
 cases hl : locV P C gl ρ l o with
 | none =>
  rw [hl] at h
  simp only [] at h
  split at h
  ·rename_i cl ho
   split at h
   ·rename_i f hcal
    split at h
    ·generalize (List.all _ quiet && List.all _ quiet && List.all _ quiet) = q at h
     cases q with
     | false => simp at h
     | true =>
      simp only [cond_true, Option.some.injEq] at h
      subst h
      simp [ho, cls, hcal]
    ·simp at h
   ·rename_i hcal
    unfold appFoot at h
    split at h
    ·generalize gl _ = q at h
     cases q with
     | true =>
      simp only [cond_true] at h
      generalize farX _ = q at h
      cases q with
      | false => simp at h
      | true =>
       simp only [cond_true, Option.some.injEq] at h
       subst h
       simp [ho, cls, hcal, Foot.far]
     | false =>
      simp only [cond_false] at h
      split at h
      ·simp only [Option.some.injEq] at h
       subst h
       simp [ho, cls, hcal]
      ·simp at h
    ·simp at h
   ·simp at h
  ·rename_i t x ho
   split at h
   ·simp only [Option.some.injEq] at h
    subst h
    simp [ho, cls, Foot.far]
   ·simp at h
  ·rename_i t y x ho
   split at h
   ·generalize quiet _ = q at h
    cases q with
    | false => simp at h
    | true =>
     simp only [cond_true, Option.some.injEq] at h
     subst h
     simp [ho, cls, Foot.far]
   ·simp at h
  ·rename_i t ho
   simp only [Option.some.injEq] at h
   subst h
   simp [ho, cls, Foot.far]
  ·rename_i t x ho
   generalize quiet _ = q at h
   cases q with
   | false => simp at h
   | true =>
    simp only [cond_true, Option.some.injEq] at h
    subst h
    simp [ho, cls, Foot.far]
  ·rename_i x ho
   simp only [Option.some.injEq] at h
   subst h
   simp [ho, cls, Foot.far]
  ·rename_i s0 t x ho
   unfold convFoot at h
   split at h
   ·simp only [Option.some.injEq] at h
    subst h
    simp [ho, cls]
   ·simp at h
  ·rename_i x rs ho
   simp only [Option.some.injEq] at h
   subst h
   simp [ho, cls, Foot.far]
  ·rename_i x y z q ho
   simp only [Option.some.injEq] at h
   subst h
   simp [ho, cls, Foot.far]
  ·rename_i t x y z ho
   generalize quiet _ = q at h
   cases q with
   | false => simp at h
   | true =>
    simp only [cond_true, Option.some.injEq] at h
    subst h
    simp [ho, cls, Foot.far]
  ·rename_i t x y z ho
   generalize quiet _ = q at h
   cases q with
   | false => simp at h
   | true =>
    simp only [cond_true, Option.some.injEq] at h
    subst h
    simp [ho, cls, Foot.far]
  ·simp at h
 | some p =>
  obtain ⟨v, u⟩ := p
  rw [hl] at h
  unfold locV at hl
  cases ho : o.op with
  | load t y =>
   cases u with
   | none =>
    simp only [ho] at h
    split at h <;> (simp only [Option.some.injEq] at h; subst h; simp [cls])
   | some q =>
    exfalso
    simp only [ho] at hl
    split at hl
    ·split at hl
     ·generalize Nat.beq _ _ = b at hl
      cases b <;> simp at hl
     ·simp at hl
    ·simp at hl
    ·simp at hl
  | store t y z =>
   cases u with
   | none => simp only [ho, Option.some.injEq] at h; subst h; simp [cls]
   | some q => simp only [ho, Option.some.injEq] at h; subst h; simp [cls]
  | alloc t =>
   cases u with
   | none => simp only [ho, Option.some.injEq] at h; subst h; simp [cls]
   | some q => simp only [ho, Option.some.injEq] at h; subst h; simp [cls]
  | box t y =>
   cases u with
   | none => simp only [ho, Option.some.injEq] at h; subst h; simp [cls]
   | some q => simp only [ho, Option.some.injEq] at h; subst h; simp [cls]
  | range t y =>
   cases u with
   | none => simp only [ho, Option.some.injEq] at h; subst h; simp [cls]
   | some q => simp only [ho, Option.some.injEq] at h; subst h; simp [cls]
  | call cl =>
   simp only [ho] at hl
   cases u with
   | some q => simp at hl
   | none =>
    simp only [ho, Option.some.injEq] at h
    subst h
    cases hcal : cl.callee with
    | value f => simp [pureV, hcal] at hl
    | builtin b =>
     cases b with
     | append => simp [pureV, hcal] at hl
     | _ => simp [cls, hcal]
    | _ => simp [cls, hcal]
  | panic y => simp [ho, pureV] at hl
  | _ =>
   simp only [ho] at hl
   cases u with
   | some q => simp at hl
   | none => simp only [ho, Option.some.injEq] at h; subst h; simp [cls]
def FootOf (P : Program) (C : Cfg) (gl : Nat → Bool) (ρ : Nat → V) (l : Nat → Nat × Row) (o : Oper) (ft : Foot) : Prop :=
 ∃ f0, footV P C gl ρ l o = some f0 ∧ (ft = f0 ∨ ft = { f0 with hp := false } ∨ ft = { f0 with sf := true })
theorem cls_footOf {o : Oper} {ft : Foot} (h : FootOf P C gl ρ l o ft) :
  (cls o.op = 0 → ft.rd = [] ∧ ft.wr = [] ∧ ft.hr = false ∧ ft.hp = false) ∧ (cls o.op = 1 → ft.wr = [] ∧ ft.hp = false) ∧ (cls o.op = 3 → ft.rd = [] ∧ ft.wr = []) ∧ (ft.far o = false → cls o.op ≠ 3 → ft.hr = false ∧ ft.hp = false) ∧ cls o.op ≤ 4 := by
 obtain ⟨f0, h, hf⟩ := h
 obtain ⟨a0, a1, a3, a2, a4⟩ := cls_foot h
 rcases hf with rfl | rfl | rfl
 ·exact ⟨fun e => by rw [a0 e]; exact ⟨rfl, rfl, rfl, rfl⟩, a1, fun e => by rw [a3 e]; exact ⟨rfl, rfl⟩, a2, a4⟩
 ·refine ⟨fun e => by rw [a0 e]; exact ⟨rfl, rfl, rfl, rfl⟩, fun e => ⟨(a1 e).1, rfl⟩, fun e => by rw [a3 e]; exact ⟨rfl, rfl⟩, fun n m => ⟨(a2 n m).1, rfl⟩, a4⟩
 ·refine ⟨fun e => by rw [a0 e]; exact ⟨rfl, rfl, rfl, rfl⟩, a1, fun e => by rw [a3 e]; exact ⟨rfl, rfl⟩, a2, a4⟩
theorem disj_none_left (x : List Nat) : disj [] x = true := rfl
theorem disj_none_right (x : List Nat) : disj x [] = true := by
 induction x with
 | nil => rfl
 | cons a l ih => simpa [disj] using ih
theorem calm_indep {o p : Oper} {fo fp : Foot} (ho : FootOf P C gl ρ l o fo) (hp : FootOf P C gl σ m p fp) (no : fo.far o = false) (np : fp.far p = false) (hc : calm (cls o.op) (cls p.op) = true) : indep fo fp = true := by
 obtain ⟨a0, a1, a3, a2, a4⟩ := cls_footOf ho
 obtain ⟨b0, b1, b3, b2, b4⟩ := cls_footOf hp
 have a5 := a2 no
 have b5 := b2 np
 clear ho hp no np a2 b2
 generalize cls o.op = x at *
 generalize cls p.op = y at *
 have hx : x = 0 ∨ x = 1 ∨ x = 2 ∨ x = 3 ∨ x = 4 := by omega
 have hy : y = 0 ∨ y = 1 ∨ y = 2 ∨ y = 3 ∨ y = 4 := by omega
 obtain ⟨r1, w1, h1, p1, l1, s1⟩ := fo
 obtain ⟨r2, w2, h2, p2, l2, s2⟩ := fp
 rcases hx with rfl | rfl | rfl | rfl | rfl <;> rcases hy with rfl | rfl | rfl | rfl | rfl <;> simp [calm] at hc <;>
  simp_all [indep, disj_none_left, disj_none_right]
def calm0 : Nat → Nat → Bool
 | 0, _ => true
 | _, 0 => true
 | 1, 1 => true
 | _, _ => false
theorem calm0_indep {o p : Oper} {fo fp : Foot} (ho : FootOf P C gl ρ l o fo) (hp : FootOf P C gl σ m p fp) (hc : calm0 (cls o.op) (cls p.op) = true) : indep fo fp = true := by
 obtain ⟨a0, a1, a3, a2, a4⟩ := cls_footOf ho
 obtain ⟨b0, b1, b3, b2, b4⟩ := cls_footOf hp
 clear ho hp a2 b2
 generalize cls o.op = x at *
 generalize cls p.op = y at *
 have hx : x = 0 ∨ x = 1 ∨ x = 2 ∨ x = 3 ∨ x = 4 := by omega
 have hy : y = 0 ∨ y = 1 ∨ y = 2 ∨ y = 3 ∨ y = 4 := by omega
 obtain ⟨r1, w1, h1, p1, l1, s1⟩ := fo
 obtain ⟨r2, w2, h2, p2, l2, s2⟩ := fp
 rcases hx with rfl | rfl | rfl | rfl | rfl <;> rcases hy with rfl | rfl | rfl | rfl | rfl <;> simp [calm0] at hc <;>
  simp_all [indep, disj_none_left, disj_none_right]
theorem footV_hr {o : Oper} {ft : Foot} (h : footV P C gl ρ l o = some ft) (hp : ft.hp = true) : ft.hr = true := by
 unfold footV at h
 split at h
 ·split at h
  ·split at h <;> (simp only [Option.some.injEq] at h; subst h; simp at hp)
  ·simp only [Option.some.injEq] at h; subst h; simp at hp
 ·simp only [Option.some.injEq] at h; subst h; simp at hp
 ·split at h
  ·split at h
   ·split at h
    ·generalize (List.all _ quiet && List.all _ quiet && List.all _ quiet) = q at h
     cases q with
     | false => simp at h
     | true => simp at h; subst h; rfl
    ·simp at h
   ·unfold appFoot at h
    split at h
    ·generalize gl _ = q at h
     cases q with
     | true =>
      simp only [cond_true] at h
      generalize farX _ = q at h
      cases q with
      | false => simp at h
      | true => simp at h; subst h; rfl
     | false =>
      simp only [cond_false] at h
      split at h
      ·simp at h; subst h; simp at hp
      ·simp at h
    ·simp at h
   ·simp at h
  ·split at h
   ·simp at h; subst h; rfl
   ·simp at h
  ·split at h
   ·generalize quiet _ = q at h
    cases q with
    | false => simp at h
    | true => simp at h; subst h; rfl
   ·simp at h
  ·simp at h; subst h; rfl
  ·generalize quiet _ = q at h
   cases q with
   | false => simp at h
   | true => simp at h; subst h; rfl
  ·simp at h; subst h; rfl
  ·unfold convFoot at h
   split at h
   ·simp at h; subst h; simp at hp
   ·simp at h
  ·simp at h; subst h; rfl
  ·simp at h; subst h; rfl
  ·generalize quiet _ = q at h
   cases q with
   | false => simp at h
   | true => simp at h; subst h; rfl
  ·generalize quiet _ = q at h
   cases q with
   | false => simp at h
   | true => simp at h; subst h; rfl
  ·simp at h
end
def pairOk (cm : Nat → Nat → Bool) (ops : Array Oper) (ms : List Nat) (pairs : List (Nat × Nat)) (j : Nat) (o : Oper) : List Oper → Nat → Bool
 | [], _ => true
 | p :: l, i => (Nat.testBit (ms.getD j 0) i || (Oper.apart ops p o && (cm (cls p.op) (cls o.op) || pairs.contains (i, j)))) && pairOk cm ops ms pairs j o l (i + 1)
def drawOk (cm : Nat → Nat → Bool) (ops : Array Oper) (pairs : List (Nat × Nat)) : Bool :=
 let ms := masks ops.toList []
 ops.toList.zipIdx.all fun (o, j) => (o.after.toList.all fun e => !Region.binds .any e || Nat.blt e.on j) && pairOk cm ops ms pairs j o (ops.toList.take j) 0
theorem pairOk_spec {cm : Nat → Nat → Bool} {ops : Array Oper} {ms : List Nat} {pairs : List (Nat × Nat)} {j : Nat} {o : Oper} : ∀ (l : List Oper) (k : Nat), pairOk cm ops ms pairs j o l k = true → ∀ i p, l[i]? = some p →
  Nat.testBit (ms.getD j 0) (k + i) = true ∨ (Oper.apart ops p o = true ∧ (cm (cls p.op) (cls o.op) = true ∨ (k + i, j) ∈ pairs))
 | [], k, h, i, p, hp => by simp at hp
 | q :: l, k, h, i, p, hp => by
  simp only [pairOk, Bool.and_eq_true, Bool.or_eq_true] at h
  cases i with
  | zero =>
   simp at hp
   subst hp
   rcases h.1 with h1 | ⟨h1, h2⟩
   ·exact .inl h1
   ·exact .inr ⟨h1, h2.imp id (fun h => by simpa using h)⟩
  | succ i =>
   have := pairOk_spec l (k + 1) h.2 i p (by simpa using hp)
   rw [show k + 1 + i = k + (i + 1) by omega] at this
   exact this
theorem drawOk_pair {cm : Nat → Nat → Bool} {ops : Array Oper} {pairs : List (Nat × Nat)} (h : drawOk cm ops pairs = true) {i j : Nat} {p o : Oper} (hp : ops[i]? = some p) (ho : ops[j]? = some o) (hij : i < j) :
  Prec ops i j ∨ (Oper.apart ops p o = true ∧ (cm (cls p.op) (cls o.op) = true ∨ (i, j) ∈ pairs)) := by
 unfold drawOk at h
 have h1 := List.all_eq_true.1 h (o, j) (by
  rw [List.mem_iff_getElem?]
  exact ⟨j, by simp [ho]⟩)
 simp only [Bool.and_eq_true] at h1
 have h2 := pairOk_spec _ _ h1.2 i p (by rw [List.getElem?_take, if_pos hij]; simpa using hp)
 rw [Nat.zero_add] at h2
 rcases h2 with h2 | h2
 ·exact .inl (masks_spec ops.toList [] [] (by simp) rfl (fun j i h => by simp at h) j i h2)
 ·exact .inr h2
theorem drawOk_edge {cm : Nat → Nat → Bool} {ops : Array Oper} {pairs : List (Nat × Nat)} (h : drawOk cm ops pairs = true) {j : Nat} {o : Oper} (ho : ops[j]? = some o) {e : Edge} (he : e ∈ o.after.toList) (hb : Region.binds .any e = true) : e.on < j := by
 unfold drawOk at h
 have h1 := List.all_eq_true.1 h (o, j) (by
  rw [List.mem_iff_getElem?]
  exact ⟨j, by simp [ho]⟩)
 simp only [Bool.and_eq_true] at h1
 have := List.all_eq_true.1 h1.1 e he
 rw [hb] at this
 simpa [Nat.blt_eq] using this
end Go.AM
end

section
namespace Go.AM
open Go
def Cells (h h' : Hp) : Prop := ∀ (r : Nat) (b : Bool) (cs : List V), h.rows[r]? = some (.cells b cs) → h'.rows[r]? = some (.cells b cs)
theorem Cells.refl (h : Hp) : Cells h h := fun _ _ _ h => h
theorem Cells.trans {a b c : Hp} (h : Cells a b) (k : Cells b c) : Cells a c := fun r q cs e => k r q cs (h r q cs e)
theorem cells_of_dirt {h h' : Hp} (d : Dirt h h') (hm : h'.mods = h.mods) : Cells h h' := fun r b cs e => by
 have hr : r < h.rows.length := by
  rcases Nat.lt_or_ge r h.rows.length with hi | hi
  ·exact hi
  ·rw [List.getElem?_eq_none hi] at e; simp at e
 rw [(d.still hm).2 r hr]; exact e
theorem cells_add {st : St} {gl : Bool} {d : Nat} {row : Row} : Cells st.hp (addRow st gl d row).2.hp := fun r b cs e => by
 have hr : r < st.hp.rows.length := by
  rcases Nat.lt_or_ge r st.hp.rows.length with hi | hi
  ·exact hi
  ·rw [List.getElem?_eq_none hi] at e; simp at e
 cases gl with
 | true => simp only [addRow, cond_true]; rw [List.getElem?_append_left hr]; exact e
 | false => exact e
theorem cells_gone {st : St} {r0 : Ref} (h : getRow st r0 = some .tok) : Cells st.hp (setRow st r0 .gone).hp := fun r b cs e => by
 cases r0 with
 | loc s g => exact e
 | glob r1 =>
  simp only [setRow]
  have hne : r1 ≠ r := fun e1 => by
   subst e1
   simp only [getRow] at h
   rw [h] at e; simp at e
  rw [List.getElem?_set_ne hne]; exact e
section
variable {P : Program} {C : Cfg} {gl : Nat → Bool} {ρ : Nat → V} {l : Nat → Nat × Row} {o : Oper} {ft : Foot}
theorem foot_known (h : footV P C gl ρ l o = some ft) (hb : ft.ld = true ∨ ft.sf = true) :
  locV P C gl ρ l o = none ∧ ((∃ t x r off, o.op = .load t x ∧ opd ρ x = .ptr (.glob r) off ∧ ft.sf = false ∧ ft.wr = [] ∧ ft.hp = false) ∨
   ∃ c d x y, o.op = .call c ∧ c.callee = .builtin .append ∧ o.dst = some d ∧ c.args.toList = [x, y] ∧ immX (opd ρ x) = true ∧ ft.ld = false) := by
 unfold footV at h
 cases hl : locV P C gl ρ l o with
 | some p =>
  exfalso
  obtain ⟨v, u⟩ := p
  rw [hl] at h
  cases u with
  | some q => simp at h; subst h; simp at hb
  | none =>
   simp only [] at h
   split at h
   ·split at h <;> (simp only [Option.some.injEq] at h; subst h; simp at hb)
   ·simp only [Option.some.injEq] at h; subst h; simp at hb
 | none =>
  refine ⟨rfl, ?_⟩
  rw [hl] at h
  simp only [] at h
  split at h
  ·rename_i cl ho
   split at h
   ·split at h
    ·generalize (List.all _ quiet && List.all _ quiet && List.all _ quiet) = q at h
     cases q with
     | false => simp at h
     | true => simp at h; subst h; simp at hb
    ·simp at h
   ·rename_i hcal
    unfold appFoot at h
    split at h
    ·rename_i d x y hd ha
     generalize hq : gl _ = q at h
     cases q with
     | true =>
      simp only [cond_true] at h
      generalize farX _ = q at h
      cases q with
      | false => simp at h
      | true =>
       simp at h; subst h
       simp at hb
       exact .inr ⟨cl, d, x, y, ho, hcal, hd, ha, hb, rfl⟩
     | false =>
      simp only [cond_false] at h
      split at h
      ·simp at h; subst h; simp at hb
      ·simp at h
    ·simp at h
   ·simp at h
  ·rename_i t x ho
   split at h
   ·rename_i r off hx
    simp at h; subst h
    exact .inl ⟨t, x, r, off, ho, hx, rfl, rfl, rfl⟩
   ·simp at h
  ·split at h
   ·generalize quiet _ = q at h
    cases q with
    | false => simp at h
    | true => simp at h; subst h; simp at hb
   ·simp at h
  ·simp at h; subst h; simp at hb
  ·generalize quiet _ = q at h
   cases q with
   | false => simp at h
   | true => simp at h; subst h; simp at hb
  ·simp at h; subst h; simp at hb
  ·unfold convFoot at h
   split at h
   ·simp at h; subst h; simp at hb
   ·simp at h
  ·simp at h; subst h; simp at hb
  ·simp at h; subst h; simp at hb
  ·generalize quiet _ = q at h
   cases q with
   | false => simp at h
   | true => simp at h; subst h; simp at hb
  ·generalize quiet _ = q at h
   cases q with
   | false => simp at h
   | true => simp at h; subst h; simp at hb
  ·simp at h
theorem load_local {call : CallF} {st st' : St} (hf : footV P C gl st.ρ st.lc o = some ft) (hld : ft.ld = true) (hr : oneV P C call gl st o = some (.normal, st')) :
  ∃ v, st' = putV st o.dst v ∧ ∀ st2 : St, Agree st.ρ st2.ρ o → Cells st.hp st2.hp → oneV P C call gl st2 o = some (.normal, putV st2 o.dst v) := by
 obtain ⟨hloc, ⟨t, x, r, off, ho, hx, _, _, _⟩ | ⟨c, d, x, y, ho, hc, hd, ha, him, hld'⟩⟩ := foot_known hf (.inl hld)
 ·have hs : ∀ s : St, opd s.ρ x = .ptr (.glob r) off → stepV P C gl s o = (match s.hp.rows[r]? with
    | some (.cells _ cs) => (partV P t cs off).map (.val · s)
    | _ => none) := fun s hs => by
   have : locV P C gl s.ρ s.lc o = none := by simp only [locV, ho, hs]
   simp only [stepV, this, stepG, ho, hs]
   cases s.hp.rows[r]? with
   | none => rfl
   | some row => cases row <;> rfl
  have h1 := hs st hx
  unfold oneV at hr
  rw [h1] at hr
  cases hrow : st.hp.rows[r]? with
  | none => rw [hrow] at hr; simp at hr
  | some row =>
   rw [hrow] at hr
   cases row with
   | cells b cs =>
    simp only [] at hr
    cases hp : partV P t cs off with
    | none => rw [hp] at hr; simp at hr
    | some v =>
     rw [hp] at hr
     simp at hr
     refine ⟨v, hr.symm, fun st2 hag hcl => ?_⟩
     have hx2 : opd st2.ρ x = .ptr (.glob r) off := by rw [← hag x (by simp [ho, Op.operands])]; exact hx
     unfold oneV
     rw [hs st2 hx2, hcl r b cs hrow]
     simp only [hp]
     rfl
   | _ => simp at hr
 ·rw [hld'] at hld; simp at hld
theorem appendV_soft {st : St} {d : Nat} {t : TypeId} {x y : V} {res : Res} (him : immX x = true) (h : appendV P C gl st d t x y = some res) : ∃ v st', res = .val v st' ∧ Cells st.hp st'.hp := by
 have grow : ∀ {s : St} {cs : List V} {n sz : Nat} {ag : Bool} {res : Res}, growArr gl s d cs n sz ag = some res → ∃ v s', res = .val v s' ∧ Cells s.hp s'.hp := fun h => by
  unfold growArr at h
  generalize (gl d && !V.noLocL _) = q at h
  cases q with
  | true => simp at h
  | false => simp at h; exact ⟨_, _, h.symm, cells_add⟩
 have imm : ∀ {s : St} {sz : Nat} {l : List V} {res : Res}, growImm gl s d sz l = some res → ∃ v s', res = .val v s' ∧ Cells s.hp s'.hp := fun h => by
  unfold growImm at h
  simp at h; exact ⟨_, _, h.symm, cells_add⟩
 unfold appendV at h
 split at h
 ·simp at h
 ·split at h
  ·rename_i sz ag bytes ys _ _ _
   generalize (List.all ys _) = q at h
   cases q with
   | false => simp at h
   | true =>
    simp only [cond_true] at h
    cases x with
    | nils =>
     simp only [] at h
     split at h
     ·simp at h; exact ⟨_, _, h.symm, .refl _⟩
     ·generalize Nat.ble _ _ = q at h
      cases q with
      | false => simp at h
      | true =>
       simp only [cond_true] at h
       generalize C.isArr t = q at h
       cases q with
       | true => exact grow h
       | false =>
        simp only [cond_false] at h
        generalize V.noRefsL _ = q at h
        cases q with
        | false => simp at h
        | true => exact imm h
    | slice tok full sz' l =>
     simp only [] at h
     generalize Nat.beq sz sz' = q at h
     cases q with
     | false => simp at h
     | true =>
      simp only [cond_true] at h
      split at h
      ·simp at h; exact ⟨_, _, h.symm, .refl _⟩
      ·generalize Nat.ble _ _ = q at h
       cases q with
       | false => simp at h
       | true =>
        simp only [cond_true] at h
        generalize C.isArr t = q at h
        cases q with
        | true =>
         cases full with
         | false => simp at h
         | true => exact grow h
        | false =>
         simp only [cond_false] at h
         generalize V.noRefsL _ = q at h
         cases q with
         | false => simp at h
         | true =>
          cases full with
          | true => exact imm h
          | false =>
           simp only [cond_true, cond_false] at h
           split at h
           ·split at h
            ·rename_i r hr
             obtain ⟨v, s', e1, e2⟩ := imm h
             exact ⟨v, s', e1, (cells_gone hr).trans e2⟩
            ·simp at h
           ·simp at h
    | _ => simp [immX] at him
  ·simp at h
theorem soft_local {call : CallF} (hC : CallStill call) {st st' : St} (hf : footV P C gl st.ρ st.lc o = some ft) (hr : oneV P C call gl st o = some (.normal, st')) (hs : (settle st.hp st'.hp ft).sf = true) : Cells st.hp st'.hp := by
 have hd := oneV_dirt hC hr
 unfold settle at hs
 cases hb : Nat.beq st'.hp.mods st.hp.mods with
 | true => exact cells_of_dirt hd (Nat.eq_of_beq_eq_true hb)
 | false =>
  rw [hb] at hs
  simp only [cond_false] at hs
  obtain ⟨hloc, ⟨t, x, r, off, ho, hx, hsf, _, _⟩ | ⟨c, d, x, y, ho, hc, hd, ha, him, hld'⟩⟩ := foot_known hf (.inr hs)
  ·rw [hsf] at hs; simp at hs
  ·unfold oneV at hr
   simp only [stepV, hloc, stepG, ho, callS, hc, hd, ha] at hr
   have e1 : opds st.ρ [x, y] = [opd st.ρ x, opd st.ρ y] := rfl
   rw [e1] at hr
   cases hat : c.argTypes[0]? with
   | none => rw [hat] at hr; simp at hr
   | some t =>
    rw [hat] at hr
    simp only [] at hr
    generalize notInt P _ = q at hr
    cases q with
    | false => simp at hr
    | true =>
     simp only [cond_true] at hr
     cases hap : appendV P C gl st d t (opd st.ρ x) (opd st.ρ y) with
     | none => rw [hap] at hr; simp at hr
     | some res =>
      obtain ⟨v, s1, rfl, hcl⟩ := appendV_soft him hap
      rw [hap] at hr
      simp at hr
      rw [← hr, putV_hp]
      exact hcl
end
end Go.AM
end

section
namespace Go.AM
open Go
section
variable {P : Program} {C : Cfg} {gl : Nat → Bool} {call : CallF} {ops : Array Oper}
structure Rec (P : Program) (C : Cfg) (gl : Nat → Bool) (call : CallF) (ops : Array Oper) (sp : Stop) (k : Nat) (o : Oper) (T T' : St) (e : Eff) (f : Foot) (b : Bool) (q : Nat) : Prop where
 wanted : q ≠ 1 → wantedV ops o T.ρ = some b
 next : T' = e.on T o.dst
 row : ∀ u ∈ e.row, u.1 ∈ f.wr
 hpf : ∀ h, e.hp = some h → f.hp = true
 skip : b = false → e = ⟨.tuple [], [], none⟩ ∧ f = ⟨[], [], false, false, false, false⟩
 foot : b = true → FootOf P C gl T.ρ T.lc o f
 loc : q = 0 → b = true → ∀ st2 : St, Agree T.ρ st2.ρ o → AgreeAt T.lc st2.lc f.rd → (f.hr = true → T.hp = st2.hp ∨ (f.ld = true ∧ Cells T.hp st2.hp)) → oneV P C call gl st2 o = some (.normal, e.on st2 o.dst)
 soft : f.sf = true → Cells T.hp T'.hp
 never : q = 1 → b = false ∧ ∃ i v h, sp = some (i, v, h) ∧ Nat.testBit ((masks ops.toList []).getD k 0) i = true
 stop : q = 2 → b = true ∧ f.hr = true ∧ f.ld = false ∧ ∃ v h, sp = some (k, v, h) ∧ ∀ st2 : St, Agree T.ρ st2.ρ o → T.hp = st2.hp → oneV P C call gl st2 o = some (.panic v, { st2 with hp := h })
 kind : q ≤ 2
def shift {α : Type} (a : α) (f : Nat → α) : Nat → α
 | 0 => a
 | k + 1 => f k
theorem settle_local (hC : CallStill call) {st st' : St} {o : Oper} {ft : Foot} (hf : footV P C gl st.ρ st.lc o = some ft) (hr : oneV P C call gl st o = some (.normal, st')) :
  ∃ e : Eff, st' = e.on st o.dst ∧ (∀ u ∈ e.row, u.1 ∈ (settle st.hp st'.hp ft).wr) ∧ (∀ h, e.hp = some h → (settle st.hp st'.hp ft).hp = true) ∧ FootOf P C gl st.ρ st.lc o (settle st.hp st'.hp ft) ∧
   (∀ st2 : St, Agree st.ρ st2.ρ o → AgreeAt st.lc st2.lc (settle st.hp st'.hp ft).rd → ((settle st.hp st'.hp ft).hr = true → st.hp = st2.hp ∨ ((settle st.hp st'.hp ft).ld = true ∧ Cells st.hp st2.hp)) → oneV P C call gl st2 o = some (.normal, e.on st2 o.dst)) ∧
   ((settle st.hp st'.hp ft).sf = true → Cells st.hp st'.hp) := by
 have hsoft : (settle st.hp st'.hp ft).sf = true → Cells st.hp st'.hp := soft_local hC hf hr
 cases hld : ft.ld with
 | true =>
  obtain ⟨v, e1, e2⟩ := load_local (call := call) hf hld hr
  obtain ⟨_, ⟨t, x, r, off, ho, hx, hsf, hwr, hhp⟩ | ⟨c, d, x, y, ho, hc, hd, ha, him, hld'⟩⟩ := foot_known hf (.inl hld)
  ·refine ⟨⟨v, [], none⟩, by rw [e1]; rfl, fun u hu => by simp at hu, fun h hh => by simp at hh, ?_, fun st2 ha hm hh => ?_, hsoft⟩
   ·unfold settle
    cases Nat.beq st'.hp.mods st.hp.mods with
    | false => exact ⟨ft, hf, .inl rfl⟩
    | true =>
     cases Nat.beq st'.hp.rows.length st.hp.rows.length with
     | true => exact ⟨ft, hf, .inr (.inl rfl)⟩
     | false => exact ⟨ft, hf, .inr (.inr rfl)⟩
   ·have hhr : ft.hr = true := by
     unfold footV at hf
     have : locV P C gl st.ρ st.lc o = none := by simp only [locV, ho, hx]
     simp only [this, ho, hx] at hf
     simp at hf; subst hf; rfl
    have hcl : Cells st.hp st2.hp := by
     have h3 : (settle st.hp st'.hp ft).hr = true := by
      unfold settle
      cases Nat.beq st'.hp.mods st.hp.mods with
      | false => exact hhr
      | true => cases Nat.beq st'.hp.rows.length st.hp.rows.length <;> exact hhr
     rcases hh h3 with h4 | ⟨_, h4⟩
     ·rw [h4]; exact .refl _
     ·exact h4
    exact e2 st2 ha hcl
  ·rw [hld'] at hld; simp at hld
 | false =>
  obtain ⟨e, k1, k2, k4, k5⟩ := oneV_local hf hr rfl
  have side : ∀ {f : Foot} {st2 : St}, f.hr = ft.hr → f.ld = ft.ld → (f.hr = true → st.hp = st2.hp ∨ (f.ld = true ∧ Cells st.hp st2.hp)) → (ft.hr = true → st.hp = st2.hp) := fun h1 h2 h hr => by
   rcases h (by rw [h1]; exact hr) with h | ⟨h, _⟩
   ·exact h
   ·rw [h2, hld] at h; simp at h
  unfold settle at hsoft ⊢
  cases hm : Nat.beq st'.hp.mods st.hp.mods with
  | false =>
   rw [hm] at hsoft
   simp only [cond_false] at hsoft ⊢
   exact ⟨e, k1, k2, k4, ⟨ft, hf, .inl rfl⟩, fun st2 ha hm hh => (k5 st2 ha hm (side rfl rfl hh)).1, hsoft⟩
  | true =>
   rw [hm] at hsoft
   simp only [cond_true] at hsoft ⊢
   cases hb : Nat.beq st'.hp.rows.length st.hp.rows.length with
   | false =>
    rw [hb] at hsoft
    simp only [cond_false] at hsoft ⊢
    exact ⟨e, k1, k2, k4, ⟨ft, hf, .inr (.inr rfl)⟩, fun st2 ha hm hh => (k5 st2 ha hm (side (f := { ft with sf := true }) rfl rfl hh)).1, hsoft⟩
   | true =>
    rw [hb] at hsoft
    simp only [cond_true] at hsoft ⊢
    have hd := (oneV_dirt hC hr).eq (Nat.eq_of_beq_eq_true hm) (Nat.eq_of_beq_eq_true hb)
    have key : ∀ st2 : St, (ft.hr = true → st.hp = st2.hp) → e.on st2 o.dst = Eff.on { e with hp := none } st2 o.dst := by
     intro st2 hh
     cases he : e.hp with
     | none =>
      have : e = { e with hp := none } := by cases e; simp at he; subst he; rfl
      rw [← this]
     | some h =>
      have h1 := hh (footV_hr hf (k4 h he))
      have h2 : h = st2.hp := by
       have : st'.hp = h := by
        rw [k1]
        unfold Eff.on
        rw [putV_hp]
        simp only [he, Option.getD_some]
       rw [← h1, ← hd, this]
      unfold Eff.on
      simp only [he, Option.getD_some, Option.getD_none, h2]
    refine ⟨{ e with hp := none }, ?_, k2, fun h hh => by simp at hh, ⟨ft, hf, .inr (.inl rfl)⟩, fun st2 ha hm hh => ?_, hsoft⟩
    ·rw [← key st (fun _ => rfl)]; exact k1
    ·have hh' := side (f := { ft with hp := false }) rfl rfl hh
     rw [← key st2 hh']; exact (k5 st2 ha hm hh').1
theorem stop_ld {st : St} {o : Oper} {ft : Foot} (hso : stopOp o = true) (hf : footV P C gl st.ρ st.lc o = some ft) : ft.ld = false := by
 cases hld : ft.ld with
 | false => rfl
 | true =>
  exfalso
  obtain ⟨_, ⟨t, x, r, off, ho, _⟩ | ⟨c, d, x, y, ho, hc, hd, ha, him, hld'⟩⟩ := foot_known hf (.inl hld)
  ·simp [stopOp, ho] at hso
  ·rw [hld'] at hld; simp at hld
theorem drawOps_stop : ∀ (l : List Oper) (k0 : Nat) (p : Nat × V × Hp) (st : St) (fs : List Foot) (stN : St) (sp' : Stop), drawOps P C call gl ops l k0 (some p) st = some (fs, stN, sp') → sp' = some p
 | [], k0, p, st, fs, stN, sp', h => by simp [drawOps] at h; exact h.2.2.symm
 | o :: l, k0, p, st, fs, stN, sp', h => by
  have skip : ∀ f, consF f (drawOps P C call gl ops l (k0 + 1) (some p) (putV st o.dst (.tuple []))) = some (fs, stN, sp') → sp' = some p := fun f h => by
   obtain ⟨gs, h1, _⟩ := consF_some h
   exact drawOps_stop l _ _ _ _ _ _ h1
  simp only [drawOps] at h
  cases hb : behind ops.toList k0 (some p) with
  | true => rw [hb] at h; exact skip _ h
  | false =>
   rw [hb] at h
   simp only [cond_false] at h
   split at h
   ·simp at h
   ·exact skip _ h
   ·split at h
    ·obtain ⟨gs, h1, _⟩ := consF_some h
     exact drawOps_stop l _ _ _ _ _ _ h1
    ·simp at h
    ·simp at h
theorem drawOps_recs (hC : CallStill call) : ∀ (l : List Oper) (k0 : Nat) (sp : Stop) (st : St) (fs : List Foot) (stN : St) (sp' : Stop), drawOps P C call gl ops l k0 sp st = some (fs, stN, sp') →
  ∃ (E : Nat → Eff) (F : Nat → Foot) (B : Nat → Bool) (Q : Nat → Nat) (T : Nat → St), T 0 = st ∧ T l.length = stN ∧ (∀ k o, l[k]? = some o → Rec P C gl call ops sp' (k0 + k) o (T k) (T (k + 1)) (E k) (F k) (B k) (Q k) ∧ fs[k]? = some (F k)) ∧
   ∀ i v h, sp' = some (i, v, h) → sp = some (i, v, h) ∨ ∃ j, j < l.length ∧ i = k0 + j ∧ Q j = 2
 | [], k0, sp, st, fs, stN, sp', h => by
  simp [drawOps] at h
  obtain ⟨rfl, rfl, rfl⟩ := h
  exact ⟨fun _ => ⟨.dead, [], none⟩, fun _ => ⟨[], [], false, false, false, false⟩, fun _ => true, fun _ => 0, fun _ => st, rfl, rfl, fun k o hk => by simp at hk, fun i v h e => .inl e⟩
 | o :: l, k0, sp, st, fs, stN, sp', h => by
  have step : ∀ (sp1 : Stop) (st1 : St) (f : Foot) (e : Eff) (b : Bool) (q : Nat), consF f (drawOps P C call gl ops l (k0 + 1) sp1 st1) = some (fs, stN, sp') →
    (∀ T : Nat → St, T 0 = st1 → Rec P C gl call ops sp' k0 o st (T 0) e f b q) → (∀ i v h, sp1 = some (i, v, h) → sp = some (i, v, h) ∨ (i = k0 ∧ q = 2)) →
    ∃ (E : Nat → Eff) (F : Nat → Foot) (B : Nat → Bool) (Q : Nat → Nat) (T : Nat → St), T 0 = st ∧ T (o :: l).length = stN ∧ (∀ k o', (o :: l)[k]? = some o' → Rec P C gl call ops sp' (k0 + k) o' (T k) (T (k + 1)) (E k) (F k) (B k) (Q k) ∧ fs[k]? = some (F k)) ∧
     ∀ i v h, sp' = some (i, v, h) → sp = some (i, v, h) ∨ ∃ j, j < (o :: l).length ∧ i = k0 + j ∧ Q j = 2 := by
   intro sp1 st1 f e b q h hrec hsp
   obtain ⟨gs, h1, rfl⟩ := consF_some h
   obtain ⟨E, F, B, Q, T, k1, k2, k3, k4⟩ := drawOps_recs hC l _ _ _ _ _ _ h1
   refine ⟨shift e E, shift f F, shift b B, shift q Q, shift st T, rfl, k2, fun k o' hk => ?_, fun i v hh hi => ?_⟩
   ·cases k with
    | zero =>
     simp at hk
     subst hk
     exact ⟨hrec T k1, rfl⟩
    | succ k =>
     have := k3 k o' (by simpa using hk)
     rw [show k0 + 1 + k = k0 + (k + 1) by omega] at this
     exact this
   ·rcases k4 i v hh hi with h5 | ⟨j, h5, h6, h7⟩
    ·rcases hsp i v hh h5 with h8 | ⟨h8, h9⟩
     ·exact .inl h8
     ·exact .inr ⟨0, by simp, by simpa using h8, h9⟩
    ·exact .inr ⟨j + 1, by simpa using h5, by omega, h7⟩
  simp only [drawOps] at h
  cases hb : behind ops.toList k0 sp with
  | true =>
   rw [hb] at h
   simp only [cond_true] at h
   cases sp with
   | none => simp [behind] at hb
   | some p =>
    obtain ⟨gs, h1, _⟩ := consF_some h
    have hsp := drawOps_stop l _ _ _ _ _ _ h1
    subst hsp
    obtain ⟨i, v, hh⟩ := p
    refine step _ _ _ ⟨.tuple [], [], none⟩ false 1 h (fun T hT => ⟨fun hn => absurd rfl hn, ?_, fun u hu => by simp at hu, fun h hh => by simp at hh, fun _ => ⟨rfl, rfl⟩, fun h => by simp at h, fun h => by simp at h, fun h => by simp at h, fun _ => ⟨rfl, i, v, hh, rfl, hb⟩, fun h => by simp at h, by omega⟩) (fun i v h e => .inl e)
    rw [hT]; rfl
  | false =>
   rw [hb] at h
   simp only [cond_false] at h
   split at h
   ·simp at h
   ·rename_i hw
    refine step _ _ _ ⟨.tuple [], [], none⟩ false 0 h (fun T hT => ⟨fun _ => hw, ?_, fun u hu => by simp at hu, fun h hh => by simp at hh, fun _ => ⟨rfl, rfl⟩, fun h => by simp at h, fun _ h => by simp at h, fun h => by simp at h, fun h => by simp at h, fun h => by simp at h, by omega⟩) (fun i v h e => .inl e)
    rw [hT]; rfl
   ·rename_i hw
    split at h
    ·rename_i ft st' hft hone
     obtain ⟨e, k1, k2, k4, k6, k5, k7⟩ := settle_local hC hft hone
     refine step _ _ _ e true 0 h (fun T hT => ⟨fun _ => hw, ?_, k2, k4, fun h => by simp at h, fun _ => k6, fun _ _ st2 ha hm hh => k5 st2 ha hm hh, fun h => by rw [hT]; exact k7 h, fun h => by simp at h, fun h => by simp at h, by omega⟩) (fun i v h e => .inl e)
     rw [hT]; exact k1
    ·rename_i ft v st' hft hone
     split at h
     ·cases hso : stopOp o with
      | false => simp [hso] at h
      | true =>
       simp only [hso, cond_true] at h
       obtain ⟨gs, h1, _⟩ := consF_some h
       have hsp := drawOps_stop l _ _ _ _ _ _ h1
       subst hsp
       obtain ⟨m1, m2, m3⟩ := oneV_stop hso hft hone
       refine step _ _ _ ⟨.tuple [], [], none⟩ true 2 h (fun T hT => ⟨fun _ => hw, ?_, fun u hu => by simp at hu, fun h hh => by simp at hh, fun h => by simp at h, fun _ => ⟨ft, hft, .inl rfl⟩, fun h => by simp at h, fun _ => by rw [hT]; rw [putV_hp]; exact .refl _, fun h => by simp at h,
        fun _ => ⟨rfl, m2, stop_ld hso hft, v, st'.hp, rfl, m3⟩, by omega⟩) (fun i v h e => by simp at e; exact .inr ⟨e.1.symm, rfl⟩)
       rw [hT]; rfl
     ·simp at h
    ·simp at h
theorem wantedV_congr {o : Oper} {ρ σ : Nat → V} (h : ∀ j w d, o.guard = some (j, w) → (ops[j]?).bind (·.dst) = some d → ρ d = σ d) : wantedV ops o ρ = wantedV ops o σ := by
 unfold wantedV
 cases hg : o.guard with
 | none => rfl
 | some p =>
  obtain ⟨j, w⟩ := p
  simp only []
  cases hd : (ops[j]?).bind (·.dst) with
  | none => rfl
  | some d => simp only [h j w d hg hd]
def rowAt : List (Nat × Nat × Row) → Nat → Option (Nat × Row)
 | [], _ => none
 | (s', g, row) :: l, s => match rowAt l s with
  | some p => some p
  | none => if s' = s then some (g, row) else none
theorem rowAt_mem : ∀ {l : List (Nat × Nat × Row)} {s : Nat} {p : Nat × Row}, rowAt l s = some p → ∃ u ∈ l, u.1 = s
 | [], s, p, h => by simp [rowAt] at h
 | (s', g, row) :: l, s, p, h => by
  simp only [rowAt] at h
  split at h
  ·rename_i hq
   obtain ⟨u, hu, he⟩ := rowAt_mem hq
   exact ⟨u, by simp [hu], he⟩
  ·by_cases e : s' = s
   ·exact ⟨(s', g, row), by simp, e⟩
   ·simp [e] at h
theorem applyLs_lc : ∀ (l : List (Nat × Nat × Row)) (st : St) (s : Nat), (applyLs st l).lc s = (rowAt l s).getD (st.lc s)
 | [], st, s => rfl
 | (s', g, row) :: l, st, s => by
  simp only [applyLs]
  rw [applyLs_lc l]
  simp only [rowAt]
  cases rowAt l s with
  | some p => rfl
  | none =>
   show (applyL st (some (s', g, row))).lc s = _
   rw [show (applyL st (some (s', g, row))).lc s = _ from lc_setLoc s' (g, row) s]
   by_cases h : s' = s <;> simp [h]
structure AtS (st0 : St) (E : Nat → Eff) (n : Nat) (ops : Array Oper) (S : Nat → Bool) (X : St) : Prop where
 tm : ∀ t, X.ρ t = lastW S (fun k => if (ops[k]?).bind (·.dst) = some t then some (E k).v else none) (st0.ρ t) n
 lc : ∀ s, X.lc s = lastW S (fun k => rowAt (E k).row s) (st0.lc s) n
 hp : X.hp = lastW S (fun k => (E k).hp) st0.hp n
theorem on_ρ (e : Eff) (st : St) (d : Option Nat) (t : Nat) : (e.on st d).ρ t = if d = some t then e.v else st.ρ t := by
 have h1 : ({ applyLs st e.row with hp := e.hp.getD st.hp } : St).ρ t = st.ρ t := by
  show aget V.dead (applyLs st e.row).tm t = _
  rw [applyLs_tm]; rfl
 unfold Eff.on
 cases d with
 | none =>
  have : (putV ({ applyLs st e.row with hp := e.hp.getD st.hp } : St) none e.v).ρ t = st.ρ t := h1
  rw [this]; simp
 | some i =>
  rw [putV_ρ, h1]
  by_cases h : i = t
  ·subst h; simp
  ·simp [h]
theorem on_hp (e : Eff) (st : St) (d : Option Nat) : (e.on st d).hp = e.hp.getD st.hp := by
 unfold Eff.on; cases d <;> rfl
theorem on_lc (e : Eff) (st : St) (d : Option Nat) (s : Nat) : (e.on st d).lc s = (rowAt e.row s).getD (st.lc s) := by
 unfold Eff.on
 have h1 : (putV ({ applyLs st e.row with hp := e.hp.getD st.hp } : St) d e.v).lc s = (applyLs st e.row).lc s := by cases d <;> rfl
 rw [h1, applyLs_lc]
end
end Go.AM
end

section
namespace Go.AM
open Go
theorem lastW_none {α : Type} {S : Nat → Bool} {w : Nat → Option α} {d : α} : ∀ n, (∀ k, k < n → S k = false) → lastW S w d n = d
 | 0, _ => rfl
 | n + 1, h => by
  simp only [lastW, h n (by omega)]
  exact lastW_none n (fun k hk => h k (by omega))
theorem pairsOk_mem {fs : List Foot} : ∀ {l : List (Nat × Nat)} {i j : Nat}, pairsOk fs l = true → (i, j) ∈ l → ∃ a b, fs[i]? = some a ∧ fs[j]? = some b ∧ indep a b = true
 | [], i, j, _, h => by simp at h
 | (a, b) :: l, i, j, h, hm => by
  simp only [pairsOk, Bool.and_eq_true] at h
  rcases List.mem_cons.1 hm with e | hm
  ·injection e with e1 e2
   subst e1; subst e2
   have h1 := h.1
   split at h1
   ·rename_i x y hx hy; exact ⟨x, y, hx, hy, h1⟩
   ·simp at h1
  ·exact pairsOk_mem h.2 hm
section
variable {P : Program} {C : Cfg} {gl : Nat → Bool} {call : CallF} {ops : Array Oper}
structure Run (P : Program) (C : Cfg) (gl : Nat → Bool) (call : CallF) (ops : Array Oper) (pairs pairsH : List (Nat × Nat)) (sp : Stop) (st0 stN : St) (E : Nat → Eff) (F : Nat → Foot) (B : Nat → Bool) (Q : Nat → Nat) (T : Nat → St) : Prop where
 zero : T 0 = st0
 last : T ops.size = stN
 line : ∀ k o, ops[k]? = some o → Rec P C gl call ops sp k o (T k) (T (k + 1)) (E k) (F k) (B k) (Q k)
 hit : ∀ i v h, sp = some (i, v, h) → i < ops.size ∧ Q i = 2
 ok : drawOk calm ops pairs = true
 okH : drawOk calm0 ops pairsH = true
 pairs : ∀ i j, (i, j) ∈ pairs → ∀ o p, ops[i]? = some o → ops[j]? = some p → indep (F i) (F j) = true
 far : (∀ i o, ops[i]? = some o → (F i).far o = false) ∨ ∀ i j, (i, j) ∈ pairsH → ∀ o p, ops[i]? = some o → ops[j]? = some p → indep (F i) (F j) = true
variable {pairs pairsH : List (Nat × Nat)} {sp : Stop} {st0 stN : St} {E : Nat → Eff} {F : Nat → Foot} {B : Nat → Bool} {Q : Nat → Nat} {T : Nat → St}
theorem Run.apart (R : Run P C gl call ops pairs pairsH sp st0 stN E F B Q T) {i j : Nat} {p o : Oper} (hp : ops[i]? = some p) (ho : ops[j]? = some o) (hij : i < j) (hn : ¬ Prec ops i j) : Oper.apart ops p o = true ∧ indep (F i) (F j) = true := by
 have r1 := R.line i p hp
 have r2 := R.line j o ho
 have low : ∀ cm : Nat → Nat → Bool, (∀ (fo fp : Foot) (X Y : St), FootOf P C gl X.ρ X.lc p fo → FootOf P C gl Y.ρ Y.lc o fp → fo.far p = (F i).far p → fp.far o = (F j).far o → cm (cls p.op) (cls o.op) = true → indep fo fp = true) →
   cm (cls p.op) (cls o.op) = true → indep (F i) (F j) = true := by
  intro cm hcm h2
  cases hb1 : B i with
  | false => rw [(r1.skip hb1).2]; simp [indep, disj]
  | true =>
   cases hb2 : B j with
   | false =>
    rw [(r2.skip hb2).2]
    simp [indep, disj_none_right]
   | true => exact hcm _ _ _ _ (r1.foot hb1) (r2.foot hb2) rfl rfl h2
 rcases R.far with hn' | hH
 ·rcases drawOk_pair R.ok hp ho hij with h | ⟨h1, h2⟩
  ·exact absurd h hn
  ·refine ⟨h1, ?_⟩
   rcases h2 with h2 | h2
   ·exact low calm (fun fo fp X Y a b e1 e2 c => calm_indep a b (by rw [e1]; exact hn' i p hp) (by rw [e2]; exact hn' j o ho) c) h2
   ·exact R.pairs i j h2 p o hp ho
 ·rcases drawOk_pair R.okH hp ho hij with h | ⟨h1, h2⟩
  ·exact absurd h hn
  ·refine ⟨h1, ?_⟩
   rcases h2 with h2 | h2
   ·exact low calm0 (fun fo fp X Y a b e1 e2 c => calm0_indep a b c) h2
   ·exact hH i j h2 p o hp ho
theorem disj_spec : ∀ {a b : List Nat}, disj a b = true → ∀ s ∈ a, s ∉ b
 | [], b, _, s, hs => by simp at hs
 | x :: a, b, h, s, hs => by
  simp only [disj, Bool.and_eq_true, List.all_eq_true, Bool.not_eq_true'] at h
  rcases List.mem_cons.1 hs with rfl | hs
  ·intro hb
   have := h.1 s hb
   simp at this
  ·exact disj_spec h.2 s hs
theorem indep_spec {a b : Foot} (h : indep a b = true) : (a.hp = true → b.hr = false ∧ b.hp = false) ∧ (b.hp = true → (a.hr = false ∨ (a.ld = true ∧ b.sf = true)) ∧ a.hp = false) ∧ (∀ s ∈ a.wr, s ∉ b.rd ∧ s ∉ b.wr) ∧ (∀ s ∈ b.wr, s ∉ a.rd ∧ s ∉ a.wr) := by
 simp only [indep, Bool.and_eq_true, Bool.not_eq_true'] at h
 obtain ⟨⟨⟨⟨h1, h5⟩, h2⟩, h3⟩, h4⟩ := h
 refine ⟨fun ha => ?_, fun hb => ?_, fun s hs => ⟨disj_spec h2 s hs, disj_spec h3 s hs⟩, fun s hs => ⟨fun hr => disj_spec h4 s hr hs, fun hw => disj_spec h3 s hw hs⟩⟩
 ·rw [ha] at h1; simpa using h1
 ·rw [hb] at h1 h5
  refine ⟨?_, by simpa using h1⟩
  cases hr : a.hr with
  | false => exact .inl rfl
  | true =>
   rw [hr] at h5
   right
   simpa using h5
def Closed (ops : Array Oper) (S : Nat → Bool) : Prop := ∀ j o e, ops[j]? = some o → S j = true → e ∈ o.after.toList → Region.binds .any e = true → S e.on = true
theorem ops_lt {k : Nat} (h : k < ops.size) : ∃ o, ops[k]? = some o := ⟨_, Array.getElem?_eq_getElem h⟩
theorem AtS.insert (R : Run P C gl call ops pairs pairsH sp st0 stN E F B Q T) {S S' : Nat → Bool} {i : Nat} {o : Oper} (ho : ops[i]? = some o) (hi : S i = false) (hfree : ∀ k, k < ops.size → i < k → S k = true → ¬ Prec ops i k)
  {X : St} (hX : AtS st0 E ops.size ops S X) (hS : ∀ k, S' k = (S k || k == i)) : AtS st0 E ops.size ops S' ((E i).on X o.dst) := by
 have hlt : i < ops.size := by
  rcases Nat.lt_or_ge i ops.size with h' | h'
  ·exact h'
  ·simp [h'] at ho
 have ap : ∀ k p, ops[k]? = some p → i < k → S k = true → Oper.apart ops o p = true ∧ indep (F i) (F k) = true := fun k p hp hik hsk =>
  R.apart ho hp hik (hfree k (by
   rcases Nat.lt_or_ge k ops.size with h' | h'
   ·exact h'
   ·simp [h'] at hp) hik hsk)
 refine ⟨fun t => ?_, fun s => ?_, ?_⟩
 ·rw [on_ρ, lastW_insert hS ops.size hlt hi (fun k hk hik hwk hwi => ?_)]
  ·have : (ops[i]?).bind (·.dst) = o.dst := by rw [ho]; rfl
   simp only [this]
   by_cases hd : o.dst = some t
   ·simp [hd]
   ·simp only [hd, if_false]; exact hX.tm t
  ·cases hsk : S k with
   | false => rfl
   | true =>
    exfalso
    obtain ⟨p, hp⟩ := ops_lt (ops := ops) hk
    obtain ⟨_, h2, _⟩ := Oper.apart_spec (ap k p hp hik hsk).1
    simp only [hp, ho, Option.bind_some] at hwk hwi
    have e1 : p.dst = some t := by
     by_cases h : p.dst = some t
     ·exact h
     ·simp [h] at hwk
    have e2 : o.dst = some t := by
     by_cases h : o.dst = some t
     ·exact h
     ·simp [h] at hwi
    exact h2 t e2 e1
 ·rw [on_lc, lastW_insert hS ops.size hlt hi (fun k hk hik hwk hwi => ?_)]
  ·cases hr : rowAt (E i).row s with
   | none => simp only [Option.getD_none]; exact hX.lc s
   | some q => rfl
  ·cases hsk : S k with
   | false => rfl
   | true =>
    exfalso
    obtain ⟨p, hp⟩ := ops_lt (ops := ops) hk
    have hin := indep_spec (ap k p hp hik hsk).2
    obtain ⟨q1, hr1⟩ := Option.isSome_iff_exists.1 hwk
    obtain ⟨q2, hr2⟩ := Option.isSome_iff_exists.1 hwi
    obtain ⟨u1, m1, e1⟩ := rowAt_mem hr1
    obtain ⟨u2, m2, e2⟩ := rowAt_mem hr2
    have f1 := (R.line k p hp).row _ m1
    have f2 := (R.line i o ho).row _ m2
    rw [e1] at f1
    rw [e2] at f2
    exact (hin.2.2.1 s f2).2 f1
 ·rw [on_hp, lastW_insert hS ops.size hlt hi (fun k hk hik hwk hwi => ?_)]
  ·cases hh : (E i).hp with
   | none => simp only [Option.getD_none]; exact hX.hp
   | some h' => rfl
  ·cases hsk : S k with
   | false => rfl
   | true =>
    exfalso
    obtain ⟨p, hp⟩ := ops_lt (ops := ops) hk
    have hin := indep_spec (ap k p hp hik hsk).2
    obtain ⟨h1, hh1⟩ := Option.isSome_iff_exists.1 hwk
    obtain ⟨h2, hh2⟩ := Option.isSome_iff_exists.1 hwi
    have f1 := (R.line k p hp).hpf _ hh1
    have f2 := (R.line i o ho).hpf _ hh2
    have := (hin.1 f2).2
    rw [f1] at this; simp at this
theorem Run.text (R : Run P C gl call ops pairs pairsH sp st0 stN E F B Q T) : ∀ k, k ≤ ops.size → AtS st0 E ops.size ops (fun j => decide (j < k)) (T k)
 | 0, _ => by
  rw [R.zero]
  exact ⟨fun t => (lastW_none _ (fun k _ => by simp)).symm, fun s => (lastW_none _ (fun k _ => by simp)).symm, (lastW_none _ (fun k _ => by simp)).symm⟩
 | k + 1, hk => by
  obtain ⟨o, ho⟩ := ops_lt (ops := ops) (show k < ops.size by omega)
  rw [(R.line k o ho).next]
  refine AtS.insert (S := fun j => decide (j < k)) (i := k) R ho (by simp) (fun j _ hkj hj => by simp at hj; omega) (R.text k (by omega)) (fun j => ?_)
  have : decide (j < k + 1) = (decide (j < k) || decide (j = k)) := by
   rw [← Bool.decide_or]
   exact decide_eq_decide.2 (by omega)
  rw [this]
  rfl
end
end Go.AM
end

section
namespace Go.AM
open Go
theorem filter_le {α : Type} {p q : α → Bool} : ∀ (l : List α), (∀ x ∈ l, q x = true → p x = true) → (l.filter q).length ≤ (l.filter p).length
 | [], _ => Nat.le_refl _
 | x :: l, h => by
  have ih := filter_le l (fun y hy => h y (by simp [hy]))
  simp only [List.filter_cons]
  cases hq : q x with
  | true => rw [h x (by simp) hq]; simpa using ih
  | false => cases p x <;> simp <;> omega
theorem filter_lt {α : Type} {p q : α → Bool} {x : α} : ∀ (l : List α), (∀ x ∈ l, q x = true → p x = true) → x ∈ l → p x = true → q x = false → (l.filter q).length < (l.filter p).length
 | [], _, hx, _, _ => by simp at hx
 | y :: l, h, hx, hp, hq => by
  have hl := filter_le l (fun y hy => h y (by simp [hy]))
  simp only [List.filter_cons]
  rcases List.mem_cons.1 hx with rfl | hx
  ·rw [hp, hq]; simp; omega
  ·have ih := filter_lt l (fun y hy => h y (by simp [hy])) hx hp hq
   cases hqy : q y with
   | true => rw [h y (by simp) hqy]; simpa using ih
   | false => cases p y <;> simp <;> omega
section
variable {P : Program} {C : Cfg} {gl : Nat → Bool} {call : CallF} {ops : Array Oper}
variable {pairs pairsH : List (Nat × Nat)} {sp : Stop} {st0 stN : St} {E : Nat → Eff} {F : Nat → Foot} {B : Nat → Bool} {Q : Nat → Nat} {T : Nat → St}
theorem Run.meets (R : Run P C gl call ops pairs pairsH sp st0 stN E F B Q T) {S : Nat → Bool} (hc : Closed ops S) {i : Nat} {o : Oper} (ho : ops[i]? = some o) (hi : S i = false) (hready : ∀ e ∈ o.after.toList, Region.binds .any e = true → S e.on = true)
    {X : St} (hX : AtS st0 E ops.size ops S X) :
    (∀ t, t ∈ o.looksAt ops → (T i).ρ t = X.ρ t) ∧ AgreeAt (T i).lc X.lc (F i).rd ∧ ((F i).hr = true → (T i).hp = X.hp ∨ ((F i).ld = true ∧ Cells (T i).hp X.hp)) := by
  have hlt : i < ops.size := by
    rcases Nat.lt_or_ge i ops.size with h' | h'
    · exact h'
    · simp [h'] at ho
  have hT := R.text i (by omega)
  have before : ∀ k, Prec ops k i → S k = true := by
    intro k hp
    cases hp with
    | edge ho' he hb hk => rw [ho] at ho'; obtain rfl := Option.some.inj ho'; rw [← hk]; exact hready _ he hb
    | step ho' he hb hk hp => rw [ho] at ho'; obtain rfl := Option.some.inj ho'; exact hp.closed (fun j o e a b c d => hc j o e a b c d) (by rw [← hk]; exact hready _ he hb)
  have key : ∀ k, k < ops.size → (∀ p, ops[k]? = some p → k < i → ¬ (Oper.apart ops p o = true ∧ indep (F k) (F i) = true)) → (∀ p, ops[k]? = some p → i < k → ¬ (Oper.apart ops o p = true ∧ indep (F i) (F k) = true)) → decide (k < i) = S k := by
    intro k hk h1 h2
    obtain ⟨p, hp⟩ := ops_lt (ops := ops) hk
    rcases Nat.lt_trichotomy k i with h | h | h
    · have : S k = true := by
        by_cases hpr : Prec ops k i
        · exact before k hpr
        · exact absurd (R.apart hp ho h hpr) (h1 p hp h)
      rw [this]; simp [h]
    · subst h; rw [hi]; simp
    · have : S k = false := by
        cases hsk : S k with
        | false => rfl
        | true =>
          by_cases hpr : Prec ops i k
          · have := hpr.closed (fun j o e a b c d => hc j o e a b c d) hsk
            rw [hi] at this; simp at this
          · exact absurd (R.apart ho hp h hpr) (h2 p hp h)
      rw [this]; simp; omega
  refine ⟨fun t ht => ?_, ?_, fun hh => ?_⟩
  · rw [hT.tm, hX.tm]
    refine lastW_congr _ (fun k hk hw => key k hk (fun p hp hki hap => ?_) (fun p hp hik hap => ?_))
    · obtain ⟨h1, _, _⟩ := Oper.apart_spec hap.1
      simp only [hp, Option.bind_some] at hw
      have e1 : p.dst = some t := by
        by_cases h : p.dst = some t
        · exact h
        · simp [h] at hw
      exact h1 t e1 ht
    · obtain ⟨_, _, h3⟩ := Oper.apart_spec hap.1
      simp only [hp, Option.bind_some] at hw
      have e1 : p.dst = some t := by
        by_cases h : p.dst = some t
        · exact h
        · simp [h] at hw
      exact h3 t e1 ht
  · intro s hrd
    show (T i).lc s = X.lc s
    rw [hT.lc, hX.lc]
    have wr : ∀ k p, ops[k]? = some p → (rowAt (E k).row s).isSome = true → s ∈ (F k).wr := by
      intro k p hp hw
      obtain ⟨q1, hr1⟩ := Option.isSome_iff_exists.1 hw
      obtain ⟨u1, m1, e1⟩ := rowAt_mem hr1
      have := (R.line k p hp).row _ m1
      rw [e1] at this; exact this
    refine lastW_congr _ (fun k hk hw => key k hk (fun p hp hki hap => ?_) (fun p hp hik hap => ?_))
    · exact ((indep_spec hap.2).2.2.1 s (wr k p hp hw)).1 hrd
    · exact ((indep_spec hap.2).2.2.2 s (wr k p hp hw)).1 hrd
  · by_cases hall : ∀ k, k < ops.size → (E k).hp.isSome = true → decide (k < i) = S k
    · left
      rw [hT.hp, hX.hp]
      exact lastW_congr _ (fun k hk hw => hall k hk hw)
    · right
      have wrs : ∀ k p, ops[k]? = some p → (E k).hp.isSome = true → (F k).hp = true := fun k p hp hw => by
        obtain ⟨h1, hh1⟩ := Option.isSome_iff_exists.1 hw
        exact (R.line k p hp).hpf _ hh1
      have low : ∀ k, k < i → k < ops.size → (E k).hp.isSome = true → S k = true := by
        intro k hki hk hw
        obtain ⟨p, hp⟩ := ops_lt (ops := ops) hk
        by_cases hpr : Prec ops k i
        · exact before k hpr
        · exfalso
          have := ((indep_spec (R.apart hp ho hki hpr).2).1 (wrs k p hp hw)).1
          rw [hh] at this; simp at this
      have high : ∀ k, i < k → k < ops.size → (E k).hp.isSome = true → S k = true → (F i).ld = true ∧ (F k).sf = true := by
        intro k hik hk hw hsk
        obtain ⟨p, hp⟩ := ops_lt (ops := ops) hk
        by_cases hpr : Prec ops i k
        · have := hpr.closed (fun j o e a b c d => hc j o e a b c d) hsk
          rw [hi] at this; simp at this
        · rcases ((indep_spec (R.apart ho hp hik hpr).2).2.1 (wrs k p hp hw)).1 with h | h
          · rw [hh] at h; simp at h
          · exact h
      have hld : (F i).ld = true := by
        by_cases h : ∃ k, k < ops.size ∧ (E k).hp.isSome = true ∧ decide (k < i) ≠ S k
        · obtain ⟨k, hk, hw, hne⟩ := h
          rcases Nat.lt_trichotomy k i with h | h | h
          · exact absurd (by rw [low k h hk hw]; simp [h]) hne
          · subst h; exact absurd (by rw [hi]; simp) hne
          · cases hsk : S k with
            | true => exact (high k h hk hw hsk).1
            | false => exact absurd (by rw [hsk]; simp; omega) hne
        · exact absurd (fun k hk hw => Classical.not_not.1 (fun hne => h ⟨k, hk, hw, hne⟩)) hall
      refine ⟨hld, ?_⟩
      have cut : ∀ (n m : Nat), m ≤ n → lastW (fun k => decide (k < m)) (fun k => (E k).hp) st0.hp n = lastW (fun k => decide (k < m)) (fun k => (E k).hp) st0.hp m := by
        intro n
        induction n with
        | zero => intro m hm; have : m = 0 := by omega
                  subst this; rfl
        | succ n ihn =>
          intro m hm
          rcases Nat.eq_or_lt_of_le hm with e | e
          · subst e; rfl
          · rw [← ihn m (by omega)]
            have : decide (n < m) = false := by simp; omega
            simp only [lastW, this]
      have hpT : ∀ n, n ≤ ops.size → (T n).hp = lastW (fun k => decide (k < n)) (fun k => (E k).hp) st0.hp n := fun n hn => by
        rw [(R.text n hn).hp, cut ops.size n hn]
      have key : ∀ n, n ≤ ops.size → i ≤ n → Cells (T i).hp (lastW S (fun k => (E k).hp) st0.hp n) := by
        intro n
        induction n with
        | zero =>
          intro _ h0
          have : i = 0 := by omega
          rw [hpT i (by omega), this]; exact .refl _
        | succ n ihn =>
          intro hn h0
          rcases Nat.eq_or_lt_of_le h0 with e | e
          · rw [hpT i (by omega), ← e]
            have : lastW (fun k => decide (k < i)) (fun k => (E k).hp) st0.hp i = lastW S (fun k => (E k).hp) st0.hp i :=
              lastW_congr _ (fun k hk hw => by rw [low k hk (by omega) hw]; simp [hk])
            rw [this]; exact .refl _
          · have ih := ihn (by omega) (by omega)
            simp only [lastW]
            cases hsn : S n with
            | false => exact ih
            | true =>
              cases hen : (E n).hp with
              | none => exact ih
              | some h' =>
                have hne : n ≠ i := fun e => by subst e; rw [hi] at hsn; simp at hsn
                obtain ⟨p, hp⟩ := ops_lt (ops := ops) (show n < ops.size by omega)
                have hs := (high n (by omega) (by omega) (by rw [hen]; rfl) hsn).2
                have hcl := (R.line n p hp).soft hs
                have hnext : (T (n + 1)).hp = h' := by
                  rw [(R.line n p hp).next, on_hp, hen]; rfl
                rw [hnext] at hcl
                have htn : (T n).hp = lastW S (fun k => (E k).hp) st0.hp n := by
                  rw [hpT n (by omega)]
                  refine lastW_congr _ (fun k hk hw => ?_)
                  have : S k = true := by
                    obtain ⟨p', hp'⟩ := ops_lt (ops := ops) (show k < ops.size by omega)
                    by_cases hpr : Prec ops k n
                    · exact hpr.closed (fun j o e a b c d => hc j o e a b c d) hsn
                    · exfalso
                      have h5 := ((indep_spec (R.apart hp' hp hk hpr).2).1 (wrs k p' hp' hw)).2
                      have h6 := wrs n p hp (by rw [hen]; rfl)
                      rw [h6] at h5; simp at h5
                  rw [this]; simp [hk]
                rw [htn] at hcl
                exact ih.trans hcl
      rw [hX.hp]
      exact key ops.size (Nat.le_refl _) (by omega)
theorem getRow_ext {X Y : St} (hl : ∀ s, X.lc s = Y.lc s) (hh : X.hp = Y.hp) (r : Ref) : getRow X r = getRow Y r := by
 cases r with
 | loc s g => rw [getRow_loc, getRow_loc, hl]
 | glob r => simp only [getRow, hh]
theorem getRow_lc {X Y : St} (hl : ∀ s, X.lc s = Y.lc s) (hh : X.hp = Y.hp) (r : Ref) : getRow X r = getRow Y r := getRow_ext hl hh r
theorem Sim.dim [Laid] {D : List Deferred} {n : Nat} {c0 c : Ctx} {w0 w : World} {a : Act} {s0 X Y : St} (h : Sim D n c0 s0 w0 X a w c) (ht : ∀ t, Y.ρ t = .dead ∨ X.ρ t = Y.ρ t) (hl : ∀ s, X.lc s = Y.lc s) (hh : X.hp = Y.hp) : Sim D n c0 s0 w0 Y a w c := by
 have hg := getRow_ext hl hh
 have ho : ∀ b, Own c Y b → Own c X b := fun b ⟨r, row, h1, h2, h3⟩ => ⟨r, row, by rw [hg]; exact h1, h2, h3⟩
 refine ⟨h.le, ⟨h.wrel.shut, fun r row hr => h.wrel.rows r row (by rw [hg]; exact hr), fun r1 r2 row1 row2 b g1 g2 => h.wrel.inj r1 r2 row1 row2 b (by rw [hg]; exact g1) (by rw [hg]; exact g2), fun r hr => h.wrel.glb r (by rw [hh]; exact hr), fun s g hsg => h.wrel.lcb s g (by rw [hl]; exact hsg), h.wrel.lt, h.wrel.tlt, h.wrel.elt⟩,
  fun i => ?_, h.size, h.defers, ⟨h.keep.os, h.keep.tape, h.keep.output, h.keep.size, h.keep.block, h.keep.shut, fun b hb hob => h.keep.own b hb (ho b hob)⟩, by rw [← hh]; exact h.dirt, by rw [← hh]; exact h.hp, h.laid⟩
 rcases ht i with e | e
 ·rw [e]; exact .dead _
 ·rw [← e]; exact h.slots i
theorem killV_ρ : ∀ (l : List Oper) (st : St) (t : Nat), (killV l st).ρ t = .dead ∨ ((killV l st).ρ t = st.ρ t ∧ ∀ o ∈ l, o.dst ≠ some t)
 | [], st, t => .inr ⟨rfl, fun o ho => by simp at ho⟩
 | o :: l, st, t => by
  simp only [killV]
  rcases killV_ρ l (putV st o.dst .dead) t with h | ⟨h1, h2⟩
  ·exact .inl h
  ·rw [h1]
   cases hd : o.dst with
   | none =>
    refine .inr ⟨rfl, fun p hp => ?_⟩
    rcases List.mem_cons.1 hp with rfl | hp
    ·rw [hd]; simp
    ·exact h2 p hp
   | some i =>
    rw [putV_ρ]
    by_cases e : i = t
    ·rw [if_pos e]; exact .inl rfl
    ·rw [if_neg e]
     refine .inr ⟨rfl, fun p hp => ?_⟩
     rcases List.mem_cons.1 hp with rfl | hp
     ·rw [hd]; simpa using e
     ·exact h2 p hp
theorem traceless_spec {m : Nat} : ∀ {fs : List Foot} {k : Nat}, traceless m fs k = true → ∀ i f, fs[i]? = some f → Nat.testBit m (k + i) = true ∨ f.wr = []
 | [], k, _, i, f, hf => by simp at hf
 | g :: fs, k, h, i, f, hf => by
  simp only [traceless, Bool.and_eq_true, Bool.or_eq_true] at h
  cases i with
  | zero =>
   simp at hf
   subst hf
   exact h.1.imp id (fun h => by simpa using h)
  | succ i =>
   have := traceless_spec h.2 i f (by simpa using hf)
   rw [show k + 1 + i = k + (i + 1) by omega] at this
   exact this
theorem Sim.ext [Laid] {D : List Deferred} {n : Nat} {c0 c : Ctx} {w0 w : World} {a : Act} {s0 X Y : St} (h : Sim D n c0 s0 w0 X a w c) (ht : ∀ t, X.ρ t = Y.ρ t) (hl : ∀ s, X.lc s = Y.lc s) (hh : X.hp = Y.hp) : Sim D n c0 s0 w0 Y a w c := by
 have hg := getRow_ext hl hh
 have ho : ∀ b, Own c Y b → Own c X b := fun b ⟨r, row, h1, h2, h3⟩ => ⟨r, row, by rw [hg]; exact h1, h2, h3⟩
 refine ⟨h.le, ⟨h.wrel.shut, fun r row hr => h.wrel.rows r row (by rw [hg]; exact hr), fun r1 r2 row1 row2 b g1 g2 => h.wrel.inj r1 r2 row1 row2 b (by rw [hg]; exact g1) (by rw [hg]; exact g2), fun r hr => h.wrel.glb r (by rw [hh]; exact hr), fun s g hsg => h.wrel.lcb s g (by rw [hl]; exact hsg), h.wrel.lt, h.wrel.tlt, h.wrel.elt⟩,
  fun i => by rw [← ht]; exact h.slots i, h.size, h.defers, ⟨h.keep.os, h.keep.tape, h.keep.output, h.keep.size, h.keep.block, h.keep.shut, fun b hb hob => h.keep.own b hb (ho b hob)⟩, by rw [← hh]; exact h.dirt, by rw [← hh]; exact h.hp, h.laid⟩
end
end Go.AM
end

section
namespace Go.AM
open Go
section
variable {P : Program} {C : Cfg} {gl : Nat → Bool} {call : CallF} {ops : Array Oper}
variable {pairs pairsH : List (Nat × Nat)} {sp : Stop} {st0 stN : St} {E : Nat → Eff} {F : Nat → Foot} {B : Nat → Bool} {Q : Nat → Nat} {T : Nat → St} {D : List Deferred} {n : Nat} {c0 : Ctx} {w0 : World} {s0 : St}
theorem ready_spec {listed : Array Bool} (hsz : listed.size = ops.size) {i : Nat} : i ∈ Region.ready .any ops listed ↔ ∃ o, ops[i]? = some o ∧ listed.getD i false = false ∧ ∀ e ∈ o.after.toList, Region.binds .any e = true → listed.getD e.on false = true := by
 unfold Region.ready
 simp only [List.mem_filter, List.mem_range, Bool.and_eq_true, Bool.not_eq_true']
 constructor
 ·rintro ⟨hlt, h1, h2⟩
  obtain ⟨o, ho⟩ := ops_lt (ops := ops) hlt
  refine ⟨o, ho, ?_, fun e he hb => ?_⟩
  ·rw [Array.getD_eq_getD_getElem?, Array.getElem?_eq_getElem (by omega)] at h1 ⊢
   exact h1
  ·rw [ho] at h2
   simp only [Option.map_some, Option.getD_some] at h2
   have := Array.all_eq_true_iff_forall_mem.1 h2 e (by simpa using he)
   rw [hb] at this
   simpa using this
 ·rintro ⟨o, ho, h1, h2⟩
  have hlt : i < ops.size := by
   rcases Nat.lt_or_ge i ops.size with h' | h'
   ·exact h'
   ·simp [h'] at ho
  refine ⟨hlt, ?_, ?_⟩
  ·rw [Array.getD_eq_getD_getElem?, Array.getElem?_eq_getElem (by omega)] at h1 ⊢
   exact h1
  ·rw [ho]
   simp only [Option.map_some, Option.getD_some]
   refine Array.all_eq_true_iff_forall_mem.2 (fun e he => ?_)
   cases hb : Region.binds .any e with
   | false => rfl
   | true => simpa using h2 e (by simpa using he) hb
theorem set_listed {listed : Array Bool} {i : Nat} (hi : i < listed.size) (k : Nat) : (listed.setIfInBounds i true).getD k false = (listed.getD k false || k == i) := by
 rw [Array.getD_eq_getD_getElem?, Array.getD_eq_getD_getElem?, Array.getElem?_setIfInBounds]
 by_cases h : i = k
 ·subst h; simp [hi]
 ·have : (k == i) = false := by simp; omega
  simp [h, this]
structure Halt (ops : Array Oper) (sp : Stop) (F : Nat → Foot) (st0 stN Y : St) (v : V) : Prop where
 at_ : ∃ i h, sp = some (i, v, h) ∧ Y.hp = h ∧ ∀ k o, ops[k]? = some o → Nat.testBit ((masks ops.toList []).getD i 0) k = true ∨ (F k).wr = []
 tm : ∀ t, Y.ρ t = .dead ∨ (Y.ρ t = st0.ρ t ∧ ∀ o ∈ ops.toList, o.dst ≠ some t)
 loc : Y.loc = stN.loc
theorem mask_prec {j i : Nat} (h : Nat.testBit ((masks ops.toList []).getD j 0) i = true) : Prec ops i j :=
 masks_spec ops.toList [] [] (by simp) rfl (fun j i h => by simp at h) j i h
theorem lastW_dead {α : Type} {S : Nat → Bool} {w : Nat → Option α} {d : α} : ∀ n, (∀ k, k < n → w k = none) → lastW S w d n = d
 | 0, _ => rfl
 | n + 1, h => by
  simp only [lastW, h n (by omega)]
  rw [lastW_dead n (fun k hk => h k (by omega))]
  cases S n <;> rfl
theorem draw_any [Laid] (hN : Named P) (hC : CallOk P call) (hd : ∀ o ∈ ops.toList, dstOk n o = true) (R : Run P C gl call ops pairs pairsH sp st0 stN E F B Q T) {K : Exit → Act → World → Prop}
  (hQ : sp = none → ∀ a w c, Sim D n c0 s0 w0 stN a w c → K .normal a w)
  {Y : St} (hP : ∀ i v h, sp = some (i, v, h) → Halt ops sp F st0 stN Y v) (hK : ∀ v a w c e, (∃ i h, sp = some (i, v, h)) → exIs c (.panic v) e → Sim D n c0 s0 w0 Y a w c → K e a w) :
  ∀ (fuel : Nat) (listed : Array Bool) (X : St) (a : Act) (w : World) (c : Ctx), listed.size = ops.size → Closed ops (fun k => listed.getD k false) → (∀ k, Q k = 2 → listed.getD k false = false) → ((List.range ops.size).filter (fun k => !listed.getD k false)).length ≤ fuel →
   AtS st0 E ops.size ops (fun k => listed.getD k false) X → Sim D n c0 s0 w0 X a w c → wpAny P .any ops K fuel listed a w := by
 intro fuel
 have done : ∀ (listed : Array Bool) (X : St) (a : Act) (w : World) (c : Ctx), listed.size = ops.size → (∀ k, Q k = 2 → listed.getD k false = false) → AtS st0 E ops.size ops (fun k => listed.getD k false) X → Sim D n c0 s0 w0 X a w c → Region.ready .any ops listed = [] → K .normal a w := by
  intro listed X a w c hsz hst hX hS hr
  have all : ∀ k, k < ops.size → listed.getD k false = true := by
   intro k
   induction k using Nat.strongRecOn with
   | _ k ih =>
    intro hk
    cases hl : listed.getD k false with
    | true => rfl
    | false =>
     obtain ⟨o, ho⟩ := ops_lt (ops := ops) hk
     have : k ∈ Region.ready .any ops listed := (ready_spec hsz).2 ⟨o, ho, hl, fun e he hb => by
      have := drawOk_edge R.ok ho he hb
      exact ih e.on this (by omega)⟩
     rw [hr] at this; simp at this
  have hsp : sp = none := by
   cases hq : sp with
   | none => rfl
   | some p =>
    obtain ⟨i, v, h⟩ := p
    obtain ⟨h1, h2⟩ := R.hit i v h hq
    have := all i h1
    rw [hst i h2] at this; simp at this
  have hT := R.text ops.size (Nat.le_refl _)
  rw [R.last] at hT
  refine hQ hsp a w c (hS.ext (fun t => ?_) (fun s => ?_) ?_)
  ·rw [hX.tm, hT.tm]; exact lastW_congr _ (fun k hk _ => by rw [all k hk]; simp [hk])
  ·rw [hX.lc, hT.lc]; exact lastW_congr _ (fun k hk _ => by rw [all k hk]; simp [hk])
  ·rw [hX.hp, hT.hp]; exact lastW_congr _ (fun k hk _ => by rw [all k hk]; simp [hk])
 induction fuel with
 | zero =>
  intro listed X a w c hsz hcl hst hf hX hS
  have hr : Region.ready .any ops listed = [] := by
   cases hq : Region.ready .any ops listed with
   | nil => rfl
   | cons i l =>
    exfalso
    obtain ⟨o, ho, h1, _⟩ := (ready_spec hsz (i := i)).1 (by rw [hq]; simp)
    have hlt : i < ops.size := by
     rcases Nat.lt_or_ge i ops.size with h' | h'
     ·exact h'
     ·simp [h'] at ho
    have : i ∈ (List.range ops.size).filter (fun k => !listed.getD k false) := by
     simp only [List.mem_filter, List.mem_range]; exact ⟨hlt, by simp [h1]⟩
    have h0 : (List.range ops.size).filter (fun k => !listed.getD k false) = [] := List.eq_nil_of_length_eq_zero (by omega)
    rw [h0] at this; simp at this
  exact ⟨hr, done listed X a w c hsz hst hX hS hr⟩
 | succ fuel ih =>
  intro listed X a w c hsz hcl hst hf hX hS
  refine ⟨done listed X a w c hsz hst hX hS, fun i hi => ?_⟩
  obtain ⟨o, ho, h1, h2⟩ := (ready_spec hsz).1 hi
  have hlt : i < ops.size := by
   rcases Nat.lt_or_ge i ops.size with h' | h'
   ·exact h'
   ·simp [h'] at ho
  have hset := set_listed (listed := listed) (i := i) (by omega)
  have hL := R.line i o ho
  obtain ⟨m1, m2, m3⟩ := R.meets hcl ho h1 h2 hX
  have hguard : ∀ j w' d, o.guard = some (j, w') → (ops[j]?).bind (·.dst) = some d → (T i).ρ d = X.ρ d := fun j w' d hg hd => m1 d (by
   unfold Oper.looksAt
   rw [List.mem_append]
   right
   rw [hg]
   simp only [hd]
   simp)
  have hagree : Agree (T i).ρ X.ρ o := fun x hx => by
   cases x with
   | tmp t =>
    refine m1 t ?_
    unfold Oper.looksAt
    rw [List.mem_append]
    left
    simp only [List.mem_filterMap]
    exact ⟨.tmp t, hx, rfl⟩
   | _ => rfl
  have hnever : Q i ≠ 1 := fun hq => by
   obtain ⟨_, j, v, h, hsp, hbit⟩ := hL.never hq
   obtain ⟨_, hj⟩ := R.hit j v h hsp
   have hpr := mask_prec hbit
   have : listed.getD j false = true := by
    cases hpr with
    | edge ho' he hb hk => rw [ho] at ho'; obtain rfl := Option.some.inj ho'; rw [← hk]; exact h2 _ he hb
    | step ho' he hb hk hp => rw [ho] at ho'; obtain rfl := Option.some.inj ho'; exact hp.closed (fun j o e a b c d => hcl j o e a b c d) (by rw [← hk]; exact h2 _ he hb)
   rw [hst j hj] at this; simp at this
  have hwX : wantedV ops o X.ρ = some (B i) := by rw [← wantedV_congr hguard]; exact hL.wanted hnever
  have hcl' : Closed ops (fun k => (listed.setIfInBounds i true).getD k false) := by
   intro j p e hp hj he hb
   simp only [hset] at hj ⊢
   rcases Bool.or_eq_true _ _ ▸ hj with hj | hj
   ·have h5 : listed.getD e.on false = true := hcl j p e hp hj he hb
    rw [h5]; rfl
   ·have : j = i := by simpa using hj
    subst this
    rw [ho] at hp
    obtain rfl := Option.some.inj hp
    rw [h2 e he hb]; rfl
  have hcount : ((List.range ops.size).filter (fun k => !(listed.setIfInBounds i true).getD k false)).length ≤ fuel := by
   have := filter_lt (p := fun k => !listed.getD k false) (q := fun k => !(listed.setIfInBounds i true).getD k false) (x := i) (List.range ops.size) (fun k _ hk => by
    simp only [hset, Bool.not_or, Bool.and_eq_true] at hk; exact hk.1) (by simp [hlt]) (by simp [h1]) (by rw [hset]; simp)
   omega
  have hX' : AtS st0 E ops.size ops (fun k => (listed.setIfInBounds i true).getD k false) ((E i).on X o.dst) :=
   AtS.insert (S := fun k => listed.getD k false) R ho h1 (fun k hk hik hsk hpr => by
    have := hpr.closed (fun j o e a b c d => hcl j o e a b c d) hsk
    rw [h1] at this; simp at this) hX (fun k => hset k)
  have hdo := hd o (by rw [List.mem_iff_getElem?]; exact ⟨i, by simpa using ho⟩)
  have hdst : ∀ i, o.dst = some i → i < n := fun i hi => by
   unfold dstOk at hdo; rw [hi] at hdo; simpa [Nat.blt_eq] using hdo
  have hsz' : (listed.setIfInBounds i true).size = ops.size := by simpa using hsz
  unfold wpOp
  simp only [ho]
  have hw' := wanted_sound hS.slots hwX
  by_cases hq2 : Q i = 2
  ·obtain ⟨hb, hhr, hld, v, h, hsp, hone⟩ := hL.stop hq2
   rw [hb] at hw'
   simp only [hw', if_true]
   have hone := hone X hagree ((m3 hhr).resolve_right (fun e => by rw [hld] at e; simp at e))
   have k := oneV_sound hN hC hS hdo hone
   obtain ⟨⟨i', h', hsp', hYh, hwr⟩, hYt, hYl⟩ := hP i v h hsp
   rw [hsp] at hsp'
   simp only [Option.some.injEq, Prod.mk.injEq, true_and] at hsp'
   obtain ⟨rfl, rfl⟩ := hsp'
   refine .inl (k _ K (fun e => by simp at e) (fun e a' w' c' _ he hs => hK v a' w' c' e ⟨i, h, hsp⟩ he (hs.dim (fun t => ?_) (fun s => ?_) hYh.symm)))
   ·rcases hYt t with h1 | ⟨h1, h3⟩
    ·exact .inl h1
    ·right
     show X.ρ t = Y.ρ t
     rw [h1, hX.tm]
     refine lastW_dead ops.size (fun j hj => ?_)
     obtain ⟨p, hp⟩ := ops_lt (ops := ops) hj
     have hpd : p.dst ≠ some t := h3 p (by rw [List.mem_iff_getElem?]; exact ⟨j, by simpa using hp⟩)
     simp only [hp, Option.bind_some, hpd, if_false]
   ·have hT := R.text ops.size (Nat.le_refl _)
    rw [R.last] at hT
    have e1 : Y.lc s = stN.lc s := by unfold St.lc; rw [hYl]
    show X.lc s = Y.lc s
    rw [e1, hX.lc, hT.lc]
    refine lastW_congr _ (fun j hj hw => ?_)
    obtain ⟨p, hp⟩ := ops_lt (ops := ops) hj
    have hpr : Prec ops j i := by
     rcases hwr j p hp with h5 | h5
     ·exact mask_prec h5
     ·exfalso
      obtain ⟨q1, hr1⟩ := Option.isSome_iff_exists.1 hw
      obtain ⟨u1, n1, e1⟩ := rowAt_mem hr1
      have := (R.line j p hp).row _ n1
      rw [h5] at this; simp at this
    have : listed.getD j false = true := by
     cases hpr with
     | edge ho' he hb hk => rw [ho] at ho'; obtain rfl := Option.some.inj ho'; rw [← hk]; exact h2 _ he hb
     | step ho' he hb hk hp => rw [ho] at ho'; obtain rfl := Option.some.inj ho'; exact hp.closed (fun j o e a b c d => hcl j o e a b c d) (by rw [← hk]; exact h2 _ he hb)
    rw [this]; simp [hj]
  have hq0 : Q i = 0 := by have := hL.kind; omega
  have hst' : ∀ k, Q k = 2 → (listed.setIfInBounds i true).getD k false = false := fun k hk => by
   rw [hset, hst k hk]
   have : k ≠ i := fun e => by subst e; exact hq2 hk
   simpa using this
  cases hb : B i with
  | false =>
   rw [hb] at hw'
   simp only [hw', if_false, Bool.false_eq_true]
   have e1 := (hL.skip hb).1
   have hsim := hS.put (d := o.dst) (Ctx.le.refl c) hS.wrel (Keep.refl c X w) (.refl _) hS.hp rfl hdst (v := .tuple []) (x := undef) (Rel.mk_tuple (RelL.nil c))
   refine ih _ ((E i).on X o.dst) _ w c hsz' hcl' hst' hcount hX' ?_
   rw [e1]
   exact hsim
  | true =>
   rw [hb] at hw'
   simp only [hw', if_true]
   have hone := hL.loc hq0 hb X hagree m2 m3
   have k := oneV_sound hN hC hS hdo hone
   exact .inl (k _ K (fun _ a' w' c' hs => ih _ _ a' w' c' hsz' hcl' hst' hcount hX' hs) (fun e a' w' c' hne => absurd rfl hne))
theorem anyFar_spec : ∀ {fs : List Foot} {os : List Oper}, anyFar fs os = false → ∀ (i : Nat) (o : Oper) (f : Foot), os[i]? = some o → fs[i]? = some f → f.far o = false
 | [], _, _, i, o, f, _, hf => by simp at hf
 | _ :: _, [], _, i, o, f, ho, _ => by simp at ho
 | g :: fs, p :: os, h, i, o, f, ho, hf => by
  simp only [anyFar, Bool.or_eq_false_iff] at h
  cases i with
  | zero => simp at ho hf; subst ho; subst hf; exact h.1
  | succ i => exact anyFar_spec h.2 i o f (by simpa using ho) (by simpa using hf)
theorem code_draw [Laid] (hS : CallStill call) (hN : Named P) (hM : P.follows .mixedOrders = true) (hC : CallOk P call) {f id : Nat} (hd : ∀ o ∈ ops.toList, dstOk n o = true) (hok : drawOk calm ops (C.pairs f id) = true) (hokH : drawOk calm0 ops (C.pairsH f id) = true) :
  CodeOk P D n c0 s0 w0 (.region id ops true) (regionV P C call f id ops true) := by
 intro st a w c ex st' h hr
 simp only [regionV] at hr
 split at hr
 ·rename_i fs st1 sp hrun
  obtain ⟨E, F, B, Q, T, h1, h2, h3, h4⟩ := drawOps_recs hS ops.toList 0 none st fs st1 sp hrun
  have main : (pairsOk fs (C.pairs f id) && (!anyFar fs ops.toList || pairsOk fs (C.pairsH f id))) = true → Run P C (C.glob f) call ops (C.pairs f id) (C.pairsH f id) sp st st1 E F B Q T := by
   intro hp
   simp only [Bool.and_eq_true, Bool.or_eq_true, Bool.not_eq_true'] at hp
   have mem : ∀ l : List (Nat × Nat), pairsOk fs l = true → ∀ i j, (i, j) ∈ l → ∀ o p, ops[i]? = some o → ops[j]? = some p → indep (F i) (F j) = true := fun l hl i j hij o p ho hp' => by
    obtain ⟨x, y, hx, hy, hi⟩ := pairsOk_mem hl hij
    have e1 := (h3 i o (by simpa using ho)).2
    have e2 := (h3 j p (by simpa using hp')).2
    rw [hx] at e1
    rw [hy] at e2
    obtain rfl := Option.some.inj e1
    obtain rfl := Option.some.inj e2
    exact hi
   refine ⟨h1, by simpa using h2, fun k o ho => ?_, fun i v h hi => ?_, hok, hokH, mem _ hp.1,
    hp.2.imp (fun hn i o ho => anyFar_spec hn i o _ (by simpa using ho) (h3 i o (by simpa using ho)).2) (fun h => mem _ h)⟩
   ·have := (h3 k o (by simpa using ho)).1
    rwa [Nat.zero_add] at this
   ·rcases h4 i v h hi with h5 | ⟨j, h5, h6, h7⟩
    ·simp at h5
    ·rw [Nat.zero_add] at h6
     subst h6
     exact ⟨by simpa using h5, h7⟩
  have hall : ∀ k, (Array.replicate ops.size false).getD k false = false := fun k => by
   rw [Array.getD_eq_getD_getElem?]
   cases hq : (Array.replicate ops.size false)[k]? with
   | none => rfl
   | some b =>
    rw [Array.getElem?_replicate] at hq
    split at hq <;> simp at hq
    rw [← hq]; rfl
  have hSim : Sim D n c0 s0 w0 st a { w with drawn := w.drawn + 1 } c := ⟨h.le, ⟨h.wrel.shut, fun r row hr => by
    have := h.wrel.rows r row hr
    cases row <;> exact this, h.wrel.inj, h.wrel.glb, h.wrel.lcb, h.wrel.lt, h.wrel.tlt, h.wrel.elt⟩, h.slots, h.size, h.defers, ⟨h.keep.os, h.keep.tape, h.keep.output, h.keep.size, h.keep.block, h.keep.shut, h.keep.own⟩, h.dirt, h.hp, h.laid⟩
  have go : ∀ (R : Run P C (C.glob f) call ops (C.pairs f id) (C.pairsH f id) sp st st1 E F B Q T) {Y : St} (hP : ∀ i v h, sp = some (i, v, h) → Halt ops sp F st st1 Y v),
    (sp = none → ex = .normal ∧ st' = st1) → (∀ i v h, sp = some (i, v, h) → ex = .panic v ∧ st' = Y) → Code.wp P (.region id ops true) (fun e a' w' => ∃ c', exIs c' ex e ∧ Sim D n c0 s0 w0 st' a' w' c') a w := by
   intro R Y hP e1 e2
   have hq : sp = none → ∀ a' w' c', Sim D n c0 s0 w0 st1 a' w' c' → (∃ c', exIs c' ex .normal ∧ Sim D n c0 s0 w0 st' a' w' c') := fun hn a' w' c' hs => by
    obtain ⟨rfl, rfl⟩ := e1 hn; exact ⟨c', trivial, hs⟩
   have hk : ∀ v a' w' c' e, (∃ i h, sp = some (i, v, h)) → exIs c' (.panic v) e → Sim D n c0 s0 w0 Y a' w' c' → (∃ c', exIs c' ex e ∧ Sim D n c0 s0 w0 st' a' w' c') := fun v a' w' c' e ⟨i, h, hi⟩ he hs => by
    obtain ⟨rfl, rfl⟩ := e2 i v h hi; exact ⟨c', he, hs⟩
   have hT := R.text 0 (Nat.zero_le _)
   rw [h1] at hT
   have hfun : (fun k => (Array.replicate ops.size false).getD k false) = (fun j => decide (j < 0)) := funext fun k => by rw [hall k]; simp
   rw [← hfun] at hT
   exact wp_region_any hM (draw_any (K := fun e a' w' => ∃ c', exIs c' ex e ∧ Sim D n c0 s0 w0 st' a' w' c') hN hC hd R hq hP hk ops.size _ st a _ c (by simp) (fun j o e ho hj he hb => by
    have := hall j; simp only [this] at hj; simp at hj) (fun k _ => hall k) (by
     refine Nat.le_trans (List.length_filter_le _ _) (by simp)) hT hSim)
  cases sp with
  | none =>
   simp only [endV] at hr
   cases hp : (pairsOk fs (C.pairs f id) && (!anyFar fs ops.toList || pairsOk fs (C.pairsH f id))) with
   | false => simp [hp] at hr
   | true =>
    simp only [hp, cond_true, Option.some.injEq, Prod.mk.injEq] at hr
    obtain ⟨rfl, rfl⟩ := hr
    exact go (main hp) (Y := st) (fun i v h e => by simp at e) (fun _ => ⟨rfl, rfl⟩) (fun i v h e => by simp at e)
  | some p =>
   obtain ⟨i, v, h'⟩ := p
   simp only [endV] at hr
   cases hp : (pairsOk fs (C.pairs f id) && (!anyFar fs ops.toList || pairsOk fs (C.pairsH f id))) with
   | false => simp [hp] at hr
   | true =>
    cases htr : traceless ((masks ops.toList []).getD i 0) fs 0 with
    | false => rw [hp, htr] at hr; simp at hr
    | true =>
     rw [hp, htr] at hr
     simp only [Bool.and_self, cond_true, Option.some.injEq, Prod.mk.injEq] at hr
     obtain ⟨rfl, rfl⟩ := hr
     refine go (main hp) (Y := { tm := (killV ops.toList st).tm, loc := st1.loc, hp := h' }) (fun i' v' h2 e => ?_) (fun e => by simp at e) (fun i' v' h2 e => ?_)
     ·simp only [Option.some.injEq, Prod.mk.injEq] at e
      obtain ⟨rfl, rfl, rfl⟩ := e
      refine ⟨⟨i, h', rfl, rfl, fun k o ho => ?_⟩, fun t => killV_ρ ops.toList st t, rfl⟩
      have := traceless_spec htr k (F k) (h3 k o (by simpa using ho)).2
      rwa [Nat.zero_add] at this
     ·simp only [Option.some.injEq, Prod.mk.injEq] at e
      obtain ⟨rfl, rfl, rfl⟩ := e
      exact ⟨rfl, rfl⟩
 ·simp at hr
end
end Go.AM
end

section
namespace Go.AM
open Go
section
variable {D : List Deferred} {P : Program} {C : Cfg} {c0 c e : Ctx} {st0 st st' : St} {w0 w w' : World} {a : Act} {n : Nat}
def Code.good (C : Cfg) (f n : Nat) : Code → Bool
 | .region id ops draw => ops.toList.all (dstOk n) && (!draw || (drawOk calm ops (C.pairs f id) && drawOk calm0 ops (C.pairsH f id)))
 | .seq a b => Code.good C f n a && Code.good C f n b
 | .cond _ a b => Code.good C f n a && Code.good C f n b
 | .block _ b => Code.good C f n b
 | .loop b => Code.good C f n b
 | _ => true
theorem codeV_sound [Laid] (hN : Named P) (hM : P.follows .mixedOrders = true) {call : CallF} (hS : CallStill call) (hC : CallOk P call) (f fuel : Nat) : ∀ code : Code, Code.good C f n code = true → CodeOk P D n c0 st0 w0 code (codeV P C call f fuel code)
 | .skip, _ => code_skip
 | .exit i, _ => code_exit i
 | .ret, _ => code_ret
 | .region id ops draw, hf => by
  simp only [Code.good, Bool.and_eq_true] at hf
  cases draw with
  | false => exact code_region hN hC (fun o ho => List.all_eq_true.1 hf.1 o ho)
  | true =>
   have h2 : drawOk calm ops (C.pairs f id) = true ∧ drawOk calm0 ops (C.pairsH f id) = true := by simpa using hf.2
   exact code_draw hS hN hM hC (fun o ho => List.all_eq_true.1 hf.1 o ho) h2.1 h2.2
 | .seq x y, hf => by
  simp only [Code.good, Bool.and_eq_true] at hf
  exact code_seq (codeV_sound hN hM hS hC f fuel x hf.1) (codeV_sound hN hM hS hC f fuel y hf.2)
 | .cond b x y, hf => by
  simp only [Code.good, Bool.and_eq_true] at hf
  exact code_cond (codeV_sound hN hM hS hC f fuel x hf.1) (codeV_sound hN hM hS hC f fuel y hf.2)
 | .block id x, hf => by
  simp only [Code.good] at hf
  exact code_block (codeV_sound hN hM hS hC f fuel x hf)
 | .loop x, hf => by
  simp only [Code.good] at hf
  exact code_loop (codeV_sound hN hM hS hC f fuel x hf) fuel
 | .label _, _ => by intro st a w c ex st' h hr; simp [codeV] at hr
 | .goto _, _ => by intro st a w c ex st' h hr; simp [codeV] at hr
 | .scope .., _ => by intro st a w c ex st' h hr; simp [codeV] at hr
 | .rangeFunc .., _ => by intro st a w c ex st' h hr; simp [codeV] at hr
 | .refuse _, _ => by intro st a w c ex st' h hr; simp [codeV] at hr
theorem resV_sound [Laid] (h : WRel c st w) (hs : Slots c st.ρ a) : ∀ (rs : List ResultVar) (l : List V), resV P st rs = some l →
  ∃ xs : List Value, (rs.mapM (m := Sem) fun | .tmp t => pure (a.tmps.getD t undef) | .cell p t => do loadVar t (← asAddr (a.tmps.getD p undef))).run P w = .ok xs w ∧ RelL c l xs
 | [], l, hr => by
  simp [resV] at hr
  subst hr
  exact ⟨[], by simp, RelL.nil c⟩
 | .tmp t :: rs, l, hr => by
  simp only [resV, Option.map_eq_some_iff] at hr
  obtain ⟨l', h', rfl⟩ := hr
  obtain ⟨xs, hx, hrel⟩ := resV_sound h hs rs l' h'
  refine ⟨_ :: xs, ?_, RelL.cons (hs t) hrel⟩
  simp only [List.mapM_cons, Sem.run_bind, Sem.run_pure, Result.andThen_ok, hx]
 | .cell p t :: rs, l, hr => by
  simp only [resV] at hr
  split at hr
  ·rename_i r off hp
   have hrelp := hs p
   rw [hp] at hrelp
   obtain ⟨b, hb, hbk⟩ := hrelp.ptr_inv
   split at hr
   ·rename_i frz cs hrow
    split at hr
    ·rename_i v vs hv hvs
     simp at hr
     subst hr
     obtain ⟨xs, hx, hrel⟩ := resV_sound h hs rs vs hvs
     obtain ⟨x, hrun, hrx⟩ := load_row (P := P) h hrow hbk hv
     have hrun2 : (loadVar t ⟨b, off, none⟩).run P w = .ok x w := by simpa [Instr.loadAt, Instr.sureAddr] using hrun
     refine ⟨x :: xs, ?_, RelL.cons hrx hrel⟩
     have hA : asAddr (.pointer (some ⟨b, off, none⟩)) = pure ⟨b, off, none⟩ := rfl
     simp only [List.mapM_cons, hb, hA, Sem.run_bind, Sem.run_pure, Result.andThen_ok, hrun2]
     rw [hx]; rfl
    ·simp at hr
   ·simp at hr
  ·simp at hr
theorem startTm_ρ [Laid] {args : List V} {xs : List Value} (hr : RelL c args xs) (m : Nat) (st : St) (b : Act) : Slots c (St.ρ (st.called (startTm args))) { b with tmps := xs.toArray ++ Array.replicate m undef } := by
 have key : ∀ (l : List V) (k i : Nat) (t : Tr V), aget V.dead (startFrom k l t) i = aget V.dead t i ∨ ∃ v, l[i - k]? = some v ∧ k ≤ i ∧ aget V.dead (startFrom k l t) i = v := by
  intro l
  induction l with
  | nil => intro k i t; exact .inl rfl
  | cons v l ih =>
   intro k i t
   simp only [startFrom]
   rcases ih (k + 1) i (aset t k v) with h' | ⟨u, h1, h2, h3⟩
   ·rw [h', aget_aset]
    by_cases e : k = i
    ·subst e; exact .inr ⟨v, by simp, Nat.le_refl _, by simp⟩
    ·rw [if_neg e]; exact .inl rfl
   ·refine .inr ⟨u, ?_, by omega, h3⟩
    have : i - k = (i - (k + 1)) + 1 := by omega
    rw [this]; simpa using h1
 intro i
 show Rel c (aget V.dead (startTm args) i) _
 rcases key args 0 i .lf with h' | ⟨v, h1, _, h3⟩
 ·unfold startTm; rw [h', aget_lf]; exact .dead _
 ·unfold startTm; rw [h3]
  obtain ⟨x, hx, hrel⟩ := hr.get h1
  have : (xs.toArray ++ Array.replicate m undef).getD i undef = x := by
   have hx2 : xs[i]? = some x := by simpa using hx
   have hi : i < xs.length := by
    rcases Nat.lt_or_ge i xs.length with h' | h'
    ·exact h'
    ·rw [List.getElem?_eq_none h'] at hx2; simp at hx2
   rw [Array.getD_eq_getD_getElem?, Array.getElem?_append_left (by simpa using hi)]
   simp [hx2]
  rw [this]; exact hrel
def progOk (P : Program) (C : Cfg) : Bool := P.follows .mixedOrders && P.funcs.toList.zipIdx.all fun (fn, f) => !(fn.name == "runtime.NumGoroutine") && (!C.use f || (match fn.body with
 | some cd => Code.good C f fn.ntmps cd
 | none => true))
theorem progOk_at (h : progOk P C = true) {f : Nat} {fn : Func} (hf : P.funcs[f]? = some fn) : (fn.name == "runtime.NumGoroutine") = false ∧ (C.use f = true → ∀ cd, fn.body = some cd → Code.good C f fn.ntmps cd = true) := by
 unfold progOk at h
 simp only [Bool.and_eq_true] at h
 have := List.all_eq_true.1 h.2 (fn, f) (by rw [List.mem_iff_getElem?]; exact ⟨f, by simp [hf]⟩)
 simp only [Bool.and_eq_true, Bool.not_eq_true', Bool.or_eq_true] at this
 refine ⟨this.1, fun hu cd hb => ?_⟩
 rcases this.2 with h1 | h1
 ·rw [hu] at h1; simp at h1
 ·rw [hb] at h1; exact h1
theorem progOk_named (h : progOk P C = true) : Named P := fun f fn hf => (progOk_at h hf).1
theorem progOk_mixed (h : progOk P C = true) : P.follows .mixedOrders = true := by
 unfold progOk at h
 simp only [Bool.and_eq_true] at h
 exact h.1
theorem back_ok [Laid] {l : List V} {xs : List Value} {args : List V} (hW0 : WRel c st w) (hH0 : HpOk st.hp) {tm : Tr V} (hle : c.called.le e) (hW : WRel e st' w') (hK : Keep c.called e (st.called tm) st' w w') (hD : Dirt (st.called tm).hp st'.hp) (hH : HpOk st'.hp)
  {v : V} {x : Value} (hv : Rel e v x) (hnl : v.noLoc = true) (hnr : V.noRefsL l = true → v.noRefs = true) : ∃ c', Ret c st w v (backHp st.hp st'.hp l) c' x w' := by
 unfold backHp
 cases hc : cleanB st.hp st'.hp with
 | true =>
  have hcl : ∀ d, st'.hp.dirty = some d → st.hp.rows.length ≤ d := fun d hd => by
   unfold cleanB at hc
   rw [hd] at hc
   simpa using hc
  simp only [cond_true]
  cases hn : V.noRefsL l with
  | true =>
   simp only [cond_true]
   obtain ⟨k1, k2, k3⟩ := same_wrel (tm := tm) hW0 hH0 hle hW hK hD hcl
   exact ⟨_, k1, Rel.bare (c := e) (d := c.with e) (fun _ _ _ h => h) hv (hnr hn), k2, k3, .refl _, hH0⟩
  | false =>
   simp only [cond_false]
   obtain ⟨k1, k2⟩ := back_wrel (tm := tm) hW0 hle hW hK hH st.hp.dirty st.hp.mods
   have hsame : ∀ i, i < st.hp.rows.length → st'.hp.rows[i]? = st.hp.rows[i]? := fun i hi => hD.same i hi (fun d hd => Nat.lt_of_lt_of_le hi (hcl d hd))
   exact ⟨_, back_le (tm := tm) hW0 hle, Rel.away (c := e) (d := c.back e) ⟨fun _ _ h => h, fun _ _ _ h => h, fun _ _ h => h, fun _ _ h => h⟩ hv hnl, k1, k2, ⟨hD.len, fun d hd => ⟨d, hd, Nat.le_refl _⟩, fun i hi _ => hsame i hi, Nat.le_refl _, fun _ => ⟨rfl, hsame⟩⟩, hH⟩
 | false =>
  simp only [cond_false]
  obtain ⟨k1, k2⟩ := back_wrel (tm := tm) hW0 hle hW hK hH (match st.hp.dirty, st'.hp.dirty with | none, d => d | some d, none => some d | some d, some d' => some (min d d')) st'.hp.mods
  refine ⟨_, back_le (tm := tm) hW0 hle, Rel.away (c := e) (d := c.back e) ⟨fun _ _ h => h, fun _ _ _ h => h, fun _ _ h => h, fun _ _ h => h⟩ hv hnl, k1, k2, ⟨hD.len, fun d hd => ?_, fun i hi hd => ?_, hD.mods, fun hm => ?_⟩, hH⟩
  rotate_left 2
  ·obtain ⟨s1, s2⟩ := hD.still hm
   refine ⟨?_, s2⟩
   have s3 : st'.hp.dirty = none := s1
   simp only [s3]
   cases st.hp.dirty <;> rfl
  ·simp only [hd]
   cases st'.hp.dirty with
   | none => exact ⟨d, rfl, Nat.le_refl _⟩
   | some d' => exact ⟨_, rfl, Nat.min_le_left _ _⟩
  ·refine hD.same i hi (fun d hd' => ?_)
   simp only [hd'] at hd
   cases hq : st.hp.dirty with
   | none => rw [hq] at hd; exact hd d rfl
   | some d0 =>
    rw [hq] at hd
    have := hd _ rfl
    omega
def finV (P : Program) (h : Hp) (res : List ResultVar) (st : St) : Option Out := match resV P st res with
 | none => none
 | some l => match exps false st l with
  | none => none
  | some (l, st') => match l with
   | [v] => some (Out.val v (backHp h st'.hp [v]))
   | vs => some (Out.val (.tuple vs) (backHp h st'.hp vs))
theorem fin_sound [Laid] {fn : Func} {tm : Tr V} {out : Out} {st1 : St} {a' : Act} {c1 : Ctx} (hW : WRel c st w) (hH : HpOk st.hp) (k2 : Sim D n c.called (st.called tm) w st1 a' w' c1) (hr : finV P st.hp fn.results.toList st1 = some out) :
  ∃ v0, (results fn a'.tmps).run P w' = .ok v0 w' ∧ OutOk c st w out (.returned v0) w' := by
 unfold finV at hr
 split at hr
 ·simp at hr
 ·rename_i l0 hres
  split at hr
  ·simp at hr
  ·rename_i l st2 hexp
   obtain ⟨ys, hy, hrel⟩ := resV_sound (P := P) k2.wrel k2.slots fn.results.toList l0 hres
   obtain ⟨c2, m⟩ := exps_sound (fz := false) l0 c1 st1 ys l st2 k2.wrel hrel hexp
   have hrun : (results fn a'.tmps).run P w' = .ok (if h : ys.toArray.size = 1 then ys.toArray[0] else .tuple ys.toArray) w' := by
    unfold results
    rw [Sem.run_bind]
    have harr : (fn.results.mapM (m := Sem) fun | .tmp t => pure (a'.tmps.getD t undef) | .cell p t => do loadVar t (← asAddr (a'.tmps.getD p undef))).run P w' = .ok ys.toArray w' := by
     rw [← Array.toArray_toList (xs := fn.results), List.mapM_toArray]
     simp only [Sem.run_map, hy, Result.andThen_ok]
    exact congrArg (fun r : Result (Array Value) => r.andThen (fun a w' => Sem.run P (pure (if h : a.size = 1 then a[0] else .tuple a)) w')) harr
   refine ⟨_, hrun, ?_⟩
   have hle := k2.le.trans m.le
   have hK := k2.keep.trans m.keep
   have hD := k2.dirt.trans m.dirt
   have hH2 := (exps_hp _ _ _ _ k2.hp hexp).1
   have hrel := m.rel
   have hnl := m.noLoc
   have hW2 := m.wrel
   split at hr
   ·rename_i v
    simp only [Option.some.injEq] at hr
    subst hr
    show ∃ c', _
    cases ys with
    | nil => have := hrel.1; simp at this
    | cons y ys =>
     cases ys with
     | cons _ _ => have := hrel.1; simp at this
     | nil =>
      refine back_ok (args := []) (xs := []) hW hH hle hW2 hK hD hH2 (by simpa using hrel.head) (by simpa [V.noLocL] using hnl) (fun h => by simpa [V.noRefsL] using h)
   ·rename_i hne
    simp only [Option.some.injEq] at hr
    subst hr
    show ∃ c', _
    have hl1 : ¬ ys.toArray.size = 1 := by
     intro h1
     have h2 : l.length = 1 := by rw [← hrel.1]; simpa using h1
     cases l with
     | nil => simp at h2
     | cons v r => cases r with
      | nil => exact hne v rfl
      | cons _ _ => simp at h2
    rw [dif_neg hl1]
    exact back_ok (args := []) (xs := []) hW hH hle hW2 hK hD hH2 (Rel.mk_tuple hrel) hnl (fun h => h)
theorem panic_sound [Laid] {tm : Tr V} {v : V} {x : Value} {st1 : St} {a' : Act} {c1 : Ctx} (hW : WRel c st w) (hH : HpOk st.hp) (k2 : Sim D n c.called (st.called tm) w st1 a' w' c1) (hv : v.noLoc = true) (hx : Rel c1 v x) :
  OutOk c st w (.panic v (backHp st.hp st1.hp [v])) (.panicked [{ v := x, recovered := false }]) w' := by
 obtain ⟨c', r⟩ := back_ok (l := [v]) (args := []) (xs := []) hW hH k2.le k2.wrel k2.keep k2.dirt k2.hp hx hv (fun h => by simpa [V.noRefsL] using h)
 exact ⟨hv, c', x, rfl, r⟩
theorem start_sim [Laid] {args : List V} {xs : List Value} (hW : WRel c st w) (hH : HpOk st.hp) (hargs : RelL c args xs) (hnl : V.noLocL args = true) (hlaid : ∀ b o x, Laid.cells b o = some x → c.shut b o = some x) (m : Nat) :
  Sim [] m c.called (st.called (startTm args)) w (st.called (startTm args)) { tmps := xs.toArray ++ Array.replicate (m - xs.toArray.size) undef, defers := [] } w c.called :=
 ⟨.refl _, called_wrel hW hH _, startTm_ρ (hargs.away (called_leG c) hnl) _ st { tmps := #[], defers := [] }, by simp; omega, rfl, .refl _ _ _, .refl _, hH, hlaid⟩
theorem bodyV_sound [Laid] (hP : progOk P C = true) {call : CallF} (hS : CallStill call) (hC : CallOk P call) (fuel : Nat) : CallOk P (bodyV P C call fuel) := by
 intro f args h out hr c w st xs hst hW hH hargs hnl hlaid
 subst hst
 unfold bodyV at hr
 split at hr
 ·simp at hr
 ·simp at hr
 ·rename_i fn hu hf
  split at hr
  ·simp at hr
  ·rename_i cd hb
   refine ⟨⟨fn, cd, hf, hb⟩, ?_⟩
   have hsim := start_sim hW hH hargs hnl hlaid fn.ntmps
   have hcode := codeV_sound (D := []) (C := C) (c0 := c.called) (st0 := st.called (startTm args)) (w0 := w) (progOk_named hP) (progOk_mixed hP) hS hC f fuel cd ((progOk_at hP hf).2 hu cd hb)
   have fin : ∀ ex st1, (ex = .normal ∨ ex = .ret) → codeV P C call f fuel cd (st.called (startTm args)) = some (ex, st1) → finV P st.hp fn.results.toList st1 = some out → Calls P f xs.toArray w (OutOk c st w out) := by
    intro ex st1 hex hrun hr
    refine calls_of_wp hf hb (wp_mono (hcode _ _ _ _ ex st1 hsim hrun) (fun e a' w' k => ?_))
    obtain ⟨c1, k1, k2⟩ := k
    have main := fin_sound hW hH k2 hr
    cases e with
    | normal => exact ⟨k2.defers, main⟩
    | ret => exact ⟨k2.defers, main⟩
    | _ => rcases hex with rfl | rfl <;> exact k1.elim
   split at hr
   ·rename_i st1 hrun; exact fin _ st1 (.inl rfl) hrun hr
   ·rename_i st1 hrun; exact fin _ st1 (.inr rfl) hrun hr
   ·rename_i v st1 hrun
    simp only [Option.some.injEq] at hr
    subst hr
    refine calls_of_wp hf hb (wp_mono (hcode _ _ _ _ (.panic v) st1 hsim hrun) (fun e a' w' k => ?_))
    obtain ⟨c1, k1, k2⟩ := k
    cases e with
    | panic ch =>
     obtain ⟨hv, x, rfl, hx⟩ := k1
     exact ⟨k2.defers, panic_sound hW hH k2 hv hx⟩
    | _ => exact k1.elim
   ·simp at hr
structure KnownOk [Laid] (P : Program) (K : Kn) : Prop where
 still : ∀ f k, K f = some k → ∀ call, CallStill call → CallStill (fun _ => k call)
 ok : ∀ f k, K f = some k → ∀ call, CallStill call → CallOk P call → CallOk P (fun g args h => bif Nat.beq g f then k call args h else none)
theorem bodyK_still [Laid] {K : Kn} {call : CallF} (hK : KnownOk P K) (hC : CallStill call) (fuel : Nat) : CallStill (bodyK P C K call fuel) := by
 intro f args h out hr
 unfold bodyK at hr
 split at hr
 ·rename_i k hk
  exact hK.still f k hk call hC f args h out hr
 ·exact bodyV_still hC fuel f args h out hr
theorem fnV_still [Laid] {K : Kn} (hK : KnownOk P K) : ∀ n, CallStill (fnV P C K n)
 | 0 => by intro f args h out hr; simp [fnV] at hr
 | n + 1 => bodyK_still hK (fnV_still hK n) n
theorem bodyK_sound [Laid] {K : Kn} (hP : progOk P C = true) (hK : KnownOk P K) {call : CallF} (hS : CallStill call) (hC : CallOk P call) (fuel : Nat) : CallOk P (bodyK P C K call fuel) := by
 intro f args h out hr
 unfold bodyK at hr
 split at hr
 ·rename_i k hk
  exact hK.ok f k hk call hS hC f args h out (by simpa using hr)
 ·exact bodyV_sound hP hS hC fuel f args h out hr
theorem fnV_sound [Laid] {K : Kn} (hP : progOk P C = true) (hK : KnownOk P K) : ∀ n, CallOk P (fnV P C K n)
 | 0 => by intro f args h out hr; simp [fnV] at hr
 | n + 1 => bodyK_sound hP hK (fnV_still hK n) (fnV_sound hP hK n) n
end
end Go.AM
end

section
namespace Go.AM.F
open Go Go.AM
noncomputable section
variable {α β : Type}
def lenR (l : List α) : Nat := List.rec (motive := fun _ => Nat) 0 (fun _ _ ih => Nat.succ ih) l
def appR (a b : List α) : List α := List.rec (motive := fun _ => List α) b (fun x _ ih => x :: ih) a
def mapR (f : α → β) (l : List α) : List β := List.rec (motive := fun _ => List β) [] (fun x _ ih => f x :: ih) l
def allR (f : α → Bool) (l : List α) : Bool := List.rec (motive := fun _ => Bool) true (fun x _ ih => cond (f x) ih false) l
def takeR (l : List α) (n : Nat) : List α :=
 List.rec (motive := fun _ => Nat → List α) (fun _ => []) (fun x _ ih n => Nat.rec (motive := fun _ => List α) [] (fun m _ => x :: ih m) n) l n
def dropR (l : List α) (n : Nat) : List α :=
 List.rec (motive := fun _ => Nat → List α) (fun _ => []) (fun x t ih n => Nat.rec (motive := fun _ => List α) (x :: t) (fun m _ => ih m) n) l n
def nthR (l : List α) (n : Nat) : Option α :=
 List.rec (motive := fun _ => Nat → Option α) (fun _ => none) (fun x _ ih n => Nat.rec (motive := fun _ => Option α) (some x) (fun m _ => ih m) n) l n
def setR (l : List α) (n : Nat) (a : α) : List α :=
 List.rec (motive := fun _ => Nat → List α) (fun _ => []) (fun x t ih n => Nat.rec (motive := fun _ => List α) (a :: t) (fun m _ => x :: ih m) n) l n
def repR (n : Nat) (a : α) : List α := Nat.rec (motive := fun _ => List α) [] (fun _ ih => a :: ih) n
def overR (vs cs : List α) : List α :=
 List.rec (motive := fun _ => List α → List α) (fun cs => cs) (fun v _ ih cs => List.rec (motive := fun _ => List α) [] (fun _ t _ => v :: ih t) cs) vs cs
def atR (off : Nat) (f : List α → List α) (cs : List α) : List α :=
 Nat.rec (motive := fun _ => List α → List α) f (fun _ ih cs => List.rec (motive := fun _ => List α) [] (fun x t _ => x :: ih t) cs) off cs
theorem lenR_eq (l : List α) : lenR l = l.length := by
 induction l with
 | nil => rfl
 | cons x l ih => simp only [List.length_cons, ← ih]; rfl
theorem appR_eq (a b : List α) : appR a b = a ++ b := by
 induction a with
 | nil => rfl
 | cons x l ih => simp only [List.cons_append, ← ih]; rfl
theorem mapR_eq (f : α → β) (l : List α) : mapR f l = l.map f := by
 induction l with
 | nil => rfl
 | cons x l ih => simp only [List.map_cons, ← ih]; rfl
theorem allR_eq (f : α → Bool) (l : List α) : allR f l = l.all f := by
 induction l with
 | nil => rfl
 | cons x l ih =>
  simp only [List.all_cons, ← ih]
  show cond (f x) (allR f l) false = _
  cases f x <;> rfl
theorem takeR_eq (l : List α) : ∀ n, takeR l n = l.take n := by
 induction l with
 | nil => intro n; simp; rfl
 | cons x l ih =>
  intro n
  cases n with
  | zero => rfl
  | succ n => simp only [List.take_succ_cons, ← ih]; rfl
theorem dropR_eq (l : List α) : ∀ n, dropR l n = l.drop n := by
 induction l with
 | nil => intro n; simp; rfl
 | cons x l ih =>
  intro n
  cases n with
  | zero => rfl
  | succ n => simp only [List.drop_succ_cons, ← ih]; rfl
theorem nthR_eq (l : List α) : ∀ n, nthR l n = l[n]? := by
 induction l with
 | nil => intro n; simp; rfl
 | cons x l ih =>
  intro n
  cases n with
  | zero => rfl
  | succ n => simp only [List.getElem?_cons_succ, ← ih]; rfl
theorem setR_eq (l : List α) (a : α) : ∀ n, setR l n a = l.set n a := by
 induction l with
 | nil => intro n; rfl
 | cons x l ih =>
  intro n
  cases n with
  | zero => rfl
  | succ n => simp only [List.set_cons_succ, ← ih]; rfl
theorem repR_eq (n : Nat) (a : α) : repR n a = List.replicate n a := by
 induction n with
 | zero => rfl
 | succ n ih => simp only [List.replicate_succ, ← ih]; rfl
theorem overR_eq : ∀ (vs cs : List α), vs.length ≤ cs.length → overR vs cs = vs ++ cs.drop vs.length
 | [], cs, _ => rfl
 | v :: vs, [], h => by simp at h
 | v :: vs, c :: cs, h => by
  show v :: overR vs cs = _
  rw [overR_eq vs cs (by simpa using h)]
  simp
theorem atR_eq (f : List α → List α) : ∀ (off : Nat) (cs : List α), off ≤ cs.length → atR off f cs = cs.take off ++ f (cs.drop off)
 | 0, cs, _ => rfl
 | off + 1, [], h => by simp at h
 | off + 1, c :: cs, h => by
  show c :: atR off f cs = _
  rw [atR_eq f off cs (by simpa using h)]
  simp
def getR (d : α) (p : List Bool) (t : Tr α) : α :=
 List.rec (motive := fun _ => Tr α → α) (fun t => Tr.rec (motive := fun _ => α) d (fun v _ _ _ _ => Option.rec (motive := fun _ => α) d (fun a => a) v) t)
  (fun b _ ih t => Tr.rec (motive := fun _ => α) d (fun _ l r _ _ => Bool.rec (motive := fun _ => α) (ih l) (ih r) b) t) p t
def putR (a : α) (p : List Bool) (t : Tr α) : Tr α :=
 List.rec (motive := fun _ => Tr α → Tr α) (fun t => Tr.rec (motive := fun _ => Tr α) (.nd (some a) .lf .lf) (fun _ l r _ _ => .nd (some a) l r) t)
  (fun b _ ih t => Tr.rec (motive := fun _ => Tr α) (Bool.rec (motive := fun _ => Tr α) (.nd none (ih .lf) .lf) (.nd none .lf (ih .lf)) b)
   (fun v l r _ _ => Bool.rec (motive := fun _ => Tr α) (.nd v (ih l) r) (.nd v l (ih r)) b) t) p t
theorem getR_eq (d : α) (p : List Bool) : ∀ t, getR d p t = Tr.get d p t := by
 induction p with
 | nil => intro t; cases t with
  | lf => rfl
  | nd v l r => cases v <;> rfl
 | cons b p ih =>
  intro t
  cases t with
  | lf => cases b <;> rfl
  | nd v l r => cases b <;> simp only [Tr.get, cond_true, cond_false, ← ih] <;> rfl
theorem putR_eq (a : α) (p : List Bool) : ∀ t, putR a p t = Tr.set a p t := by
 induction p with
 | nil => intro t; cases t <;> rfl
 | cons b p ih =>
  intro t
  cases t with
  | lf => cases b <;> simp only [Tr.set, cond_true, cond_false, ← ih] <;> rfl
  | nd v l r => cases b <;> simp only [Tr.set, cond_true, cond_false, ← ih] <;> rfl
def aget (d : α) (t : Tr α) (i : Nat) : α := getR d (path i) t
def aset (t : Tr α) (i : Nat) (a : α) : Tr α := putR a (path i) t
theorem aget_eq : @aget α = @AM.aget α := by funext d t i; exact getR_eq _ _ _
theorem aset_eq : @aset α = @AM.aset α := by funext t i a; exact putR_eq _ _ _
def ltI (a b : Int) : Bool := match a, b with
 | .ofNat m, .ofNat n => Nat.blt m n
 | .ofNat _, .negSucc _ => false
 | .negSucc _, .ofNat _ => true
 | .negSucc m, .negSucc n => Nat.blt n m
def eqI (a b : Int) : Bool := match a, b with
 | .ofNat m, .ofNat n => Nat.beq m n
 | .negSucc m, .negSucc n => Nat.beq m n
 | _, _ => false
theorem ltI_eq (a b : Int) : ltI a b = decide (a < b) := by
 cases a with
 | ofNat m => cases b with
  | ofNat n =>
   show Nat.blt m n = _
   rw [Bool.eq_iff_iff, Nat.blt_eq, decide_eq_true_iff]
   show m < n ↔ (m : Int) < n
   omega
  | negSucc n =>
   show false = _
   rw [eq_comm, decide_eq_false_iff_not]
   show ¬ (m : Int) < _
   omega
 | negSucc m => cases b with
  | ofNat n =>
   show true = _
   rw [eq_comm, decide_eq_true_iff]
   show _ < (n : Int)
   omega
  | negSucc n =>
   show Nat.blt n m = _
   rw [Bool.eq_iff_iff, Nat.blt_eq, decide_eq_true_iff]
   omega
theorem eqI_eq (a b : Int) : eqI a b = (a == b) := by
 rw [Bool.eq_iff_iff, beq_iff_eq]
 cases a with
 | ofNat m => cases b with
  | ofNat n => show Nat.beq m n = true ↔ _; rw [Nat.beq_eq]; exact Int.ofNat_inj.symm
  | negSucc n => simp [eqI]
 | negSucc m => cases b with
  | ofNat n => simp [eqI]
  | negSucc n => show Nat.beq m n = true ↔ _; rw [Nat.beq_eq]; exact Int.negSucc_inj.symm
def lim : IntKind → Nat
 | .i8 => 128 | .u8 => 256 | .i16 => 32768 | .u16 => 65536 | .i32 => 2147483648 | .u32 => 4294967296 | .i64 => 9223372036854775808 | .u64 => 18446744073709551616
def wrapI (k : IntKind) (n : Int) : Int := match n with
 | .ofNat m => bif Nat.blt m (lim k) then .ofNat m else k.wrap (.ofNat m)
 | .negSucc m => bif k.signed && Nat.blt m (lim k) then .negSucc m else k.wrap (.negSucc m)
set_option maxRecDepth 20000 in
theorem wrapI_eq (k : IntKind) (n : Int) : wrapI k n = k.wrap n := by
 cases n with
 | ofNat m =>
  show (bif Nat.blt m (lim k) then Int.ofNat m else k.wrap (Int.ofNat m)) = _
  cases h : Nat.blt m (lim k) with
  | false => rfl
  | true =>
   rw [Nat.blt_eq] at h
   simp only [cond_true]
   have e0 : k.wrap (Int.ofNat m) = if k.signed && decide ((Int.ofNat m) % (2 ^ k.bits : Int) ≥ (2 ^ (k.bits - 1) : Int)) then (Int.ofNat m) % (2 ^ k.bits : Int) - (2 ^ k.bits : Int) else (Int.ofNat m) % (2 ^ k.bits : Int) := rfl
   rw [e0]
   have hp : (2 ^ k.bits : Int) = ((if k.signed then 2 * lim k else lim k : Nat) : Int) := by cases k <;> rfl
   have hq : k.signed = true → (2 ^ (k.bits - 1) : Int) = (lim k : Int) := by cases k <;> first | (intro _; rfl) | (intro h; simp [IntKind.signed] at h)
   rw [hp]
   cases hs : k.signed with
   | true =>
    rw [hq hs]
    have e1 : (Int.ofNat m) % (((if true = true then 2 * lim k else lim k : Nat)) : Int) = Int.ofNat m := Int.emod_eq_of_lt (Int.natCast_nonneg m) (by show (m : Int) < ((2 * lim k : Nat) : Int); omega)
    rw [e1]
    have e2 : decide ((Int.ofNat m) ≥ (lim k : Int)) = false := by rw [decide_eq_false_iff_not]; show ¬ ((m : Int) ≥ _); omega
    rw [e2]; rfl
   | false =>
    have e1 : (Int.ofNat m) % (((if false = true then 2 * lim k else lim k : Nat)) : Int) = Int.ofNat m := Int.emod_eq_of_lt (Int.natCast_nonneg m) (by show (m : Int) < ((lim k : Nat) : Int); omega)
    rw [e1]; rfl
 | negSucc m =>
  show (bif k.signed && Nat.blt m (lim k) then Int.negSucc m else k.wrap (Int.negSucc m)) = _
  cases h : (k.signed && Nat.blt m (lim k)) with
  | false => rfl
  | true =>
   rw [Bool.and_eq_true, Nat.blt_eq] at h
   obtain ⟨hs, h⟩ := h
   simp only [cond_true]
   have e0 : k.wrap (Int.negSucc m) = if k.signed && decide ((Int.negSucc m) % (2 ^ k.bits : Int) ≥ (2 ^ (k.bits - 1) : Int)) then (Int.negSucc m) % (2 ^ k.bits : Int) - (2 ^ k.bits : Int) else (Int.negSucc m) % (2 ^ k.bits : Int) := rfl
   rw [e0]
   have hp : k.signed = true → (2 ^ k.bits : Int) = ((2 * lim k : Nat) : Int) := by cases k <;> first | (intro _; rfl) | (intro h; simp [IntKind.signed] at h)
   have hq : k.signed = true → (2 ^ (k.bits - 1) : Int) = (lim k : Int) := by cases k <;> first | (intro _; rfl) | (intro h; simp [IntKind.signed] at h)
   rw [hp hs, hq hs, hs]
   generalize lim k = L at h
   have e1 : (Int.negSucc m) % ((2 * L : Nat) : Int) = Int.negSucc m + ((2 * L : Nat) : Int) := by
    rw [← Int.add_emod_right]
    exact Int.emod_eq_of_lt (by omega) (by omega)
   rw [e1]
   have e2 : decide (Int.negSucc m + ((2 * L : Nat) : Int) ≥ (L : Int)) = true := by rw [decide_eq_true_iff]; omega
   rw [e2]
   show Int.negSucc m = Int.negSucc m + ((2 * L : Nat) : Int) - ((2 * L : Nat) : Int)
   omega
end
end Go.AM.F
end
