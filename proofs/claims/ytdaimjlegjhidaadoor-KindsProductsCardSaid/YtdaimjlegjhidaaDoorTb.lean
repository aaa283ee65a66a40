/- Part Tb of the proof: what it says stands at its theorems. -/
import Derived.Test.YtdaimjlegjhidaaDoorTa
import Derived.KernelRfl
set_option linter.unusedVariables false
set_option linter.unusedSimpArgs false
set_option linter.unusedSectionVars false
section
namespace Go.AM.S
open Go Go.AM Go.Proofs
set_option linter.unusedVariables false
set_option maxRecDepth 100000
noncomputable section
def kp65 : List Nat := [0, 1, 4, 5, 6, 7, 8, 12, 27, 46, 53, 68]
def rc65 : RC := (.seq (.reg fun call tm loc hp k => k (p5 (p4 tm (.int .i64 (.ofNat 0))) (.int .i64 (.ofNat 0))) loc hp)
  (.seq (.reg fun call tm loc hp k => bO (idx Pg 9 (g0 tm) (g1 tm)) fun v0 => k (p6 tm v0) loc hp)
  (.seq (.block 0 (.seq (.reg fun call tm loc hp k => bO (bin Pg .eql 5 true (g6 tm) (.int .u8 (.ofNat 32))) fun v0 => jn (fun v1 l1 h1 => jn (fun v2 l2 h2 => bO (pick v0 (.bool true) v2) fun v3 => jn (fun v4 l4 h4 => jn (fun v5 l5 h5 => bO (pick v3 (.bool true) v5) fun v6 => jn (fun v7 l7 h7 => jn (fun v8 l8 h8 => bO (pick v6 (.bool true) v8) fun v9 => k (p12 tm v9) l8 h8) fun j8 => brB (wv v6 false) (j8 (.tuple []) l7 h7) (bO (bin Pg .eql 5 true v7 (.int .u8 (.ofNat 13))) fun v9 => j8 v9 l7 h7)) fun j7 => brB (wv v6 false) (j7 (.tuple []) l5 h5) (j7 (g6 tm) l5 h5)) fun j5 => brB (wv v3 false) (j5 (.tuple []) l4 h4) (bO (bin Pg .eql 5 true v4 (.int .u8 (.ofNat 10))) fun v6 => j5 v6 l4 h4)) fun j4 => brB (wv v3 false) (j4 (.tuple []) l2 h2) (j4 (g6 tm) l2 h2)) fun j2 => brB (wv v0 false) (j2 (.tuple []) l1 h1) (bO (bin Pg .eql 5 true v1 (.int .u8 (.ofNat 9))) fun v3 => j2 v3 l1 h1)) fun j1 => brB (wv v0 false) (j1 (.tuple []) loc hp) (j1 (g6 tm) loc hp))
  (.cond (.tmp 12) (.seq (.reg fun call tm loc hp k => k (p5 (p4 tm (.int .i64 (.ofNat 1))) (.int .i64 (.ofNat 1))) loc hp)
  .ret) (.seq (.reg fun call tm loc hp k => bO (bin Pg .geq 5 true (g6 tm) (.int .u8 (.ofNat 65))) fun v0 => jn (fun v1 l1 h1 => jn (fun v2 l2 h2 => bO (pick v0 v2 (.bool false)) fun v3 => jn (fun v4 l4 h4 => jn (fun v5 l5 h5 => jn (fun v6 l6 h6 => jn (fun v7 l7 h7 => jn (fun v8 l8 h8 => jn (fun v9 l9 h9 => bO (pick v3 (.bool true) v9) fun v10 => jn (fun v11 l11 h11 => jn (fun v12 l12 h12 => bO (pick v10 (.bool true) v12) fun v13 => k (p27 tm v13) l12 h12) fun j12 => brB (wv v10 false) (j12 (.tuple []) l11 h11) (bO (bin Pg .eql 5 true v11 (.int .u8 (.ofNat 95))) fun v13 => j12 v13 l11 h11)) fun j11 => brB (wv v10 false) (j11 (.tuple []) l9 h9) (j11 (g6 tm) l9 h9)) fun j9 => brB (wv v3 false) (j9 (.tuple []) l8 h8) (bO (pick v6 v8 (.bool false)) fun v10 => j9 v10 l8 h8)) fun j8 => brB (wv v6 true) (j8 (.tuple []) l7 h7) (bO (bin Pg .leq 5 true v7 (.int .u8 (.ofNat 122))) fun v9 => j8 v9 l7 h7)) fun j7 => brB (wv v6 true) (j7 (.tuple []) l6 h6) (j7 (g6 tm) l6 h6)) fun j6 => brB (wv v3 false) (j6 (.tuple []) l5 h5) (j6 v5 l5 h5)) fun j5 => brB (wv v3 false) (j5 (.tuple []) l4 h4) (bO (bin Pg .geq 5 true v4 (.int .u8 (.ofNat 97))) fun v6 => j5 v6 l4 h4)) fun j4 => brB (wv v3 false) (j4 (.tuple []) l2 h2) (j4 (g6 tm) l2 h2)) fun j2 => brB (wv v0 true) (j2 (.tuple []) l1 h1) (bO (bin Pg .leq 5 true v1 (.int .u8 (.ofNat 90))) fun v3 => j2 v3 l1 h1)) fun j1 => brB (wv v0 true) (j1 (.tuple []) loc hp) (j1 (g6 tm) loc hp))
  (.cond (.tmp 27) (.seq (.reg fun call tm loc hp k => k (p5 (p4 tm (.int .i64 (.ofNat 2))) (.int .i64 (.ofNat 1))) loc hp)
  .ret) (.seq (.reg fun call tm loc hp k => bO (bin Pg .geq 5 true (g6 tm) (.int .u8 (.ofNat 48))) fun v0 => jn (fun v1 l1 h1 => jn (fun v2 l2 h2 => bO (pick v0 v2 (.bool false)) fun v3 => k (p46 tm v3) l2 h2) fun j2 => brB (wv v0 true) (j2 (.tuple []) l1 h1) (bO (bin Pg .leq 5 true v1 (.int .u8 (.ofNat 57))) fun v3 => j2 v3 l1 h1)) fun j1 => brB (wv v0 true) (j1 (.tuple []) loc hp) (j1 (g6 tm) loc hp))
  (.cond (.tmp 46) (.seq (.reg fun call tm loc hp k => k (p5 (p4 tm (.int .i64 (.ofNat 3))) (.int .i64 (.ofNat 1))) loc hp)
  .ret) (.seq (.reg fun call tm loc hp k => bO (bin Pg .lss 5 true (g6 tm) (.int .u8 (.ofNat 128))) fun v0 => k (p53 tm v0) loc hp)
  (.cond (.tmp 53) (.seq (.reg fun call tm loc hp k => k (p5 (p4 tm (.int .i64 (.ofNat 4))) (.int .i64 (.ofNat 1))) loc hp)
  .ret) .skip)))))))))
  (.seq (.reg fun call tm loc hp k => bO (slc Pg 9 (g0 tm) (some (g1 tm)) none none) fun v0 => cl call 90 [v0] tm loc hp fun v1 l1 h1 => bO (ext v1 0) fun v2 => bO (ext v1 1) fun v3 => k (p8 (p7 tm v2) v3) l1 h1)
  (.seq (.seq (.reg fun call tm loc hp k => bO (bin Pg .eql 21 true (g7 tm) (.int .i32 (.ofNat 65533))) fun v0 => jn (fun v1 l1 h1 => jn (fun v2 l2 h2 => bO (pick v0 v2 (.bool false)) fun v3 => k (p68 tm v3) l2 h2) fun j2 => brB (wv v0 true) (j2 (.tuple []) l1 h1) (bO (bin Pg .leq 3 true v1 (.int .i64 (.ofNat 1))) fun v3 => j2 v3 l1 h1)) fun j1 => brB (wv v0 true) (j1 (.tuple []) loc hp) (j1 (g8 tm) loc hp))
  (.cond (.tmp 68) (.seq (.reg fun call tm loc hp k => k (p5 (p4 tm (.int .i64 (.ofNat 0))) (.int .i64 (.ofNat 1))) loc hp)
  .ret) .skip))
  (.seq (.reg fun call tm loc hp k => k (p5 (p4 tm (.int .i64 (.ofNat 2))) (g8 tm)) loc hp)
  .ret))))))

def kp66 : List Nat := [0, 2, 3, 4, 9, 17]
def rc66 : RC := (.seq (.reg fun call tm loc hp k => k (p2 tm (.bool false)) loc hp)
  (.seq (.reg fun call tm loc hp k => bO (bs Pg 36 27 [(0, (.str ⟨3, 7628140⟩)), (1, (.str ⟨3, 6514034⟩)), (2, (.str ⟨3, 6710642⟩)), (3, (.str ⟨2, 28265⟩)), (4, (.str ⟨2, 29545⟩)), (5, (.str ⟨2, 26217⟩)), (6, (.str ⟨4, 1852139636⟩)), (7, (.str ⟨4, 1702063205⟩)), (8, (.str ⟨3, 7959156⟩)), (9, (.str ⟨4, 1752459639⟩)), (10, (.str ⟨5, 435727982962⟩)), (11, (.str ⟨6, 128034677158753⟩)), (12, (.str ⟨3, 6581359⟩)), (13, (.str ⟨8, 8315178084276987250⟩)), (14, (.str ⟨7, 32481164592901733⟩)), (15, (.str ⟨9, 2128685862185089590628⟩)), (16, (.str ⟨3, 7630441⟩)), (17, (.str ⟨4, 1819242338⟩)), (18, (.str ⟨4, 1953066613⟩)), (19, (.str ⟨4, 1702195828⟩)), (20, (.str ⟨5, 435728179558⟩)), (21, (.str ⟨3, 7630702⟩)), (22, (.str ⟨4, 1701999952⟩)), (23, (.str ⟨5, 435744240723⟩)), (24, (.str ⟨3, 7239749⟩)), (25, (.str ⟨3, 7105601⟩)), (26, (.str ⟨3, 7760196⟩))]) fun v0 => k (p3 tm v0) loc hp)
  (.seq (.seq (.reg fun call tm loc hp k => k (p4 tm (.int .i64 (.ofNat 0))) loc hp)
  (.block 0 (.loop (.seq (.seq (.reg fun call tm loc hp k => bO (len (Pg.underlying 36) (g3 tm)) fun v0 => bO (bin Pg .lss 3 false (g4 tm) v0) fun v1 => k (p9 tm v1) loc hp)
  (.cond (.tmp 9) .skip (.exit 0)))
  (.seq (.block 1 (.seq (.reg fun call tm loc hp k => bO (ia Pg 36 (g3 tm) (g4 tm)) fun v0 => bO (ld Pg 9 v0 loc hp) fun v1 => bO (bin Pg .eql 9 false v1 (g0 tm)) fun v2 => k (p17 tm v2) loc hp)
  (.cond (.tmp 17) (.seq (.reg fun call tm loc hp k => k (p2 tm (.bool true)) loc hp)
  .ret) .skip)))
  (.reg fun call tm loc hp k => bO (bin Pg .add 3 true (g4 tm) (.int .i64 (.ofNat 1))) fun v0 => k (p4 tm v0) loc hp))))))
  (.seq (.reg fun call tm loc hp k => k (p2 tm (.bool false)) loc hp)
  .ret))))

def kp67 : List Nat := [0, 2, 3, 4, 9, 33]
def rc67 : RC := (.seq (.reg fun call tm loc hp k => k (p2 tm (.str ⟨0, 0⟩)) loc hp)
  (.seq (.reg fun call tm loc hp k => bO (bs Pg 36 25 [(0, (.str ⟨3, 4078909⟩)), (1, (.str ⟨2, 15674⟩)), (2, (.str ⟨2, 15676⟩)), (3, (.str ⟨2, 15678⟩)), (4, (.str ⟨2, 15932⟩)), (5, (.str ⟨2, 9766⟩)), (6, (.str ⟨2, 31868⟩)), (7, (.str ⟨2, 15917⟩)), (8, (.str ⟨2, 15163⟩)), (9, (.str ⟨1, 58⟩)), (10, (.str ⟨1, 59⟩)), (11, (.str ⟨1, 44⟩)), (12, (.str ⟨1, 46⟩)), (13, (.str ⟨1, 40⟩)), (14, (.str ⟨1, 41⟩)), (15, (.str ⟨1, 123⟩)), (16, (.str ⟨1, 125⟩)), (17, (.str ⟨1, 124⟩)), (18, (.str ⟨1, 61⟩)), (19, (.str ⟨1, 60⟩)), (20, (.str ⟨1, 62⟩)), (21, (.str ⟨1, 43⟩)), (22, (.str ⟨1, 45⟩)), (23, (.str ⟨1, 42⟩)), (24, (.str ⟨1, 33⟩))]) fun v0 => k (p3 tm v0) loc hp)
  (.seq (.seq (.reg fun call tm loc hp k => k (p4 tm (.int .i64 (.ofNat 0))) loc hp)
  (.block 0 (.loop (.seq (.seq (.reg fun call tm loc hp k => bO (len (Pg.underlying 36) (g3 tm)) fun v0 => bO (bin Pg .lss 3 false (g4 tm) v0) fun v1 => k (p9 tm v1) loc hp)
  (.cond (.tmp 9) .skip (.exit 0)))
  (.seq (.block 1 (.seq (.reg fun call tm loc hp k => bO (len (Pg.underlying 9) (g0 tm)) fun v0 => bO (ia Pg 36 (g3 tm) (g4 tm)) fun v1 => bO (ld Pg 9 v1 loc hp) fun v2 => bO (len (Pg.underlying 9) v2) fun v3 => bO (bin Pg .geq 3 false v0 v3) fun v4 => jn (fun v5 l5 h5 => jn (fun v6 l6 h6 => jn (fun v7 l7 h7 => jn (fun v8 l8 h8 => jn (fun v9 l9 h9 => jn (fun v10 l10 h10 => jn (fun v11 l11 h11 => jn (fun v12 l12 h12 => jn (fun v13 l13 h13 => jn (fun v14 l14 h14 => jn (fun v15 l15 h15 => jn (fun v16 l16 h16 => bO (pick v4 v16 (.bool false)) fun v17 => k (p33 tm v17) l16 h16) fun j16 => brB (wv v4 true) (j16 (.tuple []) l15 h15) (bO (bin Pg .eql 9 false v11 v15) fun v17 => j16 v17 l15 h15)) fun j15 => brB (wv v4 true) (j15 (.tuple []) l14 h14) (bO (ld Pg 9 v14 l14 h14) fun v16 => j15 v16 l14 h14)) fun j14 => brB (wv v4 true) (j14 (.tuple []) l13 h13) (bO (ia Pg 36 v12 v13) fun v15 => j14 v15 l13 h13)) fun j13 => brB (wv v4 true) (j13 (.tuple []) l12 h12) (j13 (g4 tm) l12 h12)) fun j12 => brB (wv v4 true) (j12 (.tuple []) l11 h11) (j12 (g3 tm) l11 h11)) fun j11 => brB (wv v4 true) (j11 (.tuple []) l10 h10) (bO (slc Pg 9 v5 none (some v10) none) fun v12 => j11 v12 l10 h10)) fun j10 => brB (wv v4 true) (j10 (.tuple []) l9 h9) (bO (len (Pg.underlying 9) v9) fun v11 => j10 v11 l9 h9)) fun j9 => brB (wv v4 true) (j9 (.tuple []) l8 h8) (bO (ld Pg 9 v8 l8 h8) fun v10 => j9 v10 l8 h8)) fun j8 => brB (wv v4 true) (j8 (.tuple []) l7 h7) (bO (ia Pg 36 v6 v7) fun v9 => j8 v9 l7 h7)) fun j7 => brB (wv v4 true) (j7 (.tuple []) l6 h6) (j7 (g4 tm) l6 h6)) fun j6 => brB (wv v4 true) (j6 (.tuple []) l5 h5) (j6 (g3 tm) l5 h5)) fun j5 => brB (wv v4 true) (j5 (.tuple []) loc hp) (j5 (g0 tm) loc hp))
  (.cond (.tmp 33) (.seq (.reg fun call tm loc hp k => bO (ia Pg 36 (g3 tm) (g4 tm)) fun v0 => bO (ld Pg 9 v0 loc hp) fun v1 => k (p2 tm v1) loc hp)
  .ret) .skip)))
  (.reg fun call tm loc hp k => bO (bin Pg .add 3 true (g4 tm) (.int .i64 (.ofNat 1))) fun v0 => k (p4 tm v0) loc hp))))))
  (.seq (.reg fun call tm loc hp k => k (p2 tm (.str ⟨0, 0⟩)) loc hp)
  .ret))))

def kp68 : List Nat := [0, 1, 4, 7]
def rc68 : RC := (.seq (.reg fun call tm loc hp k => k (p4 tm (.bool false)) loc hp)
  (.seq (.seq (.reg fun call tm loc hp k => cl call 44 [(g0 tm), (g1 tm)] tm loc hp fun v0 l0 h0 => k (p7 tm v0) l0 h0)
  (.cond (.tmp 7) (.seq (.reg fun call tm loc hp k => cl call 71 [(g0 tm)] tm loc hp fun v0 l0 h0 => k tm l0 h0)
  (.seq (.reg fun call tm loc hp k => k (p4 tm (.bool true)) loc hp)
  .ret)) .skip))
  (.seq (.reg fun call tm loc hp k => k (p4 tm (.bool false)) loc hp)
  .ret)))

def kp69 : List Nat := [0, 2, 3, 8]
def rc69 : RC := (.seq (.reg fun call tm loc hp k => al Pg 90 2 loc fun v0 l0 => k (p2 tm v0) l0 hp)
  (.seq (.reg fun call tm loc hp k => cl call 43 [(g0 tm)] tm loc hp fun v0 l0 h0 => al Pg 90 3 l0 fun v1 l1 => jn (fun v2 l2 h2 => k (p3 tm v1) l2 h2) fun j2 => G.onPtr v1 (fun r off => G.onRef r (fun s g => stL Pg 90 s g off v0 l1 (fun loc => j2 (.tuple []) loc h0)) (fun _ => gen Pg Cg call (Cg.glob 69) (opA Tryd.f69 1 3) (p5 (p3 tm v1) v0) tm l1 h0 j2)) (fun _ => none) none)
  (.seq (.seq (.reg fun call tm loc hp k => bO (fa Pg 90 (g3 tm) 0) fun v0 => bO (ld Pg 3 v0 loc hp) fun v1 => bO (bin Pg .neq 3 true v1 (.int .i64 (.ofNat 1))) fun v2 => k (p8 tm v2) loc hp)
  (.cond (.tmp 8) (.seq (.reg fun call tm loc hp k => bO (fa Pg 90 (g3 tm) 2) fun v0 => bO (ld Pg 3 v0 loc hp) fun v1 => cl call 45 [(g0 tm), v1, (.int .i64 (.ofNat 150))] tm loc hp fun v2 l2 h2 => k tm l2 h2)
  (.seq (.reg fun call tm loc hp k => gen Pg Cg call (Cg.glob 69) (opA Tryd.f69 4 0) tm tm loc hp (fun v0 l0 h0 => jn (fun v1 l1 h1 => k tm l1 h1) fun j1 => G.onPtr (g2 tm) (fun r off => G.onRef r (fun s g => stL Pg 90 s g off v0 l0 (fun loc => j1 (.tuple []) loc h0)) (fun _ => gen Pg Cg call (Cg.glob 69) (opA Tryd.f69 4 1) (p13 (p2 tm (g2 tm)) v0) tm l0 h0 j1)) (fun _ => none) none))
  .ret)) .skip))
  (.seq (.reg fun call tm loc hp k => cl call 71 [(g0 tm)] tm loc hp fun v0 l0 h0 => k tm l0 h0)
  (.seq (.reg fun call tm loc hp k => bO (ld Pg 90 (g3 tm) loc hp) fun v0 => jn (fun v1 l1 h1 => k tm l1 h1) fun j1 => G.onPtr (g2 tm) (fun r off => G.onRef r (fun s g => stL Pg 90 s g off v0 loc (fun loc => j1 (.tuple []) loc hp)) (fun _ => gen Pg Cg call (Cg.glob 69) (opA Tryd.f69 6 1) (p16 (p2 tm (g2 tm)) v0) tm loc hp j1)) (fun _ => none) none)
  .ret)))))

def kp70 : List Nat := [0, 1, 4, 5, 12]
def rc70 : RC := (.seq (.reg fun call tm loc hp k => k (p4 tm (.int .i64 (.ofNat 0))) loc hp)
  (.seq (.reg fun call tm loc hp k => cl call 43 [(g0 tm)] tm loc hp fun v0 l0 h0 => bO (fld Pg 90 v0 2) fun v1 => k (p5 tm v1) l0 h0)
  (.seq (.seq (.reg fun call tm loc hp k => cl call 68 [(g0 tm), (g1 tm)] tm loc hp fun v0 l0 h0 => bO (G.un .not v0) fun v1 => k (p12 tm v1) l0 h0)
  (.cond (.tmp 12) (.reg fun call tm loc hp k => cl call 43 [(g0 tm)] tm loc hp fun v0 l0 h0 => bO (fld Pg 90 v0 2) fun v1 => cl call 45 [(g0 tm), v1, (.int .i64 (.ofNat 150))] tm l0 h0 fun v2 l2 h2 => k tm l2 h2) .skip))
  (.seq (.reg fun call tm loc hp k => k (p4 tm (g5 tm)) loc hp)
  .ret))))

def kp71 : List Nat := [0, 19]
def rc71 : RC := (.seq (.reg fun call tm loc hp k => bO (nilC (g0 tm)) fun v0 => bO (fa Pg 88 v0 2) fun v1 => bO (ld Pg 3 v1 loc hp) fun v2 => bO (bin Pg .eql 3 true v2 (.int .i64 (.ofNat 0))) fun v3 => jn (fun v4 l4 h4 => jn (fun v5 l5 h5 => jn (fun v6 l6 h6 => jn (fun v7 l7 h7 => jn (fun v8 l8 h8 => jn (fun v9 l9 h9 => jn (fun v10 l10 h10 => jn (fun v11 l11 h11 => jn (fun v12 l12 h12 => jn (fun v13 l13 h13 => jn (fun v14 l14 h14 => bO (pick v3 v14 (.bool false)) fun v15 => k (p19 tm v15) l14 h14) fun j14 => brB (wv v3 true) (j14 (.tuple []) l13 h13) (bO (bin Pg .lss 3 false v7 v13) fun v15 => j14 v15 l13 h13)) fun j13 => brB (wv v3 true) (j13 (.tuple []) l12 h12) (bO (bin Pg .sub 3 true v12 (.int .i64 (.ofNat 1))) fun v14 => j13 v14 l12 h12)) fun j12 => brB (wv v3 true) (j12 (.tuple []) l11 h11) (bO (len (Pg.underlying 83) v11) fun v13 => j12 v13 l11 h11)) fun j11 => brB (wv v3 true) (j11 (.tuple []) l10 h10) (bO (ld Pg 83 v10 l10 h10) fun v12 => j11 v12 l10 h10)) fun j10 => brB (wv v3 true) (j10 (.tuple []) l9 h9) (bO (fa Pg 88 v9 0) fun v11 => j10 v11 l9 h9)) fun j9 => brB (wv v3 true) (j9 (.tuple []) l8 h8) (bO (nilC v8) fun v10 => j9 v10 l8 h8)) fun j8 => brB (wv v3 true) (j8 (.tuple []) l7 h7) (j8 (g0 tm) l7 h7)) fun j7 => brB (wv v3 true) (j7 (.tuple []) l6 h6) (bO (ld Pg 3 v6 l6 h6) fun v8 => j7 v8 l6 h6)) fun j6 => brB (wv v3 true) (j6 (.tuple []) l5 h5) (bO (fa Pg 88 v5 1) fun v7 => j6 v7 l5 h5)) fun j5 => brB (wv v3 true) (j5 (.tuple []) l4 h4) (bO (nilC v4) fun v6 => j5 v6 l4 h4)) fun j4 => brB (wv v3 true) (j4 (.tuple []) loc hp) (j4 (g0 tm) loc hp))
  (.cond (.tmp 19) (.reg fun call tm loc hp k => bO (nilC (g0 tm)) fun v0 => bO (fa Pg 88 v0 1) fun v1 => bO (ld Pg 3 v1 loc hp) fun v2 => bO (bin Pg .add 3 true v2 (.int .i64 (.ofNat 1))) fun v3 => bO (nilC (g0 tm)) fun v4 => bO (fa Pg 88 v4 1) fun v5 => jn (fun v6 l6 h6 => k tm l6 h6) fun j6 => G.onPtr v5 (fun r off => G.onRef r (fun s g => stL Pg 3 s g off v3 loc (fun loc => j6 (.tuple []) loc hp)) (fun _ => gen Pg Cg call (Cg.glob 71) (opA Tryd.f71 1 7) (p24 (p26 tm v5) v3) tm loc hp j6)) (fun _ => none) none) .skip))

def kp72 : List Nat := [0, 2, 3, 4, 5, 9, 14, 19]
def rc72 : RC := (.seq (.reg fun call tm loc hp k => al Pg 49 2 loc fun v0 l0 => k (p2 tm v0) l0 hp)
  (.seq (.reg fun call tm loc hp k => cl call 43 [(g0 tm)] tm loc hp fun v0 l0 h0 => bO (fld Pg 90 v0 2) fun v1 => k (p3 tm v1) l0 h0)
  (.seq (.block 0 (.seq (.reg fun call tm loc hp k => cl call 68 [(g0 tm), (.str ⟨3, 7630441⟩)] tm loc hp fun v0 l0 h0 => k (p9 tm v0) l0 h0)
  (.cond (.tmp 9) (.seq (.reg fun call tm loc hp k => gen Pg Cg call (Cg.glob 72) (opA Tryd.f72 3 1) (p12 tm (g3 tm)) tm loc hp (fun v0 l0 h0 => jn (fun v1 l1 h1 => k tm l1 h1) fun j1 => G.onPtr (g2 tm) (fun r off => G.onRef r (fun s g => stL Pg 49 s g off v0 l0 (fun loc => j1 (.tuple []) loc h0)) (fun _ => gen Pg Cg call (Cg.glob 72) (opA Tryd.f72 3 2) (p13 (p2 tm (g2 tm)) v0) tm l0 h0 j1)) (fun _ => none) none))
  .ret) (.seq (.reg fun call tm loc hp k => cl call 68 [(g0 tm), (.str ⟨4, 1819242338⟩)] tm loc hp fun v0 l0 h0 => k (p14 tm v0) l0 h0)
  (.cond (.tmp 14) (.seq (.reg fun call tm loc hp k => gen Pg Cg call (Cg.glob 72) (opA Tryd.f72 5 1) (p17 tm (g3 tm)) tm loc hp (fun v0 l0 h0 => jn (fun v1 l1 h1 => k tm l1 h1) fun j1 => G.onPtr (g2 tm) (fun r off => G.onRef r (fun s g => stL Pg 49 s g off v0 l0 (fun loc => j1 (.tuple []) loc h0)) (fun _ => gen Pg Cg call (Cg.glob 72) (opA Tryd.f72 5 2) (p18 (p2 tm (g2 tm)) v0) tm l0 h0 j1)) (fun _ => none) none))
  .ret) (.seq (.reg fun call tm loc hp k => cl call 68 [(g0 tm), (.str ⟨4, 1953066613⟩)] tm loc hp fun v0 l0 h0 => k (p19 tm v0) l0 h0)
  (.cond (.tmp 19) (.seq (.reg fun call tm loc hp k => gen Pg Cg call (Cg.glob 72) (opA Tryd.f72 7 1) (p22 tm (g3 tm)) tm loc hp (fun v0 l0 h0 => jn (fun v1 l1 h1 => k tm l1 h1) fun j1 => G.onPtr (g2 tm) (fun r off => G.onRef r (fun s g => stL Pg 49 s g off v0 l0 (fun loc => j1 (.tuple []) loc h0)) (fun _ => gen Pg Cg call (Cg.glob 72) (opA Tryd.f72 7 2) (p23 (p2 tm (g2 tm)) v0) tm l0 h0 j1)) (fun _ => none) none))
  .ret) .skip)))))))
  (.seq (.reg fun call tm loc hp k => cl call 70 [(g0 tm), (.str ⟨1, 123⟩)] tm loc hp fun v0 l0 h0 => k tm l0 h0)
  (.seq (.reg fun call tm loc hp k => cl call 69 [(g0 tm)] tm loc hp fun v0 l0 h0 => al Pg 90 4 l0 fun v1 l1 => jn (fun v2 l2 h2 => k (p4 tm v1) l2 h2) fun j2 => G.onPtr v1 (fun r off => G.onRef r (fun s g => stL Pg 90 s g off v0 l1 (fun loc => j2 (.tuple []) loc h0)) (fun _ => gen Pg Cg call (Cg.glob 72) (opA Tryd.f72 9 3) (p27 (p4 tm v1) v0) tm l1 h0 j2)) (fun _ => none) none)
  (.seq (.reg fun call tm loc hp k => cl call 70 [(g0 tm), (.str ⟨1, 58⟩)] tm loc hp fun v0 l0 h0 => k tm l0 h0)
  (.seq (.reg fun call tm loc hp k => cl call 70 [(g0 tm), (.str ⟨3, 7630441⟩)] tm loc hp fun v0 l0 h0 => k tm l0 h0)
  (.seq (.reg fun call tm loc hp k => cl call 70 [(g0 tm), (.str ⟨1, 124⟩)] tm loc hp fun v0 l0 h0 => k tm l0 h0)
  (.seq (.reg fun call tm loc hp k => cl call 73 [(g0 tm)] tm loc hp fun v0 l0 h0 => al Pg 51 5 l0 fun v1 l1 => jn (fun v2 l2 h2 => k (p5 tm v1) l2 h2) fun j2 => G.onPtr v1 (fun r off => G.onRef r (fun s g => stL Pg 51 s g off v0 l1 (fun loc => j2 (.tuple []) loc h0)) (fun _ => gen Pg Cg call (Cg.glob 72) (opA Tryd.f72 13 3) (p35 (p5 tm v1) v0) tm l1 h0 j2)) (fun _ => none) none)
  (.seq (.reg fun call tm loc hp k => cl call 70 [(g0 tm), (.str ⟨1, 125⟩)] tm loc hp fun v0 l0 h0 => k tm l0 h0)
  (.seq (.reg fun call tm loc hp k => bO (fa Pg 90 (g4 tm) 1) fun v0 => bO (ld Pg 9 v0 loc hp) fun v1 => bO (ld Pg 51 (g5 tm) loc hp) fun v2 => bO (bs Pg 47 1 [(0, v2)]) fun v3 => gen Pg Cg call (Cg.glob 72) (opA Tryd.f72 15 5) (p42 (p41 (p39 tm v1) v3) (g3 tm)) tm loc hp (fun v4 l4 h4 => jn (fun v5 l5 h5 => k tm l5 h5) fun j5 => G.onPtr (g2 tm) (fun r off => G.onRef r (fun s g => stL Pg 49 s g off v4 l4 (fun loc => j5 (.tuple []) loc h4)) (fun _ => gen Pg Cg call (Cg.glob 72) (opA Tryd.f72 15 6) (p43 (p2 tm (g2 tm)) v4) tm l4 h4 j5)) (fun _ => none) none))
  .ret)))))))))))

def kp73 : List Nat := [0, 2, 3, 6]
def rc73 : RC := (.seq (.reg fun call tm loc hp k => al Pg 51 2 loc fun v0 l0 => k (p2 tm v0) l0 hp)
  (.seq (.seq (.reg fun call tm loc hp k => cl call 91 [(g0 tm)] tm loc hp fun v0 l0 h0 => bO (G.un .not v0) fun v1 => k (p6 tm v1) l0 h0)
  (.cond (.tmp 6) (.seq (.reg fun call tm loc hp k => bO (nilC (g0 tm)) fun v0 => bO (fa Pg 88 v0 4) fun v1 => bO (ld Pg 3 v1 loc hp) fun v2 => bO (bin Pg .sub 3 true v2 (.int .i64 (.ofNat 1))) fun v3 => bO (nilC (g0 tm)) fun v4 => bO (fa Pg 88 v4 4) fun v5 => jn (fun v6 l6 h6 => k tm l6 h6) fun j6 => G.onPtr v5 (fun r off => G.onRef r (fun s g => stL Pg 3 s g off v3 loc (fun loc => j6 (.tuple []) loc hp)) (fun _ => gen Pg Cg call (Cg.glob 73) (opA Tryd.f73 2 7) (p11 (p13 tm v5) v3) tm loc hp j6)) (fun _ => none) none)
  (.seq (.reg fun call tm loc hp k => gen Pg Cg call (Cg.glob 73) (opA Tryd.f73 3 0) tm tm loc hp (fun v0 l0 h0 => jn (fun v1 l1 h1 => k tm l1 h1) fun j1 => G.onPtr (g2 tm) (fun r off => G.onRef r (fun s g => stL Pg 51 s g off v0 l0 (fun loc => j1 (.tuple []) loc h0)) (fun _ => gen Pg Cg call (Cg.glob 73) (opA Tryd.f73 3 1) (p14 (p2 tm (g2 tm)) v0) tm l0 h0 j1)) (fun _ => none) none))
  .ret)) .skip))
  (.seq (.reg fun call tm loc hp k => cl call 92 [(g0 tm)] tm loc hp fun v0 l0 h0 => al Pg 51 3 l0 fun v1 l1 => jn (fun v2 l2 h2 => k (p3 tm v1) l2 h2) fun j2 => G.onPtr v1 (fun r off => G.onRef r (fun s g => stL Pg 51 s g off v0 l1 (fun loc => j2 (.tuple []) loc h0)) (fun _ => gen Pg Cg call (Cg.glob 73) (opA Tryd.f73 4 3) (p16 (p3 tm v1) v0) tm l1 h0 j2)) (fun _ => none) none)
  (.seq (.reg fun call tm loc hp k => bO (nilC (g0 tm)) fun v0 => bO (fa Pg 88 v0 4) fun v1 => bO (ld Pg 3 v1 loc hp) fun v2 => bO (bin Pg .sub 3 true v2 (.int .i64 (.ofNat 1))) fun v3 => bO (nilC (g0 tm)) fun v4 => bO (fa Pg 88 v4 4) fun v5 => jn (fun v6 l6 h6 => k tm l6 h6) fun j6 => G.onPtr v5 (fun r off => G.onRef r (fun s g => stL Pg 3 s g off v3 loc (fun loc => j6 (.tuple []) loc hp)) (fun _ => gen Pg Cg call (Cg.glob 73) (opA Tryd.f73 5 7) (p21 (p23 tm v5) v3) tm loc hp j6)) (fun _ => none) none)
  (.seq (.reg fun call tm loc hp k => bO (ld Pg 51 (g3 tm) loc hp) fun v0 => jn (fun v1 l1 h1 => k tm l1 h1) fun j1 => G.onPtr (g2 tm) (fun r off => G.onRef r (fun s g => stL Pg 51 s g off v0 loc (fun loc => j1 (.tuple []) loc hp)) (fun _ => gen Pg Cg call (Cg.glob 73) (opA Tryd.f73 6 1) (p24 (p2 tm (g2 tm)) v0) tm loc hp j1)) (fun _ => none) none)
  .ret)))))

def kp74 : List Nat := [0, 1, 2, 3]
def rc74 : RC := (.reg fun call tm loc hp k => bO (ld Pg 98 (g0 tm) loc hp) fun v0 => bO (ld Pg 51 (g1 tm) loc hp) fun v1 => bO (ld Pg 39 (g2 tm) loc hp) fun v2 => cl call 75 [v0, v1, v2] tm loc hp fun v3 l3 h3 => jn (fun v4 l4 h4 => k tm l4 h4) fun j4 => G.onPtr (g3 tm) (fun r off => G.onRef r (fun s g => stL Pg 3 s g off v3 l3 (fun loc => j4 (.tuple []) loc h3)) (fun _ => gen Pg Cg call (Cg.glob 74) (opA Tryd.f74 0 4) (p7 (p3 tm (g3 tm)) v3) tm l3 h3 j4)) (fun _ => none) none)

def kp75 : List Nat := [0, 1, 2, 4, 6, 8, 9, 13, 15, 17, 28, 41, 48, 54, 60, 66]
def rc75 : RC := (.seq (.reg fun call tm loc hp k => gen Pg Cg call (Cg.glob 75) (opA Tryd.f75 0 0) (p1 tm (g1 tm)) tm loc hp (fun v0 l0 h0 => k (p6 (p4 tm v0) (.int .i64 (.ofNat 0))) l0 h0))
  (.seq (.seq (.reg fun call tm loc hp k => bO (fa Pg 51 (g4 tm) 0) fun v0 => bO (ld Pg 3 v0 loc hp) fun v1 => k (p8 tm v1) loc hp)
  (.block 0 (.seq (.seq (.reg fun call tm loc hp k => bO (bin Pg .eql 3 true (g8 tm) (.int .i64 (.ofNat 1))) fun v0 => k (p9 tm v0) loc hp)
  (.cond (.tmp 9) .skip (.seq (.reg fun call tm loc hp k => bO (bin Pg .eql 3 true (g8 tm) (.int .i64 (.ofNat 5))) fun v0 => k (p9 tm v0) loc hp)
  (.cond (.tmp 9) .skip (.reg fun call tm loc hp k => bO (bin Pg .eql 3 true (g8 tm) (.int .i64 (.ofNat 6))) fun v0 => k (p9 tm v0) loc hp)))))
  (.cond (.tmp 9) (.seq (.reg fun call tm loc hp k => k (p6 tm (.int .i64 (.ofNat 1))) loc hp)
  .ret) (.seq (.reg fun call tm loc hp k => bO (bin Pg .eql 3 true (g8 tm) (.int .i64 (.ofNat 2))) fun v0 => k (p13 tm v0) loc hp)
  (.cond (.tmp 13) (.seq (.reg fun call tm loc hp k => k (p6 tm (.int .i64 (.ofNat 2))) loc hp)
  .ret) (.seq (.reg fun call tm loc hp k => bO (bin Pg .eql 3 true (g8 tm) (.int .i64 (.ofNat 3))) fun v0 => k (p15 tm v0) loc hp)
  (.cond (.tmp 15) (.seq (.reg fun call tm loc hp k => k (p6 tm (.int .i64 (.ofNat 3))) loc hp)
  .ret) (.seq (.reg fun call tm loc hp k => bO (bin Pg .eql 3 true (g8 tm) (.int .i64 (.ofNat 4))) fun v0 => k (p17 tm v0) loc hp)
  (.cond (.tmp 17) (.seq (.seq (.reg fun call tm loc hp k => bO (fa Pg 51 (g4 tm) 5) fun v0 => bO (ld Pg 3 v0 loc hp) fun v1 => bO (bin Pg .lss 3 true v1 (.int .i64 (.ofNat 0))) fun v2 => jn (fun v3 l3 h3 => jn (fun v4 l4 h4 => jn (fun v5 l5 h5 => jn (fun v6 l6 h6 => jn (fun v7 l7 h7 => bO (pick v2 (.bool true) v7) fun v8 => k (p28 tm v8) l7 h7) fun j7 => brB (wv v2 false) (j7 (.tuple []) l6 h6) (bO (bin Pg .geq 3 false v4 v6) fun v8 => j7 v8 l6 h6)) fun j6 => brB (wv v2 false) (j6 (.tuple []) l5 h5) (bO (len (Pg.underlying 39) v5) fun v7 => j6 v7 l5 h5)) fun j5 => brB (wv v2 false) (j5 (.tuple []) l4 h4) (j5 (g2 tm) l4 h4)) fun j4 => brB (wv v2 false) (j4 (.tuple []) l3 h3) (bO (ld Pg 3 v3 l3 h3) fun v5 => j4 v5 l3 h3)) fun j3 => brB (wv v2 false) (j3 (.tuple []) loc hp) (bO (fa Pg 51 (g4 tm) 5) fun v4 => j3 v4 loc hp))
  (.cond (.tmp 28) (.reg fun call tm loc hp k => bO (fa Pg 51 (g4 tm) 6) fun v0 => bO (ld Pg 3 v0 loc hp) fun v1 => cl call 79 [v1, (.int .i64 (.ofNat 170))] tm loc hp fun v2 l2 h2 => k tm l2 h2) .skip))
  (.seq (.reg fun call tm loc hp k => bO (len (Pg.underlying 39) (g2 tm)) fun v0 => bO (bin Pg .sub 3 true v0 (.int .i64 (.ofNat 1))) fun v1 => bO (fa Pg 51 (g4 tm) 5) fun v2 => bO (ld Pg 3 v2 loc hp) fun v3 => bO (bin Pg .sub 3 false v1 v3) fun v4 => bO (ia Pg 39 (g2 tm) v4) fun v5 => bO (ld Pg 3 v5 loc hp) fun v6 => k (p6 tm v6) loc hp)
  .ret)) (.seq (.seq (.reg fun call tm loc hp k => bO (bin Pg .eql 3 true (g8 tm) (.int .i64 (.ofNat 7))) fun v0 => k (p41 tm v0) loc hp)
  (.cond (.tmp 41) .skip (.reg fun call tm loc hp k => bO (bin Pg .eql 3 true (g8 tm) (.int .i64 (.ofNat 26))) fun v0 => k (p41 tm v0) loc hp)))
  (.cond (.tmp 41) (.seq (.reg fun call tm loc hp k => bO (ld Pg 51 (g4 tm) loc hp) fun v0 => cl call 93 [(g0 tm), v0, (.int .i64 (.ofNat 0)), (.int .i64 (.ofNat 1)), (g2 tm)] tm loc hp fun v1 l1 h1 => k tm l1 h1)
  (.seq (.reg fun call tm loc hp k => k (p6 tm (.int .i64 (.ofNat 1))) loc hp)
  .ret)) (.seq (.reg fun call tm loc hp k => bO (bin Pg .eql 3 true (g8 tm) (.int .i64 (.ofNat 25))) fun v0 => k (p48 tm v0) loc hp)
  (.cond (.tmp 48) (.seq (.reg fun call tm loc hp k => bO (ld Pg 51 (g4 tm) loc hp) fun v0 => cl call 93 [(g0 tm), v0, (.int .i64 (.ofNat 0)), (.int .i64 (.ofNat 1)), (g2 tm)] tm loc hp fun v1 l1 h1 => k tm l1 h1)
  (.seq (.reg fun call tm loc hp k => k (p6 tm (.int .i64 (.ofNat 3))) loc hp)
  .ret)) (.seq (.reg fun call tm loc hp k => bO (bin Pg .eql 3 true (g8 tm) (.int .i64 (.ofNat 28))) fun v0 => k (p54 tm v0) loc hp)
  (.cond (.tmp 54) (.seq (.reg fun call tm loc hp k => bO (ld Pg 51 (g4 tm) loc hp) fun v0 => cl call 93 [(g0 tm), v0, (.int .i64 (.ofNat 0)), (.int .i64 (.ofNat 2)), (g2 tm)] tm loc hp fun v1 l1 h1 => k tm l1 h1)
  (.seq (.reg fun call tm loc hp k => k (p6 tm (.int .i64 (.ofNat 3))) loc hp)
  .ret)) (.seq (.reg fun call tm loc hp k => bO (bin Pg .eql 3 true (g8 tm) (.int .i64 (.ofNat 8))) fun v0 => k (p60 tm v0) loc hp)
  (.cond (.tmp 60) (.seq (.reg fun call tm loc hp k => bO (ld Pg 51 (g4 tm) loc hp) fun v0 => cl call 93 [(g0 tm), v0, (.int .i64 (.ofNat 0)), (.int .i64 (.ofNat 2)), (g2 tm)] tm loc hp fun v1 l1 h1 => k tm l1 h1)
  (.seq (.reg fun call tm loc hp k => k (p6 tm (.int .i64 (.ofNat 2))) loc hp)
  .ret)) (.seq (.reg fun call tm loc hp k => bO (bin Pg .eql 3 true (g8 tm) (.int .i64 (.ofNat 21))) fun v0 => k (p66 tm v0) loc hp)
  (.cond (.tmp 66) (.seq (.reg fun call tm loc hp k => bO (ld Pg 51 (g4 tm) loc hp) fun v0 => cl call 94 [(g0 tm), v0, (g2 tm)] tm loc hp fun v1 l1 h1 => k (p6 tm v1) l1 h1)
  .ret) .skip))))))))))))))))))))
  (.seq (.reg fun call tm loc hp k => bO (ld Pg 51 (g4 tm) loc hp) fun v0 => cl call 95 [(g0 tm), v0, (g2 tm)] tm loc hp fun v1 l1 h1 => k (p6 tm v1) l1 h1)
  .ret)))

def kp76 : List Nat := [0, 1, 3, 4, 5, 6, 7, 8, 9, 10, 12, 13, 14, 15, 28, 35, 36, 41, 44, 53]
def rc76 : RC := (.seq (.reg fun call tm loc hp k => gen Pg Cg call (Cg.glob 76) (opA Tryd.f76 0 0) (p1 tm (g1 tm)) tm loc hp (fun v0 l0 h0 => al Pg 130 4 l0 fun v1 l1 => k (p4 (p3 tm v0) v1) l1 h0))
  (.seq (.reg fun call tm loc hp k => al Pg 130 5 loc fun v0 l0 => k (p5 tm v0) l0 hp)
  (.seq (.seq (.reg fun call tm loc hp k => bO (fa Pg 51 (g3 tm) 4) fun v0 => bO (ld Pg 47 v0 loc hp) fun v1 => bO (len (Pg.underlying 47) v1) fun v2 => k (p14 (p13 (p12 tm v1) v2) (.int .i64 (.ofNat 0))) loc hp)
  (.block 0 (.loop (.seq (.reg fun call tm loc hp k => bO (bin Pg .lss 3 false (g14 tm) (g13 tm)) fun v0 => k (p15 tm v0) loc hp)
  (.seq (.cond (.tmp 15) .skip (.exit 0))
  (.seq (.block 1 (.seq (.reg fun call tm loc hp k => bO (ia Pg 47 (g12 tm) (g14 tm)) fun v0 => bO (ld Pg 51 v0 loc hp) fun v1 => al Pg 51 7 loc fun v2 l2 => jn (fun v3 l3 h3 => k (p6 (p7 tm v2) (g14 tm)) l3 h3) fun j3 => G.onPtr v2 (fun r off => G.onRef r (fun s g => stL Pg 51 s g off v1 l2 (fun loc => j3 (.tuple []) loc hp)) (fun _ => gen Pg Cg call (Cg.glob 76) (opA Tryd.f76 4 5) (p18 (p7 tm v2) v1) tm l2 hp j3)) (fun _ => none) none)
  (.seq (.reg fun call tm loc hp k => bO (ld Pg 51 (g7 tm) loc hp) fun v0 => cl call 76 [(g0 tm), v0] tm loc hp fun v1 l1 h1 => al Pg 130 8 l1 fun v2 l2 => jn (fun v3 l3 h3 => k (p8 tm v2) l3 h3) fun j3 => G.onPtr v2 (fun r off => G.onRef r (fun s g => stL Pg 130 s g off v1 l2 (fun loc => j3 (.tuple []) loc h1)) (fun _ => gen Pg Cg call (Cg.glob 76) (opA Tryd.f76 5 4) (p21 (p8 tm v2) v1) tm l2 h1 j3)) (fun _ => none) none)
  (.seq (.seq (.reg fun call tm loc hp k => bO (fa Pg 51 (g3 tm) 0) fun v0 => bO (ld Pg 3 v0 loc hp) fun v1 => bO (bin Pg .eql 3 true v1 (.int .i64 (.ofNat 27))) fun v2 => jn (fun v3 l3 h3 => jn (fun v4 l4 h4 => bO (pick v2 v4 (.bool false)) fun v5 => k (p28 tm v5) l4 h4) fun j4 => brB (wv v2 true) (j4 (.tuple []) l3 h3) (bO (bin Pg .eql 3 true v3 (.int .i64 (.ofNat 0))) fun v5 => j4 v5 l3 h3)) fun j3 => brB (wv v2 true) (j3 (.tuple []) loc hp) (j3 (g6 tm) loc hp))
  (.cond (.tmp 28) (.reg fun call tm loc hp k => bO (fa Pg 130 (g8 tm) 1) fun v0 => jn (fun v1 l1 h1 => k tm l1 h1) fun j1 => G.onPtr v0 (fun r off => G.onRef r (fun s g => stL Pg 4 s g off (.bool false) loc (fun loc => j1 (.tuple []) loc hp)) (fun _ => gen Pg Cg call (Cg.glob 76) (opA Tryd.f76 7 1) (p29 tm v0) tm loc hp j1)) (fun _ => none) none) .skip))
  (.reg fun call tm loc hp k => bO (ld Pg 130 (g5 tm) loc hp) fun v0 => bO (ld Pg 130 (g8 tm) loc hp) fun v1 => cl call 96 [v0, v1] tm loc hp fun v2 l2 h2 => jn (fun v3 l3 h3 => k tm l3 h3) fun j3 => G.onPtr (g5 tm) (fun r off => G.onRef r (fun s g => stL Pg 130 s g off v2 l2 (fun loc => j3 (.tuple []) loc h2)) (fun _ => gen Pg Cg call (Cg.glob 76) (opA Tryd.f76 8 3) (p32 (p5 tm (g5 tm)) v2) tm l2 h2 j3)) (fun _ => none) none)))))
  (.reg fun call tm loc hp k => bO (bin Pg .add 3 true (g14 tm) (.int .i64 (.ofNat 1))) fun v0 => k (p14 tm v0) loc hp)))))))
  (.seq (.seq (.reg fun call tm loc hp k => bO (fa Pg 51 (g3 tm) 0) fun v0 => bO (ld Pg 3 v0 loc hp) fun v1 => k (p35 tm v1) loc hp)
  (.block 2 (.seq (.seq (.reg fun call tm loc hp k => bO (bin Pg .eql 3 true (g35 tm) (.int .i64 (.ofNat 5))) fun v0 => k (p36 tm v0) loc hp)
  (.cond (.tmp 36) .skip (.seq (.reg fun call tm loc hp k => bO (bin Pg .eql 3 true (g35 tm) (.int .i64 (.ofNat 6))) fun v0 => k (p36 tm v0) loc hp)
  (.cond (.tmp 36) .skip (.reg fun call tm loc hp k => bO (bin Pg .eql 3 true (g35 tm) (.int .i64 (.ofNat 25))) fun v0 => k (p36 tm v0) loc hp)))))
  (.cond (.tmp 36) (.reg fun call tm loc hp k => bO (fa Pg 130 (g5 tm) 0) fun v0 => jn (fun v1 l1 h1 => k tm l1 h1) fun j1 => G.onPtr v0 (fun r off => G.onRef r (fun s g => stL Pg 4 s g off (.bool true) loc (fun loc => j1 (.tuple []) loc hp)) (fun _ => gen Pg Cg call (Cg.glob 76) (opA Tryd.f76 14 1) (p40 tm v0) tm loc hp j1)) (fun _ => none) none) (.seq (.reg fun call tm loc hp k => bO (bin Pg .eql 3 true (g35 tm) (.int .i64 (.ofNat 26))) fun v0 => k (p41 tm v0) loc hp)
  (.cond (.tmp 41) (.reg fun call tm loc hp k => bO (fa Pg 130 (g5 tm) 1) fun v0 => jn (fun v1 l1 h1 => k tm l1 h1) fun j1 => G.onPtr v0 (fun r off => G.onRef r (fun s g => stL Pg 4 s g off (.bool true) loc (fun loc => j1 (.tuple []) loc hp)) (fun _ => gen Pg Cg call (Cg.glob 76) (opA Tryd.f76 16 1) (p43 tm v0) tm loc hp j1)) (fun _ => none) none) (.seq (.reg fun call tm loc hp k => bO (bin Pg .eql 3 true (g35 tm) (.int .i64 (.ofNat 21))) fun v0 => k (p44 tm v0) loc hp)
  (.cond (.tmp 44) (.seq (.reg fun call tm loc hp k => bO (fa Pg 51 (g3 tm) 5) fun v0 => bO (ld Pg 3 v0 loc hp) fun v1 => cl call 78 [(g0 tm), v1] tm loc hp fun v2 l2 h2 => bO (ext v2 0) fun v3 => bO (ext v2 1) fun v4 => al Pg 53 9 l2 fun v5 l5 => jn (fun v6 l6 h6 => k (p10 (p9 tm v5) v4) l6 h6) fun j6 => G.onPtr v5 (fun r off => G.onRef r (fun s g => stL Pg 53 s g off v3 l5 (fun loc => j6 (.tuple []) loc h2)) (fun _ => gen Pg Cg call (Cg.glob 76) (opA Tryd.f76 18 8) (p51 (p9 tm v5) v3) tm l5 h2 j6)) (fun _ => none) none)
  (.seq (.reg fun call tm loc hp k => k (p53 tm (g10 tm)) loc hp)
  (.cond (.tmp 53) (.reg fun call tm loc hp k => G.next (F.regionV Pg Cg call 76 20 (rgA Tryd.f76 20) true ⟨tm, loc, hp⟩) (fun st => k st.tm st.loc st.hp)) .skip))) .skip))))))))
  (.seq (.reg fun call tm loc hp k => bO (ld Pg 130 (g5 tm) loc hp) fun v0 => jn (fun v1 l1 h1 => k tm l1 h1) fun j1 => G.onPtr (g4 tm) (fun r off => G.onRef r (fun s g => stL Pg 130 s g off v0 loc (fun loc => j1 (.tuple []) loc hp)) (fun _ => gen Pg Cg call (Cg.glob 76) (opA Tryd.f76 21 1) (p59 (p4 tm (g4 tm)) v0) tm loc hp j1)) (fun _ => none) none)
  .ret)))))

def kp77 : List Nat := [0, 1, 2, 3, 6, 13]
def rc77 : RC := (.seq (.reg fun call tm loc hp k => gen Pg Cg call (Cg.glob 77) (opA Tryd.f77 0 0) tm tm loc hp (fun v0 l0 h0 => k (p1 tm v0) l0 h0))
  (.seq (.reg fun call tm loc hp k => bO (bin Pg .neq 20 true (g1 tm) .nili) fun v0 => k (p6 tm v0) loc hp)
  (.cond (.tmp 6) (.seq (.reg fun call tm loc hp k => gen Pg Cg call (Cg.glob 77) (opA Tryd.f77 2 1) (p8 tm (g1 tm)) tm loc hp (fun v0 l0 h0 => bO (ext v0 0) fun v1 => bO (ext v0 1) fun v2 => al Pg 133 2 l0 fun v3 l3 => jn (fun v4 l4 h4 => k (p3 (p2 tm v3) v2) l4 h4) fun j4 => G.onPtr v3 (fun r off => G.onRef r (fun s g => stL Pg 133 s g off v1 l3 (fun loc => j4 (.tuple []) loc h0)) (fun _ => gen Pg Cg call (Cg.glob 77) (opA Tryd.f77 2 6) (p10 (p2 tm v3) v1) tm l3 h0 j4)) (fun _ => none) none))
  (.seq (.seq (.reg fun call tm loc hp k => bO (G.un .not (g3 tm)) fun v0 => k (p13 tm v0) loc hp)
  (.cond (.tmp 13) (.reg fun call tm loc hp k => gen Pg Cg call (Cg.glob 77) (opA Tryd.f77 4 1) (p14 tm (g1 tm)) tm loc hp (fun v0 l0 h0 => k tm l0 h0)) .skip))
  (.reg fun call tm loc hp k => bO (fa Pg 133 (g2 tm) 0) fun v0 => bO (ld Pg 66 v0 loc hp) fun v1 => gen Pg Cg call (Cg.glob 77) (opA Tryd.f77 5 2) (p16 tm v1) tm loc hp (fun v2 l2 h2 => jn (fun v3 l3 h3 => k tm l3 h3) fun j3 => G.onPtr (g0 tm) (fun r off => G.onRef r (fun s g => stL Pg 27 s g off v2 l2 (fun loc => j3 (.tuple []) loc h2)) (fun _ => gen Pg Cg call (Cg.glob 77) (opA Tryd.f77 5 3) (p17 (p0 tm (g0 tm)) v2) tm l2 h2 j3)) (fun _ => none) none)))) .skip)))

def kp78 : List Nat := [0, 1, 4, 5, 6, 16]
def rc78 : RC := (.seq (.reg fun call tm loc hp k => al Pg 53 4 loc fun v0 l0 => k (p5 (p4 tm v0) (.bool false)) l0 hp)
  (.seq (.reg fun call tm loc hp k => cl call 21 [(g0 tm)] tm loc hp fun v0 l0 h0 => k (p6 tm v0) l0 h0)
  (.seq (.seq (.reg fun call tm loc hp k => bO (bin Pg .lss 3 true (g1 tm) (.int .i64 (.ofNat 0))) fun v0 => jn (fun v1 l1 h1 => jn (fun v2 l2 h2 => jn (fun v3 l3 h3 => jn (fun v4 l4 h4 => bO (pick v0 (.bool true) v4) fun v5 => k (p16 tm v5) l4 h4) fun j4 => brB (wv v0 false) (j4 (.tuple []) l3 h3) (bO (bin Pg .geq 3 false v1 v3) fun v5 => j4 v5 l3 h3)) fun j3 => brB (wv v0 false) (j3 (.tuple []) l2 h2) (bO (len (Pg.underlying 39) v2) fun v4 => j3 v4 l2 h2)) fun j2 => brB (wv v0 false) (j2 (.tuple []) l1 h1) (j2 (g6 tm) l1 h1)) fun j1 => brB (wv v0 false) (j1 (.tuple []) loc hp) (j1 (g1 tm) loc hp))
  (.cond (.tmp 16) (.seq (.reg fun call tm loc hp k => gen Pg Cg call (Cg.glob 78) (opA Tryd.f78 3 0) tm tm loc hp (fun v0 l0 h0 => jn (fun v1 l1 h1 => k (p5 tm (.bool false)) l1 h1) fun j1 => G.onPtr (g4 tm) (fun r off => G.onRef r (fun s g => stL Pg 53 s g off v0 l0 (fun loc => j1 (.tuple []) loc h0)) (fun _ => gen Pg Cg call (Cg.glob 78) (opA Tryd.f78 3 1) (p17 (p4 tm (g4 tm)) v0) tm l0 h0 j1)) (fun _ => none) none))
  .ret) .skip))
  (.seq (.reg fun call tm loc hp k => bO (ia Pg 39 (g6 tm) (g1 tm)) fun v0 => bO (ld Pg 3 v0 loc hp) fun v1 => bO (ia Pg 23 (g0 tm) v1) fun v2 => bO (ld Pg 53 v2 loc hp) fun v3 => jn (fun v4 l4 h4 => k (p5 tm (.bool true)) l4 h4) fun j4 => G.onPtr (g4 tm) (fun r off => G.onRef r (fun s g => stL Pg 53 s g off v3 loc (fun loc => j4 (.tuple []) loc hp)) (fun _ => gen Pg Cg call (Cg.glob 78) (opA Tryd.f78 4 7) (p24 (p4 tm (g4 tm)) v3) tm loc hp j4)) (fun _ => none) none)
  .ret))))

def kp79 : List Nat := [0, 1]
def rc79 : RC := (.reg fun call tm loc hp k => gen Pg Cg call (Cg.glob 79) (opA Tryd.f79 0 2) (p5 (p4 tm (g0 tm)) (g1 tm)) tm loc hp (fun v0 l0 h0 => gen Pg Cg call (Cg.glob 79) (opA Tryd.f79 0 3) (p6 tm v0) tm l0 h0 (fun v1 l1 h1 => gen Pg Cg call (Cg.glob 79) (opA Tryd.f79 0 4) (p7 tm v1) tm l1 h1 (fun v2 l2 h2 => gen Pg Cg call (Cg.glob 79) (opA Tryd.f79 0 5) (p8 tm v2) tm l2 h2 (fun v3 l3 h3 => gen Pg Cg call (Cg.glob 79) (opA Tryd.f79 0 6) (p9 tm v3) tm l3 h3 (fun v4 l4 h4 => k tm l4 h4))))))

def kp80 : List Nat := [0, 1, 2, 3, 4, 11, 12, 13, 14, 15, 23]
def rc80 : RC := (.seq (.reg fun call tm loc hp k => bO (len (Pg.underlying 47) (g1 tm)) fun v0 => k (p14 (p13 (p12 tm (g1 tm)) v0) (.int .i64 (.ofNat 0))) loc hp)
  (.block 0 (.loop (.seq (.reg fun call tm loc hp k => bO (bin Pg .lss 3 false (g14 tm) (g13 tm)) fun v0 => k (p15 tm v0) loc hp)
  (.seq (.cond (.tmp 15) .skip (.exit 0))
  (.seq (.block 1 (.seq (.reg fun call tm loc hp k => bO (ia Pg 47 (g12 tm) (g14 tm)) fun v0 => bO (ld Pg 51 v0 loc hp) fun v1 => al Pg 51 11 loc fun v2 l2 => jn (fun v3 l3 h3 => k (p11 tm v2) l3 h3) fun j3 => G.onPtr v2 (fun r off => G.onRef r (fun s g => stL Pg 51 s g off v1 l2 (fun loc => j3 (.tuple []) loc hp)) (fun _ => gen Pg Cg call (Cg.glob 80) (opA Tryd.f80 2 3) (p17 (p11 tm v2) v1) tm l2 hp j3)) (fun _ => none) none)
  (.seq (.seq (.reg fun call tm loc hp k => bO (ld Pg 51 (g11 tm) loc hp) fun v0 => cl call 75 [(g0 tm), v0, (g3 tm)] tm loc hp fun v1 l1 h1 => bO (bin Pg .neq 3 false v1 (g2 tm)) fun v2 => k (p23 tm v2) l1 h1)
  (.cond (.tmp 23) (.reg fun call tm loc hp k => bO (fa Pg 51 (g11 tm) 6) fun v0 => bO (ld Pg 3 v0 loc hp) fun v1 => cl call 79 [v1, (.int .i64 (.ofNat 180))] tm loc hp fun v2 l2 h2 => k tm l2 h2) .skip))
  (.reg fun call tm loc hp k => bO (ld Pg 51 (g11 tm) loc hp) fun v0 => cl call 97 [(g0 tm), v0, (g4 tm)] tm loc hp fun v1 l1 h1 => k tm l1 h1))))
  (.reg fun call tm loc hp k => bO (bin Pg .add 3 true (g14 tm) (.int .i64 (.ofNat 1))) fun v0 => k (p14 tm v0) loc hp)))))))

def kp81 : List Nat := [0, 2]
def rc81 : RC := (.seq (.reg fun call tm loc hp k => k (p2 tm .nils) loc hp)
  (.seq (.reg fun call tm loc hp k => bO (len (Pg.underlying 39) (g0 tm)) fun v0 => bO (len (Pg.underlying 39) (g0 tm)) fun v1 => bO (slc Pg 39 (g0 tm) none (some v0) (some v1)) fun v2 => k (p2 tm v2) loc hp)
  .ret))

def kp82 : List Nat := [0, 2, 3, 4, 7, 10, 13]
def rc82 : RC := (.seq (.reg fun call tm loc hp k => al Pg 130 2 loc fun v0 l0 => k (p2 tm v0) l0 hp)
  (.seq (.seq (.reg fun call tm loc hp k => k (p3 tm (g0 tm)) loc hp)
  (.block 0 (.seq (.reg fun call tm loc hp k => bO (bin Pg .eql 3 true (g3 tm) (.int .i64 (.ofNat 2))) fun v0 => k (p4 tm v0) loc hp)
  (.cond (.tmp 4) (.seq (.reg fun call tm loc hp k => gen Pg Cg call (Cg.glob 82) (opA Tryd.f82 3 0) tm tm loc hp (fun v0 l0 h0 => jn (fun v1 l1 h1 => k tm l1 h1) fun j1 => G.onPtr (g2 tm) (fun r off => G.onRef r (fun s g => stL Pg 130 s g off v0 l0 (fun loc => j1 (.tuple []) loc h0)) (fun _ => gen Pg Cg call (Cg.glob 82) (opA Tryd.f82 3 1) (p6 (p2 tm (g2 tm)) v0) tm l0 h0 j1)) (fun _ => none) none))
  .ret) (.seq (.reg fun call tm loc hp k => bO (bin Pg .eql 3 true (g3 tm) (.int .i64 (.ofNat 3))) fun v0 => k (p7 tm v0) loc hp)
  (.cond (.tmp 7) (.seq (.reg fun call tm loc hp k => gen Pg Cg call (Cg.glob 82) (opA Tryd.f82 5 0) tm tm loc hp (fun v0 l0 h0 => jn (fun v1 l1 h1 => k tm l1 h1) fun j1 => G.onPtr (g2 tm) (fun r off => G.onRef r (fun s g => stL Pg 130 s g off v0 l0 (fun loc => j1 (.tuple []) loc h0)) (fun _ => gen Pg Cg call (Cg.glob 82) (opA Tryd.f82 5 1) (p9 (p2 tm (g2 tm)) v0) tm l0 h0 j1)) (fun _ => none) none))
  .ret) (.seq (.reg fun call tm loc hp k => bO (bin Pg .eql 3 true (g3 tm) (.int .i64 (.ofNat 4))) fun v0 => k (p10 tm v0) loc hp)
  (.cond (.tmp 10) (.seq (.reg fun call tm loc hp k => gen Pg Cg call (Cg.glob 82) (opA Tryd.f82 7 0) tm tm loc hp (fun v0 l0 h0 => jn (fun v1 l1 h1 => k tm l1 h1) fun j1 => G.onPtr (g2 tm) (fun r off => G.onRef r (fun s g => stL Pg 130 s g off v0 l0 (fun loc => j1 (.tuple []) loc h0)) (fun _ => gen Pg Cg call (Cg.glob 82) (opA Tryd.f82 7 1) (p12 (p2 tm (g2 tm)) v0) tm l0 h0 j1)) (fun _ => none) none))
  .ret) (.seq (.reg fun call tm loc hp k => bO (bin Pg .eql 3 true (g3 tm) (.int .i64 (.ofNat 5))) fun v0 => k (p13 tm v0) loc hp)
  (.cond (.tmp 13) (.seq (.reg fun call tm loc hp k => gen Pg Cg call (Cg.glob 82) (opA Tryd.f82 9 0) tm tm loc hp (fun v0 l0 h0 => jn (fun v1 l1 h1 => k tm l1 h1) fun j1 => G.onPtr (g2 tm) (fun r off => G.onRef r (fun s g => stL Pg 130 s g off v0 l0 (fun loc => j1 (.tuple []) loc h0)) (fun _ => gen Pg Cg call (Cg.glob 82) (opA Tryd.f82 9 1) (p15 (p2 tm (g2 tm)) v0) tm l0 h0 j1)) (fun _ => none) none))
  .ret) .skip))))))))))
  (.seq (.reg fun call tm loc hp k => gen Pg Cg call (Cg.glob 82) (opA Tryd.f82 10 0) tm tm loc hp (fun v0 l0 h0 => jn (fun v1 l1 h1 => k tm l1 h1) fun j1 => G.onPtr (g2 tm) (fun r off => G.onRef r (fun s g => stL Pg 130 s g off v0 l0 (fun loc => j1 (.tuple []) loc h0)) (fun _ => gen Pg Cg call (Cg.glob 82) (opA Tryd.f82 10 1) (p16 (p2 tm (g2 tm)) v0) tm l0 h0 j1)) (fun _ => none) none))
  .ret)))

def kp83 : List Nat := [0, 1, 2, 3, 5, 8, 9, 10, 12, 13, 53, 70, 77, 90]
def rc83 : RC := (.seq (.reg fun call tm loc hp k => gen Pg Cg call (Cg.glob 83) (opA Tryd.f83 0 0) (p1 tm (g1 tm)) tm loc hp (fun v0 l0 h0 => k (p8 (p5 tm v0) (.int .i64 (.ofNat 0))) l0 h0))
  (.seq (.reg fun call tm loc hp k => bO (fa Pg 51 (g5 tm) 0) fun v0 => bO (ld Pg 3 v0 loc hp) fun v1 => bO (bin Pg .eql 3 true v1 (.int .i64 (.ofNat 25))) fun v2 => jn (fun v3 l3 h3 => jn (fun v4 l4 h4 => jn (fun v5 l5 h5 => bO (pick v2 (.bool true) v5) fun v6 => jn (fun v7 l7 h7 => jn (fun v8 l8 h8 => jn (fun v9 l9 h9 => bO (pick v6 (.bool true) v9) fun v10 => jn (fun v11 l11 h11 => jn (fun v12 l12 h12 => jn (fun v13 l13 h13 => bO (pick v10 (.bool true) v13) fun v14 => jn (fun v15 l15 h15 => jn (fun v16 l16 h16 => jn (fun v17 l17 h17 => bO (pick v14 (.bool true) v17) fun v18 => jn (fun v19 l19 h19 => jn (fun v20 l20 h20 => jn (fun v21 l21 h21 => jn (fun v22 l22 h22 => jn (fun v23 l23 h23 => jn (fun v24 l24 h24 => jn (fun v25 l25 h25 => jn (fun v26 l26 h26 => jn (fun v27 l27 h27 => jn (fun v28 l28 h28 => jn (fun v29 l29 h29 => jn (fun v30 l30 h30 => bO (pick v18 (.bool true) v30) fun v31 => k (p9 tm v31) l30 h30) fun j30 => brB (wv v18 false) (j30 (.tuple []) l29 h29) (bO (pick v27 v29 (.bool false)) fun v31 => j30 v31 l29 h29)) fun j29 => brB (wv v27 true) (j29 (.tuple []) l28 h28) (bO (G.un .not v28) fun v30 => j29 v30 l28 h28)) fun j28 => brB (wv v27 true) (j28 (.tuple []) l27 h27) (j28 (g3 tm) l27 h27)) fun j27 => brB (wv v18 false) (j27 (.tuple []) l26 h26) (j27 v26 l26 h26)) fun j26 => brB (wv v18 false) (j26 (.tuple []) l25 h25) (bO (pick v22 (.bool true) v25) fun v27 => j26 v27 l25 h25)) fun j25 => brB (wv v22 false) (j25 (.tuple []) l24 h24) (bO (bin Pg .eql 3 true v24 (.int .i64 (.ofNat 6))) fun v26 => j25 v26 l24 h24)) fun j24 => brB (wv v22 false) (j24 (.tuple []) l23 h23) (bO (ld Pg 3 v23 l23 h23) fun v25 => j24 v25 l23 h23)) fun j23 => brB (wv v22 false) (j23 (.tuple []) l22 h22) (bO (fa Pg 51 (g5 tm) 0) fun v24 => j23 v24 l22 h22)) fun j22 => brB (wv v18 false) (j22 (.tuple []) l21 h21) (j22 v21 l21 h21)) fun j21 => brB (wv v18 false) (j21 (.tuple []) l20 h20) (bO (bin Pg .eql 3 true v20 (.int .i64 (.ofNat 5))) fun v22 => j21 v22 l20 h20)) fun j20 => brB (wv v18 false) (j20 (.tuple []) l19 h19) (bO (ld Pg 3 v19 l19 h19) fun v21 => j20 v21 l19 h19)) fun j19 => brB (wv v18 false) (j19 (.tuple []) l17 h17) (bO (fa Pg 51 (g5 tm) 0) fun v20 => j19 v20 l17 h17)) fun j17 => brB (wv v14 false) (j17 (.tuple []) l16 h16) (bO (bin Pg .eql 3 true v16 (.int .i64 (.ofNat 27))) fun v18 => j17 v18 l16 h16)) fun j16 => brB (wv v14 false) (j16 (.tuple []) l15 h15) (bO (ld Pg 3 v15 l15 h15) fun v17 => j16 v17 l15 h15)) fun j15 => brB (wv v14 false) (j15 (.tuple []) l13 h13) (bO (fa Pg 51 (g5 tm) 0) fun v16 => j15 v16 l13 h13)) fun j13 => brB (wv v10 false) (j13 (.tuple []) l12 h12) (bO (bin Pg .eql 3 true v12 (.int .i64 (.ofNat 24))) fun v14 => j13 v14 l12 h12)) fun j12 => brB (wv v10 false) (j12 (.tuple []) l11 h11) (bO (ld Pg 3 v11 l11 h11) fun v13 => j12 v13 l11 h11)) fun j11 => brB (wv v10 false) (j11 (.tuple []) l9 h9) (bO (fa Pg 51 (g5 tm) 0) fun v12 => j11 v12 l9 h9)) fun j9 => brB (wv v6 false) (j9 (.tuple []) l8 h8) (bO (bin Pg .eql 3 true v8 (.int .i64 (.ofNat 28))) fun v10 => j9 v10 l8 h8)) fun j8 => brB (wv v6 false) (j8 (.tuple []) l7 h7) (bO (ld Pg 3 v7 l7 h7) fun v9 => j8 v9 l7 h7)) fun j7 => brB (wv v6 false) (j7 (.tuple []) l5 h5) (bO (fa Pg 51 (g5 tm) 0) fun v8 => j7 v8 l5 h5)) fun j5 => brB (wv v2 false) (j5 (.tuple []) l4 h4) (bO (bin Pg .eql 3 true v4 (.int .i64 (.ofNat 26))) fun v6 => j5 v6 l4 h4)) fun j4 => brB (wv v2 false) (j4 (.tuple []) l3 h3) (bO (ld Pg 3 v3 l3 h3) fun v5 => j4 v5 l3 h3)) fun j3 => brB (wv v2 false) (j3 (.tuple []) loc hp) (bO (fa Pg 51 (g5 tm) 0) fun v4 => j3 v4 loc hp))
  (.seq (.seq (.reg fun call tm loc hp k => bO (fa Pg 51 (g5 tm) 0) fun v0 => bO (ld Pg 3 v0 loc hp) fun v1 => bO (bin Pg .eql 3 true v1 (.int .i64 (.ofNat 21))) fun v2 => k (p53 tm v2) loc hp)
  (.cond (.tmp 53) (.seq (.reg fun call tm loc hp k => bO (fa Pg 51 (g5 tm) 5) fun v0 => bO (ld Pg 3 v0 loc hp) fun v1 => cl call 85 [(g0 tm), v1] tm loc hp fun v2 l2 h2 => bO (ext v2 0) fun v3 => bO (ext v2 1) fun v4 => al Pg 53 10 l2 fun v5 l5 => jn (fun v6 l6 h6 => k (p10 tm v5) l6 h6) fun j6 => G.onPtr v5 (fun r off => G.onRef r (fun s g => stL Pg 53 s g off v3 l5 (fun loc => j6 (.tuple []) loc h2)) (fun _ => gen Pg Cg call (Cg.glob 83) (opA Tryd.f83 3 8) (p59 (p10 tm v5) v3) tm l5 h2 j6)) (fun _ => none) none)
  (.reg fun call tm loc hp k => bO (fa Pg 53 (g10 tm) 5) fun v0 => bO (ld Pg 3 v0 loc hp) fun v1 => bO (bin Pg .neq 3 true v1 (.int .i64 (.ofNat 1))) fun v2 => jn (fun v3 l3 h3 => jn (fun v4 l4 h4 => jn (fun v5 l5 h5 => jn (fun v6 l6 h6 => bO (pick v2 (.bool true) v6) fun v7 => k (p9 tm v7) l6 h6) fun j6 => brB (wv v2 false) (j6 (.tuple []) l5 h5) (bO (bin Pg .eql 3 false v4 v5) fun v7 => j6 v7 l5 h5)) fun j5 => brB (wv v2 false) (j5 (.tuple []) l4 h4) (j5 (g2 tm) l4 h4)) fun j4 => brB (wv v2 false) (j4 (.tuple []) l3 h3) (bO (ld Pg 3 v3 l3 h3) fun v5 => j4 v5 l3 h3)) fun j3 => brB (wv v2 false) (j3 (.tuple []) loc hp) (bO (fa Pg 51 (g5 tm) 5) fun v4 => j3 v4 loc hp))) .skip))
  (.seq (.seq (.reg fun call tm loc hp k => k (p70 tm (g9 tm)) loc hp)
  (.cond (.tmp 70) (.seq (.reg fun call tm loc hp k => bO (fa Pg 51 (g5 tm) 6) fun v0 => bO (ld Pg 3 v0 loc hp) fun v1 => k (p8 tm v1) loc hp)
  .ret) .skip))
  (.seq (.seq (.reg fun call tm loc hp k => k (p12 tm (.int .i64 (.ofNat 0))) loc hp)
  (.block 0 (.loop (.seq (.seq (.reg fun call tm loc hp k => bO (fa Pg 51 (g5 tm) 4) fun v0 => bO (ld Pg 47 v0 loc hp) fun v1 => bO (len (Pg.underlying 47) v1) fun v2 => bO (bin Pg .lss 3 false (g12 tm) v2) fun v3 => k (p77 tm v3) loc hp)
  (.cond (.tmp 77) .skip (.exit 0)))
  (.seq (.block 1 (.seq (.reg fun call tm loc hp k => bO (fa Pg 51 (g5 tm) 4) fun v0 => bO (ld Pg 47 v0 loc hp) fun v1 => bO (ia Pg 47 v1 (g12 tm)) fun v2 => bO (ld Pg 51 v2 loc hp) fun v3 => cl call 83 [(g0 tm), v3, (g2 tm), (g3 tm)] tm loc hp fun v4 l4 h4 => k (p13 tm v4) l4 h4)
  (.seq (.reg fun call tm loc hp k => bO (bin Pg .geq 3 true (g13 tm) (.int .i64 (.ofNat 0))) fun v0 => k (p90 tm v0) loc hp)
  (.cond (.tmp 90) (.seq (.reg fun call tm loc hp k => k (p8 tm (g13 tm)) loc hp)
  .ret) .skip))))
  (.reg fun call tm loc hp k => bO (bin Pg .add 3 true (g12 tm) (.int .i64 (.ofNat 1))) fun v0 => k (p12 tm v0) loc hp))))))
  (.seq (.reg fun call tm loc hp k => k (p8 tm (.int .i64 (.negSucc 0))) loc hp)
  .ret))))))

def kp84 : List Nat := [0, 1, 2, 4, 6, 7, 8, 9, 10, 12, 13, 14, 15, 20, 22, 23, 27, 29, 31, 42, 51, 80, 85, 104, 115, 131, 140, 151, 169, 185, 206, 231, 255, 271, 280, 289]
def rc84 : RC := (.seq (.reg fun call tm loc hp k => gen Pg Cg call (Cg.glob 84) (opA Tryd.f84 0 0) (p1 tm (g1 tm)) tm loc hp (fun v0 l0 h0 => k (p6 (p4 tm v0) (.int .i64 (.ofNat 0))) l0 h0))
  (.seq (.seq (.reg fun call tm loc hp k => bO (nilC (g0 tm)) fun v0 => bO (fa Pg 105 v0 1) fun v1 => bO (ld Pg 3 v1 loc hp) fun v2 => bO (bin Pg .neq 3 true v2 (.int .i64 (.ofNat 0))) fun v3 => k (p20 tm v3) loc hp)
  (.cond (.tmp 20) (.seq (.reg fun call tm loc hp k => k (p6 tm (.int .i64 (.ofNat 0))) loc hp)
  .ret) .skip))
  (.seq (.seq (.reg fun call tm loc hp k => bO (fa Pg 51 (g4 tm) 0) fun v0 => bO (ld Pg 3 v0 loc hp) fun v1 => k (p22 tm v1) loc hp)
  (.block 0 (.seq (.seq (.reg fun call tm loc hp k => bO (bin Pg .eql 3 true (g22 tm) (.int .i64 (.ofNat 1))) fun v0 => k (p23 tm v0) loc hp)
  (.cond (.tmp 23) .skip (.seq (.reg fun call tm loc hp k => bO (bin Pg .eql 3 true (g22 tm) (.int .i64 (.ofNat 5))) fun v0 => k (p23 tm v0) loc hp)
  (.cond (.tmp 23) .skip (.reg fun call tm loc hp k => bO (bin Pg .eql 3 true (g22 tm) (.int .i64 (.ofNat 6))) fun v0 => k (p23 tm v0) loc hp)))))
  (.cond (.tmp 23) (.seq (.reg fun call tm loc hp k => k (p6 tm (.int .i64 (.ofNat 1))) loc hp)
  .ret) (.seq (.reg fun call tm loc hp k => bO (bin Pg .eql 3 true (g22 tm) (.int .i64 (.ofNat 2))) fun v0 => k (p27 tm v0) loc hp)
  (.cond (.tmp 27) (.seq (.reg fun call tm loc hp k => k (p6 tm (.int .i64 (.ofNat 2))) loc hp)
  .ret) (.seq (.reg fun call tm loc hp k => bO (bin Pg .eql 3 true (g22 tm) (.int .i64 (.ofNat 3))) fun v0 => k (p29 tm v0) loc hp)
  (.cond (.tmp 29) (.seq (.reg fun call tm loc hp k => k (p6 tm (.int .i64 (.ofNat 3))) loc hp)
  .ret) (.seq (.reg fun call tm loc hp k => bO (bin Pg .eql 3 true (g22 tm) (.int .i64 (.ofNat 4))) fun v0 => k (p31 tm v0) loc hp)
  (.cond (.tmp 31) (.seq (.reg fun call tm loc hp k => bO (len (Pg.underlying 39) (g2 tm)) fun v0 => bO (bin Pg .sub 3 true v0 (.int .i64 (.ofNat 1))) fun v1 => bO (fa Pg 51 (g4 tm) 5) fun v2 => bO (ld Pg 3 v2 loc hp) fun v3 => bO (bin Pg .sub 3 false v1 v3) fun v4 => bO (ia Pg 39 (g2 tm) v4) fun v5 => bO (ld Pg 3 v5 loc hp) fun v6 => k (p6 tm v6) loc hp)
  .ret) (.seq (.seq (.reg fun call tm loc hp k => bO (bin Pg .eql 3 true (g22 tm) (.int .i64 (.ofNat 7))) fun v0 => k (p42 tm v0) loc hp)
  (.cond (.tmp 42) .skip (.seq (.reg fun call tm loc hp k => bO (bin Pg .eql 3 true (g22 tm) (.int .i64 (.ofNat 10))) fun v0 => k (p42 tm v0) loc hp)
  (.cond (.tmp 42) .skip (.seq (.reg fun call tm loc hp k => bO (bin Pg .eql 3 true (g22 tm) (.int .i64 (.ofNat 11))) fun v0 => k (p42 tm v0) loc hp)
  (.cond (.tmp 42) .skip (.reg fun call tm loc hp k => bO (bin Pg .eql 3 true (g22 tm) (.int .i64 (.ofNat 9))) fun v0 => k (p42 tm v0) loc hp)))))))
  (.cond (.tmp 42) (.seq (.seq (.reg fun call tm loc hp k => k (p7 tm (.int .i64 (.ofNat 0))) loc hp)
  (.block 1 (.loop (.seq (.seq (.reg fun call tm loc hp k => bO (fa Pg 51 (g4 tm) 4) fun v0 => bO (ld Pg 47 v0 loc hp) fun v1 => bO (len (Pg.underlying 47) v1) fun v2 => bO (bin Pg .lss 3 false (g7 tm) v2) fun v3 => k (p51 tm v3) loc hp)
  (.cond (.tmp 51) .skip (.exit 1)))
  (.seq (.block 2 (.reg fun call tm loc hp k => bO (fa Pg 51 (g4 tm) 4) fun v0 => bO (ld Pg 47 v0 loc hp) fun v1 => bO (ia Pg 47 v1 (g7 tm)) fun v2 => bO (ld Pg 51 v2 loc hp) fun v3 => cl call 55 [(g0 tm), v3, (g2 tm), (.int .i64 (.ofNat 1))] tm loc hp fun v4 l4 h4 => k tm l4 h4))
  (.reg fun call tm loc hp k => bO (bin Pg .add 3 true (g7 tm) (.int .i64 (.ofNat 1))) fun v0 => k (p7 tm v0) loc hp))))))
  (.seq (.seq (.reg fun call tm loc hp k => bO (fa Pg 51 (g4 tm) 0) fun v0 => bO (ld Pg 3 v0 loc hp) fun v1 => bO (bin Pg .eql 3 true v1 (.int .i64 (.ofNat 9))) fun v2 => jn (fun v3 l3 h3 => jn (fun v4 l4 h4 => jn (fun v5 l5 h5 => jn (fun v6 l6 h6 => jn (fun v7 l7 h7 => jn (fun v8 l8 h8 => bO (pick v2 v8 (.bool false)) fun v9 => jn (fun v10 l10 h10 => jn (fun v11 l11 h11 => jn (fun v12 l12 h12 => jn (fun v13 l13 h13 => jn (fun v14 l14 h14 => jn (fun v15 l15 h15 => bO (pick v9 v15 (.bool false)) fun v16 => k (p80 tm v16) l15 h15) fun j15 => brB (wv v9 true) (j15 (.tuple []) l14 h14) (bO (G.un .not v14) fun v16 => j15 v16 l14 h14)) fun j14 => brB (wv v9 true) (j14 (.tuple []) l13 h13) (cl call 98 [v13] tm l13 h13 fun v15 l15 h15 => j14 v15 l15 h15)) fun j13 => brB (wv v9 true) (j13 (.tuple []) l12 h12) (bO (ld Pg 51 v12 l12 h12) fun v14 => j13 v14 l12 h12)) fun j12 => brB (wv v9 true) (j12 (.tuple []) l11 h11) (bO (ia Pg 47 v11 (.int .i64 (.ofNat 1))) fun v13 => j12 v13 l11 h11)) fun j11 => brB (wv v9 true) (j11 (.tuple []) l10 h10) (bO (ld Pg 47 v10 l10 h10) fun v12 => j11 v12 l10 h10)) fun j10 => brB (wv v9 true) (j10 (.tuple []) l8 h8) (bO (fa Pg 51 (g4 tm) 4) fun v11 => j10 v11 l8 h8)) fun j8 => brB (wv v2 true) (j8 (.tuple []) l7 h7) (bO (G.un .not v7) fun v9 => j8 v9 l7 h7)) fun j7 => brB (wv v2 true) (j7 (.tuple []) l6 h6) (cl call 98 [v6] tm l6 h6 fun v8 l8 h8 => j7 v8 l8 h8)) fun j6 => brB (wv v2 true) (j6 (.tuple []) l5 h5) (bO (ld Pg 51 v5 l5 h5) fun v7 => j6 v7 l5 h5)) fun j5 => brB (wv v2 true) (j5 (.tuple []) l4 h4) (bO (ia Pg 47 v4 (.int .i64 (.ofNat 0))) fun v6 => j5 v6 l4 h4)) fun j4 => brB (wv v2 true) (j4 (.tuple []) l3 h3) (bO (ld Pg 47 v3 l3 h3) fun v5 => j4 v5 l3 h3)) fun j3 => brB (wv v2 true) (j3 (.tuple []) loc hp) (bO (fa Pg 51 (g4 tm) 4) fun v4 => j3 v4 loc hp))
  (.cond (.tmp 80) (.reg fun call tm loc hp k => bO (fa Pg 51 (g4 tm) 6) fun v0 => bO (ld Pg 3 v0 loc hp) fun v1 => cl call 53 [(g0 tm), v1, (.int .i64 (.ofNat 185))] tm loc hp fun v2 l2 h2 => k tm l2 h2) .skip))
  (.seq (.reg fun call tm loc hp k => k (p6 tm (.int .i64 (.ofNat 1))) loc hp)
  .ret))) (.seq (.seq (.reg fun call tm loc hp k => bO (bin Pg .eql 3 true (g22 tm) (.int .i64 (.ofNat 14))) fun v0 => k (p85 tm v0) loc hp)
  (.cond (.tmp 85) .skip (.seq (.reg fun call tm loc hp k => bO (bin Pg .eql 3 true (g22 tm) (.int .i64 (.ofNat 15))) fun v0 => k (p85 tm v0) loc hp)
  (.cond (.tmp 85) .skip (.seq (.reg fun call tm loc hp k => bO (bin Pg .eql 3 true (g22 tm) (.int .i64 (.ofNat 16))) fun v0 => k (p85 tm v0) loc hp)
  (.cond (.tmp 85) .skip (.reg fun call tm loc hp k => bO (bin Pg .eql 3 true (g22 tm) (.int .i64 (.ofNat 17))) fun v0 => k (p85 tm v0) loc hp)))))))
  (.cond (.tmp 85) (.seq (.reg fun call tm loc hp k => bO (fa Pg 51 (g4 tm) 4) fun v0 => bO (ld Pg 47 v0 loc hp) fun v1 => bO (ia Pg 47 v1 (.int .i64 (.ofNat 0))) fun v2 => bO (ld Pg 51 v2 loc hp) fun v3 => cl call 55 [(g0 tm), v3, (g2 tm), (.int .i64 (.ofNat 1))] tm loc hp fun v4 l4 h4 => k tm l4 h4)
  (.seq (.reg fun call tm loc hp k => bO (fa Pg 51 (g4 tm) 4) fun v0 => bO (ld Pg 47 v0 loc hp) fun v1 => bO (ia Pg 47 v1 (.int .i64 (.ofNat 1))) fun v2 => bO (ld Pg 51 v2 loc hp) fun v3 => cl call 55 [(g0 tm), v3, (g2 tm), (.int .i64 (.ofNat 1))] tm loc hp fun v4 l4 h4 => k tm l4 h4)
  (.seq (.reg fun call tm loc hp k => k (p6 tm (.int .i64 (.ofNat 2))) loc hp)
  .ret))) (.seq (.seq (.reg fun call tm loc hp k => bO (bin Pg .eql 3 true (g22 tm) (.int .i64 (.ofNat 12))) fun v0 => k (p104 tm v0) loc hp)
  (.cond (.tmp 104) .skip (.reg fun call tm loc hp k => bO (bin Pg .eql 3 true (g22 tm) (.int .i64 (.ofNat 13))) fun v0 => k (p104 tm v0) loc hp)))
  (.cond (.tmp 104) (.seq (.reg fun call tm loc hp k => bO (fa Pg 51 (g4 tm) 4) fun v0 => bO (ld Pg 47 v0 loc hp) fun v1 => bO (ia Pg 47 v1 (.int .i64 (.ofNat 0))) fun v2 => bO (ld Pg 51 v2 loc hp) fun v3 => cl call 84 [(g0 tm), v3, (g2 tm)] tm loc hp fun v4 l4 h4 => k (p8 tm v4) l4 h4)
  (.seq (.seq (.reg fun call tm loc hp k => bO (bin Pg .eql 3 true (g8 tm) (.int .i64 (.ofNat 3))) fun v0 => k (p115 tm v0) loc hp)
  (.cond (.tmp 115) (.reg fun call tm loc hp k => bO (fa Pg 51 (g4 tm) 4) fun v0 => bO (ld Pg 47 v0 loc hp) fun v1 => bO (ia Pg 47 v1 (.int .i64 (.ofNat 0))) fun v2 => bO (fa Pg 51 v2 6) fun v3 => bO (ld Pg 3 v3 loc hp) fun v4 => cl call 53 [(g0 tm), v4, (.int .i64 (.ofNat 180))] tm loc hp fun v5 l5 h5 => k tm l5 h5) .skip))
  (.seq (.reg fun call tm loc hp k => bO (fa Pg 51 (g4 tm) 4) fun v0 => bO (ld Pg 47 v0 loc hp) fun v1 => bO (ia Pg 47 v1 (.int .i64 (.ofNat 1))) fun v2 => bO (ld Pg 51 v2 loc hp) fun v3 => cl call 55 [(g0 tm), v3, (g2 tm), (g8 tm)] tm loc hp fun v4 l4 h4 => k tm l4 h4)
  (.seq (.reg fun call tm loc hp k => k (p6 tm (.int .i64 (.ofNat 2))) loc hp)
  .ret)))) (.seq (.seq (.reg fun call tm loc hp k => bO (bin Pg .eql 3 true (g22 tm) (.int .i64 (.ofNat 8))) fun v0 => k (p131 tm v0) loc hp)
  (.cond (.tmp 131) .skip (.seq (.reg fun call tm loc hp k => bO (bin Pg .eql 3 true (g22 tm) (.int .i64 (.ofNat 18))) fun v0 => k (p131 tm v0) loc hp)
  (.cond (.tmp 131) .skip (.seq (.reg fun call tm loc hp k => bO (bin Pg .eql 3 true (g22 tm) (.int .i64 (.ofNat 19))) fun v0 => k (p131 tm v0) loc hp)
  (.cond (.tmp 131) .skip (.reg fun call tm loc hp k => bO (bin Pg .eql 3 true (g22 tm) (.int .i64 (.ofNat 20))) fun v0 => k (p131 tm v0) loc hp)))))))
  (.cond (.tmp 131) (.seq (.seq (.reg fun call tm loc hp k => k (p9 tm (.int .i64 (.ofNat 0))) loc hp)
  (.block 3 (.loop (.seq (.seq (.reg fun call tm loc hp k => bO (fa Pg 51 (g4 tm) 4) fun v0 => bO (ld Pg 47 v0 loc hp) fun v1 => bO (len (Pg.underlying 47) v1) fun v2 => bO (bin Pg .lss 3 false (g9 tm) v2) fun v3 => k (p140 tm v3) loc hp)
  (.cond (.tmp 140) .skip (.exit 3)))
  (.seq (.block 4 (.reg fun call tm loc hp k => bO (fa Pg 51 (g4 tm) 4) fun v0 => bO (ld Pg 47 v0 loc hp) fun v1 => bO (ia Pg 47 v1 (g9 tm)) fun v2 => bO (ld Pg 51 v2 loc hp) fun v3 => cl call 55 [(g0 tm), v3, (g2 tm), (.int .i64 (.ofNat 2))] tm loc hp fun v4 l4 h4 => k tm l4 h4))
  (.reg fun call tm loc hp k => bO (bin Pg .add 3 true (g9 tm) (.int .i64 (.ofNat 1))) fun v0 => k (p9 tm v0) loc hp))))))
  (.seq (.reg fun call tm loc hp k => k (p6 tm (.int .i64 (.ofNat 2))) loc hp)
  .ret)) (.seq (.reg fun call tm loc hp k => bO (bin Pg .eql 3 true (g22 tm) (.int .i64 (.ofNat 21))) fun v0 => k (p151 tm v0) loc hp)
  (.cond (.tmp 151) (.seq (.reg fun call tm loc hp k => G.next (F.regionV Pg Cg call 84 49 (rgA Tryd.f84 49) true ⟨tm, loc, hp⟩) (fun st => k st.tm st.loc st.hp))
  (.seq (.seq (.reg fun call tm loc hp k => bO (fa Pg 51 (g4 tm) 4) fun v0 => bO (ld Pg 47 v0 loc hp) fun v1 => bO (len (Pg.underlying 47) v1) fun v2 => bO (fa Pg 53 (g10 tm) 4) fun v3 => bO (ld Pg 46 v3 loc hp) fun v4 => bO (len (Pg.underlying 46) v4) fun v5 => bO (bin Pg .neq 3 false v2 v5) fun v6 => k (p169 tm v6) loc hp)
  (.cond (.tmp 169) (.reg fun call tm loc hp k => bO (fa Pg 51 (g4 tm) 6) fun v0 => bO (ld Pg 3 v0 loc hp) fun v1 => cl call 53 [(g0 tm), v1, (.int .i64 (.ofNat 182))] tm loc hp fun v2 l2 h2 => k tm l2 h2) .skip))
  (.seq (.seq (.reg fun call tm loc hp k => k (p12 tm (.int .i64 (.ofNat 0))) loc hp)
  (.block 5 (.loop (.seq (.seq (.reg fun call tm loc hp k => bO (fa Pg 51 (g4 tm) 4) fun v0 => bO (ld Pg 47 v0 loc hp) fun v1 => bO (len (Pg.underlying 47) v1) fun v2 => bO (bin Pg .lss 3 false (g12 tm) v2) fun v3 => jn (fun v4 l4 h4 => jn (fun v5 l5 h5 => jn (fun v6 l6 h6 => jn (fun v7 l7 h7 => jn (fun v8 l8 h8 => bO (pick v3 v8 (.bool false)) fun v9 => k (p185 tm v9) l8 h8) fun j8 => brB (wv v3 true) (j8 (.tuple []) l7 h7) (bO (bin Pg .eql 3 true v7 (.int .i64 (.ofNat 0))) fun v9 => j8 v9 l7 h7)) fun j7 => brB (wv v3 true) (j7 (.tuple []) l6 h6) (bO (ld Pg 3 v6 l6 h6) fun v8 => j7 v8 l6 h6)) fun j6 => brB (wv v3 true) (j6 (.tuple []) l5 h5) (bO (fa Pg 105 v5 1) fun v7 => j6 v7 l5 h5)) fun j5 => brB (wv v3 true) (j5 (.tuple []) l4 h4) (bO (nilC v4) fun v6 => j5 v6 l4 h4)) fun j4 => brB (wv v3 true) (j4 (.tuple []) loc hp) (j4 (g0 tm) loc hp))
  (.cond (.tmp 185) .skip (.exit 5)))
  (.seq (.block 6 (.reg fun call tm loc hp k => G.next (F.regionV Pg Cg call 84 55 (rgA Tryd.f84 55) true ⟨tm, loc, hp⟩) (fun st => k st.tm st.loc st.hp)))
  (.reg fun call tm loc hp k => bO (bin Pg .add 3 true (g12 tm) (.int .i64 (.ofNat 1))) fun v0 => k (p12 tm v0) loc hp))))))
  (.seq (.reg fun call tm loc hp k => bO (fa Pg 53 (g10 tm) 6) fun v0 => bO (fa Pg 49 v0 0) fun v1 => bO (ld Pg 3 v1 loc hp) fun v2 => k (p6 tm v2) loc hp)
  .ret)))) (.seq (.reg fun call tm loc hp k => bO (bin Pg .eql 3 true (g22 tm) (.int .i64 (.ofNat 22))) fun v0 => k (p206 tm v0) loc hp)
  (.cond (.tmp 206) (.seq (.reg fun call tm loc hp k => bO (fa Pg 51 (g4 tm) 4) fun v0 => bO (ld Pg 47 v0 loc hp) fun v1 => bO (ia Pg 47 v1 (.int .i64 (.ofNat 0))) fun v2 => bO (ld Pg 51 v2 loc hp) fun v3 => cl call 55 [(g0 tm), v3, (g2 tm), (.int .i64 (.ofNat 2))] tm loc hp fun v4 l4 h4 => k tm l4 h4)
  (.seq (.reg fun call tm loc hp k => bO (fa Pg 51 (g4 tm) 4) fun v0 => bO (ld Pg 47 v0 loc hp) fun v1 => bO (ia Pg 47 v1 (.int .i64 (.ofNat 1))) fun v2 => bO (ld Pg 51 v2 loc hp) fun v3 => cl call 84 [(g0 tm), v3, (g2 tm)] tm loc hp fun v4 l4 h4 => k (p13 tm v4) l4 h4)
  (.seq (.reg fun call tm loc hp k => bO (fa Pg 51 (g4 tm) 4) fun v0 => bO (ld Pg 47 v0 loc hp) fun v1 => bO (ia Pg 47 v1 (.int .i64 (.ofNat 2))) fun v2 => bO (ld Pg 51 v2 loc hp) fun v3 => cl call 55 [(g0 tm), v3, (g2 tm), (g13 tm)] tm loc hp fun v4 l4 h4 => k tm l4 h4)
  (.seq (.reg fun call tm loc hp k => k (p6 tm (g13 tm)) loc hp)
  .ret)))) (.seq (.reg fun call tm loc hp k => bO (bin Pg .eql 3 true (g22 tm) (.int .i64 (.ofNat 23))) fun v0 => k (p231 tm v0) loc hp)
  (.cond (.tmp 231) (.seq (.reg fun call tm loc hp k => bO (fa Pg 51 (g4 tm) 4) fun v0 => bO (ld Pg 47 v0 loc hp) fun v1 => bO (ia Pg 47 v1 (.int .i64 (.ofNat 0))) fun v2 => bO (ld Pg 51 v2 loc hp) fun v3 => cl call 84 [(g0 tm), v3, (g2 tm)] tm loc hp fun v4 l4 h4 => k (p14 tm v4) l4 h4)
  (.seq (.reg fun call tm loc hp k => G.next (F.regionV Pg Cg call 84 64 (rgA Tryd.f84 64) true ⟨tm, loc, hp⟩) (fun st => k st.tm st.loc st.hp))
  .ret)) (.seq (.reg fun call tm loc hp k => bO (bin Pg .eql 3 true (g22 tm) (.int .i64 (.ofNat 24))) fun v0 => k (p255 tm v0) loc hp)
  (.cond (.tmp 255) (.seq (.reg fun call tm loc hp k => bO (fa Pg 51 (g4 tm) 4) fun v0 => bO (ld Pg 47 v0 loc hp) fun v1 => bO (ia Pg 47 v1 (.int .i64 (.ofNat 0))) fun v2 => bO (ld Pg 51 v2 loc hp) fun v3 => cl call 84 [(g0 tm), v3, (g2 tm)] tm loc hp fun v4 l4 h4 => k tm l4 h4)
  (.seq (.reg fun call tm loc hp k => bO (fa Pg 51 (g4 tm) 4) fun v0 => bO (ld Pg 47 v0 loc hp) fun v1 => bO (ia Pg 47 v1 (.int .i64 (.ofNat 1))) fun v2 => bO (ld Pg 51 v2 loc hp) fun v3 => cl call 84 [(g0 tm), v3, (g2 tm)] tm loc hp fun v4 l4 h4 => k (p6 tm v4) l4 h4)
  .ret)) (.seq (.reg fun call tm loc hp k => bO (bin Pg .eql 3 true (g22 tm) (.int .i64 (.ofNat 25))) fun v0 => k (p271 tm v0) loc hp)
  (.cond (.tmp 271) (.seq (.reg fun call tm loc hp k => bO (fa Pg 51 (g4 tm) 4) fun v0 => bO (ld Pg 47 v0 loc hp) fun v1 => bO (ia Pg 47 v1 (.int .i64 (.ofNat 0))) fun v2 => bO (ld Pg 51 v2 loc hp) fun v3 => cl call 55 [(g0 tm), v3, (g2 tm), (.int .i64 (.ofNat 1))] tm loc hp fun v4 l4 h4 => k tm l4 h4)
  (.seq (.reg fun call tm loc hp k => k (p6 tm (.int .i64 (.ofNat 3))) loc hp)
  .ret)) (.seq (.reg fun call tm loc hp k => bO (bin Pg .eql 3 true (g22 tm) (.int .i64 (.ofNat 26))) fun v0 => k (p280 tm v0) loc hp)
  (.cond (.tmp 280) (.seq (.reg fun call tm loc hp k => bO (fa Pg 51 (g4 tm) 4) fun v0 => bO (ld Pg 47 v0 loc hp) fun v1 => bO (ia Pg 47 v1 (.int .i64 (.ofNat 0))) fun v2 => bO (ld Pg 51 v2 loc hp) fun v3 => cl call 55 [(g0 tm), v3, (g2 tm), (.int .i64 (.ofNat 1))] tm loc hp fun v4 l4 h4 => k tm l4 h4)
  (.seq (.reg fun call tm loc hp k => k (p6 tm (.int .i64 (.ofNat 1))) loc hp)
  .ret)) (.seq (.reg fun call tm loc hp k => bO (bin Pg .eql 3 true (g22 tm) (.int .i64 (.ofNat 28))) fun v0 => k (p289 tm v0) loc hp)
  (.cond (.tmp 289) (.seq (.reg fun call tm loc hp k => bO (fa Pg 51 (g4 tm) 4) fun v0 => bO (ld Pg 47 v0 loc hp) fun v1 => bO (ia Pg 47 v1 (.int .i64 (.ofNat 0))) fun v2 => bO (ld Pg 51 v2 loc hp) fun v3 => cl call 55 [(g0 tm), v3, (g2 tm), (.int .i64 (.ofNat 2))] tm loc hp fun v4 l4 h4 => k tm l4 h4)
  (.seq (.reg fun call tm loc hp k => k (p6 tm (.int .i64 (.ofNat 3))) loc hp)
  .ret)) .skip))))))))))))))))))))))))))))))))
  (.seq (.reg fun call tm loc hp k => bO (fa Pg 51 (g4 tm) 4) fun v0 => bO (ld Pg 47 v0 loc hp) fun v1 => bO (ia Pg 47 v1 (.int .i64 (.ofNat 0))) fun v2 => bO (ld Pg 51 v2 loc hp) fun v3 => cl call 84 [(g0 tm), v3, (g2 tm)] tm loc hp fun v4 l4 h4 => k (p15 tm v4) l4 h4)
  (.seq (.reg fun call tm loc hp k => G.next (F.regionV Pg Cg call 84 78 (rgA Tryd.f84 78) true ⟨tm, loc, hp⟩) (fun st => k st.tm st.loc st.hp))
  (.seq (.reg fun call tm loc hp k => k (p6 tm (g15 tm)) loc hp)
  .ret))))))

def kp85 : List Nat := [0, 1, 4, 5, 6, 16]
def rc85 : RC := (.seq (.reg fun call tm loc hp k => al Pg 53 4 loc fun v0 l0 => k (p5 (p4 tm v0) (.bool false)) l0 hp)
  (.seq (.reg fun call tm loc hp k => cl call 22 [(g0 tm)] tm loc hp fun v0 l0 h0 => k (p6 tm v0) l0 h0)
  (.seq (.seq (.reg fun call tm loc hp k => bO (bin Pg .lss 3 true (g1 tm) (.int .i64 (.ofNat 0))) fun v0 => jn (fun v1 l1 h1 => jn (fun v2 l2 h2 => jn (fun v3 l3 h3 => jn (fun v4 l4 h4 => bO (pick v0 (.bool true) v4) fun v5 => k (p16 tm v5) l4 h4) fun j4 => brB (wv v0 false) (j4 (.tuple []) l3 h3) (bO (bin Pg .geq 3 false v1 v3) fun v5 => j4 v5 l3 h3)) fun j3 => brB (wv v0 false) (j3 (.tuple []) l2 h2) (bO (len (Pg.underlying 39) v2) fun v4 => j3 v4 l2 h2)) fun j2 => brB (wv v0 false) (j2 (.tuple []) l1 h1) (j2 (g6 tm) l1 h1)) fun j1 => brB (wv v0 false) (j1 (.tuple []) loc hp) (j1 (g1 tm) loc hp))
  (.cond (.tmp 16) (.seq (.reg fun call tm loc hp k => gen Pg Cg call (Cg.glob 85) (opA Tryd.f85 3 0) tm tm loc hp (fun v0 l0 h0 => jn (fun v1 l1 h1 => k (p5 tm (.bool false)) l1 h1) fun j1 => G.onPtr (g4 tm) (fun r off => G.onRef r (fun s g => stL Pg 53 s g off v0 l0 (fun loc => j1 (.tuple []) loc h0)) (fun _ => gen Pg Cg call (Cg.glob 85) (opA Tryd.f85 3 1) (p17 (p4 tm (g4 tm)) v0) tm l0 h0 j1)) (fun _ => none) none))
  .ret) .skip))
  (.seq (.reg fun call tm loc hp k => bO (ia Pg 39 (g6 tm) (g1 tm)) fun v0 => bO (ld Pg 3 v0 loc hp) fun v1 => bO (ia Pg 23 (g0 tm) v1) fun v2 => bO (ld Pg 53 v2 loc hp) fun v3 => jn (fun v4 l4 h4 => k (p5 tm (.bool true)) l4 h4) fun j4 => G.onPtr (g4 tm) (fun r off => G.onRef r (fun s g => stL Pg 53 s g off v3 loc (fun loc => j4 (.tuple []) loc hp)) (fun _ => gen Pg Cg call (Cg.glob 85) (opA Tryd.f85 4 7) (p24 (p4 tm (g4 tm)) v3) tm loc hp j4)) (fun _ => none) none)
  .ret))))

def kp90 : List Nat := [0, 2, 3, 10]
def rc90 : RC := (.seq (.reg fun call tm loc hp k => k (p3 (p2 tm (.int .i32 (.ofNat 0))) (.int .i64 (.ofNat 0))) loc hp)
  (.seq (.seq (.reg fun call tm loc hp k => bO (bin Pg .neq 9 true (g0 tm) (.str ⟨0, 0⟩)) fun v0 => jn (fun v1 l1 h1 => jn (fun v2 l2 h2 => jn (fun v3 l3 h3 => bO (pick v0 v3 (.bool false)) fun v4 => k (p10 tm v4) l3 h3) fun j3 => brB (wv v0 true) (j3 (.tuple []) l2 h2) (bO (bin Pg .lss 5 true v2 (.int .u8 (.ofNat 128))) fun v4 => j3 v4 l2 h2)) fun j2 => brB (wv v0 true) (j2 (.tuple []) l1 h1) (bO (idx Pg 9 v1 (.int .i64 (.ofNat 0))) fun v3 => j2 v3 l1 h1)) fun j1 => brB (wv v0 true) (j1 (.tuple []) loc hp) (j1 (g0 tm) loc hp))
  (.cond (.tmp 10) (.seq (.reg fun call tm loc hp k => bO (idx Pg 9 (g0 tm) (.int .i64 (.ofNat 0))) fun v0 => gen Pg Cg call (Cg.glob 90) (opA Tryd.f90 2 2) (p12 tm v0) tm loc hp (fun v1 l1 h1 => k (p3 (p2 tm v1) (.int .i64 (.ofNat 1))) l1 h1))
  .ret) (.reg fun call tm loc hp k => cl call 101 [(g0 tm)] tm loc hp fun v0 l0 h0 => bO (ext v0 0) fun v1 => bO (ext v0 1) fun v2 => k (p3 (p2 tm v1) v2) l0 h0)))
  .ret))

def kp91 : List Nat := [0, 2, 14]
def rc91 : RC := (.seq (.reg fun call tm loc hp k => k (p2 tm (.bool false)) loc hp)
  (.seq (.reg fun call tm loc hp k => bO (nilC (g0 tm)) fun v0 => bO (fa Pg 88 v0 4) fun v1 => bO (ld Pg 3 v1 loc hp) fun v2 => bO (bin Pg .add 3 true v2 (.int .i64 (.ofNat 1))) fun v3 => bO (nilC (g0 tm)) fun v4 => bO (fa Pg 88 v4 4) fun v5 => jn (fun v6 l6 h6 => k tm l6 h6) fun j6 => G.onPtr v5 (fun r off => G.onRef r (fun s g => stL Pg 3 s g off v3 loc (fun loc => j6 (.tuple []) loc hp)) (fun _ => gen Pg Cg call (Cg.glob 91) (opA Tryd.f91 1 7) (p7 (p9 tm v5) v3) tm loc hp j6)) (fun _ => none) none)
  (.seq (.seq (.reg fun call tm loc hp k => bO (nilC (g0 tm)) fun v0 => bO (fa Pg 88 v0 4) fun v1 => bO (ld Pg 3 v1 loc hp) fun v2 => bO (bin Pg .gtr 3 true v2 (.int .i64 (.ofNat 200))) fun v3 => k (p14 tm v3) loc hp)
  (.cond (.tmp 14) (.seq (.reg fun call tm loc hp k => cl call 43 [(g0 tm)] tm loc hp fun v0 l0 h0 => bO (fld Pg 90 v0 2) fun v1 => cl call 45 [(g0 tm), v1, (.int .i64 (.ofNat 151))] tm l0 h0 fun v2 l2 h2 => k tm l2 h2)
  (.seq (.reg fun call tm loc hp k => k (p2 tm (.bool false)) loc hp)
  .ret)) .skip))
  (.seq (.reg fun call tm loc hp k => bO (nilC (g0 tm)) fun v0 => bO (fa Pg 88 v0 2) fun v1 => bO (ld Pg 3 v1 loc hp) fun v2 => bO (bin Pg .eql 3 true v2 (.int .i64 (.ofNat 0))) fun v3 => k (p2 tm v3) loc hp)
  .ret))))

def kp92 : List Nat := [0, 2, 3, 4, 5, 6, 7, 8, 9, 10, 11, 12, 13, 14, 15, 19, 38, 58, 84]
def rc92 : RC := (.seq (.reg fun call tm loc hp k => al Pg 51 2 loc fun v0 l0 => k (p2 tm v0) l0 hp)
  (.seq (.reg fun call tm loc hp k => cl call 43 [(g0 tm)] tm loc hp fun v0 l0 h0 => bO (fld Pg 90 v0 2) fun v1 => k (p3 tm v1) l0 h0)
  (.seq (.block 0 (.seq (.reg fun call tm loc hp k => cl call 68 [(g0 tm), (.str ⟨2, 26217⟩)] tm loc hp fun v0 l0 h0 => k (p19 tm v0) l0 h0)
  (.cond (.tmp 19) (.seq (.reg fun call tm loc hp k => cl call 73 [(g0 tm)] tm loc hp fun v0 l0 h0 => al Pg 51 4 l0 fun v1 l1 => jn (fun v2 l2 h2 => k (p4 tm v1) l2 h2) fun j2 => G.onPtr v1 (fun r off => G.onRef r (fun s g => stL Pg 51 s g off v0 l1 (fun loc => j2 (.tuple []) loc h0)) (fun _ => gen Pg Cg call (Cg.glob 92) (opA Tryd.f92 3 3) (p23 (p4 tm v1) v0) tm l1 h0 j2)) (fun _ => none) none)
  (.seq (.reg fun call tm loc hp k => cl call 70 [(g0 tm), (.str ⟨4, 1852139636⟩)] tm loc hp fun v0 l0 h0 => k tm l0 h0)
  (.seq (.reg fun call tm loc hp k => cl call 73 [(g0 tm)] tm loc hp fun v0 l0 h0 => al Pg 51 5 l0 fun v1 l1 => jn (fun v2 l2 h2 => k (p5 tm v1) l2 h2) fun j2 => G.onPtr v1 (fun r off => G.onRef r (fun s g => stL Pg 51 s g off v0 l1 (fun loc => j2 (.tuple []) loc h0)) (fun _ => gen Pg Cg call (Cg.glob 92) (opA Tryd.f92 5 3) (p27 (p5 tm v1) v0) tm l1 h0 j2)) (fun _ => none) none)
  (.seq (.reg fun call tm loc hp k => cl call 70 [(g0 tm), (.str ⟨4, 1702063205⟩)] tm loc hp fun v0 l0 h0 => k tm l0 h0)
  (.seq (.reg fun call tm loc hp k => cl call 73 [(g0 tm)] tm loc hp fun v0 l0 h0 => al Pg 51 6 l0 fun v1 l1 => jn (fun v2 l2 h2 => k (p6 tm v1) l2 h2) fun j2 => G.onPtr v1 (fun r off => G.onRef r (fun s g => stL Pg 51 s g off v0 l1 (fun loc => j2 (.tuple []) loc h0)) (fun _ => gen Pg Cg call (Cg.glob 92) (opA Tryd.f92 7 3) (p31 (p6 tm v1) v0) tm l1 h0 j2)) (fun _ => none) none)
  (.seq (.reg fun call tm loc hp k => bO (ld Pg 51 (g4 tm) loc hp) fun v0 => bO (ld Pg 51 (g5 tm) loc hp) fun v1 => bO (ld Pg 51 (g6 tm) loc hp) fun v2 => bO (bs Pg 47 3 [(0, v0), (1, v1), (2, v2)]) fun v3 => gen Pg Cg call (Cg.glob 92) (opA Tryd.f92 8 5) (p36 (p35 tm v3) (g3 tm)) tm loc hp (fun v4 l4 h4 => jn (fun v5 l5 h5 => k tm l5 h5) fun j5 => G.onPtr (g2 tm) (fun r off => G.onRef r (fun s g => stL Pg 51 s g off v4 l4 (fun loc => j5 (.tuple []) loc h4)) (fun _ => gen Pg Cg call (Cg.glob 92) (opA Tryd.f92 8 6) (p37 (p2 tm (g2 tm)) v4) tm l4 h4 j5)) (fun _ => none) none))
  .ret)))))) (.seq (.reg fun call tm loc hp k => cl call 68 [(g0 tm), (.str ⟨3, 7628140⟩)] tm loc hp fun v0 l0 h0 => k (p38 tm v0) l0 h0)
  (.cond (.tmp 38) (.seq (.reg fun call tm loc hp k => cl call 69 [(g0 tm)] tm loc hp fun v0 l0 h0 => al Pg 90 7 l0 fun v1 l1 => jn (fun v2 l2 h2 => k (p7 tm v1) l2 h2) fun j2 => G.onPtr v1 (fun r off => G.onRef r (fun s g => stL Pg 90 s g off v0 l1 (fun loc => j2 (.tuple []) loc h0)) (fun _ => gen Pg Cg call (Cg.glob 92) (opA Tryd.f92 10 3) (p42 (p7 tm v1) v0) tm l1 h0 j2)) (fun _ => none) none)
  (.seq (.reg fun call tm loc hp k => cl call 70 [(g0 tm), (.str ⟨1, 61⟩)] tm loc hp fun v0 l0 h0 => k tm l0 h0)
  (.seq (.reg fun call tm loc hp k => cl call 73 [(g0 tm)] tm loc hp fun v0 l0 h0 => al Pg 51 8 l0 fun v1 l1 => jn (fun v2 l2 h2 => k (p8 tm v1) l2 h2) fun j2 => G.onPtr v1 (fun r off => G.onRef r (fun s g => stL Pg 51 s g off v0 l1 (fun loc => j2 (.tuple []) loc h0)) (fun _ => gen Pg Cg call (Cg.glob 92) (opA Tryd.f92 12 3) (p46 (p8 tm v1) v0) tm l1 h0 j2)) (fun _ => none) none)
  (.seq (.reg fun call tm loc hp k => cl call 70 [(g0 tm), (.str ⟨2, 28265⟩)] tm loc hp fun v0 l0 h0 => k tm l0 h0)
  (.seq (.reg fun call tm loc hp k => cl call 73 [(g0 tm)] tm loc hp fun v0 l0 h0 => al Pg 51 9 l0 fun v1 l1 => jn (fun v2 l2 h2 => k (p9 tm v1) l2 h2) fun j2 => G.onPtr v1 (fun r off => G.onRef r (fun s g => stL Pg 51 s g off v0 l1 (fun loc => j2 (.tuple []) loc h0)) (fun _ => gen Pg Cg call (Cg.glob 92) (opA Tryd.f92 14 3) (p50 (p9 tm v1) v0) tm l1 h0 j2)) (fun _ => none) none)
  (.seq (.reg fun call tm loc hp k => bO (fa Pg 90 (g7 tm) 1) fun v0 => bO (ld Pg 9 v0 loc hp) fun v1 => bO (ld Pg 51 (g8 tm) loc hp) fun v2 => bO (ld Pg 51 (g9 tm) loc hp) fun v3 => bO (bs Pg 47 2 [(0, v2), (1, v3)]) fun v4 => gen Pg Cg call (Cg.glob 92) (opA Tryd.f92 15 6) (p56 (p55 (p52 tm v1) v4) (g3 tm)) tm loc hp (fun v5 l5 h5 => jn (fun v6 l6 h6 => k tm l6 h6) fun j6 => G.onPtr (g2 tm) (fun r off => G.onRef r (fun s g => stL Pg 51 s g off v5 l5 (fun loc => j6 (.tuple []) loc h5)) (fun _ => gen Pg Cg call (Cg.glob 92) (opA Tryd.f92 15 7) (p57 (p2 tm (g2 tm)) v5) tm l5 h5 j6)) (fun _ => none) none))
  .ret)))))) (.seq (.reg fun call tm loc hp k => cl call 68 [(g0 tm), (.str ⟨3, 7959156⟩)] tm loc hp fun v0 l0 h0 => k (p58 tm v0) l0 h0)
  (.cond (.tmp 58) (.seq (.reg fun call tm loc hp k => cl call 73 [(g0 tm)] tm loc hp fun v0 l0 h0 => al Pg 51 10 l0 fun v1 l1 => jn (fun v2 l2 h2 => k (p10 tm v1) l2 h2) fun j2 => G.onPtr v1 (fun r off => G.onRef r (fun s g => stL Pg 51 s g off v0 l1 (fun loc => j2 (.tuple []) loc h0)) (fun _ => gen Pg Cg call (Cg.glob 92) (opA Tryd.f92 17 3) (p62 (p10 tm v1) v0) tm l1 h0 j2)) (fun _ => none) none)
  (.seq (.reg fun call tm loc hp k => cl call 70 [(g0 tm), (.str ⟨4, 1752459639⟩)] tm loc hp fun v0 l0 h0 => k tm l0 h0)
  (.seq (.reg fun call tm loc hp k => cl call 69 [(g0 tm)] tm loc hp fun v0 l0 h0 => al Pg 90 11 l0 fun v1 l1 => jn (fun v2 l2 h2 => k (p11 tm v1) l2 h2) fun j2 => G.onPtr v1 (fun r off => G.onRef r (fun s g => stL Pg 90 s g off v0 l1 (fun loc => j2 (.tuple []) loc h0)) (fun _ => gen Pg Cg call (Cg.glob 92) (opA Tryd.f92 19 3) (p66 (p11 tm v1) v0) tm l1 h0 j2)) (fun _ => none) none)
  (.seq (.reg fun call tm loc hp k => cl call 70 [(g0 tm), (.str ⟨2, 15917⟩)] tm loc hp fun v0 l0 h0 => k tm l0 h0)
  (.seq (.reg fun call tm loc hp k => cl call 73 [(g0 tm)] tm loc hp fun v0 l0 h0 => al Pg 51 12 l0 fun v1 l1 => jn (fun v2 l2 h2 => k (p12 tm v1) l2 h2) fun j2 => G.onPtr v1 (fun r off => G.onRef r (fun s g => stL Pg 51 s g off v0 l1 (fun loc => j2 (.tuple []) loc h0)) (fun _ => gen Pg Cg call (Cg.glob 92) (opA Tryd.f92 21 3) (p70 (p12 tm v1) v0) tm l1 h0 j2)) (fun _ => none) none)
  (.seq (.reg fun call tm loc hp k => bO (fa Pg 90 (g11 tm) 1) fun v0 => bO (ld Pg 9 v0 loc hp) fun v1 => bO (ld Pg 51 (g10 tm) loc hp) fun v2 => bO (ld Pg 51 (g12 tm) loc hp) fun v3 => bO (bs Pg 47 2 [(0, v2), (1, v3)]) fun v4 => gen Pg Cg call (Cg.glob 92) (opA Tryd.f92 22 6) (p76 (p75 (p72 tm v1) v4) (g3 tm)) tm loc hp (fun v5 l5 h5 => jn (fun v6 l6 h6 => k tm l6 h6) fun j6 => G.onPtr (g2 tm) (fun r off => G.onRef r (fun s g => stL Pg 51 s g off v5 l5 (fun loc => j6 (.tuple []) loc h5)) (fun _ => gen Pg Cg call (Cg.glob 92) (opA Tryd.f92 22 7) (p77 (p2 tm (g2 tm)) v5) tm l5 h5 j6)) (fun _ => none) none))
  .ret)))))) .skip)))))))
  (.seq (.reg fun call tm loc hp k => cl call 102 [(g0 tm)] tm loc hp fun v0 l0 h0 => al Pg 51 13 l0 fun v1 l1 => jn (fun v2 l2 h2 => k (p13 tm v1) l2 h2) fun j2 => G.onPtr v1 (fun r off => G.onRef r (fun s g => stL Pg 51 s g off v0 l1 (fun loc => j2 (.tuple []) loc h0)) (fun _ => gen Pg Cg call (Cg.glob 92) (opA Tryd.f92 23 3) (p79 (p13 tm v1) v0) tm l1 h0 j2)) (fun _ => none) none)
  (.seq (.reg fun call tm loc hp k => cl call 43 [(g0 tm)] tm loc hp fun v0 l0 h0 => bO (fld Pg 90 v0 2) fun v1 => k (p14 tm v1) l0 h0)
  (.seq (.seq (.reg fun call tm loc hp k => cl call 68 [(g0 tm), (.str ⟨1, 59⟩)] tm loc hp fun v0 l0 h0 => k (p84 tm v0) l0 h0)
  (.cond (.tmp 84) (.seq (.reg fun call tm loc hp k => cl call 73 [(g0 tm)] tm loc hp fun v0 l0 h0 => al Pg 51 15 l0 fun v1 l1 => jn (fun v2 l2 h2 => k (p15 tm v1) l2 h2) fun j2 => G.onPtr v1 (fun r off => G.onRef r (fun s g => stL Pg 51 s g off v0 l1 (fun loc => j2 (.tuple []) loc h0)) (fun _ => gen Pg Cg call (Cg.glob 92) (opA Tryd.f92 26 3) (p86 (p15 tm v1) v0) tm l1 h0 j2)) (fun _ => none) none)
  (.seq (.reg fun call tm loc hp k => bO (ld Pg 51 (g13 tm) loc hp) fun v0 => bO (ld Pg 51 (g15 tm) loc hp) fun v1 => bO (bs Pg 47 2 [(0, v0), (1, v1)]) fun v2 => gen Pg Cg call (Cg.glob 92) (opA Tryd.f92 27 4) (p90 (p89 tm v2) (g14 tm)) tm loc hp (fun v3 l3 h3 => jn (fun v4 l4 h4 => k tm l4 h4) fun j4 => G.onPtr (g2 tm) (fun r off => G.onRef r (fun s g => stL Pg 51 s g off v3 l3 (fun loc => j4 (.tuple []) loc h3)) (fun _ => gen Pg Cg call (Cg.glob 92) (opA Tryd.f92 27 5) (p91 (p2 tm (g2 tm)) v3) tm l3 h3 j4)) (fun _ => none) none))
  .ret)) .skip))
  (.seq (.reg fun call tm loc hp k => bO (ld Pg 51 (g13 tm) loc hp) fun v0 => jn (fun v1 l1 h1 => k tm l1 h1) fun j1 => G.onPtr (g2 tm) (fun r off => G.onRef r (fun s g => stL Pg 51 s g off v0 loc (fun loc => j1 (.tuple []) loc hp)) (fun _ => gen Pg Cg call (Cg.glob 92) (opA Tryd.f92 28 1) (p92 (p2 tm (g2 tm)) v0) tm loc hp j1)) (fun _ => none) none)
  .ret)))))))

def kp93 : List Nat := [0, 1, 2, 3, 4, 6, 10, 19]
def rc93 : RC := (.seq (.reg fun call tm loc hp k => gen Pg Cg call (Cg.glob 93) (opA Tryd.f93 0 0) (p1 tm (g1 tm)) tm loc hp (fun v0 l0 h0 => k (p6 tm v0) l0 h0))
  (.seq (.reg fun call tm loc hp k => bO (ld Pg 51 (g6 tm) loc hp) fun v0 => cl call 103 [v0, (g2 tm)] tm loc hp fun v1 l1 h1 => al Pg 51 10 l1 fun v2 l2 => jn (fun v3 l3 h3 => k (p10 tm v2) l3 h3) fun j3 => G.onPtr v2 (fun r off => G.onRef r (fun s g => stL Pg 51 s g off v1 l2 (fun loc => j3 (.tuple []) loc h1)) (fun _ => gen Pg Cg call (Cg.glob 93) (opA Tryd.f93 1 4) (p13 (p10 tm v2) v1) tm l2 h1 j3)) (fun _ => none) none)
  (.seq (.reg fun call tm loc hp k => bO (ld Pg 51 (g10 tm) loc hp) fun v0 => cl call 75 [(g0 tm), v0, (g4 tm)] tm loc hp fun v1 l1 h1 => bO (bin Pg .neq 3 false v1 (g3 tm)) fun v2 => k (p19 tm v2) l1 h1)
  (.cond (.tmp 19) (.reg fun call tm loc hp k => bO (fa Pg 51 (g10 tm) 6) fun v0 => bO (ld Pg 3 v0 loc hp) fun v1 => cl call 79 [v1, (.int .i64 (.ofNat 180))] tm loc hp fun v2 l2 h2 => k tm l2 h2) .skip))))

def kp94 : List Nat := [0, 1, 2, 4, 6, 7, 8, 9, 19, 24, 25, 26, 27]
def rc94 : RC := (.seq (.reg fun call tm loc hp k => gen Pg Cg call (Cg.glob 94) (opA Tryd.f94 0 0) (p1 tm (g1 tm)) tm loc hp (fun v0 l0 h0 => k (p6 (p4 tm v0) (.int .i64 (.ofNat 0))) l0 h0))
  (.seq (.reg fun call tm loc hp k => bO (ld Pg 51 (g4 tm) loc hp) fun v0 => cl call 104 [(g0 tm), v0] tm loc hp fun v1 l1 h1 => al Pg 53 7 l1 fun v2 l2 => jn (fun v3 l3 h3 => k (p7 tm v2) l3 h3) fun j3 => G.onPtr v2 (fun r off => G.onRef r (fun s g => stL Pg 53 s g off v1 l2 (fun loc => j3 (.tuple []) loc h1)) (fun _ => gen Pg Cg call (Cg.glob 94) (opA Tryd.f94 1 4) (p12 (p7 tm v2) v1) tm l2 h1 j3)) (fun _ => none) none)
  (.seq (.seq (.reg fun call tm loc hp k => bO (fa Pg 51 (g4 tm) 4) fun v0 => bO (ld Pg 47 v0 loc hp) fun v1 => bO (len (Pg.underlying 47) v1) fun v2 => bO (fa Pg 53 (g7 tm) 4) fun v3 => bO (ld Pg 46 v3 loc hp) fun v4 => bO (len (Pg.underlying 46) v4) fun v5 => bO (bin Pg .neq 3 false v2 v5) fun v6 => k (p19 tm v6) loc hp)
  (.cond (.tmp 19) (.reg fun call tm loc hp k => bO (fa Pg 51 (g4 tm) 6) fun v0 => bO (ld Pg 3 v0 loc hp) fun v1 => cl call 79 [v1, (.int .i64 (.ofNat 182))] tm loc hp fun v2 l2 h2 => k tm l2 h2) .skip))
  (.seq (.seq (.reg fun call tm loc hp k => bO (fa Pg 53 (g7 tm) 4) fun v0 => bO (ld Pg 46 v0 loc hp) fun v1 => bO (len (Pg.underlying 46) v1) fun v2 => k (p26 (p25 (p24 tm v1) v2) (.int .i64 (.ofNat 0))) loc hp)
  (.block 0 (.loop (.seq (.reg fun call tm loc hp k => bO (bin Pg .lss 3 false (g26 tm) (g25 tm)) fun v0 => k (p27 tm v0) loc hp)
  (.seq (.cond (.tmp 27) .skip (.exit 0))
  (.seq (.block 1 (.seq (.reg fun call tm loc hp k => bO (ia Pg 46 (g24 tm) (g26 tm)) fun v0 => bO (ld Pg 77 v0 loc hp) fun v1 => al Pg 77 9 loc fun v2 l2 => jn (fun v3 l3 h3 => k (p8 (p9 tm v2) (g26 tm)) l3 h3) fun j3 => G.onPtr v2 (fun r off => G.onRef r (fun s g => stL Pg 77 s g off v1 l2 (fun loc => j3 (.tuple []) loc hp)) (fun _ => gen Pg Cg call (Cg.glob 94) (opA Tryd.f94 6 5) (p30 (p9 tm v2) v1) tm l2 hp j3)) (fun _ => none) none)
  (.reg fun call tm loc hp k => bO (ld Pg 51 (g4 tm) loc hp) fun v0 => bO (fa Pg 77 (g9 tm) 1) fun v1 => bO (fa Pg 49 v1 0) fun v2 => bO (ld Pg 3 v2 loc hp) fun v3 => cl call 93 [(g0 tm), v0, (g8 tm), v3, (g2 tm)] tm loc hp fun v4 l4 h4 => k tm l4 h4)))
  (.reg fun call tm loc hp k => bO (bin Pg .add 3 true (g26 tm) (.int .i64 (.ofNat 1))) fun v0 => k (p26 tm v0) loc hp)))))))
  (.seq (.reg fun call tm loc hp k => bO (fa Pg 53 (g7 tm) 6) fun v0 => bO (fa Pg 49 v0 0) fun v1 => bO (ld Pg 3 v1 loc hp) fun v2 => k (p6 tm v2) loc hp)
  .ret)))))

def kp95 : List Nat := [0, 1, 2, 4, 6, 7, 8, 9, 10, 11, 12, 14, 15, 41, 45, 54, 62, 71, 83, 100, 111, 129, 134]
def rc95 : RC := (.seq (.reg fun call tm loc hp k => gen Pg Cg call (Cg.glob 95) (opA Tryd.f95 0 0) (p1 tm (g1 tm)) tm loc hp (fun v0 l0 h0 => k (p6 (p4 tm v0) (.int .i64 (.ofNat 0))) l0 h0))
  (.seq (.seq (.reg fun call tm loc hp k => bO (fa Pg 51 (g4 tm) 0) fun v0 => bO (ld Pg 3 v0 loc hp) fun v1 => k (p14 tm v1) loc hp)
  (.block 0 (.seq (.seq (.reg fun call tm loc hp k => bO (bin Pg .eql 3 true (g14 tm) (.int .i64 (.ofNat 10))) fun v0 => k (p15 tm v0) loc hp)
  (.cond (.tmp 15) .skip (.seq (.reg fun call tm loc hp k => bO (bin Pg .eql 3 true (g14 tm) (.int .i64 (.ofNat 11))) fun v0 => k (p15 tm v0) loc hp)
  (.cond (.tmp 15) .skip (.reg fun call tm loc hp k => bO (bin Pg .eql 3 true (g14 tm) (.int .i64 (.ofNat 9))) fun v0 => k (p15 tm v0) loc hp)))))
  (.cond (.tmp 15) (.seq (.reg fun call tm loc hp k => bO (ld Pg 51 (g4 tm) loc hp) fun v0 => cl call 105 [(g0 tm), v0, (.int .i64 (.ofNat 1)), (g2 tm)] tm loc hp fun v1 l1 h1 => k tm l1 h1)
  (.seq (.seq (.reg fun call tm loc hp k => bO (fa Pg 51 (g4 tm) 0) fun v0 => bO (ld Pg 3 v0 loc hp) fun v1 => bO (bin Pg .eql 3 true v1 (.int .i64 (.ofNat 9))) fun v2 => jn (fun v3 l3 h3 => jn (fun v4 l4 h4 => jn (fun v5 l5 h5 => jn (fun v6 l6 h6 => jn (fun v7 l7 h7 => jn (fun v8 l8 h8 => bO (pick v2 v8 (.bool false)) fun v9 => jn (fun v10 l10 h10 => jn (fun v11 l11 h11 => jn (fun v12 l12 h12 => jn (fun v13 l13 h13 => jn (fun v14 l14 h14 => jn (fun v15 l15 h15 => bO (pick v9 v15 (.bool false)) fun v16 => k (p41 tm v16) l15 h15) fun j15 => brB (wv v9 true) (j15 (.tuple []) l14 h14) (bO (G.un .not v14) fun v16 => j15 v16 l14 h14)) fun j14 => brB (wv v9 true) (j14 (.tuple []) l13 h13) (cl call 106 [v13] tm l13 h13 fun v15 l15 h15 => j14 v15 l15 h15)) fun j13 => brB (wv v9 true) (j13 (.tuple []) l12 h12) (bO (ld Pg 51 v12 l12 h12) fun v14 => j13 v14 l12 h12)) fun j12 => brB (wv v9 true) (j12 (.tuple []) l11 h11) (bO (ia Pg 47 v11 (.int .i64 (.ofNat 1))) fun v13 => j12 v13 l11 h11)) fun j11 => brB (wv v9 true) (j11 (.tuple []) l10 h10) (bO (ld Pg 47 v10 l10 h10) fun v12 => j11 v12 l10 h10)) fun j10 => brB (wv v9 true) (j10 (.tuple []) l8 h8) (bO (fa Pg 51 (g4 tm) 4) fun v11 => j10 v11 l8 h8)) fun j8 => brB (wv v2 true) (j8 (.tuple []) l7 h7) (bO (G.un .not v7) fun v9 => j8 v9 l7 h7)) fun j7 => brB (wv v2 true) (j7 (.tuple []) l6 h6) (cl call 106 [v6] tm l6 h6 fun v8 l8 h8 => j7 v8 l8 h8)) fun j6 => brB (wv v2 true) (j6 (.tuple []) l5 h5) (bO (ld Pg 51 v5 l5 h5) fun v7 => j6 v7 l5 h5)) fun j5 => brB (wv v2 true) (j5 (.tuple []) l4 h4) (bO (ia Pg 47 v4 (.int .i64 (.ofNat 0))) fun v6 => j5 v6 l4 h4)) fun j4 => brB (wv v2 true) (j4 (.tuple []) l3 h3) (bO (ld Pg 47 v3 l3 h3) fun v5 => j4 v5 l3 h3)) fun j3 => brB (wv v2 true) (j3 (.tuple []) loc hp) (bO (fa Pg 51 (g4 tm) 4) fun v4 => j3 v4 loc hp))
  (.cond (.tmp 41) (.reg fun call tm loc hp k => bO (fa Pg 51 (g4 tm) 6) fun v0 => bO (ld Pg 3 v0 loc hp) fun v1 => cl call 79 [v1, (.int .i64 (.ofNat 185))] tm loc hp fun v2 l2 h2 => k tm l2 h2) .skip))
  (.seq (.reg fun call tm loc hp k => k (p6 tm (.int .i64 (.ofNat 1))) loc hp)
  .ret))) (.seq (.seq (.reg fun call tm loc hp k => bO (bin Pg .eql 3 true (g14 tm) (.int .i64 (.ofNat 14))) fun v0 => k (p45 tm v0) loc hp)
  (.cond (.tmp 45) .skip (.seq (.reg fun call tm loc hp k => bO (bin Pg .eql 3 true (g14 tm) (.int .i64 (.ofNat 15))) fun v0 => k (p45 tm v0) loc hp)
  (.cond (.tmp 45) .skip (.seq (.reg fun call tm loc hp k => bO (bin Pg .eql 3 true (g14 tm) (.int .i64 (.ofNat 16))) fun v0 => k (p45 tm v0) loc hp)
  (.cond (.tmp 45) .skip (.reg fun call tm loc hp k => bO (bin Pg .eql 3 true (g14 tm) (.int .i64 (.ofNat 17))) fun v0 => k (p45 tm v0) loc hp)))))))
  (.cond (.tmp 45) (.seq (.reg fun call tm loc hp k => bO (ld Pg 51 (g4 tm) loc hp) fun v0 => cl call 105 [(g0 tm), v0, (.int .i64 (.ofNat 1)), (g2 tm)] tm loc hp fun v1 l1 h1 => k tm l1 h1)
  (.seq (.reg fun call tm loc hp k => k (p6 tm (.int .i64 (.ofNat 2))) loc hp)
  .ret)) (.seq (.seq (.reg fun call tm loc hp k => bO (bin Pg .eql 3 true (g14 tm) (.int .i64 (.ofNat 18))) fun v0 => k (p54 tm v0) loc hp)
  (.cond (.tmp 54) .skip (.seq (.reg fun call tm loc hp k => bO (bin Pg .eql 3 true (g14 tm) (.int .i64 (.ofNat 19))) fun v0 => k (p54 tm v0) loc hp)
  (.cond (.tmp 54) .skip (.reg fun call tm loc hp k => bO (bin Pg .eql 3 true (g14 tm) (.int .i64 (.ofNat 20))) fun v0 => k (p54 tm v0) loc hp)))))
  (.cond (.tmp 54) (.seq (.reg fun call tm loc hp k => bO (ld Pg 51 (g4 tm) loc hp) fun v0 => cl call 105 [(g0 tm), v0, (.int .i64 (.ofNat 2)), (g2 tm)] tm loc hp fun v1 l1 h1 => k tm l1 h1)
  (.seq (.reg fun call tm loc hp k => k (p6 tm (.int .i64 (.ofNat 2))) loc hp)
  .ret)) (.seq (.seq (.reg fun call tm loc hp k => bO (bin Pg .eql 3 true (g14 tm) (.int .i64 (.ofNat 12))) fun v0 => k (p62 tm v0) loc hp)
  (.cond (.tmp 62) .skip (.reg fun call tm loc hp k => bO (bin Pg .eql 3 true (g14 tm) (.int .i64 (.ofNat 13))) fun v0 => k (p62 tm v0) loc hp)))
  (.cond (.tmp 62) (.seq (.reg fun call tm loc hp k => bO (ld Pg 51 (g4 tm) loc hp) fun v0 => cl call 103 [v0, (.int .i64 (.ofNat 0))] tm loc hp fun v1 l1 h1 => cl call 75 [(g0 tm), v1, (g2 tm)] tm l1 h1 fun v2 l2 h2 => k (p7 tm v2) l2 h2)
  (.seq (.seq (.reg fun call tm loc hp k => bO (bin Pg .eql 3 true (g7 tm) (.int .i64 (.ofNat 3))) fun v0 => k (p71 tm v0) loc hp)
  (.cond (.tmp 71) (.reg fun call tm loc hp k => bO (fa Pg 51 (g4 tm) 4) fun v0 => bO (ld Pg 47 v0 loc hp) fun v1 => bO (ia Pg 47 v1 (.int .i64 (.ofNat 0))) fun v2 => bO (fa Pg 51 v2 6) fun v3 => bO (ld Pg 3 v3 loc hp) fun v4 => cl call 79 [v4, (.int .i64 (.ofNat 180))] tm loc hp fun v5 l5 h5 => k tm l5 h5) .skip))
  (.seq (.reg fun call tm loc hp k => bO (ld Pg 51 (g4 tm) loc hp) fun v0 => cl call 93 [(g0 tm), v0, (.int .i64 (.ofNat 1)), (g7 tm), (g2 tm)] tm loc hp fun v1 l1 h1 => k tm l1 h1)
  (.seq (.reg fun call tm loc hp k => k (p6 tm (.int .i64 (.ofNat 2))) loc hp)
  .ret)))) (.seq (.reg fun call tm loc hp k => bO (bin Pg .eql 3 true (g14 tm) (.int .i64 (.ofNat 22))) fun v0 => k (p83 tm v0) loc hp)
  (.cond (.tmp 83) (.seq (.reg fun call tm loc hp k => bO (ld Pg 51 (g4 tm) loc hp) fun v0 => cl call 93 [(g0 tm), v0, (.int .i64 (.ofNat 0)), (.int .i64 (.ofNat 2)), (g2 tm)] tm loc hp fun v1 l1 h1 => k tm l1 h1)
  (.seq (.reg fun call tm loc hp k => bO (ld Pg 51 (g4 tm) loc hp) fun v0 => cl call 103 [v0, (.int .i64 (.ofNat 1))] tm loc hp fun v1 l1 h1 => cl call 75 [(g0 tm), v1, (g2 tm)] tm l1 h1 fun v2 l2 h2 => k (p8 tm v2) l2 h2)
  (.seq (.reg fun call tm loc hp k => bO (ld Pg 51 (g4 tm) loc hp) fun v0 => cl call 93 [(g0 tm), v0, (.int .i64 (.ofNat 2)), (g8 tm), (g2 tm)] tm loc hp fun v1 l1 h1 => k tm l1 h1)
  (.seq (.reg fun call tm loc hp k => k (p6 tm (g8 tm)) loc hp)
  .ret)))) (.seq (.seq (.reg fun call tm loc hp k => bO (bin Pg .eql 3 true (g14 tm) (.int .i64 (.ofNat 23))) fun v0 => k (p100 tm v0) loc hp)
  (.cond (.tmp 100) .skip (.reg fun call tm loc hp k => bO (bin Pg .eql 3 true (g14 tm) (.int .i64 (.ofNat 27))) fun v0 => k (p100 tm v0) loc hp)))
  (.cond (.tmp 100) (.seq (.reg fun call tm loc hp k => bO (ld Pg 51 (g4 tm) loc hp) fun v0 => cl call 103 [v0, (.int .i64 (.ofNat 0))] tm loc hp fun v1 l1 h1 => cl call 75 [(g0 tm), v1, (g2 tm)] tm l1 h1 fun v2 l2 h2 => k (p9 tm v2) l2 h2)
  (.seq (.reg fun call tm loc hp k => k (p10 tm (g9 tm)) loc hp)
  (.seq (.seq (.reg fun call tm loc hp k => bO (fa Pg 51 (g4 tm) 0) fun v0 => bO (ld Pg 3 v0 loc hp) fun v1 => bO (bin Pg .eql 3 true v1 (.int .i64 (.ofNat 27))) fun v2 => k (p111 tm v2) loc hp)
  (.cond (.tmp 111) (.reg fun call tm loc hp k => k (p10 tm (.int .i64 (.ofNat 1))) loc hp) .skip))
  (.seq (.reg fun call tm loc hp k => bO (ld Pg 51 (g4 tm) loc hp) fun v0 => cl call 103 [v0, (.int .i64 (.ofNat 1))] tm loc hp fun v1 l1 h1 => al Pg 51 11 l1 fun v2 l2 => jn (fun v3 l3 h3 => k (p11 tm v2) l3 h3) fun j3 => G.onPtr v2 (fun r off => G.onRef r (fun s g => stL Pg 51 s g off v1 l2 (fun loc => j3 (.tuple []) loc h1)) (fun _ => gen Pg Cg call (Cg.glob 95) (opA Tryd.f95 38 3) (p113 (p11 tm v2) v1) tm l2 h1 j3)) (fun _ => none) none)
  (.seq (.reg fun call tm loc hp k => G.next (F.regionV Pg Cg call 95 39 (rgA Tryd.f95 39) true ⟨tm, loc, hp⟩) (fun st => k st.tm st.loc st.hp))
  (.seq (.seq (.reg fun call tm loc hp k => bO (fa Pg 51 (g4 tm) 0) fun v0 => bO (ld Pg 3 v0 loc hp) fun v1 => bO (bin Pg .eql 3 true v1 (.int .i64 (.ofNat 27))) fun v2 => jn (fun v3 l3 h3 => jn (fun v4 l4 h4 => jn (fun v5 l5 h5 => bO (pick v2 v5 (.bool false)) fun v6 => k (p129 tm v6) l5 h5) fun j5 => brB (wv v2 true) (j5 (.tuple []) l4 h4) (bO (bin Pg .neq 3 false v3 v4) fun v6 => j5 v6 l4 h4)) fun j4 => brB (wv v2 true) (j4 (.tuple []) l3 h3) (j4 (g9 tm) l3 h3)) fun j3 => brB (wv v2 true) (j3 (.tuple []) loc hp) (j3 (g12 tm) loc hp))
  (.cond (.tmp 129) (.reg fun call tm loc hp k => bO (fa Pg 51 (g11 tm) 6) fun v0 => bO (ld Pg 3 v0 loc hp) fun v1 => cl call 79 [v1, (.int .i64 (.ofNat 180))] tm loc hp fun v2 l2 h2 => k tm l2 h2) .skip))
  (.seq (.reg fun call tm loc hp k => k (p6 tm (g12 tm)) loc hp)
  .ret))))))) (.seq (.reg fun call tm loc hp k => bO (bin Pg .eql 3 true (g14 tm) (.int .i64 (.ofNat 24))) fun v0 => k (p134 tm v0) loc hp)
  (.cond (.tmp 134) (.seq (.reg fun call tm loc hp k => bO (ld Pg 51 (g4 tm) loc hp) fun v0 => cl call 103 [v0, (.int .i64 (.ofNat 0))] tm loc hp fun v1 l1 h1 => cl call 75 [(g0 tm), v1, (g2 tm)] tm l1 h1 fun v2 l2 h2 => k tm l2 h2)
  (.seq (.reg fun call tm loc hp k => bO (ld Pg 51 (g4 tm) loc hp) fun v0 => cl call 103 [v0, (.int .i64 (.ofNat 1))] tm loc hp fun v1 l1 h1 => cl call 75 [(g0 tm), v1, (g2 tm)] tm l1 h1 fun v2 l2 h2 => k (p6 tm v2) l2 h2)
  .ret)) .skip))))))))))))))))
  (.seq (.reg fun call tm loc hp k => bO (fa Pg 51 (g4 tm) 6) fun v0 => bO (ld Pg 3 v0 loc hp) fun v1 => cl call 79 [v1, (.int .i64 (.ofNat 180))] tm loc hp fun v2 l2 h2 => k tm l2 h2)
  (.seq (.reg fun call tm loc hp k => k (p6 tm (.int .i64 (.ofNat 0))) loc hp)
  .ret))))

def kp96 : List Nat := [0, 1, 2, 3, 4]
def rc96 : RC := (.seq (.reg fun call tm loc hp k => gen Pg Cg call (Cg.glob 96) (opA Tryd.f96 0 0) (p0 tm (g0 tm)) tm loc hp (fun v0 l0 h0 => gen Pg Cg call (Cg.glob 96) (opA Tryd.f96 0 1) (p1 tm (g1 tm)) tm l0 h0 (fun v1 l1 h1 => al Pg 130 4 l1 fun v2 l2 => k (p4 (p3 (p2 tm v0) v1) v2) l2 h1)))
  (.seq (.reg fun call tm loc hp k => bO (fa Pg 130 (g2 tm) 0) fun v0 => bO (ld Pg 4 v0 loc hp) fun v1 => jn (fun v2 l2 h2 => jn (fun v3 l3 h3 => bO (pick v1 (.bool true) v3) fun v4 => bO (fa Pg 130 (g2 tm) 1) fun v5 => bO (ld Pg 4 v5 l3 h3) fun v6 => jn (fun v7 l7 h7 => jn (fun v8 l8 h8 => bO (pick v6 (.bool true) v8) fun v9 => bO (fa Pg 130 (g2 tm) 2) fun v10 => bO (ld Pg 4 v10 l8 h8) fun v11 => jn (fun v12 l12 h12 => jn (fun v13 l13 h13 => bO (pick v11 (.bool true) v13) fun v14 => gen Pg Cg call (Cg.glob 96) (opA Tryd.f96 1 18) (p22 (p16 (p10 tm v4) v9) v14) tm l13 h13 (fun v15 l15 h15 => jn (fun v16 l16 h16 => k tm l16 h16) fun j16 => G.onPtr (g4 tm) (fun r off => G.onRef r (fun s g => stL Pg 130 s g off v15 l15 (fun loc => j16 (.tuple []) loc h15)) (fun _ => gen Pg Cg call (Cg.glob 96) (opA Tryd.f96 1 19) (p23 (p4 tm (g4 tm)) v15) tm l15 h15 j16)) (fun _ => none) none)) fun j13 => brB (wv v11 false) (j13 (.tuple []) l12 h12) (bO (ld Pg 4 v12 l12 h12) fun v14 => j13 v14 l12 h12)) fun j12 => brB (wv v11 false) (j12 (.tuple []) l8 h8) (bO (fa Pg 130 (g3 tm) 2) fun v13 => j12 v13 l8 h8)) fun j8 => brB (wv v6 false) (j8 (.tuple []) l7 h7) (bO (ld Pg 4 v7 l7 h7) fun v9 => j8 v9 l7 h7)) fun j7 => brB (wv v6 false) (j7 (.tuple []) l3 h3) (bO (fa Pg 130 (g3 tm) 1) fun v8 => j7 v8 l3 h3)) fun j3 => brB (wv v1 false) (j3 (.tuple []) l2 h2) (bO (ld Pg 4 v2 l2 h2) fun v4 => j3 v4 l2 h2)) fun j2 => brB (wv v1 false) (j2 (.tuple []) loc hp) (bO (fa Pg 130 (g3 tm) 0) fun v3 => j2 v3 loc hp))
  .ret))

def kp97 : List Nat := [0, 1, 2, 4, 6, 7, 9, 11, 12, 21, 25, 29, 56, 61, 62, 63, 64]
def rc97 : RC := (.seq (.reg fun call tm loc hp k => gen Pg Cg call (Cg.glob 97) (opA Tryd.f97 0 0) (p1 tm (g1 tm)) tm loc hp (fun v0 l0 h0 => k (p4 tm v0) l0 h0))
  (.seq (.seq (.reg fun call tm loc hp k => bO (fa Pg 51 (g4 tm) 0) fun v0 => bO (ld Pg 3 v0 loc hp) fun v1 => k (p11 tm v1) loc hp)
  (.block 0 (.seq (.seq (.reg fun call tm loc hp k => bO (bin Pg .eql 3 true (g11 tm) (.int .i64 (.ofNat 25))) fun v0 => k (p12 tm v0) loc hp)
  (.cond (.tmp 12) .skip (.seq (.reg fun call tm loc hp k => bO (bin Pg .eql 3 true (g11 tm) (.int .i64 (.ofNat 26))) fun v0 => k (p12 tm v0) loc hp)
  (.cond (.tmp 12) .skip (.seq (.reg fun call tm loc hp k => bO (bin Pg .eql 3 true (g11 tm) (.int .i64 (.ofNat 28))) fun v0 => k (p12 tm v0) loc hp)
  (.cond (.tmp 12) .skip (.seq (.reg fun call tm loc hp k => bO (bin Pg .eql 3 true (g11 tm) (.int .i64 (.ofNat 24))) fun v0 => k (p12 tm v0) loc hp)
  (.cond (.tmp 12) .skip (.reg fun call tm loc hp k => bO (bin Pg .eql 3 true (g11 tm) (.int .i64 (.ofNat 27))) fun v0 => k (p12 tm v0) loc hp)))))))))
  (.cond (.tmp 12) (.reg fun call tm loc hp k => bO (fa Pg 51 (g4 tm) 6) fun v0 => bO (ld Pg 3 v0 loc hp) fun v1 => cl call 79 [v1, (.int .i64 (.ofNat 183))] tm loc hp fun v2 l2 h2 => k tm l2 h2) (.seq (.seq (.reg fun call tm loc hp k => bO (bin Pg .eql 3 true (g11 tm) (.int .i64 (.ofNat 5))) fun v0 => k (p21 tm v0) loc hp)
  (.cond (.tmp 21) .skip (.reg fun call tm loc hp k => bO (bin Pg .eql 3 true (g11 tm) (.int .i64 (.ofNat 6))) fun v0 => k (p21 tm v0) loc hp)))
  (.cond (.tmp 21) (.seq (.reg fun call tm loc hp k => bO (G.un .not (g2 tm)) fun v0 => k (p25 tm v0) loc hp)
  (.cond (.tmp 25) (.reg fun call tm loc hp k => bO (fa Pg 51 (g4 tm) 6) fun v0 => bO (ld Pg 3 v0 loc hp) fun v1 => cl call 79 [v1, (.int .i64 (.ofNat 183))] tm loc hp fun v2 l2 h2 => k tm l2 h2) .skip)) (.seq (.reg fun call tm loc hp k => bO (bin Pg .eql 3 true (g11 tm) (.int .i64 (.ofNat 21))) fun v0 => k (p29 tm v0) loc hp)
  (.cond (.tmp 29) (.seq (.reg fun call tm loc hp k => G.next (F.regionV Pg Cg call 97 13 (rgA Tryd.f97 13) true ⟨tm, loc, hp⟩) (fun st => k st.tm st.loc st.hp))
  (.seq (.reg fun call tm loc hp k => bO (G.un .not (g7 tm)) fun v0 => jn (fun v1 l1 h1 => jn (fun v2 l2 h2 => jn (fun v3 l3 h3 => bO (pick v0 (.bool true) v3) fun v4 => jn (fun v5 l5 h5 => jn (fun v6 l6 h6 => jn (fun v7 l7 h7 => jn (fun v8 l8 h8 => jn (fun v9 l9 h9 => jn (fun v10 l10 h10 => jn (fun v11 l11 h11 => bO (pick v4 (.bool true) v11) fun v12 => k (p56 tm v12) l11 h11) fun j11 => brB (wv v4 false) (j11 (.tuple []) l10 h10) (bO (bin Pg .eql 3 false v6 v10) fun v12 => j11 v12 l10 h10)) fun j10 => brB (wv v4 false) (j10 (.tuple []) l9 h9) (bO (ld Pg 3 v9 l9 h9) fun v11 => j10 v11 l9 h9)) fun j9 => brB (wv v4 false) (j9 (.tuple []) l8 h8) (bO (fa Pg 101 v8 2) fun v10 => j9 v10 l8 h8)) fun j8 => brB (wv v4 false) (j8 (.tuple []) l7 h7) (bO (nilC v7) fun v9 => j8 v9 l7 h7)) fun j7 => brB (wv v4 false) (j7 (.tuple []) l6 h6) (j7 (g0 tm) l6 h6)) fun j6 => brB (wv v4 false) (j6 (.tuple []) l5 h5) (bO (ld Pg 3 v5 l5 h5) fun v7 => j6 v7 l5 h5)) fun j5 => brB (wv v4 false) (j5 (.tuple []) l3 h3) (bO (fa Pg 51 (g4 tm) 5) fun v6 => j5 v6 l3 h3)) fun j3 => brB (wv v0 false) (j3 (.tuple []) l2 h2) (bO (bin Pg .neq 3 true v2 (.int .i64 (.ofNat 1))) fun v4 => j3 v4 l2 h2)) fun j2 => brB (wv v0 false) (j2 (.tuple []) l1 h1) (bO (ld Pg 3 v1 l1 h1) fun v3 => j2 v3 l1 h1)) fun j1 => brB (wv v0 false) (j1 (.tuple []) loc hp) (bO (fa Pg 53 (g6 tm) 5) fun v2 => j1 v2 loc hp))
  (.cond (.tmp 56) (.reg fun call tm loc hp k => bO (fa Pg 51 (g4 tm) 6) fun v0 => bO (ld Pg 3 v0 loc hp) fun v1 => cl call 79 [v1, (.int .i64 (.ofNat 183))] tm loc hp fun v2 l2 h2 => k tm l2 h2) .skip))) .skip))))))))
  (.seq (.reg fun call tm loc hp k => bO (fa Pg 51 (g4 tm) 4) fun v0 => bO (ld Pg 47 v0 loc hp) fun v1 => bO (len (Pg.underlying 47) v1) fun v2 => k (p63 (p62 (p61 tm v1) v2) (.int .i64 (.ofNat 0))) loc hp)
  (.block 1 (.loop (.seq (.reg fun call tm loc hp k => bO (bin Pg .lss 3 false (g63 tm) (g62 tm)) fun v0 => k (p64 tm v0) loc hp)
  (.seq (.cond (.tmp 64) .skip (.exit 1))
  (.seq (.block 2 (.seq (.reg fun call tm loc hp k => bO (ia Pg 47 (g61 tm) (g63 tm)) fun v0 => bO (ld Pg 51 v0 loc hp) fun v1 => al Pg 51 9 loc fun v2 l2 => jn (fun v3 l3 h3 => k (p9 tm v2) l3 h3) fun j3 => G.onPtr v2 (fun r off => G.onRef r (fun s g => stL Pg 51 s g off v1 l2 (fun loc => j3 (.tuple []) loc hp)) (fun _ => gen Pg Cg call (Cg.glob 97) (opA Tryd.f97 18 3) (p66 (p9 tm v2) v1) tm l2 hp j3)) (fun _ => none) none)
  (.reg fun call tm loc hp k => bO (ld Pg 51 (g9 tm) loc hp) fun v0 => cl call 97 [(g0 tm), v0, (g2 tm)] tm loc hp fun v1 l1 h1 => k tm l1 h1)))
  (.reg fun call tm loc hp k => bO (bin Pg .add 3 true (g63 tm) (.int .i64 (.ofNat 1))) fun v0 => k (p63 tm v0) loc hp)))))))))

def kp98 : List Nat := [0, 1, 2]
def rc98 : RC := (.seq (.reg fun call tm loc hp k => gen Pg Cg call (Cg.glob 98) (opA Tryd.f98 0 0) (p0 tm (g0 tm)) tm loc hp (fun v0 l0 h0 => k (p2 (p1 tm v0) (.bool false)) l0 h0))
  (.seq (.reg fun call tm loc hp k => bO (fa Pg 51 (g1 tm) 0) fun v0 => bO (ld Pg 3 v0 loc hp) fun v1 => bO (bin Pg .eql 3 true v1 (.int .i64 (.ofNat 1))) fun v2 => jn (fun v3 l3 h3 => jn (fun v4 l4 h4 => jn (fun v5 l5 h5 => jn (fun v6 l6 h6 => jn (fun v7 l7 h7 => jn (fun v8 l8 h8 => jn (fun v9 l9 h9 => jn (fun v10 l10 h10 => jn (fun v11 l11 h11 => jn (fun v12 l12 h12 => jn (fun v13 l13 h13 => jn (fun v14 l14 h14 => jn (fun v15 l15 h15 => jn (fun v16 l16 h16 => jn (fun v17 l17 h17 => jn (fun v18 l18 h18 => jn (fun v19 l19 h19 => bO (pick v2 (.bool true) v19) fun v20 => k (p2 tm v20) l19 h19) fun j19 => brB (wv v2 false) (j19 (.tuple []) l18 h18) (bO (pick v12 v18 (.bool false)) fun v20 => j19 v20 l18 h18)) fun j18 => brB (wv v12 true) (j18 (.tuple []) l17 h17) (bO (bin Pg .eql 3 true v17 (.int .i64 (.ofNat 1))) fun v19 => j18 v19 l17 h17)) fun j17 => brB (wv v12 true) (j17 (.tuple []) l16 h16) (bO (ld Pg 3 v16 l16 h16) fun v18 => j17 v18 l16 h16)) fun j16 => brB (wv v12 true) (j16 (.tuple []) l15 h15) (bO (fa Pg 51 v15 0) fun v17 => j16 v17 l15 h15)) fun j15 => brB (wv v12 true) (j15 (.tuple []) l14 h14) (bO (ia Pg 47 v14 (.int .i64 (.ofNat 0))) fun v16 => j15 v16 l14 h14)) fun j14 => brB (wv v12 true) (j14 (.tuple []) l13 h13) (bO (ld Pg 47 v13 l13 h13) fun v15 => j14 v15 l13 h13)) fun j13 => brB (wv v12 true) (j13 (.tuple []) l12 h12) (bO (fa Pg 51 (g1 tm) 4) fun v14 => j13 v14 l12 h12)) fun j12 => brB (wv v2 false) (j12 (.tuple []) l11 h11) (j12 v11 l11 h11)) fun j11 => brB (wv v2 false) (j11 (.tuple []) l10 h10) (bO (pick v6 v10 (.bool false)) fun v12 => j11 v12 l10 h10)) fun j10 => brB (wv v6 true) (j10 (.tuple []) l9 h9) (bO (bin Pg .eql 3 true v9 (.int .i64 (.ofNat 1))) fun v11 => j10 v11 l9 h9)) fun j9 => brB (wv v6 true) (j9 (.tuple []) l8 h8) (bO (len (Pg.underlying 47) v8) fun v10 => j9 v10 l8 h8)) fun j8 => brB (wv v6 true) (j8 (.tuple []) l7 h7) (bO (ld Pg 47 v7 l7 h7) fun v9 => j8 v9 l7 h7)) fun j7 => brB (wv v6 true) (j7 (.tuple []) l6 h6) (bO (fa Pg 51 (g1 tm) 4) fun v8 => j7 v8 l6 h6)) fun j6 => brB (wv v2 false) (j6 (.tuple []) l5 h5) (j6 v5 l5 h5)) fun j5 => brB (wv v2 false) (j5 (.tuple []) l4 h4) (bO (bin Pg .eql 3 true v4 (.int .i64 (.ofNat 7))) fun v6 => j5 v6 l4 h4)) fun j4 => brB (wv v2 false) (j4 (.tuple []) l3 h3) (bO (ld Pg 3 v3 l3 h3) fun v5 => j4 v5 l3 h3)) fun j3 => brB (wv v2 false) (j3 (.tuple []) loc hp) (bO (fa Pg 51 (g1 tm) 0) fun v4 => j3 v4 loc hp))
  .ret))

def kp101 : List Nat := [0, 2, 3, 4, 5, 6, 7, 8, 9, 10, 11, 12, 16, 23, 45, 57, 59, 75, 77, 98]
def rc101 : RC := (.seq (.reg fun call tm loc hp k => k (p3 (p2 tm (.int .i32 (.ofNat 0))) (.int .i64 (.ofNat 0))) loc hp)
  (.seq (.reg fun call tm loc hp k => bO (len (Pg.underlying 9) (g0 tm)) fun v0 => k (p4 tm v0) loc hp)
  (.seq (.seq (.reg fun call tm loc hp k => bO (bin Pg .lss 3 true (g4 tm) (.int .i64 (.ofNat 1))) fun v0 => k (p16 tm v0) loc hp)
  (.cond (.tmp 16) (.seq (.reg fun call tm loc hp k => k (p3 (p2 tm (.int .i32 (.ofNat 65533))) (.int .i64 (.ofNat 0))) loc hp)
  .ret) .skip))
  (.seq (.reg fun call tm loc hp k => bO (idx Pg 9 (g0 tm) (.int .i64 (.ofNat 0))) fun v0 => k (p5 tm v0) loc hp)
  (.seq (.reg fun call tm loc hp k => bO (ia Pg 170 .dead (g5 tm)) fun v0 => bO (ld Pg 5 v0 loc hp) fun v1 => k (p6 tm v1) loc hp)
  (.seq (.seq (.reg fun call tm loc hp k => bO (bin Pg .geq 5 true (g6 tm) (.int .u8 (.ofNat 240))) fun v0 => k (p23 tm v0) loc hp)
  (.cond (.tmp 23) (.seq (.reg fun call tm loc hp k => gen Pg Cg call (Cg.glob 101) (opA Tryd.f101 7 1) (p24 tm (g6 tm)) tm loc hp (fun v0 l0 h0 => bO (bin Pg .shl 21 true v0 (.int .u64 (.ofNat 31))) fun v1 => bO (bin Pg .shr 21 true v1 (.int .u64 (.ofNat 31))) fun v2 => k (p7 tm v2) l0 h0))
  (.seq (.reg fun call tm loc hp k => bO (idx Pg 9 (g0 tm) (.int .i64 (.ofNat 0))) fun v0 => gen Pg Cg call (Cg.glob 101) (opA Tryd.f101 8 2) (p29 tm v0) tm loc hp (fun v1 l1 h1 => bO (bin Pg .andNot 21 false v1 (g7 tm)) fun v2 => bO (bin Pg .and 21 true (.int .i32 (.ofNat 65533)) (g7 tm)) fun v3 => bO (bin Pg .or 21 false v2 v3) fun v4 => k (p3 (p2 tm v4) (.int .i64 (.ofNat 1))) l1 h1))
  .ret)) .skip))
  (.seq (.reg fun call tm loc hp k => bO (bin Pg .and 5 true (g6 tm) (.int .u8 (.ofNat 7))) fun v0 => gen Pg Cg call (Cg.glob 101) (opA Tryd.f101 9 2) (p37 tm v0) tm loc hp (fun v1 l1 h1 => k (p8 tm v1) l1 h1))
  (.seq (.reg fun call tm loc hp k => bO (bin Pg .shr 5 true (g6 tm) (.int .u64 (.ofNat 4))) fun v0 => bO (ia Pg 174 .dead v0) fun v1 => bO (ld Pg 173 v1 loc hp) fun v2 => al Pg 173 9 loc fun v3 l3 => jn (fun v4 l4 h4 => k (p9 tm v3) l4 h4) fun j4 => G.onPtr v3 (fun r off => G.onRef r (fun s g => stL Pg 173 s g off v2 l3 (fun loc => j4 (.tuple []) loc hp)) (fun _ => gen Pg Cg call (Cg.glob 101) (opA Tryd.f101 10 5) (p42 (p9 tm v3) v2) tm l3 hp j4)) (fun _ => none) none)
  (.seq (.seq (.reg fun call tm loc hp k => bO (bin Pg .lss 3 false (g4 tm) (g8 tm)) fun v0 => k (p45 tm v0) loc hp)
  (.cond (.tmp 45) (.seq (.reg fun call tm loc hp k => k (p3 (p2 tm (.int .i32 (.ofNat 65533))) (.int .i64 (.ofNat 1))) loc hp)
  .ret) .skip))
  (.seq (.reg fun call tm loc hp k => bO (idx Pg 9 (g0 tm) (.int .i64 (.ofNat 1))) fun v0 => k (p10 tm v0) loc hp)
  (.seq (.seq (.reg fun call tm loc hp k => bO (fa Pg 173 (g9 tm) 0) fun v0 => bO (ld Pg 5 v0 loc hp) fun v1 => bO (bin Pg .lss 5 false (g10 tm) v1) fun v2 => jn (fun v3 l3 h3 => jn (fun v4 l4 h4 => jn (fun v5 l5 h5 => jn (fun v6 l6 h6 => bO (pick v2 (.bool true) v6) fun v7 => k (p57 tm v7) l6 h6) fun j6 => brB (wv v2 false) (j6 (.tuple []) l5 h5) (bO (bin Pg .lss 5 false v4 v5) fun v7 => j6 v7 l5 h5)) fun j5 => brB (wv v2 false) (j5 (.tuple []) l4 h4) (j5 (g10 tm) l4 h4)) fun j4 => brB (wv v2 false) (j4 (.tuple []) l3 h3) (bO (ld Pg 5 v3 l3 h3) fun v5 => j4 v5 l3 h3)) fun j3 => brB (wv v2 false) (j3 (.tuple []) loc hp) (bO (fa Pg 173 (g9 tm) 1) fun v4 => j3 v4 loc hp))
  (.cond (.tmp 57) (.seq (.reg fun call tm loc hp k => k (p3 (p2 tm (.int .i32 (.ofNat 65533))) (.int .i64 (.ofNat 1))) loc hp)
  .ret) .skip))
  (.seq (.seq (.reg fun call tm loc hp k => bO (bin Pg .leq 3 true (g8 tm) (.int .i64 (.ofNat 2))) fun v0 => k (p59 tm v0) loc hp)
  (.cond (.tmp 59) (.seq (.reg fun call tm loc hp k => bO (bin Pg .and 5 true (g5 tm) (.int .u8 (.ofNat 31))) fun v0 => gen Pg Cg call (Cg.glob 101) (opA Tryd.f101 17 2) (p61 tm v0) tm loc hp (fun v1 l1 h1 => bO (bin Pg .shl 21 true v1 (.int .u64 (.ofNat 6))) fun v2 => bO (bin Pg .and 5 true (g10 tm) (.int .u8 (.ofNat 63))) fun v3 => gen Pg Cg call (Cg.glob 101) (opA Tryd.f101 17 6) (p65 tm v3) tm l1 h1 (fun v4 l4 h4 => bO (bin Pg .or 21 false v2 v4) fun v5 => k (p3 (p2 tm v5) (.int .i64 (.ofNat 2))) l4 h4)))
  .ret) .skip))
  (.seq (.reg fun call tm loc hp k => bO (idx Pg 9 (g0 tm) (.int .i64 (.ofNat 2))) fun v0 => k (p11 tm v0) loc hp)
  (.seq (.seq (.reg fun call tm loc hp k => bO (bin Pg .lss 5 true (g11 tm) (.int .u8 (.ofNat 128))) fun v0 => jn (fun v1 l1 h1 => jn (fun v2 l2 h2 => bO (pick v0 (.bool true) v2) fun v3 => k (p75 tm v3) l2 h2) fun j2 => brB (wv v0 false) (j2 (.tuple []) l1 h1) (bO (bin Pg .lss 5 true (.int .u8 (.ofNat 191)) v1) fun v3 => j2 v3 l1 h1)) fun j1 => brB (wv v0 false) (j1 (.tuple []) loc hp) (j1 (g11 tm) loc hp))
  (.cond (.tmp 75) (.seq (.reg fun call tm loc hp k => k (p3 (p2 tm (.int .i32 (.ofNat 65533))) (.int .i64 (.ofNat 1))) loc hp)
  .ret) .skip))
  (.seq (.seq (.reg fun call tm loc hp k => bO (bin Pg .leq 3 true (g8 tm) (.int .i64 (.ofNat 3))) fun v0 => k (p77 tm v0) loc hp)
  (.cond (.tmp 77) (.seq (.reg fun call tm loc hp k => bO (bin Pg .and 5 true (g5 tm) (.int .u8 (.ofNat 15))) fun v0 => gen Pg Cg call (Cg.glob 101) (opA Tryd.f101 22 2) (p79 tm v0) tm loc hp (fun v1 l1 h1 => bO (bin Pg .shl 21 true v1 (.int .u64 (.ofNat 12))) fun v2 => bO (bin Pg .and 5 true (g10 tm) (.int .u8 (.ofNat 63))) fun v3 => gen Pg Cg call (Cg.glob 101) (opA Tryd.f101 22 6) (p83 tm v3) tm l1 h1 (fun v4 l4 h4 => bO (bin Pg .shl 21 true v4 (.int .u64 (.ofNat 6))) fun v5 => bO (bin Pg .or 21 false v2 v5) fun v6 => bO (bin Pg .and 5 true (g11 tm) (.int .u8 (.ofNat 63))) fun v7 => gen Pg Cg call (Cg.glob 101) (opA Tryd.f101 22 11) (p88 tm v7) tm l4 h4 (fun v8 l8 h8 => bO (bin Pg .or 21 false v6 v8) fun v9 => k (p3 (p2 tm v9) (.int .i64 (.ofNat 3))) l8 h8))))
  .ret) .skip))
  (.seq (.reg fun call tm loc hp k => bO (idx Pg 9 (g0 tm) (.int .i64 (.ofNat 3))) fun v0 => k (p12 tm v0) loc hp)
  (.seq (.seq (.reg fun call tm loc hp k => bO (bin Pg .lss 5 true (g12 tm) (.int .u8 (.ofNat 128))) fun v0 => jn (fun v1 l1 h1 => jn (fun v2 l2 h2 => bO (pick v0 (.bool true) v2) fun v3 => k (p98 tm v3) l2 h2) fun j2 => brB (wv v0 false) (j2 (.tuple []) l1 h1) (bO (bin Pg .lss 5 true (.int .u8 (.ofNat 191)) v1) fun v3 => j2 v3 l1 h1)) fun j1 => brB (wv v0 false) (j1 (.tuple []) loc hp) (j1 (g12 tm) loc hp))
  (.cond (.tmp 98) (.seq (.reg fun call tm loc hp k => k (p3 (p2 tm (.int .i32 (.ofNat 65533))) (.int .i64 (.ofNat 1))) loc hp)
  .ret) .skip))
  (.seq (.reg fun call tm loc hp k => bO (bin Pg .and 5 true (g5 tm) (.int .u8 (.ofNat 7))) fun v0 => gen Pg Cg call (Cg.glob 101) (opA Tryd.f101 26 2) (p100 tm v0) tm loc hp (fun v1 l1 h1 => bO (bin Pg .shl 21 true v1 (.int .u64 (.ofNat 18))) fun v2 => bO (bin Pg .and 5 true (g10 tm) (.int .u8 (.ofNat 63))) fun v3 => gen Pg Cg call (Cg.glob 101) (opA Tryd.f101 26 6) (p104 tm v3) tm l1 h1 (fun v4 l4 h4 => bO (bin Pg .shl 21 true v4 (.int .u64 (.ofNat 12))) fun v5 => bO (bin Pg .or 21 false v2 v5) fun v6 => bO (bin Pg .and 5 true (g11 tm) (.int .u8 (.ofNat 63))) fun v7 => gen Pg Cg call (Cg.glob 101) (opA Tryd.f101 26 11) (p109 tm v7) tm l4 h4 (fun v8 l8 h8 => bO (bin Pg .shl 21 true v8 (.int .u64 (.ofNat 6))) fun v9 => bO (bin Pg .or 21 false v6 v9) fun v10 => bO (bin Pg .and 5 true (g12 tm) (.int .u8 (.ofNat 63))) fun v11 => gen Pg Cg call (Cg.glob 101) (opA Tryd.f101 26 16) (p114 tm v11) tm l8 h8 (fun v12 l12 h12 => bO (bin Pg .or 21 false v10 v12) fun v13 => k (p3 (p2 tm v13) (.int .i64 (.ofNat 4))) l12 h12)))))
  .ret))))))))))))))))))

def kp102 : List Nat := [0, 2, 3, 4, 5, 6, 9, 45, 55]
def rc102 : RC := (.seq (.reg fun call tm loc hp k => al Pg 51 2 loc fun v0 l0 => k (p2 tm v0) l0 hp)
  (.seq (.reg fun call tm loc hp k => cl call 43 [(g0 tm)] tm loc hp fun v0 l0 h0 => al Pg 90 3 l0 fun v1 l1 => jn (fun v2 l2 h2 => k (p3 tm v1) l2 h2) fun j2 => G.onPtr v1 (fun r off => G.onRef r (fun s g => stL Pg 90 s g off v0 l1 (fun loc => j2 (.tuple []) loc h0)) (fun _ => gen Pg Cg call (Cg.glob 102) (opA Tryd.f102 1 3) (p8 (p3 tm v1) v0) tm l1 h0 j2)) (fun _ => none) none)
  (.seq (.block 0 (.seq (.reg fun call tm loc hp k => bO (nilC (g0 tm)) fun v0 => bO (fa Pg 88 v0 2) fun v1 => bO (ld Pg 3 v1 loc hp) fun v2 => bO (bin Pg .eql 3 true v2 (.int .i64 (.ofNat 0))) fun v3 => jn (fun v4 l4 h4 => jn (fun v5 l5 h5 => jn (fun v6 l6 h6 => bO (pick v3 v6 (.bool false)) fun v7 => jn (fun v8 l8 h8 => jn (fun v9 l9 h9 => jn (fun v10 l10 h10 => jn (fun v11 l11 h11 => bO (pick v7 v11 (.bool false)) fun v12 => jn (fun v13 l13 h13 => jn (fun v14 l14 h14 => jn (fun v15 l15 h15 => jn (fun v16 l16 h16 => bO (pick v12 v16 (.bool false)) fun v17 => k (p9 tm v17) l16 h16) fun j16 => brB (wv v12 true) (j16 (.tuple []) l15 h15) (bO (bin Pg .eql 9 true v15 (.str ⟨2, 15674⟩)) fun v17 => j16 v17 l15 h15)) fun j15 => brB (wv v12 true) (j15 (.tuple []) l14 h14) (bO (fld Pg 90 v14 1) fun v16 => j15 v16 l14 h14)) fun j14 => brB (wv v12 true) (j14 (.tuple []) l13 h13) (cl call 108 [v13] tm l13 h13 fun v15 l15 h15 => j14 v15 l15 h15)) fun j13 => brB (wv v12 true) (j13 (.tuple []) l11 h11) (j13 (g0 tm) l11 h11)) fun j11 => brB (wv v7 true) (j11 (.tuple []) l10 h10) (bO (bin Pg .eql 3 true v10 (.int .i64 (.ofNat 4))) fun v12 => j11 v12 l10 h10)) fun j10 => brB (wv v7 true) (j10 (.tuple []) l9 h9) (bO (fld Pg 90 v9 0) fun v11 => j10 v11 l9 h9)) fun j9 => brB (wv v7 true) (j9 (.tuple []) l8 h8) (cl call 108 [v8] tm l8 h8 fun v10 l10 h10 => j9 v10 l10 h10)) fun j8 => brB (wv v7 true) (j8 (.tuple []) l6 h6) (j8 (g0 tm) l6 h6)) fun j6 => brB (wv v3 true) (j6 (.tuple []) l5 h5) (bO (bin Pg .eql 3 true v5 (.int .i64 (.ofNat 1))) fun v7 => j6 v7 l5 h5)) fun j5 => brB (wv v3 true) (j5 (.tuple []) l4 h4) (bO (ld Pg 3 v4 l4 h4) fun v6 => j5 v6 l4 h4)) fun j4 => brB (wv v3 true) (j4 (.tuple []) loc hp) (bO (fa Pg 90 (g3 tm) 0) fun v5 => j4 v5 loc hp))
  (.cond (.tmp 9) (.seq (.reg fun call tm loc hp k => cl call 71 [(g0 tm)] tm loc hp fun v0 l0 h0 => k tm l0 h0)
  (.seq (.reg fun call tm loc hp k => cl call 71 [(g0 tm)] tm loc hp fun v0 l0 h0 => k tm l0 h0)
  (.seq (.reg fun call tm loc hp k => cl call 109 [(g0 tm)] tm loc hp fun v0 l0 h0 => al Pg 51 4 l0 fun v1 l1 => jn (fun v2 l2 h2 => k (p4 tm v1) l2 h2) fun j2 => G.onPtr v1 (fun r off => G.onRef r (fun s g => stL Pg 51 s g off v0 l1 (fun loc => j2 (.tuple []) loc h0)) (fun _ => gen Pg Cg call (Cg.glob 102) (opA Tryd.f102 5 3) (p37 (p4 tm v1) v0) tm l1 h0 j2)) (fun _ => none) none)
  (.seq (.reg fun call tm loc hp k => bO (fa Pg 90 (g3 tm) 1) fun v0 => bO (ld Pg 9 v0 loc hp) fun v1 => bO (ld Pg 51 (g4 tm) loc hp) fun v2 => bO (bs Pg 47 1 [(0, v2)]) fun v3 => bO (fa Pg 90 (g3 tm) 2) fun v4 => bO (ld Pg 3 v4 loc hp) fun v5 => gen Pg Cg call (Cg.glob 102) (opA Tryd.f102 6 6) (p43 (p41 (p39 tm v1) v3) v5) tm loc hp (fun v6 l6 h6 => jn (fun v7 l7 h7 => k tm l7 h7) fun j7 => G.onPtr (g2 tm) (fun r off => G.onRef r (fun s g => stL Pg 51 s g off v6 l6 (fun loc => j7 (.tuple []) loc h6)) (fun _ => gen Pg Cg call (Cg.glob 102) (opA Tryd.f102 6 7) (p44 (p2 tm (g2 tm)) v6) tm l6 h6 j7)) (fun _ => none) none))
  .ret)))) (.seq (.reg fun call tm loc hp k => cl call 68 [(g0 tm), (.str ⟨5, 435727982962⟩)] tm loc hp fun v0 l0 h0 => k (p45 tm v0) l0 h0)
  (.cond (.tmp 45) (.seq (.reg fun call tm loc hp k => cl call 109 [(g0 tm)] tm loc hp fun v0 l0 h0 => al Pg 51 5 l0 fun v1 l1 => jn (fun v2 l2 h2 => k (p5 tm v1) l2 h2) fun j2 => G.onPtr v1 (fun r off => G.onRef r (fun s g => stL Pg 51 s g off v0 l1 (fun loc => j2 (.tuple []) loc h0)) (fun _ => gen Pg Cg call (Cg.glob 102) (opA Tryd.f102 8 3) (p49 (p5 tm v1) v0) tm l1 h0 j2)) (fun _ => none) none)
  (.seq (.reg fun call tm loc hp k => bO (ld Pg 51 (g5 tm) loc hp) fun v0 => bO (bs Pg 47 1 [(0, v0)]) fun v1 => bO (fa Pg 90 (g3 tm) 2) fun v2 => bO (ld Pg 3 v2 loc hp) fun v3 => gen Pg Cg call (Cg.glob 102) (opA Tryd.f102 9 4) (p53 (p51 tm v1) v3) tm loc hp (fun v4 l4 h4 => jn (fun v5 l5 h5 => k tm l5 h5) fun j5 => G.onPtr (g2 tm) (fun r off => G.onRef r (fun s g => stL Pg 51 s g off v4 l4 (fun loc => j5 (.tuple []) loc h4)) (fun _ => gen Pg Cg call (Cg.glob 102) (opA Tryd.f102 9 5) (p54 (p2 tm (g2 tm)) v4) tm l4 h4 j5)) (fun _ => none) none))
  .ret)) (.seq (.reg fun call tm loc hp k => cl call 68 [(g0 tm), (.str ⟨6, 128034677158753⟩)] tm loc hp fun v0 l0 h0 => k (p55 tm v0) l0 h0)
  (.cond (.tmp 55) (.seq (.reg fun call tm loc hp k => cl call 109 [(g0 tm)] tm loc hp fun v0 l0 h0 => al Pg 51 6 l0 fun v1 l1 => jn (fun v2 l2 h2 => k (p6 tm v1) l2 h2) fun j2 => G.onPtr v1 (fun r off => G.onRef r (fun s g => stL Pg 51 s g off v0 l1 (fun loc => j2 (.tuple []) loc h0)) (fun _ => gen Pg Cg call (Cg.glob 102) (opA Tryd.f102 11 3) (p59 (p6 tm v1) v0) tm l1 h0 j2)) (fun _ => none) none)
  (.seq (.reg fun call tm loc hp k => bO (ld Pg 51 (g6 tm) loc hp) fun v0 => bO (bs Pg 47 1 [(0, v0)]) fun v1 => bO (fa Pg 90 (g3 tm) 2) fun v2 => bO (ld Pg 3 v2 loc hp) fun v3 => gen Pg Cg call (Cg.glob 102) (opA Tryd.f102 12 4) (p63 (p61 tm v1) v3) tm loc hp (fun v4 l4 h4 => jn (fun v5 l5 h5 => k tm l5 h5) fun j5 => G.onPtr (g2 tm) (fun r off => G.onRef r (fun s g => stL Pg 51 s g off v4 l4 (fun loc => j5 (.tuple []) loc h4)) (fun _ => gen Pg Cg call (Cg.glob 102) (opA Tryd.f102 12 5) (p64 (p2 tm (g2 tm)) v4) tm l4 h4 j5)) (fun _ => none) none))
  .ret)) .skip)))))))
  (.seq (.reg fun call tm loc hp k => cl call 109 [(g0 tm)] tm loc hp fun v0 l0 h0 => jn (fun v1 l1 h1 => k tm l1 h1) fun j1 => G.onPtr (g2 tm) (fun r off => G.onRef r (fun s g => stL Pg 51 s g off v0 l0 (fun loc => j1 (.tuple []) loc h0)) (fun _ => gen Pg Cg call (Cg.glob 102) (opA Tryd.f102 13 2) (p66 (p2 tm (g2 tm)) v0) tm l0 h0 j1)) (fun _ => none) none)
  .ret))))

def kp103 : List Nat := [0, 1, 2, 4, 9]
def rc103 : RC := (.seq (.reg fun call tm loc hp k => gen Pg Cg call (Cg.glob 103) (opA Tryd.f103 0 0) (p0 tm (g0 tm)) tm loc hp (fun v0 l0 h0 => al Pg 51 4 l0 fun v1 l1 => k (p4 (p2 tm v0) v1) l1 h0))
  (.seq (.seq (.reg fun call tm loc hp k => bO (fa Pg 51 (g2 tm) 4) fun v0 => bO (ld Pg 47 v0 loc hp) fun v1 => bO (len (Pg.underlying 47) v1) fun v2 => bO (bin Pg .geq 3 false (g1 tm) v2) fun v3 => k (p9 tm v3) loc hp)
  (.cond (.tmp 9) (.reg fun call tm loc hp k => bO (fa Pg 51 (g2 tm) 6) fun v0 => bO (ld Pg 3 v0 loc hp) fun v1 => cl call 79 [v1, (.int .i64 (.ofNat 180))] tm loc hp fun v2 l2 h2 => k tm l2 h2) .skip))
  (.seq (.reg fun call tm loc hp k => bO (fa Pg 51 (g2 tm) 4) fun v0 => bO (ld Pg 47 v0 loc hp) fun v1 => bO (ia Pg 47 v1 (g1 tm)) fun v2 => bO (ld Pg 51 v2 loc hp) fun v3 => jn (fun v4 l4 h4 => k tm l4 h4) fun j4 => G.onPtr (g4 tm) (fun r off => G.onRef r (fun s g => stL Pg 51 s g off v3 loc (fun loc => j4 (.tuple []) loc hp)) (fun _ => gen Pg Cg call (Cg.glob 103) (opA Tryd.f103 3 5) (p17 (p4 tm (g4 tm)) v3) tm loc hp j4)) (fun _ => none) none)
  .ret)))

def kp104 : List Nat := [0, 1, 3, 4, 5, 6, 27]
def rc104 : RC := (.seq (.reg fun call tm loc hp k => gen Pg Cg call (Cg.glob 104) (opA Tryd.f104 0 0) (p1 tm (g1 tm)) tm loc hp (fun v0 l0 h0 => al Pg 53 4 l0 fun v1 l1 => k (p4 (p3 tm v0) v1) l1 h0))
  (.seq (.reg fun call tm loc hp k => G.next (F.regionV Pg Cg call 104 1 (rgA Tryd.f104 1) true ⟨tm, loc, hp⟩) (fun st => k st.tm st.loc st.hp))
  (.seq (.seq (.reg fun call tm loc hp k => bO (G.un .not (g6 tm)) fun v0 => jn (fun v1 l1 h1 => jn (fun v2 l2 h2 => jn (fun v3 l3 h3 => jn (fun v4 l4 h4 => jn (fun v5 l5 h5 => jn (fun v6 l6 h6 => jn (fun v7 l7 h7 => bO (pick v0 (.bool true) v7) fun v8 => k (p27 tm v8) l7 h7) fun j7 => brB (wv v0 false) (j7 (.tuple []) l6 h6) (bO (bin Pg .geq 3 false v2 v6) fun v8 => j7 v8 l6 h6)) fun j6 => brB (wv v0 false) (j6 (.tuple []) l5 h5) (bO (ld Pg 3 v5 l5 h5) fun v7 => j6 v7 l5 h5)) fun j5 => brB (wv v0 false) (j5 (.tuple []) l4 h4) (bO (fa Pg 101 v4 1) fun v6 => j5 v6 l4 h4)) fun j4 => brB (wv v0 false) (j4 (.tuple []) l3 h3) (bO (nilC v3) fun v5 => j4 v5 l3 h3)) fun j3 => brB (wv v0 false) (j3 (.tuple []) l2 h2) (j3 (g0 tm) l2 h2)) fun j2 => brB (wv v0 false) (j2 (.tuple []) l1 h1) (bO (ld Pg 3 v1 l1 h1) fun v3 => j2 v3 l1 h1)) fun j1 => brB (wv v0 false) (j1 (.tuple []) loc hp) (bO (fa Pg 51 (g3 tm) 5) fun v2 => j1 v2 loc hp))
  (.cond (.tmp 27) (.reg fun call tm loc hp k => bO (fa Pg 51 (g3 tm) 6) fun v0 => bO (ld Pg 3 v0 loc hp) fun v1 => cl call 79 [v1, (.int .i64 (.ofNat 170))] tm loc hp fun v2 l2 h2 => k tm l2 h2) .skip))
  (.seq (.reg fun call tm loc hp k => bO (ld Pg 53 (g5 tm) loc hp) fun v0 => jn (fun v1 l1 h1 => k tm l1 h1) fun j1 => G.onPtr (g4 tm) (fun r off => G.onRef r (fun s g => stL Pg 53 s g off v0 loc (fun loc => j1 (.tuple []) loc hp)) (fun _ => gen Pg Cg call (Cg.glob 104) (opA Tryd.f104 4 1) (p31 (p4 tm (g4 tm)) v0) tm loc hp j1)) (fun _ => none) none)
  .ret))))

def kp105 : List Nat := [0, 1, 2, 3, 5]
def rc105 : RC := (.seq (.reg fun call tm loc hp k => gen Pg Cg call (Cg.glob 105) (opA Tryd.f105 0 0) (p1 tm (g1 tm)) tm loc hp (fun v0 l0 h0 => k (p5 tm v0) l0 h0))
  (.seq (.reg fun call tm loc hp k => bO (ld Pg 51 (g5 tm) loc hp) fun v0 => cl call 93 [(g0 tm), v0, (.int .i64 (.ofNat 0)), (g2 tm), (g3 tm)] tm loc hp fun v1 l1 h1 => k tm l1 h1)
  (.reg fun call tm loc hp k => bO (ld Pg 51 (g5 tm) loc hp) fun v0 => cl call 93 [(g0 tm), v0, (.int .i64 (.ofNat 1)), (g2 tm), (g3 tm)] tm loc hp fun v1 l1 h1 => k tm l1 h1)))

def kp106 : List Nat := [0, 1, 2]
def rc106 : RC := (.seq (.reg fun call tm loc hp k => gen Pg Cg call (Cg.glob 106) (opA Tryd.f106 0 0) (p0 tm (g0 tm)) tm loc hp (fun v0 l0 h0 => k (p2 (p1 tm v0) (.bool false)) l0 h0))
  (.seq (.reg fun call tm loc hp k => bO (fa Pg 51 (g1 tm) 0) fun v0 => bO (ld Pg 3 v0 loc hp) fun v1 => bO (bin Pg .eql 3 true v1 (.int .i64 (.ofNat 1))) fun v2 => jn (fun v3 l3 h3 => jn (fun v4 l4 h4 => jn (fun v5 l5 h5 => jn (fun v6 l6 h6 => jn (fun v7 l7 h7 => jn (fun v8 l8 h8 => jn (fun v9 l9 h9 => jn (fun v10 l10 h10 => jn (fun v11 l11 h11 => jn (fun v12 l12 h12 => jn (fun v13 l13 h13 => jn (fun v14 l14 h14 => jn (fun v15 l15 h15 => jn (fun v16 l16 h16 => jn (fun v17 l17 h17 => jn (fun v18 l18 h18 => jn (fun v19 l19 h19 => bO (pick v2 (.bool true) v19) fun v20 => k (p2 tm v20) l19 h19) fun j19 => brB (wv v2 false) (j19 (.tuple []) l18 h18) (bO (pick v12 v18 (.bool false)) fun v20 => j19 v20 l18 h18)) fun j18 => brB (wv v12 true) (j18 (.tuple []) l17 h17) (bO (bin Pg .eql 3 true v17 (.int .i64 (.ofNat 1))) fun v19 => j18 v19 l17 h17)) fun j17 => brB (wv v12 true) (j17 (.tuple []) l16 h16) (bO (ld Pg 3 v16 l16 h16) fun v18 => j17 v18 l16 h16)) fun j16 => brB (wv v12 true) (j16 (.tuple []) l15 h15) (bO (fa Pg 51 v15 0) fun v17 => j16 v17 l15 h15)) fun j15 => brB (wv v12 true) (j15 (.tuple []) l14 h14) (bO (ia Pg 47 v14 (.int .i64 (.ofNat 0))) fun v16 => j15 v16 l14 h14)) fun j14 => brB (wv v12 true) (j14 (.tuple []) l13 h13) (bO (ld Pg 47 v13 l13 h13) fun v15 => j14 v15 l13 h13)) fun j13 => brB (wv v12 true) (j13 (.tuple []) l12 h12) (bO (fa Pg 51 (g1 tm) 4) fun v14 => j13 v14 l12 h12)) fun j12 => brB (wv v2 false) (j12 (.tuple []) l11 h11) (j12 v11 l11 h11)) fun j11 => brB (wv v2 false) (j11 (.tuple []) l10 h10) (bO (pick v6 v10 (.bool false)) fun v12 => j11 v12 l10 h10)) fun j10 => brB (wv v6 true) (j10 (.tuple []) l9 h9) (bO (bin Pg .eql 3 true v9 (.int .i64 (.ofNat 1))) fun v11 => j10 v11 l9 h9)) fun j9 => brB (wv v6 true) (j9 (.tuple []) l8 h8) (bO (len (Pg.underlying 47) v8) fun v10 => j9 v10 l8 h8)) fun j8 => brB (wv v6 true) (j8 (.tuple []) l7 h7) (bO (ld Pg 47 v7 l7 h7) fun v9 => j8 v9 l7 h7)) fun j7 => brB (wv v6 true) (j7 (.tuple []) l6 h6) (bO (fa Pg 51 (g1 tm) 4) fun v8 => j7 v8 l6 h6)) fun j6 => brB (wv v2 false) (j6 (.tuple []) l5 h5) (j6 v5 l5 h5)) fun j5 => brB (wv v2 false) (j5 (.tuple []) l4 h4) (bO (bin Pg .eql 3 true v4 (.int .i64 (.ofNat 7))) fun v6 => j5 v6 l4 h4)) fun j4 => brB (wv v2 false) (j4 (.tuple []) l3 h3) (bO (ld Pg 3 v3 l3 h3) fun v5 => j4 v5 l3 h3)) fun j3 => brB (wv v2 false) (j3 (.tuple []) loc hp) (bO (fa Pg 51 (g1 tm) 0) fun v4 => j3 v4 loc hp))
  .ret))

def kp108 : List Nat := [0, 2, 13]
def rc108 : RC := (.seq (.reg fun call tm loc hp k => al Pg 90 2 loc fun v0 l0 => k (p2 tm v0) l0 hp)
  (.seq (.seq (.reg fun call tm loc hp k => bO (nilC (g0 tm)) fun v0 => bO (fa Pg 88 v0 1) fun v1 => bO (ld Pg 3 v1 loc hp) fun v2 => bO (bin Pg .add 3 true v2 (.int .i64 (.ofNat 1))) fun v3 => bO (nilC (g0 tm)) fun v4 => bO (fa Pg 88 v4 0) fun v5 => bO (ld Pg 83 v5 loc hp) fun v6 => bO (len (Pg.underlying 83) v6) fun v7 => bO (bin Pg .lss 3 false v3 v7) fun v8 => k (p13 tm v8) loc hp)
  (.cond (.tmp 13) (.seq (.reg fun call tm loc hp k => G.next (F.regionV Pg Cg call 108 2 (rgA Tryd.f108 2) true ⟨tm, loc, hp⟩) (fun st => k st.tm st.loc st.hp))
  .ret) .skip))
  (.seq (.reg fun call tm loc hp k => gen Pg Cg call (Cg.glob 108) (opA Tryd.f108 3 0) tm tm loc hp (fun v0 l0 h0 => jn (fun v1 l1 h1 => k tm l1 h1) fun j1 => G.onPtr (g2 tm) (fun r off => G.onRef r (fun s g => stL Pg 90 s g off v0 l0 (fun loc => j1 (.tuple []) loc h0)) (fun _ => gen Pg Cg call (Cg.glob 108) (opA Tryd.f108 3 1) (p25 (p2 tm (g2 tm)) v0) tm l0 h0 j1)) (fun _ => none) none))
  .ret)))

def kp109 : List Nat := [0, 2, 3, 4, 5, 12, 14]
def rc109 : RC := (.seq (.reg fun call tm loc hp k => al Pg 51 2 loc fun v0 l0 => k (p2 tm v0) l0 hp)
  (.seq (.reg fun call tm loc hp k => cl call 110 [(g0 tm), (.int .i64 (.ofNat 0))] tm loc hp fun v0 l0 h0 => al Pg 51 3 l0 fun v1 l1 => jn (fun v2 l2 h2 => k (p3 tm v1) l2 h2) fun j2 => G.onPtr v1 (fun r off => G.onRef r (fun s g => stL Pg 51 s g off v0 l1 (fun loc => j2 (.tuple []) loc h0)) (fun _ => gen Pg Cg call (Cg.glob 109) (opA Tryd.f109 1 3) (p7 (p3 tm v1) v0) tm l1 h0 j2)) (fun _ => none) none)
  (.seq (.reg fun call tm loc hp k => cl call 43 [(g0 tm)] tm loc hp fun v0 l0 h0 => bO (fld Pg 90 v0 2) fun v1 => k (p4 tm v1) l0 h0)
  (.seq (.seq (.reg fun call tm loc hp k => cl call 68 [(g0 tm), (.str ⟨3, 4078909⟩)] tm loc hp fun v0 l0 h0 => k (p12 tm v0) l0 h0)
  (.cond (.tmp 12) (.seq (.reg fun call tm loc hp k => al Pg 51 5 loc fun v0 l0 => k (p5 tm v0) l0 hp)
  (.seq (.seq (.reg fun call tm loc hp k => cl call 91 [(g0 tm)] tm loc hp fun v0 l0 h0 => k (p14 tm v0) l0 h0)
  (.cond (.tmp 14) (.reg fun call tm loc hp k => cl call 109 [(g0 tm)] tm loc hp fun v0 l0 h0 => jn (fun v1 l1 h1 => k tm l1 h1) fun j1 => G.onPtr (g5 tm) (fun r off => G.onRef r (fun s g => stL Pg 51 s g off v0 l0 (fun loc => j1 (.tuple []) loc h0)) (fun _ => gen Pg Cg call (Cg.glob 109) (opA Tryd.f109 6 2) (p16 (p5 tm (g5 tm)) v0) tm l0 h0 j1)) (fun _ => none) none) .skip))
  (.seq (.reg fun call tm loc hp k => bO (nilC (g0 tm)) fun v0 => bO (fa Pg 88 v0 4) fun v1 => bO (ld Pg 3 v1 loc hp) fun v2 => bO (bin Pg .sub 3 true v2 (.int .i64 (.ofNat 1))) fun v3 => bO (nilC (g0 tm)) fun v4 => bO (fa Pg 88 v4 4) fun v5 => jn (fun v6 l6 h6 => k tm l6 h6) fun j6 => G.onPtr v5 (fun r off => G.onRef r (fun s g => stL Pg 3 s g off v3 loc (fun loc => j6 (.tuple []) loc hp)) (fun _ => gen Pg Cg call (Cg.glob 109) (opA Tryd.f109 7 7) (p21 (p23 tm v5) v3) tm loc hp j6)) (fun _ => none) none)
  (.seq (.reg fun call tm loc hp k => bO (ld Pg 51 (g3 tm) loc hp) fun v0 => bO (ld Pg 51 (g5 tm) loc hp) fun v1 => bO (bs Pg 47 2 [(0, v0), (1, v1)]) fun v2 => gen Pg Cg call (Cg.glob 109) (opA Tryd.f109 8 4) (p27 (p26 tm v2) (g4 tm)) tm loc hp (fun v3 l3 h3 => jn (fun v4 l4 h4 => k tm l4 h4) fun j4 => G.onPtr (g2 tm) (fun r off => G.onRef r (fun s g => stL Pg 51 s g off v3 l3 (fun loc => j4 (.tuple []) loc h3)) (fun _ => gen Pg Cg call (Cg.glob 109) (opA Tryd.f109 8 5) (p28 (p2 tm (g2 tm)) v3) tm l3 h3 j4)) (fun _ => none) none))
  .ret)))) .skip))
  (.seq (.reg fun call tm loc hp k => bO (ld Pg 51 (g3 tm) loc hp) fun v0 => jn (fun v1 l1 h1 => k tm l1 h1) fun j1 => G.onPtr (g2 tm) (fun r off => G.onRef r (fun s g => stL Pg 51 s g off v0 loc (fun loc => j1 (.tuple []) loc hp)) (fun _ => gen Pg Cg call (Cg.glob 109) (opA Tryd.f109 9 1) (p29 (p2 tm (g2 tm)) v0) tm loc hp j1)) (fun _ => none) none)
  .ret)))))

def kp110 : List Nat := [0, 1, 4, 5, 6, 7, 8, 9, 10, 11, 13, 42, 53, 61, 67, 79]
def rc110 : RC := (.seq (.reg fun call tm loc hp k => al Pg 51 4 loc fun v0 l0 => k (p4 tm v0) l0 hp)
  (.seq (.seq (.reg fun call tm loc hp k => bO (bin Pg .eql 3 true (g1 tm) (.int .i64 (.ofNat 5))) fun v0 => k (p13 tm v0) loc hp)
  (.cond (.tmp 13) (.seq (.reg fun call tm loc hp k => cl call 111 [(g0 tm)] tm loc hp fun v0 l0 h0 => jn (fun v1 l1 h1 => k tm l1 h1) fun j1 => G.onPtr (g4 tm) (fun r off => G.onRef r (fun s g => stL Pg 51 s g off v0 l0 (fun loc => j1 (.tuple []) loc h0)) (fun _ => gen Pg Cg call (Cg.glob 110) (opA Tryd.f110 2 2) (p15 (p4 tm (g4 tm)) v0) tm l0 h0 j1)) (fun _ => none) none)
  .ret) .skip))
  (.seq (.reg fun call tm loc hp k => bO (bs Pg 36 1 [(0, (.str ⟨2, 31868⟩))]) fun v0 => bO (bs Pg 36 1 [(0, (.str ⟨2, 9766⟩))]) fun v1 => bO (bs Pg 36 6 [(0, (.str ⟨1, 61⟩)), (1, (.str ⟨2, 15932⟩)), (2, (.str ⟨1, 60⟩)), (3, (.str ⟨2, 15676⟩)), (4, (.str ⟨1, 62⟩)), (5, (.str ⟨2, 15678⟩))]) fun v2 => bO (bs Pg 36 2 [(0, (.str ⟨1, 43⟩)), (1, (.str ⟨1, 45⟩))]) fun v3 => bO (bs Pg 36 1 [(0, (.str ⟨1, 42⟩))]) fun v4 => bO (bs Pg 176 5 [(0, v0), (1, v1), (2, v2), (3, v3), (4, v4)]) fun v5 => bO (ia Pg 176 v5 (g1 tm)) fun v6 => bO (ld Pg 36 v6 loc hp) fun v7 => k (p5 tm v7) loc hp)
  (.seq (.reg fun call tm loc hp k => bO (bs Pg 39 1 [(0, (.int .i64 (.ofNat 19)))]) fun v0 => bO (bs Pg 39 1 [(0, (.int .i64 (.ofNat 18)))]) fun v1 => bO (bs Pg 39 6 [(0, (.int .i64 (.ofNat 12))), (1, (.int .i64 (.ofNat 13))), (2, (.int .i64 (.ofNat 14))), (3, (.int .i64 (.ofNat 15))), (4, (.int .i64 (.ofNat 16))), (5, (.int .i64 (.ofNat 17)))]) fun v2 => bO (bs Pg 39 2 [(0, (.int .i64 (.ofNat 10))), (1, (.int .i64 (.ofNat 11)))]) fun v3 => bO (bs Pg 39 1 [(0, (.int .i64 (.ofNat 9)))]) fun v4 => bO (bs Pg 177 5 [(0, v0), (1, v1), (2, v2), (3, v3), (4, v4)]) fun v5 => bO (ia Pg 177 v5 (g1 tm)) fun v6 => bO (ld Pg 39 v6 loc hp) fun v7 => k (p6 tm v7) loc hp)
  (.seq (.reg fun call tm loc hp k => bO (bin Pg .add 3 true (g1 tm) (.int .i64 (.ofNat 1))) fun v0 => cl call 110 [(g0 tm), v0] tm loc hp fun v1 l1 h1 => al Pg 51 7 l1 fun v2 l2 => jn (fun v3 l3 h3 => k (p7 tm v2) l3 h3) fun j3 => G.onPtr v2 (fun r off => G.onRef r (fun s g => stL Pg 51 s g off v1 l2 (fun loc => j3 (.tuple []) loc h1)) (fun _ => gen Pg Cg call (Cg.glob 110) (opA Tryd.f110 5 5) (p37 (p7 tm v2) v1) tm l2 h1 j3)) (fun _ => none) none)
  (.seq (.block 0 (.loop (.seq (.seq (.reg fun call tm loc hp k => bO (nilC (g0 tm)) fun v0 => bO (fa Pg 88 v0 2) fun v1 => bO (ld Pg 3 v1 loc hp) fun v2 => bO (bin Pg .eql 3 true v2 (.int .i64 (.ofNat 0))) fun v3 => k (p42 tm v3) loc hp)
  (.cond (.tmp 42) .skip (.exit 0)))
  (.block 1 (.seq (.reg fun call tm loc hp k => cl call 43 [(g0 tm)] tm loc hp fun v0 l0 h0 => bO (fld Pg 90 v0 2) fun v1 => k (p9 (p8 tm v1) (.int .i64 (.ofNat 0))) l0 h0)
  (.seq (.seq (.reg fun call tm loc hp k => k (p10 tm (.int .i64 (.ofNat 0))) loc hp)
  (.block 2 (.loop (.seq (.seq (.reg fun call tm loc hp k => bO (len (Pg.underlying 36) (g5 tm)) fun v0 => bO (bin Pg .lss 3 false (g10 tm) v0) fun v1 => jn (fun v2 l2 h2 => jn (fun v3 l3 h3 => bO (pick v1 v3 (.bool false)) fun v4 => k (p53 tm v4) l3 h3) fun j3 => brB (wv v1 true) (j3 (.tuple []) l2 h2) (bO (bin Pg .eql 3 true v2 (.int .i64 (.ofNat 0))) fun v4 => j3 v4 l2 h2)) fun j2 => brB (wv v1 true) (j2 (.tuple []) loc hp) (j2 (g9 tm) loc hp))
  (.cond (.tmp 53) .skip (.exit 2)))
  (.seq (.block 3 (.seq (.reg fun call tm loc hp k => bO (ia Pg 36 (g5 tm) (g10 tm)) fun v0 => bO (ld Pg 9 v0 loc hp) fun v1 => cl call 68 [(g0 tm), v1] tm loc hp fun v2 l2 h2 => k (p61 tm v2) l2 h2)
  (.cond (.tmp 61) (.reg fun call tm loc hp k => bO (ia Pg 39 (g6 tm) (g10 tm)) fun v0 => bO (ld Pg 3 v0 loc hp) fun v1 => k (p9 tm v1) loc hp) .skip)))
  (.reg fun call tm loc hp k => bO (bin Pg .add 3 true (g10 tm) (.int .i64 (.ofNat 1))) fun v0 => k (p10 tm v0) loc hp))))))
  (.seq (.seq (.reg fun call tm loc hp k => bO (bin Pg .eql 3 true (g9 tm) (.int .i64 (.ofNat 0))) fun v0 => k (p67 tm v0) loc hp)
  (.cond (.tmp 67) (.exit 0) .skip))
  (.seq (.reg fun call tm loc hp k => bO (bin Pg .add 3 true (g1 tm) (.int .i64 (.ofNat 1))) fun v0 => cl call 110 [(g0 tm), v0] tm loc hp fun v1 l1 h1 => al Pg 51 11 l1 fun v2 l2 => jn (fun v3 l3 h3 => k (p11 tm v2) l3 h3) fun j3 => G.onPtr v2 (fun r off => G.onRef r (fun s g => stL Pg 51 s g off v1 l2 (fun loc => j3 (.tuple []) loc h1)) (fun _ => gen Pg Cg call (Cg.glob 110) (opA Tryd.f110 14 5) (p71 (p11 tm v2) v1) tm l2 h1 j3)) (fun _ => none) none)
  (.seq (.reg fun call tm loc hp k => bO (ld Pg 51 (g7 tm) loc hp) fun v0 => bO (ld Pg 51 (g11 tm) loc hp) fun v1 => bO (bs Pg 47 2 [(0, v0), (1, v1)]) fun v2 => gen Pg Cg call (Cg.glob 110) (opA Tryd.f110 15 5) (p76 (p75 (p72 tm (g9 tm)) v2) (g8 tm)) tm loc hp (fun v3 l3 h3 => jn (fun v4 l4 h4 => k tm l4 h4) fun j4 => G.onPtr (g7 tm) (fun r off => G.onRef r (fun s g => stL Pg 51 s g off v3 l3 (fun loc => j4 (.tuple []) loc h3)) (fun _ => gen Pg Cg call (Cg.glob 110) (opA Tryd.f110 15 6) (p77 (p7 tm (g7 tm)) v3) tm l3 h3 j4)) (fun _ => none) none))
  (.seq (.reg fun call tm loc hp k => bO (bin Pg .eql 3 true (g1 tm) (.int .i64 (.ofNat 2))) fun v0 => k (p79 tm v0) loc hp)
  (.cond (.tmp 79) (.exit 0) .skip)))))))))))
  (.seq (.reg fun call tm loc hp k => bO (ld Pg 51 (g7 tm) loc hp) fun v0 => jn (fun v1 l1 h1 => k tm l1 h1) fun j1 => G.onPtr (g4 tm) (fun r off => G.onRef r (fun s g => stL Pg 51 s g off v0 loc (fun loc => j1 (.tuple []) loc hp)) (fun _ => gen Pg Cg call (Cg.glob 110) (opA Tryd.f110 17 1) (p80 (p4 tm (g4 tm)) v0) tm loc hp j1)) (fun _ => none) none)
  .ret)))))))

def kp111 : List Nat := [0, 2, 3, 4, 5, 6, 7, 10, 13, 16, 26, 37, 41]
def rc111 : RC := (.seq (.reg fun call tm loc hp k => al Pg 51 2 loc fun v0 l0 => k (p2 tm v0) l0 hp)
  (.seq (.reg fun call tm loc hp k => cl call 43 [(g0 tm)] tm loc hp fun v0 l0 h0 => al Pg 90 3 l0 fun v1 l1 => jn (fun v2 l2 h2 => k (p3 tm v1) l2 h2) fun j2 => G.onPtr v1 (fun r off => G.onRef r (fun s g => stL Pg 90 s g off v0 l1 (fun loc => j2 (.tuple []) loc h0)) (fun _ => gen Pg Cg call (Cg.glob 111) (opA Tryd.f111 1 3) (p9 (p3 tm v1) v0) tm l1 h0 j2)) (fun _ => none) none)
  (.seq (.reg fun call tm loc hp k => k (p4 tm (.int .i64 (.ofNat 0))) loc hp)
  (.seq (.block 0 (.seq (.reg fun call tm loc hp k => cl call 68 [(g0 tm), (.str ⟨1, 45⟩)] tm loc hp fun v0 l0 h0 => k (p10 tm v0) l0 h0)
  (.cond (.tmp 10) (.reg fun call tm loc hp k => k (p4 tm (.int .i64 (.ofNat 7))) loc hp) (.seq (.reg fun call tm loc hp k => cl call 68 [(g0 tm), (.str ⟨3, 7630702⟩)] tm loc hp fun v0 l0 h0 => k (p13 tm v0) l0 h0)
  (.cond (.tmp 13) (.reg fun call tm loc hp k => k (p4 tm (.int .i64 (.ofNat 8))) loc hp) (.seq (.reg fun call tm loc hp k => cl call 68 [(g0 tm), (.str ⟨1, 33⟩)] tm loc hp fun v0 l0 h0 => k (p16 tm v0) l0 h0)
  (.cond (.tmp 16) (.seq (.reg fun call tm loc hp k => cl call 69 [(g0 tm)] tm loc hp fun v0 l0 h0 => al Pg 90 5 l0 fun v1 l1 => jn (fun v2 l2 h2 => k (p5 tm v1) l2 h2) fun j2 => G.onPtr v1 (fun r off => G.onRef r (fun s g => stL Pg 90 s g off v0 l1 (fun loc => j2 (.tuple []) loc h0)) (fun _ => gen Pg Cg call (Cg.glob 111) (opA Tryd.f111 8 3) (p20 (p5 tm v1) v0) tm l1 h0 j2)) (fun _ => none) none)
  (.seq (.reg fun call tm loc hp k => bO (fa Pg 90 (g5 tm) 1) fun v0 => bO (ld Pg 9 v0 loc hp) fun v1 => bO (fa Pg 90 (g3 tm) 2) fun v2 => bO (ld Pg 3 v2 loc hp) fun v3 => gen Pg Cg call (Cg.glob 111) (opA Tryd.f111 9 4) (p24 (p22 tm v1) v3) tm loc hp (fun v4 l4 h4 => jn (fun v5 l5 h5 => k tm l5 h5) fun j5 => G.onPtr (g2 tm) (fun r off => G.onRef r (fun s g => stL Pg 51 s g off v4 l4 (fun loc => j5 (.tuple []) loc h4)) (fun _ => gen Pg Cg call (Cg.glob 111) (opA Tryd.f111 9 5) (p25 (p2 tm (g2 tm)) v4) tm l4 h4 j5)) (fun _ => none) none))
  .ret)) (.seq (.reg fun call tm loc hp k => cl call 68 [(g0 tm), (.str ⟨3, 6581359⟩)] tm loc hp fun v0 l0 h0 => k (p26 tm v0) l0 h0)
  (.cond (.tmp 26) (.seq (.reg fun call tm loc hp k => cl call 69 [(g0 tm)] tm loc hp fun v0 l0 h0 => al Pg 90 6 l0 fun v1 l1 => jn (fun v2 l2 h2 => k (p6 tm v1) l2 h2) fun j2 => G.onPtr v1 (fun r off => G.onRef r (fun s g => stL Pg 90 s g off v0 l1 (fun loc => j2 (.tuple []) loc h0)) (fun _ => gen Pg Cg call (Cg.glob 111) (opA Tryd.f111 11 3) (p30 (p6 tm v1) v0) tm l1 h0 j2)) (fun _ => none) none)
  (.seq (.reg fun call tm loc hp k => bO (fa Pg 90 (g6 tm) 1) fun v0 => bO (ld Pg 9 v0 loc hp) fun v1 => bO (fa Pg 90 (g3 tm) 2) fun v2 => bO (ld Pg 3 v2 loc hp) fun v3 => gen Pg Cg call (Cg.glob 111) (opA Tryd.f111 12 4) (p34 (p32 tm v1) v3) tm loc hp (fun v4 l4 h4 => jn (fun v5 l5 h5 => k tm l5 h5) fun j5 => G.onPtr (g2 tm) (fun r off => G.onRef r (fun s g => stL Pg 51 s g off v4 l4 (fun loc => j5 (.tuple []) loc h4)) (fun _ => gen Pg Cg call (Cg.glob 111) (opA Tryd.f111 12 5) (p35 (p2 tm (g2 tm)) v4) tm l4 h4 j5)) (fun _ => none) none))
  .ret)) .skip)))))))))
  (.seq (.seq (.reg fun call tm loc hp k => bO (bin Pg .eql 3 true (g4 tm) (.int .i64 (.ofNat 0))) fun v0 => k (p37 tm v0) loc hp)
  (.cond (.tmp 37) (.seq (.reg fun call tm loc hp k => cl call 112 [(g0 tm)] tm loc hp fun v0 l0 h0 => jn (fun v1 l1 h1 => k tm l1 h1) fun j1 => G.onPtr (g2 tm) (fun r off => G.onRef r (fun s g => stL Pg 51 s g off v0 l0 (fun loc => j1 (.tuple []) loc h0)) (fun _ => gen Pg Cg call (Cg.glob 111) (opA Tryd.f111 14 2) (p39 (p2 tm (g2 tm)) v0) tm l0 h0 j1)) (fun _ => none) none)
  .ret) .skip))
  (.seq (.reg fun call tm loc hp k => al Pg 51 7 loc fun v0 l0 => k (p7 tm v0) l0 hp)
  (.seq (.seq (.reg fun call tm loc hp k => cl call 91 [(g0 tm)] tm loc hp fun v0 l0 h0 => k (p41 tm v0) l0 h0)
  (.cond (.tmp 41) (.reg fun call tm loc hp k => cl call 111 [(g0 tm)] tm loc hp fun v0 l0 h0 => jn (fun v1 l1 h1 => k tm l1 h1) fun j1 => G.onPtr (g7 tm) (fun r off => G.onRef r (fun s g => stL Pg 51 s g off v0 l0 (fun loc => j1 (.tuple []) loc h0)) (fun _ => gen Pg Cg call (Cg.glob 111) (opA Tryd.f111 17 2) (p43 (p7 tm (g7 tm)) v0) tm l0 h0 j1)) (fun _ => none) none) .skip))
  (.seq (.reg fun call tm loc hp k => bO (nilC (g0 tm)) fun v0 => bO (fa Pg 88 v0 4) fun v1 => bO (ld Pg 3 v1 loc hp) fun v2 => bO (bin Pg .sub 3 true v2 (.int .i64 (.ofNat 1))) fun v3 => bO (nilC (g0 tm)) fun v4 => bO (fa Pg 88 v4 4) fun v5 => jn (fun v6 l6 h6 => k tm l6 h6) fun j6 => G.onPtr v5 (fun r off => G.onRef r (fun s g => stL Pg 3 s g off v3 loc (fun loc => j6 (.tuple []) loc hp)) (fun _ => gen Pg Cg call (Cg.glob 111) (opA Tryd.f111 18 7) (p48 (p50 tm v5) v3) tm loc hp j6)) (fun _ => none) none)
  (.seq (.reg fun call tm loc hp k => bO (ld Pg 51 (g7 tm) loc hp) fun v0 => bO (bs Pg 47 1 [(0, v0)]) fun v1 => bO (fa Pg 90 (g3 tm) 2) fun v2 => bO (ld Pg 3 v2 loc hp) fun v3 => gen Pg Cg call (Cg.glob 111) (opA Tryd.f111 19 5) (p55 (p53 (p51 tm (g4 tm)) v1) v3) tm loc hp (fun v4 l4 h4 => jn (fun v5 l5 h5 => k tm l5 h5) fun j5 => G.onPtr (g2 tm) (fun r off => G.onRef r (fun s g => stL Pg 51 s g off v4 l4 (fun loc => j5 (.tuple []) loc h4)) (fun _ => gen Pg Cg call (Cg.glob 111) (opA Tryd.f111 19 6) (p56 (p2 tm (g2 tm)) v4) tm l4 h4 j5)) (fun _ => none) none))
  .ret)))))))))

def kp112 : List Nat := [0, 2, 3, 4, 5, 6, 7, 10, 17, 28, 34, 40, 44, 57, 69, 80, 84]
def rc112 : RC := (.seq (.reg fun call tm loc hp k => al Pg 51 2 loc fun v0 l0 => k (p2 tm v0) l0 hp)
  (.seq (.reg fun call tm loc hp k => cl call 43 [(g0 tm)] tm loc hp fun v0 l0 h0 => al Pg 90 3 l0 fun v1 l1 => jn (fun v2 l2 h2 => k (p3 tm v1) l2 h2) fun j2 => G.onPtr v1 (fun r off => G.onRef r (fun s g => stL Pg 90 s g off v0 l1 (fun loc => j2 (.tuple []) loc h0)) (fun _ => gen Pg Cg call (Cg.glob 112) (opA Tryd.f112 1 3) (p9 (p3 tm v1) v0) tm l1 h0 j2)) (fun _ => none) none)
  (.seq (.block 0 (.seq (.reg fun call tm loc hp k => bO (nilC (g0 tm)) fun v0 => bO (fa Pg 88 v0 2) fun v1 => bO (ld Pg 3 v1 loc hp) fun v2 => bO (bin Pg .neq 3 true v2 (.int .i64 (.ofNat 0))) fun v3 => k (p10 tm v3) loc hp)
  (.cond (.tmp 10) (.seq (.reg fun call tm loc hp k => gen Pg Cg call (Cg.glob 112) (opA Tryd.f112 3 0) tm tm loc hp (fun v0 l0 h0 => jn (fun v1 l1 h1 => k tm l1 h1) fun j1 => G.onPtr (g2 tm) (fun r off => G.onRef r (fun s g => stL Pg 51 s g off v0 l0 (fun loc => j1 (.tuple []) loc h0)) (fun _ => gen Pg Cg call (Cg.glob 112) (opA Tryd.f112 3 1) (p16 (p2 tm (g2 tm)) v0) tm l0 h0 j1)) (fun _ => none) none))
  .ret) (.seq (.reg fun call tm loc hp k => bO (fa Pg 90 (g3 tm) 0) fun v0 => bO (ld Pg 3 v0 loc hp) fun v1 => bO (bin Pg .eql 3 true v1 (.int .i64 (.ofNat 3))) fun v2 => k (p17 tm v2) loc hp)
  (.cond (.tmp 17) (.seq (.reg fun call tm loc hp k => cl call 71 [(g0 tm)] tm loc hp fun v0 l0 h0 => k tm l0 h0)
  (.seq (.reg fun call tm loc hp k => bO (fa Pg 90 (g3 tm) 1) fun v0 => bO (ld Pg 9 v0 loc hp) fun v1 => bO (fa Pg 90 (g3 tm) 2) fun v2 => bO (ld Pg 3 v2 loc hp) fun v3 => gen Pg Cg call (Cg.glob 112) (opA Tryd.f112 6 4) (p26 (p24 tm v1) v3) tm loc hp (fun v4 l4 h4 => jn (fun v5 l5 h5 => k tm l5 h5) fun j5 => G.onPtr (g2 tm) (fun r off => G.onRef r (fun s g => stL Pg 51 s g off v4 l4 (fun loc => j5 (.tuple []) loc h4)) (fun _ => gen Pg Cg call (Cg.glob 112) (opA Tryd.f112 6 5) (p27 (p2 tm (g2 tm)) v4) tm l4 h4 j5)) (fun _ => none) none))
  .ret)) (.seq (.reg fun call tm loc hp k => cl call 68 [(g0 tm), (.str ⟨4, 1702195828⟩)] tm loc hp fun v0 l0 h0 => k (p28 tm v0) l0 h0)
  (.cond (.tmp 28) (.seq (.reg fun call tm loc hp k => bO (fa Pg 90 (g3 tm) 2) fun v0 => bO (ld Pg 3 v0 loc hp) fun v1 => gen Pg Cg call (Cg.glob 112) (opA Tryd.f112 8 2) (p32 tm v1) tm loc hp (fun v2 l2 h2 => jn (fun v3 l3 h3 => k tm l3 h3) fun j3 => G.onPtr (g2 tm) (fun r off => G.onRef r (fun s g => stL Pg 51 s g off v2 l2 (fun loc => j3 (.tuple []) loc h2)) (fun _ => gen Pg Cg call (Cg.glob 112) (opA Tryd.f112 8 3) (p33 (p2 tm (g2 tm)) v2) tm l2 h2 j3)) (fun _ => none) none))
  .ret) (.seq (.reg fun call tm loc hp k => cl call 68 [(g0 tm), (.str ⟨5, 435728179558⟩)] tm loc hp fun v0 l0 h0 => k (p34 tm v0) l0 h0)
  (.cond (.tmp 34) (.seq (.reg fun call tm loc hp k => bO (fa Pg 90 (g3 tm) 2) fun v0 => bO (ld Pg 3 v0 loc hp) fun v1 => gen Pg Cg call (Cg.glob 112) (opA Tryd.f112 10 2) (p38 tm v1) tm loc hp (fun v2 l2 h2 => jn (fun v3 l3 h3 => k tm l3 h3) fun j3 => G.onPtr (g2 tm) (fun r off => G.onRef r (fun s g => stL Pg 51 s g off v2 l2 (fun loc => j3 (.tuple []) loc h2)) (fun _ => gen Pg Cg call (Cg.glob 112) (opA Tryd.f112 10 3) (p39 (p2 tm (g2 tm)) v2) tm l2 h2 j3)) (fun _ => none) none))
  .ret) (.seq (.reg fun call tm loc hp k => cl call 68 [(g0 tm), (.str ⟨1, 40⟩)] tm loc hp fun v0 l0 h0 => k (p40 tm v0) l0 h0)
  (.cond (.tmp 40) (.seq (.seq (.reg fun call tm loc hp k => cl call 68 [(g0 tm), (.str ⟨1, 41⟩)] tm loc hp fun v0 l0 h0 => k (p44 tm v0) l0 h0)
  (.cond (.tmp 44) (.seq (.reg fun call tm loc hp k => bO (fa Pg 90 (g3 tm) 2) fun v0 => bO (ld Pg 3 v0 loc hp) fun v1 => gen Pg Cg call (Cg.glob 112) (opA Tryd.f112 13 2) (p46 tm v1) tm loc hp (fun v2 l2 h2 => jn (fun v3 l3 h3 => k tm l3 h3) fun j3 => G.onPtr (g2 tm) (fun r off => G.onRef r (fun s g => stL Pg 51 s g off v2 l2 (fun loc => j3 (.tuple []) loc h2)) (fun _ => gen Pg Cg call (Cg.glob 112) (opA Tryd.f112 13 3) (p47 (p2 tm (g2 tm)) v2) tm l2 h2 j3)) (fun _ => none) none))
  .ret) .skip))
  (.seq (.reg fun call tm loc hp k => cl call 73 [(g0 tm)] tm loc hp fun v0 l0 h0 => al Pg 51 4 l0 fun v1 l1 => jn (fun v2 l2 h2 => k (p4 tm v1) l2 h2) fun j2 => G.onPtr v1 (fun r off => G.onRef r (fun s g => stL Pg 51 s g off v0 l1 (fun loc => j2 (.tuple []) loc h0)) (fun _ => gen Pg Cg call (Cg.glob 112) (opA Tryd.f112 14 3) (p49 (p4 tm v1) v0) tm l1 h0 j2)) (fun _ => none) none)
  (.seq (.reg fun call tm loc hp k => cl call 70 [(g0 tm), (.str ⟨1, 41⟩)] tm loc hp fun v0 l0 h0 => k tm l0 h0)
  (.seq (.reg fun call tm loc hp k => bO (ld Pg 51 (g4 tm) loc hp) fun v0 => jn (fun v1 l1 h1 => k tm l1 h1) fun j1 => G.onPtr (g2 tm) (fun r off => G.onRef r (fun s g => stL Pg 51 s g off v0 loc (fun loc => j1 (.tuple []) loc hp)) (fun _ => gen Pg Cg call (Cg.glob 112) (opA Tryd.f112 16 1) (p52 (p2 tm (g2 tm)) v0) tm loc hp j1)) (fun _ => none) none)
  .ret)))) .skip)))))))))))
  (.seq (.reg fun call tm loc hp k => cl call 69 [(g0 tm)] tm loc hp fun v0 l0 h0 => al Pg 90 5 l0 fun v1 l1 => jn (fun v2 l2 h2 => k (p5 tm v1) l2 h2) fun j2 => G.onPtr v1 (fun r off => G.onRef r (fun s g => stL Pg 90 s g off v0 l1 (fun loc => j2 (.tuple []) loc h0)) (fun _ => gen Pg Cg call (Cg.glob 112) (opA Tryd.f112 17 3) (p54 (p5 tm v1) v0) tm l1 h0 j2)) (fun _ => none) none)
  (.seq (.seq (.reg fun call tm loc hp k => cl call 68 [(g0 tm), (.str ⟨1, 40⟩)] tm loc hp fun v0 l0 h0 => bO (G.un .not v0) fun v1 => k (p57 tm v1) l0 h0)
  (.cond (.tmp 57) (.seq (.reg fun call tm loc hp k => bO (fa Pg 90 (g5 tm) 1) fun v0 => bO (ld Pg 9 v0 loc hp) fun v1 => bO (fa Pg 90 (g5 tm) 2) fun v2 => bO (ld Pg 3 v2 loc hp) fun v3 => gen Pg Cg call (Cg.glob 112) (opA Tryd.f112 19 4) (p61 (p59 tm v1) v3) tm loc hp (fun v4 l4 h4 => jn (fun v5 l5 h5 => k tm l5 h5) fun j5 => G.onPtr (g2 tm) (fun r off => G.onRef r (fun s g => stL Pg 51 s g off v4 l4 (fun loc => j5 (.tuple []) loc h4)) (fun _ => gen Pg Cg call (Cg.glob 112) (opA Tryd.f112 19 5) (p62 (p2 tm (g2 tm)) v4) tm l4 h4 j5)) (fun _ => none) none))
  .ret) .skip))
  (.seq (.reg fun call tm loc hp k => bO (fa Pg 90 (g5 tm) 1) fun v0 => bO (ld Pg 9 v0 loc hp) fun v1 => bO (fa Pg 90 (g5 tm) 2) fun v2 => bO (ld Pg 3 v2 loc hp) fun v3 => gen Pg Cg call (Cg.glob 112) (opA Tryd.f112 20 4) (p66 (p64 tm v1) v3) tm loc hp (fun v4 l4 h4 => al Pg 51 6 l4 fun v5 l5 => jn (fun v6 l6 h6 => k (p6 tm v5) l6 h6) fun j6 => G.onPtr v5 (fun r off => G.onRef r (fun s g => stL Pg 51 s g off v4 l5 (fun loc => j6 (.tuple []) loc h4)) (fun _ => gen Pg Cg call (Cg.glob 112) (opA Tryd.f112 20 6) (p67 (p6 tm v5) v4) tm l5 h4 j6)) (fun _ => none) none))
  (.seq (.seq (.reg fun call tm loc hp k => cl call 68 [(g0 tm), (.str ⟨1, 41⟩)] tm loc hp fun v0 l0 h0 => k (p69 tm v0) l0 h0)
  (.cond (.tmp 69) (.seq (.reg fun call tm loc hp k => bO (ld Pg 51 (g6 tm) loc hp) fun v0 => jn (fun v1 l1 h1 => k tm l1 h1) fun j1 => G.onPtr (g2 tm) (fun r off => G.onRef r (fun s g => stL Pg 51 s g off v0 loc (fun loc => j1 (.tuple []) loc hp)) (fun _ => gen Pg Cg call (Cg.glob 112) (opA Tryd.f112 22 1) (p70 (p2 tm (g2 tm)) v0) tm loc hp j1)) (fun _ => none) none)
  .ret) .skip))
  (.seq (.reg fun call tm loc hp k => cl call 73 [(g0 tm)] tm loc hp fun v0 l0 h0 => al Pg 51 7 l0 fun v1 l1 => jn (fun v2 l2 h2 => k (p7 tm v1) l2 h2) fun j2 => G.onPtr v1 (fun r off => G.onRef r (fun s g => stL Pg 51 s g off v0 l1 (fun loc => j2 (.tuple []) loc h0)) (fun _ => gen Pg Cg call (Cg.glob 112) (opA Tryd.f112 23 3) (p72 (p7 tm v1) v0) tm l1 h0 j2)) (fun _ => none) none)
  (.seq (.reg fun call tm loc hp k => bO (fa Pg 51 (g6 tm) 4) fun v0 => bO (ld Pg 47 v0 loc hp) fun v1 => bO (ld Pg 51 (g7 tm) loc hp) fun v2 => bO (bs Pg 47 1 [(0, v2)]) fun v3 => gen Pg Cg call (Cg.glob 112) (opA Tryd.f112 24 4) (p76 (p74 tm v1) v3) tm loc hp (fun v4 l4 h4 => bO (fa Pg 51 (g6 tm) 4) fun v5 => jn (fun v6 l6 h6 => k tm l6 h6) fun j6 => G.onPtr v5 (fun r off => G.onRef r (fun s g => stL Pg 47 s g off v4 l4 (fun loc => j6 (.tuple []) loc h4)) (fun _ => gen Pg Cg call (Cg.glob 112) (opA Tryd.f112 24 6) (p77 (p78 tm v5) v4) tm l4 h4 j6)) (fun _ => none) none))
  (.seq (.block 1 (.loop (.seq (.seq (.reg fun call tm loc hp k => cl call 44 [(g0 tm), (.str ⟨1, 44⟩)] tm loc hp fun v0 l0 h0 => k (p80 tm v0) l0 h0)
  (.cond (.tmp 80) .skip (.exit 1)))
  (.block 2 (.seq (.seq (.reg fun call tm loc hp k => bO (fa Pg 51 (g6 tm) 4) fun v0 => bO (ld Pg 47 v0 loc hp) fun v1 => bO (len (Pg.underlying 47) v1) fun v2 => bO (bin Pg .eql 3 true v2 (.int .i64 (.ofNat 8))) fun v3 => k (p84 tm v3) loc hp)
  (.cond (.tmp 84) (.seq (.reg fun call tm loc hp k => cl call 43 [(g0 tm)] tm loc hp fun v0 l0 h0 => bO (fld Pg 90 v0 2) fun v1 => cl call 45 [(g0 tm), v1, (.int .i64 (.ofNat 152))] tm l0 h0 fun v2 l2 h2 => k tm l2 h2)
  (.seq (.reg fun call tm loc hp k => bO (ld Pg 51 (g6 tm) loc hp) fun v0 => jn (fun v1 l1 h1 => k tm l1 h1) fun j1 => G.onPtr (g2 tm) (fun r off => G.onRef r (fun s g => stL Pg 51 s g off v0 loc (fun loc => j1 (.tuple []) loc hp)) (fun _ => gen Pg Cg call (Cg.glob 112) (opA Tryd.f112 28 1) (p90 (p2 tm (g2 tm)) v0) tm loc hp j1)) (fun _ => none) none)
  .ret)) .skip))
  (.seq (.reg fun call tm loc hp k => cl call 71 [(g0 tm)] tm loc hp fun v0 l0 h0 => k tm l0 h0)
  (.seq (.reg fun call tm loc hp k => cl call 73 [(g0 tm)] tm loc hp fun v0 l0 h0 => jn (fun v1 l1 h1 => k tm l1 h1) fun j1 => G.onPtr (g7 tm) (fun r off => G.onRef r (fun s g => stL Pg 51 s g off v0 l0 (fun loc => j1 (.tuple []) loc h0)) (fun _ => gen Pg Cg call (Cg.glob 112) (opA Tryd.f112 30 2) (p94 (p7 tm (g7 tm)) v0) tm l0 h0 j1)) (fun _ => none) none)
  (.reg fun call tm loc hp k => bO (fa Pg 51 (g6 tm) 4) fun v0 => bO (ld Pg 47 v0 loc hp) fun v1 => bO (ld Pg 51 (g7 tm) loc hp) fun v2 => bO (bs Pg 47 1 [(0, v2)]) fun v3 => gen Pg Cg call (Cg.glob 112) (opA Tryd.f112 31 4) (p98 (p96 tm v1) v3) tm loc hp (fun v4 l4 h4 => bO (fa Pg 51 (g6 tm) 4) fun v5 => jn (fun v6 l6 h6 => k tm l6 h6) fun j6 => G.onPtr v5 (fun r off => G.onRef r (fun s g => stL Pg 47 s g off v4 l4 (fun loc => j6 (.tuple []) loc h4)) (fun _ => gen Pg Cg call (Cg.glob 112) (opA Tryd.f112 31 6) (p99 (p100 tm v5) v4) tm l4 h4 j6)) (fun _ => none) none)))))))))
  (.seq (.reg fun call tm loc hp k => cl call 70 [(g0 tm), (.str ⟨1, 41⟩)] tm loc hp fun v0 l0 h0 => k tm l0 h0)
  (.seq (.reg fun call tm loc hp k => bO (ld Pg 51 (g6 tm) loc hp) fun v0 => jn (fun v1 l1 h1 => k tm l1 h1) fun j1 => G.onPtr (g2 tm) (fun r off => G.onRef r (fun s g => stL Pg 51 s g off v0 loc (fun loc => j1 (.tuple []) loc hp)) (fun _ => gen Pg Cg call (Cg.glob 112) (opA Tryd.f112 33 1) (p103 (p2 tm (g2 tm)) v0) tm loc hp j1)) (fun _ => none) none)
  .ret))))))))))))
def tblL : List (Nat × Fc) := [(7, ⟨rc7, Tryd.f7.results.toList⟩), (8, ⟨rc8, Tryd.f8.results.toList⟩), (9, ⟨rc9, Tryd.f9.results.toList⟩), (10, ⟨rc10, Tryd.f10.results.toList⟩), (12, ⟨rc12, Tryd.f12.results.toList⟩), (14, ⟨rc14, Tryd.f14.results.toList⟩), (15, ⟨rc15, Tryd.f15.results.toList⟩), (21, ⟨rc21, Tryd.f21.results.toList⟩), (22, ⟨rc22, Tryd.f22.results.toList⟩), (23, ⟨rc23, Tryd.f23.results.toList⟩), (24, ⟨rc24, Tryd.f24.results.toList⟩), (26, ⟨rc26, Tryd.f26.results.toList⟩), (27, ⟨rc27, Tryd.f27.results.toList⟩), (28, ⟨rc28, Tryd.f28.results.toList⟩), (29, ⟨rc29, Tryd.f29.results.toList⟩), (30, ⟨rc30, Tryd.f30.results.toList⟩), (34, ⟨rc34, Tryd.f34.results.toList⟩), (35, ⟨rc35, Tryd.f35.results.toList⟩), (36, ⟨rc36, Tryd.f36.results.toList⟩), (37, ⟨rc37, Tryd.f37.results.toList⟩), (38, ⟨rc38, Tryd.f38.results.toList⟩), (42, ⟨rc42, Tryd.f42.results.toList⟩), (43, ⟨rc43, Tryd.f43.results.toList⟩), (44, ⟨rc44, Tryd.f44.results.toList⟩), (45, ⟨rc45, Tryd.f45.results.toList⟩), (46, ⟨rc46, Tryd.f46.results.toList⟩), (47, ⟨rc47, Tryd.f47.results.toList⟩), (48, ⟨rc48, Tryd.f48.results.toList⟩), (49, ⟨rc49, Tryd.f49.results.toList⟩), (50, ⟨rc50, Tryd.f50.results.toList⟩), (51, ⟨rc51, Tryd.f51.results.toList⟩), (52, ⟨rc52, Tryd.f52.results.toList⟩), (53, ⟨rc53, Tryd.f53.results.toList⟩), (54, ⟨rc54, Tryd.f54.results.toList⟩), (55, ⟨rc55, Tryd.f55.results.toList⟩), (56, ⟨rc56, Tryd.f56.results.toList⟩), (64, ⟨rc64, Tryd.f64.results.toList⟩), (65, ⟨rc65, Tryd.f65.results.toList⟩), (66, ⟨rc66, Tryd.f66.results.toList⟩), (67, ⟨rc67, Tryd.f67.results.toList⟩), (68, ⟨rc68, Tryd.f68.results.toList⟩), (69, ⟨rc69, Tryd.f69.results.toList⟩), (70, ⟨rc70, Tryd.f70.results.toList⟩), (71, ⟨rc71, Tryd.f71.results.toList⟩), (72, ⟨rc72, Tryd.f72.results.toList⟩), (73, ⟨rc73, Tryd.f73.results.toList⟩), (74, ⟨rc74, Tryd.f74.results.toList⟩), (75, ⟨rc75, Tryd.f75.results.toList⟩), (76, ⟨rc76, Tryd.f76.results.toList⟩), (77, ⟨rc77, Tryd.f77.results.toList⟩), (78, ⟨rc78, Tryd.f78.results.toList⟩), (79, ⟨rc79, Tryd.f79.results.toList⟩), (80, ⟨rc80, Tryd.f80.results.toList⟩), (81, ⟨rc81, Tryd.f81.results.toList⟩), (82, ⟨rc82, Tryd.f82.results.toList⟩), (83, ⟨rc83, Tryd.f83.results.toList⟩), (84, ⟨rc84, Tryd.f84.results.toList⟩), (85, ⟨rc85, Tryd.f85.results.toList⟩), (90, ⟨rc90, Tryd.f90.results.toList⟩), (91, ⟨rc91, Tryd.f91.results.toList⟩), (92, ⟨rc92, Tryd.f92.results.toList⟩), (93, ⟨rc93, Tryd.f93.results.toList⟩), (94, ⟨rc94, Tryd.f94.results.toList⟩), (95, ⟨rc95, Tryd.f95.results.toList⟩), (96, ⟨rc96, Tryd.f96.results.toList⟩), (97, ⟨rc97, Tryd.f97.results.toList⟩), (98, ⟨rc98, Tryd.f98.results.toList⟩), (101, ⟨rc101, Tryd.f101.results.toList⟩), (102, ⟨rc102, Tryd.f102.results.toList⟩), (103, ⟨rc103, Tryd.f103.results.toList⟩), (104, ⟨rc104, Tryd.f104.results.toList⟩), (105, ⟨rc105, Tryd.f105.results.toList⟩), (106, ⟨rc106, Tryd.f106.results.toList⟩), (108, ⟨rc108, Tryd.f108.results.toList⟩), (109, ⟨rc109, Tryd.f109.results.toList⟩), (110, ⟨rc110, Tryd.f110.results.toList⟩), (111, ⟨rc111, Tryd.f111.results.toList⟩), (112, ⟨rc112, Tryd.f112.results.toList⟩)]
def tbl (f : Nat) : Option Fc := lkL tblL f
end
end Go.AM.S
end

section
namespace Go.AM.S
open Go Go.AM Go.Proofs
set_option maxRecDepth 100000
theorem cd7 : ∃ cd, Tryd.f7.body = some cd ∧ rc7 = toRC Pg Cg kp7 7 cd ∧ okC kp7 7 cd = true := ⟨_, rfl, by kernel_rfl, by kernel_rfl⟩
theorem ok7 : FOk Pg Cg 7 ⟨rc7, Tryd.f7.results.toList⟩ := by
  obtain ⟨cd, h1, h2, h3⟩ := cd7
  exact ⟨⟨_, cd, kp7, Tryd.func7, h1, h2, rfl, h3, by kernel_rfl⟩⟩
theorem cd12 : ∃ cd, Tryd.f12.body = some cd ∧ rc12 = toRC Pg Cg kp12 12 cd ∧ okC kp12 12 cd = true := ⟨_, rfl, by kernel_rfl, by kernel_rfl⟩
theorem ok12 : FOk Pg Cg 12 ⟨rc12, Tryd.f12.results.toList⟩ := by
  obtain ⟨cd, h1, h2, h3⟩ := cd12
  exact ⟨⟨_, cd, kp12, Tryd.func12, h1, h2, rfl, h3, by kernel_rfl⟩⟩
theorem cd22 : ∃ cd, Tryd.f22.body = some cd ∧ rc22 = toRC Pg Cg kp22 22 cd ∧ okC kp22 22 cd = true := ⟨_, rfl, by kernel_rfl, by kernel_rfl⟩
theorem ok22 : FOk Pg Cg 22 ⟨rc22, Tryd.f22.results.toList⟩ := by
  obtain ⟨cd, h1, h2, h3⟩ := cd22
  exact ⟨⟨_, cd, kp22, Tryd.func22, h1, h2, rfl, h3, by kernel_rfl⟩⟩
theorem cd27 : ∃ cd, Tryd.f27.body = some cd ∧ rc27 = toRC Pg Cg kp27 27 cd ∧ okC kp27 27 cd = true := ⟨_, rfl, by kernel_rfl, by kernel_rfl⟩
theorem ok27 : FOk Pg Cg 27 ⟨rc27, Tryd.f27.results.toList⟩ := by
  obtain ⟨cd, h1, h2, h3⟩ := cd27
  exact ⟨⟨_, cd, kp27, Tryd.func27, h1, h2, rfl, h3, by kernel_rfl⟩⟩
theorem cd34 : ∃ cd, Tryd.f34.body = some cd ∧ rc34 = toRC Pg Cg kp34 34 cd ∧ okC kp34 34 cd = true := ⟨_, rfl, by kernel_rfl, by kernel_rfl⟩
theorem ok34 : FOk Pg Cg 34 ⟨rc34, Tryd.f34.results.toList⟩ := by
  obtain ⟨cd, h1, h2, h3⟩ := cd34
  exact ⟨⟨_, cd, kp34, Tryd.func34, h1, h2, rfl, h3, by kernel_rfl⟩⟩
theorem cd38 : ∃ cd, Tryd.f38.body = some cd ∧ rc38 = toRC Pg Cg kp38 38 cd ∧ okC kp38 38 cd = true := ⟨_, rfl, by kernel_rfl, by kernel_rfl⟩
theorem ok38 : FOk Pg Cg 38 ⟨rc38, Tryd.f38.results.toList⟩ := by
  obtain ⟨cd, h1, h2, h3⟩ := cd38
  exact ⟨⟨_, cd, kp38, Tryd.func38, h1, h2, rfl, h3, by kernel_rfl⟩⟩
theorem cd45 : ∃ cd, Tryd.f45.body = some cd ∧ rc45 = toRC Pg Cg kp45 45 cd ∧ okC kp45 45 cd = true := ⟨_, rfl, by kernel_rfl, by kernel_rfl⟩
theorem ok45 : FOk Pg Cg 45 ⟨rc45, Tryd.f45.results.toList⟩ := by
  obtain ⟨cd, h1, h2, h3⟩ := cd45
  exact ⟨⟨_, cd, kp45, Tryd.func45, h1, h2, rfl, h3, by kernel_rfl⟩⟩
theorem cd49 : ∃ cd, Tryd.f49.body = some cd ∧ rc49 = toRC Pg Cg kp49 49 cd ∧ okC kp49 49 cd = true := ⟨_, rfl, by kernel_rfl, by kernel_rfl⟩
theorem ok49 : FOk Pg Cg 49 ⟨rc49, Tryd.f49.results.toList⟩ := by
  obtain ⟨cd, h1, h2, h3⟩ := cd49
  exact ⟨⟨_, cd, kp49, Tryd.func49, h1, h2, rfl, h3, by kernel_rfl⟩⟩
theorem cd53 : ∃ cd, Tryd.f53.body = some cd ∧ rc53 = toRC Pg Cg kp53 53 cd ∧ okC kp53 53 cd = true := ⟨_, rfl, by kernel_rfl, by kernel_rfl⟩
theorem ok53 : FOk Pg Cg 53 ⟨rc53, Tryd.f53.results.toList⟩ := by
  obtain ⟨cd, h1, h2, h3⟩ := cd53
  exact ⟨⟨_, cd, kp53, Tryd.func53, h1, h2, rfl, h3, by kernel_rfl⟩⟩
theorem cd64 : ∃ cd, Tryd.f64.body = some cd ∧ rc64 = toRC Pg Cg kp64 64 cd ∧ okC kp64 64 cd = true := ⟨_, rfl, by kernel_rfl, by kernel_rfl⟩
theorem ok64 : FOk Pg Cg 64 ⟨rc64, Tryd.f64.results.toList⟩ := by
  obtain ⟨cd, h1, h2, h3⟩ := cd64
  exact ⟨⟨_, cd, kp64, Tryd.func64, h1, h2, rfl, h3, by kernel_rfl⟩⟩
theorem cd68 : ∃ cd, Tryd.f68.body = some cd ∧ rc68 = toRC Pg Cg kp68 68 cd ∧ okC kp68 68 cd = true := ⟨_, rfl, by kernel_rfl, by kernel_rfl⟩
theorem ok68 : FOk Pg Cg 68 ⟨rc68, Tryd.f68.results.toList⟩ := by
  obtain ⟨cd, h1, h2, h3⟩ := cd68
  exact ⟨⟨_, cd, kp68, Tryd.func68, h1, h2, rfl, h3, by kernel_rfl⟩⟩
theorem cd72 : ∃ cd, Tryd.f72.body = some cd ∧ rc72 = toRC Pg Cg kp72 72 cd ∧ okC kp72 72 cd = true := ⟨_, rfl, by kernel_rfl, by kernel_rfl⟩
theorem ok72 : FOk Pg Cg 72 ⟨rc72, Tryd.f72.results.toList⟩ := by
  obtain ⟨cd, h1, h2, h3⟩ := cd72
  exact ⟨⟨_, cd, kp72, Tryd.func72, h1, h2, rfl, h3, by kernel_rfl⟩⟩
theorem cd76 : ∃ cd, Tryd.f76.body = some cd ∧ rc76 = toRC Pg Cg kp76 76 cd ∧ okC kp76 76 cd = true := ⟨_, rfl, by kernel_rfl, by kernel_rfl⟩
theorem ok76 : FOk Pg Cg 76 ⟨rc76, Tryd.f76.results.toList⟩ := by
  obtain ⟨cd, h1, h2, h3⟩ := cd76
  exact ⟨⟨_, cd, kp76, Tryd.func76, h1, h2, rfl, h3, by kernel_rfl⟩⟩
theorem cd80 : ∃ cd, Tryd.f80.body = some cd ∧ rc80 = toRC Pg Cg kp80 80 cd ∧ okC kp80 80 cd = true := ⟨_, rfl, by kernel_rfl, by kernel_rfl⟩
theorem ok80 : FOk Pg Cg 80 ⟨rc80, Tryd.f80.results.toList⟩ := by
  obtain ⟨cd, h1, h2, h3⟩ := cd80
  exact ⟨⟨_, cd, kp80, Tryd.func80, h1, h2, rfl, h3, by kernel_rfl⟩⟩
theorem cd84 : ∃ cd, Tryd.f84.body = some cd ∧ rc84 = toRC Pg Cg kp84 84 cd ∧ okC kp84 84 cd = true := ⟨_, rfl, by kernel_rfl, by kernel_rfl⟩
theorem ok84 : FOk Pg Cg 84 ⟨rc84, Tryd.f84.results.toList⟩ := by
  obtain ⟨cd, h1, h2, h3⟩ := cd84
  exact ⟨⟨_, cd, kp84, Tryd.func84, h1, h2, rfl, h3, by kernel_rfl⟩⟩
theorem cd92 : ∃ cd, Tryd.f92.body = some cd ∧ rc92 = toRC Pg Cg kp92 92 cd ∧ okC kp92 92 cd = true := ⟨_, rfl, by kernel_rfl, by kernel_rfl⟩
theorem ok92 : FOk Pg Cg 92 ⟨rc92, Tryd.f92.results.toList⟩ := by
  obtain ⟨cd, h1, h2, h3⟩ := cd92
  exact ⟨⟨_, cd, kp92, Tryd.func92, h1, h2, rfl, h3, by kernel_rfl⟩⟩
theorem cd96 : ∃ cd, Tryd.f96.body = some cd ∧ rc96 = toRC Pg Cg kp96 96 cd ∧ okC kp96 96 cd = true := ⟨_, rfl, by kernel_rfl, by kernel_rfl⟩
theorem ok96 : FOk Pg Cg 96 ⟨rc96, Tryd.f96.results.toList⟩ := by
  obtain ⟨cd, h1, h2, h3⟩ := cd96
  exact ⟨⟨_, cd, kp96, Tryd.func96, h1, h2, rfl, h3, by kernel_rfl⟩⟩
theorem cd102 : ∃ cd, Tryd.f102.body = some cd ∧ rc102 = toRC Pg Cg kp102 102 cd ∧ okC kp102 102 cd = true := ⟨_, rfl, by kernel_rfl, by kernel_rfl⟩
theorem ok102 : FOk Pg Cg 102 ⟨rc102, Tryd.f102.results.toList⟩ := by
  obtain ⟨cd, h1, h2, h3⟩ := cd102
  exact ⟨⟨_, cd, kp102, Tryd.func102, h1, h2, rfl, h3, by kernel_rfl⟩⟩
theorem cd106 : ∃ cd, Tryd.f106.body = some cd ∧ rc106 = toRC Pg Cg kp106 106 cd ∧ okC kp106 106 cd = true := ⟨_, rfl, by kernel_rfl, by kernel_rfl⟩
theorem ok106 : FOk Pg Cg 106 ⟨rc106, Tryd.f106.results.toList⟩ := by
  obtain ⟨cd, h1, h2, h3⟩ := cd106
  exact ⟨⟨_, cd, kp106, Tryd.func106, h1, h2, rfl, h3, by kernel_rfl⟩⟩
theorem cd111 : ∃ cd, Tryd.f111.body = some cd ∧ rc111 = toRC Pg Cg kp111 111 cd ∧ okC kp111 111 cd = true := ⟨_, rfl, by kernel_rfl, by kernel_rfl⟩
theorem ok111 : FOk Pg Cg 111 ⟨rc111, Tryd.f111.results.toList⟩ := by
  obtain ⟨cd, h1, h2, h3⟩ := cd111
  exact ⟨⟨_, cd, kp111, Tryd.func111, h1, h2, rfl, h3, by kernel_rfl⟩⟩
end Go.AM.S
end

section
namespace Go.AM.S
open Go Go.AM Go.Proofs
set_option maxRecDepth 100000
theorem cd8 : ∃ cd, Tryd.f8.body = some cd ∧ rc8 = toRC Pg Cg kp8 8 cd ∧ okC kp8 8 cd = true := ⟨_, rfl, by kernel_rfl, by kernel_rfl⟩
theorem ok8 : FOk Pg Cg 8 ⟨rc8, Tryd.f8.results.toList⟩ := by
  obtain ⟨cd, h1, h2, h3⟩ := cd8
  exact ⟨⟨_, cd, kp8, Tryd.func8, h1, h2, rfl, h3, by kernel_rfl⟩⟩
theorem cd14 : ∃ cd, Tryd.f14.body = some cd ∧ rc14 = toRC Pg Cg kp14 14 cd ∧ okC kp14 14 cd = true := ⟨_, rfl, by kernel_rfl, by kernel_rfl⟩
theorem ok14 : FOk Pg Cg 14 ⟨rc14, Tryd.f14.results.toList⟩ := by
  obtain ⟨cd, h1, h2, h3⟩ := cd14
  exact ⟨⟨_, cd, kp14, Tryd.func14, h1, h2, rfl, h3, by kernel_rfl⟩⟩
theorem cd23 : ∃ cd, Tryd.f23.body = some cd ∧ rc23 = toRC Pg Cg kp23 23 cd ∧ okC kp23 23 cd = true := ⟨_, rfl, by kernel_rfl, by kernel_rfl⟩
theorem ok23 : FOk Pg Cg 23 ⟨rc23, Tryd.f23.results.toList⟩ := by
  obtain ⟨cd, h1, h2, h3⟩ := cd23
  exact ⟨⟨_, cd, kp23, Tryd.func23, h1, h2, rfl, h3, by kernel_rfl⟩⟩
theorem cd28 : ∃ cd, Tryd.f28.body = some cd ∧ rc28 = toRC Pg Cg kp28 28 cd ∧ okC kp28 28 cd = true := ⟨_, rfl, by kernel_rfl, by kernel_rfl⟩
theorem ok28 : FOk Pg Cg 28 ⟨rc28, Tryd.f28.results.toList⟩ := by
  obtain ⟨cd, h1, h2, h3⟩ := cd28
  exact ⟨⟨_, cd, kp28, Tryd.func28, h1, h2, rfl, h3, by kernel_rfl⟩⟩
theorem cd35 : ∃ cd, Tryd.f35.body = some cd ∧ rc35 = toRC Pg Cg kp35 35 cd ∧ okC kp35 35 cd = true := ⟨_, rfl, by kernel_rfl, by kernel_rfl⟩
theorem ok35 : FOk Pg Cg 35 ⟨rc35, Tryd.f35.results.toList⟩ := by
  obtain ⟨cd, h1, h2, h3⟩ := cd35
  exact ⟨⟨_, cd, kp35, Tryd.func35, h1, h2, rfl, h3, by kernel_rfl⟩⟩
theorem cd42 : ∃ cd, Tryd.f42.body = some cd ∧ rc42 = toRC Pg Cg kp42 42 cd ∧ okC kp42 42 cd = true := ⟨_, rfl, by kernel_rfl, by kernel_rfl⟩
theorem ok42 : FOk Pg Cg 42 ⟨rc42, Tryd.f42.results.toList⟩ := by
  obtain ⟨cd, h1, h2, h3⟩ := cd42
  exact ⟨⟨_, cd, kp42, Tryd.func42, h1, h2, rfl, h3, by kernel_rfl⟩⟩
theorem cd46 : ∃ cd, Tryd.f46.body = some cd ∧ rc46 = toRC Pg Cg kp46 46 cd ∧ okC kp46 46 cd = true := ⟨_, rfl, by kernel_rfl, by kernel_rfl⟩
theorem ok46 : FOk Pg Cg 46 ⟨rc46, Tryd.f46.results.toList⟩ := by
  obtain ⟨cd, h1, h2, h3⟩ := cd46
  exact ⟨⟨_, cd, kp46, Tryd.func46, h1, h2, rfl, h3, by kernel_rfl⟩⟩
theorem cd50 : ∃ cd, Tryd.f50.body = some cd ∧ rc50 = toRC Pg Cg kp50 50 cd ∧ okC kp50 50 cd = true := ⟨_, rfl, by kernel_rfl, by kernel_rfl⟩
theorem ok50 : FOk Pg Cg 50 ⟨rc50, Tryd.f50.results.toList⟩ := by
  obtain ⟨cd, h1, h2, h3⟩ := cd50
  exact ⟨⟨_, cd, kp50, Tryd.func50, h1, h2, rfl, h3, by kernel_rfl⟩⟩
theorem cd54 : ∃ cd, Tryd.f54.body = some cd ∧ rc54 = toRC Pg Cg kp54 54 cd ∧ okC kp54 54 cd = true := ⟨_, rfl, by kernel_rfl, by kernel_rfl⟩
theorem ok54 : FOk Pg Cg 54 ⟨rc54, Tryd.f54.results.toList⟩ := by
  obtain ⟨cd, h1, h2, h3⟩ := cd54
  exact ⟨⟨_, cd, kp54, Tryd.func54, h1, h2, rfl, h3, by kernel_rfl⟩⟩
theorem cd65 : ∃ cd, Tryd.f65.body = some cd ∧ rc65 = toRC Pg Cg kp65 65 cd ∧ okC kp65 65 cd = true := ⟨_, rfl, by kernel_rfl, by kernel_rfl⟩
theorem ok65 : FOk Pg Cg 65 ⟨rc65, Tryd.f65.results.toList⟩ := by
  obtain ⟨cd, h1, h2, h3⟩ := cd65
  exact ⟨⟨_, cd, kp65, Tryd.func65, h1, h2, rfl, h3, by kernel_rfl⟩⟩
theorem cd69 : ∃ cd, Tryd.f69.body = some cd ∧ rc69 = toRC Pg Cg kp69 69 cd ∧ okC kp69 69 cd = true := ⟨_, rfl, by kernel_rfl, by kernel_rfl⟩
theorem ok69 : FOk Pg Cg 69 ⟨rc69, Tryd.f69.results.toList⟩ := by
  obtain ⟨cd, h1, h2, h3⟩ := cd69
  exact ⟨⟨_, cd, kp69, Tryd.func69, h1, h2, rfl, h3, by kernel_rfl⟩⟩
theorem cd73 : ∃ cd, Tryd.f73.body = some cd ∧ rc73 = toRC Pg Cg kp73 73 cd ∧ okC kp73 73 cd = true := ⟨_, rfl, by kernel_rfl, by kernel_rfl⟩
theorem ok73 : FOk Pg Cg 73 ⟨rc73, Tryd.f73.results.toList⟩ := by
  obtain ⟨cd, h1, h2, h3⟩ := cd73
  exact ⟨⟨_, cd, kp73, Tryd.func73, h1, h2, rfl, h3, by kernel_rfl⟩⟩
theorem cd77 : ∃ cd, Tryd.f77.body = some cd ∧ rc77 = toRC Pg Cg kp77 77 cd ∧ okC kp77 77 cd = true := ⟨_, rfl, by kernel_rfl, by kernel_rfl⟩
theorem ok77 : FOk Pg Cg 77 ⟨rc77, Tryd.f77.results.toList⟩ := by
  obtain ⟨cd, h1, h2, h3⟩ := cd77
  exact ⟨⟨_, cd, kp77, Tryd.func77, h1, h2, rfl, h3, by kernel_rfl⟩⟩
theorem cd81 : ∃ cd, Tryd.f81.body = some cd ∧ rc81 = toRC Pg Cg kp81 81 cd ∧ okC kp81 81 cd = true := ⟨_, rfl, by kernel_rfl, by kernel_rfl⟩
theorem ok81 : FOk Pg Cg 81 ⟨rc81, Tryd.f81.results.toList⟩ := by
  obtain ⟨cd, h1, h2, h3⟩ := cd81
  exact ⟨⟨_, cd, kp81, Tryd.func81, h1, h2, rfl, h3, by kernel_rfl⟩⟩
theorem cd85 : ∃ cd, Tryd.f85.body = some cd ∧ rc85 = toRC Pg Cg kp85 85 cd ∧ okC kp85 85 cd = true := ⟨_, rfl, by kernel_rfl, by kernel_rfl⟩
theorem ok85 : FOk Pg Cg 85 ⟨rc85, Tryd.f85.results.toList⟩ := by
  obtain ⟨cd, h1, h2, h3⟩ := cd85
  exact ⟨⟨_, cd, kp85, Tryd.func85, h1, h2, rfl, h3, by kernel_rfl⟩⟩
theorem cd93 : ∃ cd, Tryd.f93.body = some cd ∧ rc93 = toRC Pg Cg kp93 93 cd ∧ okC kp93 93 cd = true := ⟨_, rfl, by kernel_rfl, by kernel_rfl⟩
theorem ok93 : FOk Pg Cg 93 ⟨rc93, Tryd.f93.results.toList⟩ := by
  obtain ⟨cd, h1, h2, h3⟩ := cd93
  exact ⟨⟨_, cd, kp93, Tryd.func93, h1, h2, rfl, h3, by kernel_rfl⟩⟩
theorem cd97 : ∃ cd, Tryd.f97.body = some cd ∧ rc97 = toRC Pg Cg kp97 97 cd ∧ okC kp97 97 cd = true := ⟨_, rfl, by kernel_rfl, by kernel_rfl⟩
theorem ok97 : FOk Pg Cg 97 ⟨rc97, Tryd.f97.results.toList⟩ := by
  obtain ⟨cd, h1, h2, h3⟩ := cd97
  exact ⟨⟨_, cd, kp97, Tryd.func97, h1, h2, rfl, h3, by kernel_rfl⟩⟩
theorem cd103 : ∃ cd, Tryd.f103.body = some cd ∧ rc103 = toRC Pg Cg kp103 103 cd ∧ okC kp103 103 cd = true := ⟨_, rfl, by kernel_rfl, by kernel_rfl⟩
theorem ok103 : FOk Pg Cg 103 ⟨rc103, Tryd.f103.results.toList⟩ := by
  obtain ⟨cd, h1, h2, h3⟩ := cd103
  exact ⟨⟨_, cd, kp103, Tryd.func103, h1, h2, rfl, h3, by kernel_rfl⟩⟩
theorem cd108 : ∃ cd, Tryd.f108.body = some cd ∧ rc108 = toRC Pg Cg kp108 108 cd ∧ okC kp108 108 cd = true := ⟨_, rfl, by kernel_rfl, by kernel_rfl⟩
theorem ok108 : FOk Pg Cg 108 ⟨rc108, Tryd.f108.results.toList⟩ := by
  obtain ⟨cd, h1, h2, h3⟩ := cd108
  exact ⟨⟨_, cd, kp108, Tryd.func108, h1, h2, rfl, h3, by kernel_rfl⟩⟩
theorem cd112 : ∃ cd, Tryd.f112.body = some cd ∧ rc112 = toRC Pg Cg kp112 112 cd ∧ okC kp112 112 cd = true := ⟨_, rfl, by kernel_rfl, by kernel_rfl⟩
theorem ok112 : FOk Pg Cg 112 ⟨rc112, Tryd.f112.results.toList⟩ := by
  obtain ⟨cd, h1, h2, h3⟩ := cd112
  exact ⟨⟨_, cd, kp112, Tryd.func112, h1, h2, rfl, h3, by kernel_rfl⟩⟩
end Go.AM.S
end

section
namespace Go.AM.S
open Go Go.AM Go.Proofs
set_option maxRecDepth 100000
theorem cd9 : ∃ cd, Tryd.f9.body = some cd ∧ rc9 = toRC Pg Cg kp9 9 cd ∧ okC kp9 9 cd = true := ⟨_, rfl, by kernel_rfl, by kernel_rfl⟩
theorem ok9 : FOk Pg Cg 9 ⟨rc9, Tryd.f9.results.toList⟩ := by
  obtain ⟨cd, h1, h2, h3⟩ := cd9
  exact ⟨⟨_, cd, kp9, Tryd.func9, h1, h2, rfl, h3, by kernel_rfl⟩⟩
theorem cd15 : ∃ cd, Tryd.f15.body = some cd ∧ rc15 = toRC Pg Cg kp15 15 cd ∧ okC kp15 15 cd = true := ⟨_, rfl, by kernel_rfl, by kernel_rfl⟩
theorem ok15 : FOk Pg Cg 15 ⟨rc15, Tryd.f15.results.toList⟩ := by
  obtain ⟨cd, h1, h2, h3⟩ := cd15
  exact ⟨⟨_, cd, kp15, Tryd.func15, h1, h2, rfl, h3, by kernel_rfl⟩⟩
theorem cd24 : ∃ cd, Tryd.f24.body = some cd ∧ rc24 = toRC Pg Cg kp24 24 cd ∧ okC kp24 24 cd = true := ⟨_, rfl, by kernel_rfl, by kernel_rfl⟩
theorem ok24 : FOk Pg Cg 24 ⟨rc24, Tryd.f24.results.toList⟩ := by
  obtain ⟨cd, h1, h2, h3⟩ := cd24
  exact ⟨⟨_, cd, kp24, Tryd.func24, h1, h2, rfl, h3, by kernel_rfl⟩⟩
theorem cd29 : ∃ cd, Tryd.f29.body = some cd ∧ rc29 = toRC Pg Cg kp29 29 cd ∧ okC kp29 29 cd = true := ⟨_, rfl, by kernel_rfl, by kernel_rfl⟩
theorem ok29 : FOk Pg Cg 29 ⟨rc29, Tryd.f29.results.toList⟩ := by
  obtain ⟨cd, h1, h2, h3⟩ := cd29
  exact ⟨⟨_, cd, kp29, Tryd.func29, h1, h2, rfl, h3, by kernel_rfl⟩⟩
theorem cd36 : ∃ cd, Tryd.f36.body = some cd ∧ rc36 = toRC Pg Cg kp36 36 cd ∧ okC kp36 36 cd = true := ⟨_, rfl, by kernel_rfl, by kernel_rfl⟩
theorem ok36 : FOk Pg Cg 36 ⟨rc36, Tryd.f36.results.toList⟩ := by
  obtain ⟨cd, h1, h2, h3⟩ := cd36
  exact ⟨⟨_, cd, kp36, Tryd.func36, h1, h2, rfl, h3, by kernel_rfl⟩⟩
theorem cd43 : ∃ cd, Tryd.f43.body = some cd ∧ rc43 = toRC Pg Cg kp43 43 cd ∧ okC kp43 43 cd = true := ⟨_, rfl, by kernel_rfl, by kernel_rfl⟩
theorem ok43 : FOk Pg Cg 43 ⟨rc43, Tryd.f43.results.toList⟩ := by
  obtain ⟨cd, h1, h2, h3⟩ := cd43
  exact ⟨⟨_, cd, kp43, Tryd.func43, h1, h2, rfl, h3, by kernel_rfl⟩⟩
theorem cd47 : ∃ cd, Tryd.f47.body = some cd ∧ rc47 = toRC Pg Cg kp47 47 cd ∧ okC kp47 47 cd = true := ⟨_, rfl, by kernel_rfl, by kernel_rfl⟩
theorem ok47 : FOk Pg Cg 47 ⟨rc47, Tryd.f47.results.toList⟩ := by
  obtain ⟨cd, h1, h2, h3⟩ := cd47
  exact ⟨⟨_, cd, kp47, Tryd.func47, h1, h2, rfl, h3, by kernel_rfl⟩⟩
theorem cd51 : ∃ cd, Tryd.f51.body = some cd ∧ rc51 = toRC Pg Cg kp51 51 cd ∧ okC kp51 51 cd = true := ⟨_, rfl, by kernel_rfl, by kernel_rfl⟩
theorem ok51 : FOk Pg Cg 51 ⟨rc51, Tryd.f51.results.toList⟩ := by
  obtain ⟨cd, h1, h2, h3⟩ := cd51
  exact ⟨⟨_, cd, kp51, Tryd.func51, h1, h2, rfl, h3, by kernel_rfl⟩⟩
theorem cd55 : ∃ cd, Tryd.f55.body = some cd ∧ rc55 = toRC Pg Cg kp55 55 cd ∧ okC kp55 55 cd = true := ⟨_, rfl, by kernel_rfl, by kernel_rfl⟩
theorem ok55 : FOk Pg Cg 55 ⟨rc55, Tryd.f55.results.toList⟩ := by
  obtain ⟨cd, h1, h2, h3⟩ := cd55
  exact ⟨⟨_, cd, kp55, Tryd.func55, h1, h2, rfl, h3, by kernel_rfl⟩⟩
theorem cd66 : ∃ cd, Tryd.f66.body = some cd ∧ rc66 = toRC Pg Cg kp66 66 cd ∧ okC kp66 66 cd = true := ⟨_, rfl, by kernel_rfl, by kernel_rfl⟩
theorem ok66 : FOk Pg Cg 66 ⟨rc66, Tryd.f66.results.toList⟩ := by
  obtain ⟨cd, h1, h2, h3⟩ := cd66
  exact ⟨⟨_, cd, kp66, Tryd.func66, h1, h2, rfl, h3, by kernel_rfl⟩⟩
theorem cd70 : ∃ cd, Tryd.f70.body = some cd ∧ rc70 = toRC Pg Cg kp70 70 cd ∧ okC kp70 70 cd = true := ⟨_, rfl, by kernel_rfl, by kernel_rfl⟩
theorem ok70 : FOk Pg Cg 70 ⟨rc70, Tryd.f70.results.toList⟩ := by
  obtain ⟨cd, h1, h2, h3⟩ := cd70
  exact ⟨⟨_, cd, kp70, Tryd.func70, h1, h2, rfl, h3, by kernel_rfl⟩⟩
theorem cd74 : ∃ cd, Tryd.f74.body = some cd ∧ rc74 = toRC Pg Cg kp74 74 cd ∧ okC kp74 74 cd = true := ⟨_, rfl, by kernel_rfl, by kernel_rfl⟩
theorem ok74 : FOk Pg Cg 74 ⟨rc74, Tryd.f74.results.toList⟩ := by
  obtain ⟨cd, h1, h2, h3⟩ := cd74
  exact ⟨⟨_, cd, kp74, Tryd.func74, h1, h2, rfl, h3, by kernel_rfl⟩⟩
theorem cd78 : ∃ cd, Tryd.f78.body = some cd ∧ rc78 = toRC Pg Cg kp78 78 cd ∧ okC kp78 78 cd = true := ⟨_, rfl, by kernel_rfl, by kernel_rfl⟩
theorem ok78 : FOk Pg Cg 78 ⟨rc78, Tryd.f78.results.toList⟩ := by
  obtain ⟨cd, h1, h2, h3⟩ := cd78
  exact ⟨⟨_, cd, kp78, Tryd.func78, h1, h2, rfl, h3, by kernel_rfl⟩⟩
theorem cd82 : ∃ cd, Tryd.f82.body = some cd ∧ rc82 = toRC Pg Cg kp82 82 cd ∧ okC kp82 82 cd = true := ⟨_, rfl, by kernel_rfl, by kernel_rfl⟩
theorem ok82 : FOk Pg Cg 82 ⟨rc82, Tryd.f82.results.toList⟩ := by
  obtain ⟨cd, h1, h2, h3⟩ := cd82
  exact ⟨⟨_, cd, kp82, Tryd.func82, h1, h2, rfl, h3, by kernel_rfl⟩⟩
theorem cd90 : ∃ cd, Tryd.f90.body = some cd ∧ rc90 = toRC Pg Cg kp90 90 cd ∧ okC kp90 90 cd = true := ⟨_, rfl, by kernel_rfl, by kernel_rfl⟩
theorem ok90 : FOk Pg Cg 90 ⟨rc90, Tryd.f90.results.toList⟩ := by
  obtain ⟨cd, h1, h2, h3⟩ := cd90
  exact ⟨⟨_, cd, kp90, Tryd.func90, h1, h2, rfl, h3, by kernel_rfl⟩⟩
theorem cd94 : ∃ cd, Tryd.f94.body = some cd ∧ rc94 = toRC Pg Cg kp94 94 cd ∧ okC kp94 94 cd = true := ⟨_, rfl, by kernel_rfl, by kernel_rfl⟩
theorem ok94 : FOk Pg Cg 94 ⟨rc94, Tryd.f94.results.toList⟩ := by
  obtain ⟨cd, h1, h2, h3⟩ := cd94
  exact ⟨⟨_, cd, kp94, Tryd.func94, h1, h2, rfl, h3, by kernel_rfl⟩⟩
theorem cd98 : ∃ cd, Tryd.f98.body = some cd ∧ rc98 = toRC Pg Cg kp98 98 cd ∧ okC kp98 98 cd = true := ⟨_, rfl, by kernel_rfl, by kernel_rfl⟩
theorem ok98 : FOk Pg Cg 98 ⟨rc98, Tryd.f98.results.toList⟩ := by
  obtain ⟨cd, h1, h2, h3⟩ := cd98
  exact ⟨⟨_, cd, kp98, Tryd.func98, h1, h2, rfl, h3, by kernel_rfl⟩⟩
theorem cd104 : ∃ cd, Tryd.f104.body = some cd ∧ rc104 = toRC Pg Cg kp104 104 cd ∧ okC kp104 104 cd = true := ⟨_, rfl, by kernel_rfl, by kernel_rfl⟩
theorem ok104 : FOk Pg Cg 104 ⟨rc104, Tryd.f104.results.toList⟩ := by
  obtain ⟨cd, h1, h2, h3⟩ := cd104
  exact ⟨⟨_, cd, kp104, Tryd.func104, h1, h2, rfl, h3, by kernel_rfl⟩⟩
theorem cd109 : ∃ cd, Tryd.f109.body = some cd ∧ rc109 = toRC Pg Cg kp109 109 cd ∧ okC kp109 109 cd = true := ⟨_, rfl, by kernel_rfl, by kernel_rfl⟩
theorem ok109 : FOk Pg Cg 109 ⟨rc109, Tryd.f109.results.toList⟩ := by
  obtain ⟨cd, h1, h2, h3⟩ := cd109
  exact ⟨⟨_, cd, kp109, Tryd.func109, h1, h2, rfl, h3, by kernel_rfl⟩⟩
end Go.AM.S
end

section
namespace Go.AM.S
open Go Go.AM Go.Proofs
set_option maxRecDepth 100000
theorem cd10 : ∃ cd, Tryd.f10.body = some cd ∧ rc10 = toRC Pg Cg kp10 10 cd ∧ okC kp10 10 cd = true := ⟨_, rfl, by kernel_rfl, by kernel_rfl⟩
theorem ok10 : FOk Pg Cg 10 ⟨rc10, Tryd.f10.results.toList⟩ := by
  obtain ⟨cd, h1, h2, h3⟩ := cd10
  exact ⟨⟨_, cd, kp10, Tryd.func10, h1, h2, rfl, h3, by kernel_rfl⟩⟩
theorem cd21 : ∃ cd, Tryd.f21.body = some cd ∧ rc21 = toRC Pg Cg kp21 21 cd ∧ okC kp21 21 cd = true := ⟨_, rfl, by kernel_rfl, by kernel_rfl⟩
theorem ok21 : FOk Pg Cg 21 ⟨rc21, Tryd.f21.results.toList⟩ := by
  obtain ⟨cd, h1, h2, h3⟩ := cd21
  exact ⟨⟨_, cd, kp21, Tryd.func21, h1, h2, rfl, h3, by kernel_rfl⟩⟩
theorem cd26 : ∃ cd, Tryd.f26.body = some cd ∧ rc26 = toRC Pg Cg kp26 26 cd ∧ okC kp26 26 cd = true := ⟨_, rfl, by kernel_rfl, by kernel_rfl⟩
theorem ok26 : FOk Pg Cg 26 ⟨rc26, Tryd.f26.results.toList⟩ := by
  obtain ⟨cd, h1, h2, h3⟩ := cd26
  exact ⟨⟨_, cd, kp26, Tryd.func26, h1, h2, rfl, h3, by kernel_rfl⟩⟩
theorem cd30 : ∃ cd, Tryd.f30.body = some cd ∧ rc30 = toRC Pg Cg kp30 30 cd ∧ okC kp30 30 cd = true := ⟨_, rfl, by kernel_rfl, by kernel_rfl⟩
theorem ok30 : FOk Pg Cg 30 ⟨rc30, Tryd.f30.results.toList⟩ := by
  obtain ⟨cd, h1, h2, h3⟩ := cd30
  exact ⟨⟨_, cd, kp30, Tryd.func30, h1, h2, rfl, h3, by kernel_rfl⟩⟩
theorem cd37 : ∃ cd, Tryd.f37.body = some cd ∧ rc37 = toRC Pg Cg kp37 37 cd ∧ okC kp37 37 cd = true := ⟨_, rfl, by kernel_rfl, by kernel_rfl⟩
theorem ok37 : FOk Pg Cg 37 ⟨rc37, Tryd.f37.results.toList⟩ := by
  obtain ⟨cd, h1, h2, h3⟩ := cd37
  exact ⟨⟨_, cd, kp37, Tryd.func37, h1, h2, rfl, h3, by kernel_rfl⟩⟩
theorem cd44 : ∃ cd, Tryd.f44.body = some cd ∧ rc44 = toRC Pg Cg kp44 44 cd ∧ okC kp44 44 cd = true := ⟨_, rfl, by kernel_rfl, by kernel_rfl⟩
theorem ok44 : FOk Pg Cg 44 ⟨rc44, Tryd.f44.results.toList⟩ := by
  obtain ⟨cd, h1, h2, h3⟩ := cd44
  exact ⟨⟨_, cd, kp44, Tryd.func44, h1, h2, rfl, h3, by kernel_rfl⟩⟩
theorem cd48 : ∃ cd, Tryd.f48.body = some cd ∧ rc48 = toRC Pg Cg kp48 48 cd ∧ okC kp48 48 cd = true := ⟨_, rfl, by kernel_rfl, by kernel_rfl⟩
theorem ok48 : FOk Pg Cg 48 ⟨rc48, Tryd.f48.results.toList⟩ := by
  obtain ⟨cd, h1, h2, h3⟩ := cd48
  exact ⟨⟨_, cd, kp48, Tryd.func48, h1, h2, rfl, h3, by kernel_rfl⟩⟩
theorem cd52 : ∃ cd, Tryd.f52.body = some cd ∧ rc52 = toRC Pg Cg kp52 52 cd ∧ okC kp52 52 cd = true := ⟨_, rfl, by kernel_rfl, by kernel_rfl⟩
theorem ok52 : FOk Pg Cg 52 ⟨rc52, Tryd.f52.results.toList⟩ := by
  obtain ⟨cd, h1, h2, h3⟩ := cd52
  exact ⟨⟨_, cd, kp52, Tryd.func52, h1, h2, rfl, h3, by kernel_rfl⟩⟩
theorem cd56 : ∃ cd, Tryd.f56.body = some cd ∧ rc56 = toRC Pg Cg kp56 56 cd ∧ okC kp56 56 cd = true := ⟨_, rfl, by kernel_rfl, by kernel_rfl⟩
theorem ok56 : FOk Pg Cg 56 ⟨rc56, Tryd.f56.results.toList⟩ := by
  obtain ⟨cd, h1, h2, h3⟩ := cd56
  exact ⟨⟨_, cd, kp56, Tryd.func56, h1, h2, rfl, h3, by kernel_rfl⟩⟩
theorem cd67 : ∃ cd, Tryd.f67.body = some cd ∧ rc67 = toRC Pg Cg kp67 67 cd ∧ okC kp67 67 cd = true := ⟨_, rfl, by kernel_rfl, by kernel_rfl⟩
theorem ok67 : FOk Pg Cg 67 ⟨rc67, Tryd.f67.results.toList⟩ := by
  obtain ⟨cd, h1, h2, h3⟩ := cd67
  exact ⟨⟨_, cd, kp67, Tryd.func67, h1, h2, rfl, h3, by kernel_rfl⟩⟩
theorem cd71 : ∃ cd, Tryd.f71.body = some cd ∧ rc71 = toRC Pg Cg kp71 71 cd ∧ okC kp71 71 cd = true := ⟨_, rfl, by kernel_rfl, by kernel_rfl⟩
theorem ok71 : FOk Pg Cg 71 ⟨rc71, Tryd.f71.results.toList⟩ := by
  obtain ⟨cd, h1, h2, h3⟩ := cd71
  exact ⟨⟨_, cd, kp71, Tryd.func71, h1, h2, rfl, h3, by kernel_rfl⟩⟩
theorem cd75 : ∃ cd, Tryd.f75.body = some cd ∧ rc75 = toRC Pg Cg kp75 75 cd ∧ okC kp75 75 cd = true := ⟨_, rfl, by kernel_rfl, by kernel_rfl⟩
theorem ok75 : FOk Pg Cg 75 ⟨rc75, Tryd.f75.results.toList⟩ := by
  obtain ⟨cd, h1, h2, h3⟩ := cd75
  exact ⟨⟨_, cd, kp75, Tryd.func75, h1, h2, rfl, h3, by kernel_rfl⟩⟩
theorem cd79 : ∃ cd, Tryd.f79.body = some cd ∧ rc79 = toRC Pg Cg kp79 79 cd ∧ okC kp79 79 cd = true := ⟨_, rfl, by kernel_rfl, by kernel_rfl⟩
theorem ok79 : FOk Pg Cg 79 ⟨rc79, Tryd.f79.results.toList⟩ := by
  obtain ⟨cd, h1, h2, h3⟩ := cd79
  exact ⟨⟨_, cd, kp79, Tryd.func79, h1, h2, rfl, h3, by kernel_rfl⟩⟩
theorem cd83 : ∃ cd, Tryd.f83.body = some cd ∧ rc83 = toRC Pg Cg kp83 83 cd ∧ okC kp83 83 cd = true := ⟨_, rfl, by kernel_rfl, by kernel_rfl⟩
theorem ok83 : FOk Pg Cg 83 ⟨rc83, Tryd.f83.results.toList⟩ := by
  obtain ⟨cd, h1, h2, h3⟩ := cd83
  exact ⟨⟨_, cd, kp83, Tryd.func83, h1, h2, rfl, h3, by kernel_rfl⟩⟩
theorem cd91 : ∃ cd, Tryd.f91.body = some cd ∧ rc91 = toRC Pg Cg kp91 91 cd ∧ okC kp91 91 cd = true := ⟨_, rfl, by kernel_rfl, by kernel_rfl⟩
theorem ok91 : FOk Pg Cg 91 ⟨rc91, Tryd.f91.results.toList⟩ := by
  obtain ⟨cd, h1, h2, h3⟩ := cd91
  exact ⟨⟨_, cd, kp91, Tryd.func91, h1, h2, rfl, h3, by kernel_rfl⟩⟩
theorem cd95 : ∃ cd, Tryd.f95.body = some cd ∧ rc95 = toRC Pg Cg kp95 95 cd ∧ okC kp95 95 cd = true := ⟨_, rfl, by kernel_rfl, by kernel_rfl⟩
theorem ok95 : FOk Pg Cg 95 ⟨rc95, Tryd.f95.results.toList⟩ := by
  obtain ⟨cd, h1, h2, h3⟩ := cd95
  exact ⟨⟨_, cd, kp95, Tryd.func95, h1, h2, rfl, h3, by kernel_rfl⟩⟩
theorem cd101 : ∃ cd, Tryd.f101.body = some cd ∧ rc101 = toRC Pg Cg kp101 101 cd ∧ okC kp101 101 cd = true := ⟨_, rfl, by kernel_rfl, by kernel_rfl⟩
theorem ok101 : FOk Pg Cg 101 ⟨rc101, Tryd.f101.results.toList⟩ := by
  obtain ⟨cd, h1, h2, h3⟩ := cd101
  exact ⟨⟨_, cd, kp101, Tryd.func101, h1, h2, rfl, h3, by kernel_rfl⟩⟩
theorem cd105 : ∃ cd, Tryd.f105.body = some cd ∧ rc105 = toRC Pg Cg kp105 105 cd ∧ okC kp105 105 cd = true := ⟨_, rfl, by kernel_rfl, by kernel_rfl⟩
theorem ok105 : FOk Pg Cg 105 ⟨rc105, Tryd.f105.results.toList⟩ := by
  obtain ⟨cd, h1, h2, h3⟩ := cd105
  exact ⟨⟨_, cd, kp105, Tryd.func105, h1, h2, rfl, h3, by kernel_rfl⟩⟩
theorem cd110 : ∃ cd, Tryd.f110.body = some cd ∧ rc110 = toRC Pg Cg kp110 110 cd ∧ okC kp110 110 cd = true := ⟨_, rfl, by kernel_rfl, by kernel_rfl⟩
theorem ok110 : FOk Pg Cg 110 ⟨rc110, Tryd.f110.results.toList⟩ := by
  obtain ⟨cd, h1, h2, h3⟩ := cd110
  exact ⟨⟨_, cd, kp110, Tryd.func110, h1, h2, rfl, h3, by kernel_rfl⟩⟩
end Go.AM.S
end

section
namespace Go.AM.S
open Go Go.AM Go.Proofs
theorem tbl_ok : ∀ p ∈ tblL, FOk Pg Cg p.1 p.2 := by
  unfold tblL
  simp only [List.forall_mem_cons, List.not_mem_nil, false_imp_iff, implies_true, and_true]
  exact ⟨ok7, ok8, ok9, ok10, ok12, ok14, ok15, ok21, ok22, ok23, ok24, ok26, ok27, ok28, ok29, ok30, ok34, ok35, ok36, ok37, ok38, ok42, ok43, ok44, ok45, ok46, ok47, ok48, ok49, ok50, ok51, ok52, ok53, ok54, ok55, ok56, ok64, ok65, ok66, ok67, ok68, ok69, ok70, ok71, ok72, ok73, ok74, ok75, ok76, ok77, ok78, ok79, ok80, ok81, ok82, ok83, ok84, ok85, ok90, ok91, ok92, ok93, ok94, ok95, ok96, ok97, ok98, ok101, ok102, ok103, ok104, ok105, ok106, ok108, ok109, ok110, ok111, ok112⟩
theorem use_ok : tblL.map (·.1) = cUse := rfl
theorem seat_eq (kn : Kn) (n : Nat) : S.fn Pg kn tbl n = fnV Pg Cg kn n := by
  refine fn_eq (fun f fc h => ⟨?_, ?_⟩) (fun f h => ?_) n
  · have := lkL_mem h
    show cUse.contains f = true
    rw [← use_ok, List.contains_iff_mem]
    exact List.mem_map.2 ⟨(f, fc), this, rfl⟩
  · exact tbl_ok _ (lkL_mem h)
  · have := lkL_none h
    show cUse.contains f = false
    rw [← use_ok]
    cases hb : (tblL.map (·.1)).contains f with
    | false => rfl
    | true => exact absurd (List.contains_iff_mem.1 hb) this
end Go.AM.S
end

section
namespace Go.AM.S
open Go Go.AM Go.Proofs
set_option maxRecDepth 100000
theorem prog_ok : progOk Pg Cg = true := by kernel_rfl
end Go.AM.S
end
