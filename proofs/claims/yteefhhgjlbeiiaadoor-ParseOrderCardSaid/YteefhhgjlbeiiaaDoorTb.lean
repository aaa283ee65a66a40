/- Part Tb of the proof: what it says stands at its theorems. -/
import Derived.Test.YteefhhgjlbeiiaaDoorTa
import Derived.KernelRfl
set_option linter.unusedVariables false
set_option linter.unusedSimpArgs false
set_option linter.unusedSectionVars false
section
namespace Go.AM.S
open Go Go.AM Go.Proofs
set_option maxRecDepth 100000
theorem cd10 : ∃ cd, Tryd.f10.body = some cd ∧ rc10 = toRC Pg Cg kp10 10 cd ∧ okC kp10 10 cd = true := ⟨_, rfl, by kernel_rfl, by kernel_rfl⟩
theorem ok10 : FOk Pg Cg 10 ⟨rc10, Tryd.f10.results.toList⟩ := by
  obtain ⟨cd, h1, h2, h3⟩ := cd10
  exact ⟨⟨_, cd, kp10, Tryd.func10, h1, h2, rfl, h3, by kernel_rfl⟩⟩
theorem cd16 : ∃ cd, Tryd.f16.body = some cd ∧ rc16 = toRC Pg Cg kp16 16 cd ∧ okC kp16 16 cd = true := ⟨_, rfl, by kernel_rfl, by kernel_rfl⟩
theorem ok16 : FOk Pg Cg 16 ⟨rc16, Tryd.f16.results.toList⟩ := by
  obtain ⟨cd, h1, h2, h3⟩ := cd16
  exact ⟨⟨_, cd, kp16, Tryd.func16, h1, h2, rfl, h3, by kernel_rfl⟩⟩
theorem cd24 : ∃ cd, Tryd.f24.body = some cd ∧ rc24 = toRC Pg Cg kp24 24 cd ∧ okC kp24 24 cd = true := ⟨_, rfl, by kernel_rfl, by kernel_rfl⟩
theorem ok24 : FOk Pg Cg 24 ⟨rc24, Tryd.f24.results.toList⟩ := by
  obtain ⟨cd, h1, h2, h3⟩ := cd24
  exact ⟨⟨_, cd, kp24, Tryd.func24, h1, h2, rfl, h3, by kernel_rfl⟩⟩
theorem cd30 : ∃ cd, Tryd.f30.body = some cd ∧ rc30 = toRC Pg Cg kp30 30 cd ∧ okC kp30 30 cd = true := ⟨_, rfl, by kernel_rfl, by kernel_rfl⟩
theorem ok30 : FOk Pg Cg 30 ⟨rc30, Tryd.f30.results.toList⟩ := by
  obtain ⟨cd, h1, h2, h3⟩ := cd30
  exact ⟨⟨_, cd, kp30, Tryd.func30, h1, h2, rfl, h3, by kernel_rfl⟩⟩
theorem cd36 : ∃ cd, Tryd.f36.body = some cd ∧ rc36 = toRC Pg Cg kp36 36 cd ∧ okC kp36 36 cd = true := ⟨_, rfl, by kernel_rfl, by kernel_rfl⟩
theorem ok36 : FOk Pg Cg 36 ⟨rc36, Tryd.f36.results.toList⟩ := by
  obtain ⟨cd, h1, h2, h3⟩ := cd36
  exact ⟨⟨_, cd, kp36, Tryd.func36, h1, h2, rfl, h3, by kernel_rfl⟩⟩
theorem cd44 : ∃ cd, Tryd.f44.body = some cd ∧ rc44 = toRC Pg Cg kp44 44 cd ∧ okC kp44 44 cd = true := ⟨_, rfl, by kernel_rfl, by kernel_rfl⟩
theorem ok44 : FOk Pg Cg 44 ⟨rc44, Tryd.f44.results.toList⟩ := by
  obtain ⟨cd, h1, h2, h3⟩ := cd44
  exact ⟨⟨_, cd, kp44, Tryd.func44, h1, h2, rfl, h3, by kernel_rfl⟩⟩
theorem cd48 : ∃ cd, Tryd.f48.body = some cd ∧ rc48 = toRC Pg Cg kp48 48 cd ∧ okC kp48 48 cd = true := ⟨_, rfl, by kernel_rfl, by kernel_rfl⟩
theorem ok48 : FOk Pg Cg 48 ⟨rc48, Tryd.f48.results.toList⟩ := by
  obtain ⟨cd, h1, h2, h3⟩ := cd48
  exact ⟨⟨_, cd, kp48, Tryd.func48, h1, h2, rfl, h3, by kernel_rfl⟩⟩
theorem cd55 : ∃ cd, Tryd.f55.body = some cd ∧ rc55 = toRC Pg Cg kp55 55 cd ∧ okC kp55 55 cd = true := ⟨_, rfl, by kernel_rfl, by kernel_rfl⟩
theorem ok55 : FOk Pg Cg 55 ⟨rc55, Tryd.f55.results.toList⟩ := by
  obtain ⟨cd, h1, h2, h3⟩ := cd55
  exact ⟨⟨_, cd, kp55, Tryd.func55, h1, h2, rfl, h3, by kernel_rfl⟩⟩
theorem cd59 : ∃ cd, Tryd.f59.body = some cd ∧ rc59 = toRC Pg Cg kp59 59 cd ∧ okC kp59 59 cd = true := ⟨_, rfl, by kernel_rfl, by kernel_rfl⟩
theorem ok59 : FOk Pg Cg 59 ⟨rc59, Tryd.f59.results.toList⟩ := by
  obtain ⟨cd, h1, h2, h3⟩ := cd59
  exact ⟨⟨_, cd, kp59, Tryd.func59, h1, h2, rfl, h3, by kernel_rfl⟩⟩
theorem cd63 : ∃ cd, Tryd.f63.body = some cd ∧ rc63 = toRC Pg Cg kp63 63 cd ∧ okC kp63 63 cd = true := ⟨_, rfl, by kernel_rfl, by kernel_rfl⟩
theorem ok63 : FOk Pg Cg 63 ⟨rc63, Tryd.f63.results.toList⟩ := by
  obtain ⟨cd, h1, h2, h3⟩ := cd63
  exact ⟨⟨_, cd, kp63, Tryd.func63, h1, h2, rfl, h3, by kernel_rfl⟩⟩
theorem cd67 : ∃ cd, Tryd.f67.body = some cd ∧ rc67 = toRC Pg Cg kp67 67 cd ∧ okC kp67 67 cd = true := ⟨_, rfl, by kernel_rfl, by kernel_rfl⟩
theorem ok67 : FOk Pg Cg 67 ⟨rc67, Tryd.f67.results.toList⟩ := by
  obtain ⟨cd, h1, h2, h3⟩ := cd67
  exact ⟨⟨_, cd, kp67, Tryd.func67, h1, h2, rfl, h3, by kernel_rfl⟩⟩
theorem cd74 : ∃ cd, Tryd.f74.body = some cd ∧ rc74 = toRC Pg Cg kp74 74 cd ∧ okC kp74 74 cd = true := ⟨_, rfl, by kernel_rfl, by kernel_rfl⟩
theorem ok74 : FOk Pg Cg 74 ⟨rc74, Tryd.f74.results.toList⟩ := by
  obtain ⟨cd, h1, h2, h3⟩ := cd74
  exact ⟨⟨_, cd, kp74, Tryd.func74, h1, h2, rfl, h3, by kernel_rfl⟩⟩
theorem cd78 : ∃ cd, Tryd.f78.body = some cd ∧ rc78 = toRC Pg Cg kp78 78 cd ∧ okC kp78 78 cd = true := ⟨_, rfl, by kernel_rfl, by kernel_rfl⟩
theorem ok78 : FOk Pg Cg 78 ⟨rc78, Tryd.f78.results.toList⟩ := by
  obtain ⟨cd, h1, h2, h3⟩ := cd78
  exact ⟨⟨_, cd, kp78, Tryd.func78, h1, h2, rfl, h3, by kernel_rfl⟩⟩
theorem cd82 : ∃ cd, Tryd.f82.body = some cd ∧ rc82 = toRC Pg Cg kp82 82 cd ∧ okC kp82 82 cd = true := ⟨_, rfl, by kernel_rfl, by kernel_rfl⟩
theorem ok82 : FOk Pg Cg 82 ⟨rc82, Tryd.f82.results.toList⟩ := by
  obtain ⟨cd, h1, h2, h3⟩ := cd82
  exact ⟨⟨_, cd, kp82, Tryd.func82, h1, h2, rfl, h3, by kernel_rfl⟩⟩
theorem cd86 : ∃ cd, Tryd.f86.body = some cd ∧ rc86 = toRC Pg Cg kp86 86 cd ∧ okC kp86 86 cd = true := ⟨_, rfl, by kernel_rfl, by kernel_rfl⟩
theorem ok86 : FOk Pg Cg 86 ⟨rc86, Tryd.f86.results.toList⟩ := by
  obtain ⟨cd, h1, h2, h3⟩ := cd86
  exact ⟨⟨_, cd, kp86, Tryd.func86, h1, h2, rfl, h3, by kernel_rfl⟩⟩
theorem cd91 : ∃ cd, Tryd.f91.body = some cd ∧ rc91 = toRC Pg Cg kp91 91 cd ∧ okC kp91 91 cd = true := ⟨_, rfl, by kernel_rfl, by kernel_rfl⟩
theorem ok91 : FOk Pg Cg 91 ⟨rc91, Tryd.f91.results.toList⟩ := by
  obtain ⟨cd, h1, h2, h3⟩ := cd91
  exact ⟨⟨_, cd, kp91, Tryd.func91, h1, h2, rfl, h3, by kernel_rfl⟩⟩
theorem cd96 : ∃ cd, Tryd.f96.body = some cd ∧ rc96 = toRC Pg Cg kp96 96 cd ∧ okC kp96 96 cd = true := ⟨_, rfl, by kernel_rfl, by kernel_rfl⟩
theorem ok96 : FOk Pg Cg 96 ⟨rc96, Tryd.f96.results.toList⟩ := by
  obtain ⟨cd, h1, h2, h3⟩ := cd96
  exact ⟨⟨_, cd, kp96, Tryd.func96, h1, h2, rfl, h3, by kernel_rfl⟩⟩
end Go.AM.S
end

section
namespace Go.AM.S
open Go Go.AM Go.Proofs
set_option maxRecDepth 100000
theorem cd11 : ∃ cd, Tryd.f11.body = some cd ∧ rc11 = toRC Pg Cg kp11 11 cd ∧ okC kp11 11 cd = true := ⟨_, rfl, by kernel_rfl, by kernel_rfl⟩
theorem ok11 : FOk Pg Cg 11 ⟨rc11, Tryd.f11.results.toList⟩ := by
  obtain ⟨cd, h1, h2, h3⟩ := cd11
  exact ⟨⟨_, cd, kp11, Tryd.func11, h1, h2, rfl, h3, by kernel_rfl⟩⟩
theorem cd17 : ∃ cd, Tryd.f17.body = some cd ∧ rc17 = toRC Pg Cg kp17 17 cd ∧ okC kp17 17 cd = true := ⟨_, rfl, by kernel_rfl, by kernel_rfl⟩
theorem ok17 : FOk Pg Cg 17 ⟨rc17, Tryd.f17.results.toList⟩ := by
  obtain ⟨cd, h1, h2, h3⟩ := cd17
  exact ⟨⟨_, cd, kp17, Tryd.func17, h1, h2, rfl, h3, by kernel_rfl⟩⟩
theorem cd27 : ∃ cd, Tryd.f27.body = some cd ∧ rc27 = toRC Pg Cg kp27 27 cd ∧ okC kp27 27 cd = true := ⟨_, rfl, by kernel_rfl, by kernel_rfl⟩
theorem ok27 : FOk Pg Cg 27 ⟨rc27, Tryd.f27.results.toList⟩ := by
  obtain ⟨cd, h1, h2, h3⟩ := cd27
  exact ⟨⟨_, cd, kp27, Tryd.func27, h1, h2, rfl, h3, by kernel_rfl⟩⟩
theorem cd31 : ∃ cd, Tryd.f31.body = some cd ∧ rc31 = toRC Pg Cg kp31 31 cd ∧ okC kp31 31 cd = true := ⟨_, rfl, by kernel_rfl, by kernel_rfl⟩
theorem ok31 : FOk Pg Cg 31 ⟨rc31, Tryd.f31.results.toList⟩ := by
  obtain ⟨cd, h1, h2, h3⟩ := cd31
  exact ⟨⟨_, cd, kp31, Tryd.func31, h1, h2, rfl, h3, by kernel_rfl⟩⟩
theorem cd37 : ∃ cd, Tryd.f37.body = some cd ∧ rc37 = toRC Pg Cg kp37 37 cd ∧ okC kp37 37 cd = true := ⟨_, rfl, by kernel_rfl, by kernel_rfl⟩
theorem ok37 : FOk Pg Cg 37 ⟨rc37, Tryd.f37.results.toList⟩ := by
  obtain ⟨cd, h1, h2, h3⟩ := cd37
  exact ⟨⟨_, cd, kp37, Tryd.func37, h1, h2, rfl, h3, by kernel_rfl⟩⟩
theorem cd45 : ∃ cd, Tryd.f45.body = some cd ∧ rc45 = toRC Pg Cg kp45 45 cd ∧ okC kp45 45 cd = true := ⟨_, rfl, by kernel_rfl, by kernel_rfl⟩
theorem ok45 : FOk Pg Cg 45 ⟨rc45, Tryd.f45.results.toList⟩ := by
  obtain ⟨cd, h1, h2, h3⟩ := cd45
  exact ⟨⟨_, cd, kp45, Tryd.func45, h1, h2, rfl, h3, by kernel_rfl⟩⟩
theorem cd49 : ∃ cd, Tryd.f49.body = some cd ∧ rc49 = toRC Pg Cg kp49 49 cd ∧ okC kp49 49 cd = true := ⟨_, rfl, by kernel_rfl, by kernel_rfl⟩
theorem ok49 : FOk Pg Cg 49 ⟨rc49, Tryd.f49.results.toList⟩ := by
  obtain ⟨cd, h1, h2, h3⟩ := cd49
  exact ⟨⟨_, cd, kp49, Tryd.func49, h1, h2, rfl, h3, by kernel_rfl⟩⟩
theorem cd56 : ∃ cd, Tryd.f56.body = some cd ∧ rc56 = toRC Pg Cg kp56 56 cd ∧ okC kp56 56 cd = true := ⟨_, rfl, by kernel_rfl, by kernel_rfl⟩
theorem ok56 : FOk Pg Cg 56 ⟨rc56, Tryd.f56.results.toList⟩ := by
  obtain ⟨cd, h1, h2, h3⟩ := cd56
  exact ⟨⟨_, cd, kp56, Tryd.func56, h1, h2, rfl, h3, by kernel_rfl⟩⟩
theorem cd60 : ∃ cd, Tryd.f60.body = some cd ∧ rc60 = toRC Pg Cg kp60 60 cd ∧ okC kp60 60 cd = true := ⟨_, rfl, by kernel_rfl, by kernel_rfl⟩
theorem ok60 : FOk Pg Cg 60 ⟨rc60, Tryd.f60.results.toList⟩ := by
  obtain ⟨cd, h1, h2, h3⟩ := cd60
  exact ⟨⟨_, cd, kp60, Tryd.func60, h1, h2, rfl, h3, by kernel_rfl⟩⟩
theorem cd64 : ∃ cd, Tryd.f64.body = some cd ∧ rc64 = toRC Pg Cg kp64 64 cd ∧ okC kp64 64 cd = true := ⟨_, rfl, by kernel_rfl, by kernel_rfl⟩
theorem ok64 : FOk Pg Cg 64 ⟨rc64, Tryd.f64.results.toList⟩ := by
  obtain ⟨cd, h1, h2, h3⟩ := cd64
  exact ⟨⟨_, cd, kp64, Tryd.func64, h1, h2, rfl, h3, by kernel_rfl⟩⟩
theorem cd68 : ∃ cd, Tryd.f68.body = some cd ∧ rc68 = toRC Pg Cg kp68 68 cd ∧ okC kp68 68 cd = true := ⟨_, rfl, by kernel_rfl, by kernel_rfl⟩
theorem ok68 : FOk Pg Cg 68 ⟨rc68, Tryd.f68.results.toList⟩ := by
  obtain ⟨cd, h1, h2, h3⟩ := cd68
  exact ⟨⟨_, cd, kp68, Tryd.func68, h1, h2, rfl, h3, by kernel_rfl⟩⟩
theorem cd75 : ∃ cd, Tryd.f75.body = some cd ∧ rc75 = toRC Pg Cg kp75 75 cd ∧ okC kp75 75 cd = true := ⟨_, rfl, by kernel_rfl, by kernel_rfl⟩
theorem ok75 : FOk Pg Cg 75 ⟨rc75, Tryd.f75.results.toList⟩ := by
  obtain ⟨cd, h1, h2, h3⟩ := cd75
  exact ⟨⟨_, cd, kp75, Tryd.func75, h1, h2, rfl, h3, by kernel_rfl⟩⟩
theorem cd79 : ∃ cd, Tryd.f79.body = some cd ∧ rc79 = toRC Pg Cg kp79 79 cd ∧ okC kp79 79 cd = true := ⟨_, rfl, by kernel_rfl, by kernel_rfl⟩
theorem ok79 : FOk Pg Cg 79 ⟨rc79, Tryd.f79.results.toList⟩ := by
  obtain ⟨cd, h1, h2, h3⟩ := cd79
  exact ⟨⟨_, cd, kp79, Tryd.func79, h1, h2, rfl, h3, by kernel_rfl⟩⟩
theorem cd83 : ∃ cd, Tryd.f83.body = some cd ∧ rc83 = toRC Pg Cg kp83 83 cd ∧ okC kp83 83 cd = true := ⟨_, rfl, by kernel_rfl, by kernel_rfl⟩
theorem ok83 : FOk Pg Cg 83 ⟨rc83, Tryd.f83.results.toList⟩ := by
  obtain ⟨cd, h1, h2, h3⟩ := cd83
  exact ⟨⟨_, cd, kp83, Tryd.func83, h1, h2, rfl, h3, by kernel_rfl⟩⟩
theorem cd87 : ∃ cd, Tryd.f87.body = some cd ∧ rc87 = toRC Pg Cg kp87 87 cd ∧ okC kp87 87 cd = true := ⟨_, rfl, by kernel_rfl, by kernel_rfl⟩
theorem ok87 : FOk Pg Cg 87 ⟨rc87, Tryd.f87.results.toList⟩ := by
  obtain ⟨cd, h1, h2, h3⟩ := cd87
  exact ⟨⟨_, cd, kp87, Tryd.func87, h1, h2, rfl, h3, by kernel_rfl⟩⟩
theorem cd92 : ∃ cd, Tryd.f92.body = some cd ∧ rc92 = toRC Pg Cg kp92 92 cd ∧ okC kp92 92 cd = true := ⟨_, rfl, by kernel_rfl, by kernel_rfl⟩
theorem ok92 : FOk Pg Cg 92 ⟨rc92, Tryd.f92.results.toList⟩ := by
  obtain ⟨cd, h1, h2, h3⟩ := cd92
  exact ⟨⟨_, cd, kp92, Tryd.func92, h1, h2, rfl, h3, by kernel_rfl⟩⟩
theorem cd98 : ∃ cd, Tryd.f98.body = some cd ∧ rc98 = toRC Pg Cg kp98 98 cd ∧ okC kp98 98 cd = true := ⟨_, rfl, by kernel_rfl, by kernel_rfl⟩
theorem ok98 : FOk Pg Cg 98 ⟨rc98, Tryd.f98.results.toList⟩ := by
  obtain ⟨cd, h1, h2, h3⟩ := cd98
  exact ⟨⟨_, cd, kp98, Tryd.func98, h1, h2, rfl, h3, by kernel_rfl⟩⟩
end Go.AM.S
end

section
namespace Go.AM.S
open Go Go.AM Go.Proofs
set_option maxRecDepth 100000
theorem cd13 : ∃ cd, Tryd.f13.body = some cd ∧ rc13 = toRC Pg Cg kp13 13 cd ∧ okC kp13 13 cd = true := ⟨_, rfl, by kernel_rfl, by kernel_rfl⟩
theorem ok13 : FOk Pg Cg 13 ⟨rc13, Tryd.f13.results.toList⟩ := by
  obtain ⟨cd, h1, h2, h3⟩ := cd13
  exact ⟨⟨_, cd, kp13, Tryd.func13, h1, h2, rfl, h3, by kernel_rfl⟩⟩
theorem cd20 : ∃ cd, Tryd.f20.body = some cd ∧ rc20 = toRC Pg Cg kp20 20 cd ∧ okC kp20 20 cd = true := ⟨_, rfl, by kernel_rfl, by kernel_rfl⟩
theorem ok20 : FOk Pg Cg 20 ⟨rc20, Tryd.f20.results.toList⟩ := by
  obtain ⟨cd, h1, h2, h3⟩ := cd20
  exact ⟨⟨_, cd, kp20, Tryd.func20, h1, h2, rfl, h3, by kernel_rfl⟩⟩
theorem cd28 : ∃ cd, Tryd.f28.body = some cd ∧ rc28 = toRC Pg Cg kp28 28 cd ∧ okC kp28 28 cd = true := ⟨_, rfl, by kernel_rfl, by kernel_rfl⟩
theorem ok28 : FOk Pg Cg 28 ⟨rc28, Tryd.f28.results.toList⟩ := by
  obtain ⟨cd, h1, h2, h3⟩ := cd28
  exact ⟨⟨_, cd, kp28, Tryd.func28, h1, h2, rfl, h3, by kernel_rfl⟩⟩
theorem cd34 : ∃ cd, Tryd.f34.body = some cd ∧ rc34 = toRC Pg Cg kp34 34 cd ∧ okC kp34 34 cd = true := ⟨_, rfl, by kernel_rfl, by kernel_rfl⟩
theorem ok34 : FOk Pg Cg 34 ⟨rc34, Tryd.f34.results.toList⟩ := by
  obtain ⟨cd, h1, h2, h3⟩ := cd34
  exact ⟨⟨_, cd, kp34, Tryd.func34, h1, h2, rfl, h3, by kernel_rfl⟩⟩
theorem cd39 : ∃ cd, Tryd.f39.body = some cd ∧ rc39 = toRC Pg Cg kp39 39 cd ∧ okC kp39 39 cd = true := ⟨_, rfl, by kernel_rfl, by kernel_rfl⟩
theorem ok39 : FOk Pg Cg 39 ⟨rc39, Tryd.f39.results.toList⟩ := by
  obtain ⟨cd, h1, h2, h3⟩ := cd39
  exact ⟨⟨_, cd, kp39, Tryd.func39, h1, h2, rfl, h3, by kernel_rfl⟩⟩
theorem cd46 : ∃ cd, Tryd.f46.body = some cd ∧ rc46 = toRC Pg Cg kp46 46 cd ∧ okC kp46 46 cd = true := ⟨_, rfl, by kernel_rfl, by kernel_rfl⟩
theorem ok46 : FOk Pg Cg 46 ⟨rc46, Tryd.f46.results.toList⟩ := by
  obtain ⟨cd, h1, h2, h3⟩ := cd46
  exact ⟨⟨_, cd, kp46, Tryd.func46, h1, h2, rfl, h3, by kernel_rfl⟩⟩
theorem cd50 : ∃ cd, Tryd.f50.body = some cd ∧ rc50 = toRC Pg Cg kp50 50 cd ∧ okC kp50 50 cd = true := ⟨_, rfl, by kernel_rfl, by kernel_rfl⟩
theorem ok50 : FOk Pg Cg 50 ⟨rc50, Tryd.f50.results.toList⟩ := by
  obtain ⟨cd, h1, h2, h3⟩ := cd50
  exact ⟨⟨_, cd, kp50, Tryd.func50, h1, h2, rfl, h3, by kernel_rfl⟩⟩
theorem cd57 : ∃ cd, Tryd.f57.body = some cd ∧ rc57 = toRC Pg Cg kp57 57 cd ∧ okC kp57 57 cd = true := ⟨_, rfl, by kernel_rfl, by kernel_rfl⟩
theorem ok57 : FOk Pg Cg 57 ⟨rc57, Tryd.f57.results.toList⟩ := by
  obtain ⟨cd, h1, h2, h3⟩ := cd57
  exact ⟨⟨_, cd, kp57, Tryd.func57, h1, h2, rfl, h3, by kernel_rfl⟩⟩
theorem cd61 : ∃ cd, Tryd.f61.body = some cd ∧ rc61 = toRC Pg Cg kp61 61 cd ∧ okC kp61 61 cd = true := ⟨_, rfl, by kernel_rfl, by kernel_rfl⟩
theorem ok61 : FOk Pg Cg 61 ⟨rc61, Tryd.f61.results.toList⟩ := by
  obtain ⟨cd, h1, h2, h3⟩ := cd61
  exact ⟨⟨_, cd, kp61, Tryd.func61, h1, h2, rfl, h3, by kernel_rfl⟩⟩
theorem cd65 : ∃ cd, Tryd.f65.body = some cd ∧ rc65 = toRC Pg Cg kp65 65 cd ∧ okC kp65 65 cd = true := ⟨_, rfl, by kernel_rfl, by kernel_rfl⟩
theorem ok65 : FOk Pg Cg 65 ⟨rc65, Tryd.f65.results.toList⟩ := by
  obtain ⟨cd, h1, h2, h3⟩ := cd65
  exact ⟨⟨_, cd, kp65, Tryd.func65, h1, h2, rfl, h3, by kernel_rfl⟩⟩
theorem cd69 : ∃ cd, Tryd.f69.body = some cd ∧ rc69 = toRC Pg Cg kp69 69 cd ∧ okC kp69 69 cd = true := ⟨_, rfl, by kernel_rfl, by kernel_rfl⟩
theorem ok69 : FOk Pg Cg 69 ⟨rc69, Tryd.f69.results.toList⟩ := by
  obtain ⟨cd, h1, h2, h3⟩ := cd69
  exact ⟨⟨_, cd, kp69, Tryd.func69, h1, h2, rfl, h3, by kernel_rfl⟩⟩
theorem cd76 : ∃ cd, Tryd.f76.body = some cd ∧ rc76 = toRC Pg Cg kp76 76 cd ∧ okC kp76 76 cd = true := ⟨_, rfl, by kernel_rfl, by kernel_rfl⟩
theorem ok76 : FOk Pg Cg 76 ⟨rc76, Tryd.f76.results.toList⟩ := by
  obtain ⟨cd, h1, h2, h3⟩ := cd76
  exact ⟨⟨_, cd, kp76, Tryd.func76, h1, h2, rfl, h3, by kernel_rfl⟩⟩
theorem cd80 : ∃ cd, Tryd.f80.body = some cd ∧ rc80 = toRC Pg Cg kp80 80 cd ∧ okC kp80 80 cd = true := ⟨_, rfl, by kernel_rfl, by kernel_rfl⟩
theorem ok80 : FOk Pg Cg 80 ⟨rc80, Tryd.f80.results.toList⟩ := by
  obtain ⟨cd, h1, h2, h3⟩ := cd80
  exact ⟨⟨_, cd, kp80, Tryd.func80, h1, h2, rfl, h3, by kernel_rfl⟩⟩
theorem cd84 : ∃ cd, Tryd.f84.body = some cd ∧ rc84 = toRC Pg Cg kp84 84 cd ∧ okC kp84 84 cd = true := ⟨_, rfl, by kernel_rfl, by kernel_rfl⟩
theorem ok84 : FOk Pg Cg 84 ⟨rc84, Tryd.f84.results.toList⟩ := by
  obtain ⟨cd, h1, h2, h3⟩ := cd84
  exact ⟨⟨_, cd, kp84, Tryd.func84, h1, h2, rfl, h3, by kernel_rfl⟩⟩
theorem cd89 : ∃ cd, Tryd.f89.body = some cd ∧ rc89 = toRC Pg Cg kp89 89 cd ∧ okC kp89 89 cd = true := ⟨_, rfl, by kernel_rfl, by kernel_rfl⟩
theorem ok89 : FOk Pg Cg 89 ⟨rc89, Tryd.f89.results.toList⟩ := by
  obtain ⟨cd, h1, h2, h3⟩ := cd89
  exact ⟨⟨_, cd, kp89, Tryd.func89, h1, h2, rfl, h3, by kernel_rfl⟩⟩
theorem cd94 : ∃ cd, Tryd.f94.body = some cd ∧ rc94 = toRC Pg Cg kp94 94 cd ∧ okC kp94 94 cd = true := ⟨_, rfl, by kernel_rfl, by kernel_rfl⟩
theorem ok94 : FOk Pg Cg 94 ⟨rc94, Tryd.f94.results.toList⟩ := by
  obtain ⟨cd, h1, h2, h3⟩ := cd94
  exact ⟨⟨_, cd, kp94, Tryd.func94, h1, h2, rfl, h3, by kernel_rfl⟩⟩
end Go.AM.S
end

section
namespace Go.AM.S
open Go Go.AM Go.Proofs
theorem tbl_ok : ∀ p ∈ tblL, FOk Pg Cg p.1 p.2 := by
  unfold tblL
  simp only [List.forall_mem_cons, List.not_mem_nil, false_imp_iff, implies_true, and_true]
  exact ⟨ok9, ok10, ok11, ok13, ok14, ok16, ok17, ok20, ok21, ok24, ok27, ok28, ok29, ok30, ok31, ok34, ok35, ok36, ok37, ok39, ok40, ok44, ok45, ok46, ok47, ok48, ok49, ok50, ok54, ok55, ok56, ok57, ok58, ok59, ok60, ok61, ok62, ok63, ok64, ok65, ok66, ok67, ok68, ok69, ok73, ok74, ok75, ok76, ok77, ok78, ok79, ok80, ok81, ok82, ok83, ok84, ok85, ok86, ok87, ok89, ok90, ok91, ok92, ok94, ok95, ok96, ok98⟩
theorem use_ok : tblL.map (·.1) = cUse := rfl
theorem seat_eq (kn : Kn) (n : Nat) : S.fn Pg kn tbl n = fnV Pg Cg kn n := by
  refine fn_eq (fun f fc h => ⟨?_, ?_⟩) (fun f h => ?_) n
  · have := lkL_mem h
    show cUse.contains f = true
    rw [← use_ok, List.contains_iff_mem]
    exact List.mem_map.2 ⟨(f, fc), this, rfl⟩
  · exact tbl_ok _ (lkL_mem h)
  · have := lkL_none h
    show cUse.contains f = false
    rw [← use_ok]
    cases hb : (tblL.map (·.1)).contains f with
    | false => rfl
    | true => exact absurd (List.contains_iff_mem.1 hb) this
end Go.AM.S
end

section
namespace Go.AM.S
open Go Go.AM Go.Proofs
set_option maxRecDepth 100000
theorem prog_ok : progOk Pg Cg = true := by kernel_rfl
end Go.AM.S
end
