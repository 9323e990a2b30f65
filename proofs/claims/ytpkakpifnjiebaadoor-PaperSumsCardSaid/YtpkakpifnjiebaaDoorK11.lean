/-
 OWN TEXTS, MERGED (wip/merge.py): RShelf, FmtU. No condition of their own.
-/
import Derived.Shelf.SlIter.Nil
import Derived.Shelf.SortM.Plain
import Derived.Shelf.SortM.SortNone
import Derived.Ground.GgzProg
import Derived.Ground.SlgmProg
import Derived.Shelf.Strings.Builder1
import Derived.Shelf.Small.Bits
import Derived.Shelf.Strings.BuilderF
import Derived.Shelf.Strings.BuilderK
import Derived.Shelf.Strconv.Itoa0
import Derived.Shelf.Strconv.Itoa1
import Derived.Shelf.LaysM
import Derived.Shelf.Strconv.Itoa2
import Derived.Shelf.Strconv.Itoa3
import Derived.Shelf.Strings.Search1
import Derived.Shelf.Strings.Search2
import Derived.Shelf.Strings.Cut
import Derived.Shelf.Strings.Shaped
import Derived.Shelf.Sort.Plain
import Derived.Shelf.Strings.BuilderCap
import Derived.Shelf.Slices.Turned
import Derived.Shelf.Slices.In.SortNone
import Derived.Sort.KeysCollected
import Derived.KernelRfl
import Derived.Test.YtpkakpifnjiebaaDoorProg
import Derived.Test.YtpkakpifnjiebaaDoorK6
import Derived.Lib.Walk
import Derived.Lib.ItoaMem
import Derived.WalkKit
import Derived.BigCall
import Derived.BigGuard
set_option linter.unusedVariables false
set_option linter.unusedSimpArgs false
namespace Go.Proofs
open Go.Shelf
def Tryd.laysM171_ren : Go.Shelf.Ren := ⟨fun | 171 => 39 | 243 => 50 | 246 => 63 | 283 => 59 | 284 => 60 | 285 => 61 | 286 => 62 | 129 => 69 | 317 => 68 | 318 => 70 | 319 => 71 | 320 => 72 | 337 => 84 | 338 => 85 | n => n, fun | 3 => 3 | 9 => 9 | 2 => 2 | 4 => 4 | 171 => 101 | 0 => 0 | 53 => 83 | 37 => 75 | 5 => 5 | 173 => 104 | 212 => 113 | 51 => 22 | 20 => 20 | 213 => 114 | 46 => 110 | 232 => 134 | 233 => 135 | n => n, fun | 17 => 1 | 18 => 3 | 19 => 4 | n => n⟩
theorem Tryd.laysM171 : Go.Proofs.LaysM.n171 Tryd.prog Tryd.laysM171_ren := {
 mixed := by kernel_rfl
 f129 := Tryd.func69.trans (congrArg some (by kernel_rfl))
 f171 := Tryd.func39.trans (congrArg some (by kernel_rfl))
 f243 := Tryd.func50.trans (congrArg some (by kernel_rfl))
 f246 := Tryd.func63.trans (congrArg some (by kernel_rfl))
 f283 := Tryd.func59.trans (congrArg some (by kernel_rfl))
 f284 := Tryd.func60.trans (congrArg some (by kernel_rfl))
 f285 := Tryd.func61.trans (congrArg some (by kernel_rfl))
 f286 := Tryd.func62.trans (congrArg some (by kernel_rfl))
 f317 := Tryd.func68.trans (congrArg some (by kernel_rfl))
 f318 := Tryd.func70.trans (congrArg some (by kernel_rfl))
 f319 := Tryd.func71.trans (congrArg some (by kernel_rfl))
 f320 := Tryd.func72.trans (congrArg some (by kernel_rfl))
 f337 := Tryd.func84.trans (congrArg some (by kernel_rfl))
 f338 := Tryd.func85.trans (congrArg some (by kernel_rfl))
 t0 := Tryd.underlying0
 a0 := Tryd.isAgg0
 z0 := Tryd.sizeOf0
 v0 := Tryd.zeroValue0
 t2 := Tryd.underlying2
 a2 := Tryd.isAgg2
 z2 := Tryd.sizeOf2
 v2 := Tryd.zeroValue2
 t3 := Tryd.underlying3
 a3 := Tryd.isAgg3
 z3 := Tryd.sizeOf3
 v3 := Tryd.zeroValue3
 t4 := Tryd.underlying4
 a4 := Tryd.isAgg4
 z4 := Tryd.sizeOf4
 v4 := Tryd.zeroValue4
 t5 := Tryd.underlying5
 a5 := Tryd.isAgg5
 z5 := Tryd.sizeOf5
 v5 := Tryd.zeroValue5
 t9 := Tryd.underlying9
 a9 := Tryd.isAgg9
 z9 := Tryd.sizeOf9
 v9 := Tryd.zeroValue9
 t20 := Tryd.underlying20
 a20 := Tryd.isAgg20
 z20 := Tryd.sizeOf20
 v20 := Tryd.zeroValue20
 t37 := Tryd.underlying75
 a37 := Tryd.isAgg75
 z37 := Tryd.sizeOf75
 v37 := Tryd.zeroValue75
 t46 := Tryd.underlying110
 a46 := Tryd.isAgg110
 z46 := Tryd.sizeOf110
 v46 := Tryd.zeroValue110
 t51 := Tryd.underlying22
 a51 := Tryd.isAgg22
 z51 := Tryd.sizeOf22
 v51 := Tryd.zeroValue22
 t53 := Tryd.underlying83
 a53 := Tryd.isAgg83
 z53 := Tryd.sizeOf83
 v53 := Tryd.zeroValue83
 t171 := Tryd.underlying101
 a171 := Tryd.isAgg101
 z171 := Tryd.sizeOf101
 v171 := Tryd.zeroValue101
 t173 := Tryd.underlying104
 a173 := Tryd.isAgg104
 z173 := Tryd.sizeOf104
 v173 := Tryd.zeroValue104
 t212 := Tryd.underlying113
 a212 := Tryd.isAgg113
 z212 := Tryd.sizeOf113
 v212 := Tryd.zeroValue113
 t213 := Tryd.underlying114
 a213 := Tryd.isAgg114
 z213 := Tryd.sizeOf114
 t232 := Tryd.underlying134
 a232 := Tryd.isAgg134
 z232 := Tryd.sizeOf134
 v232 := Tryd.zeroValue134
 t233 := Tryd.underlying135
 a233 := Tryd.isAgg135
 z233 := Tryd.sizeOf135
 v233 := Tryd.zeroValue135
 g17 := by kernel_rfl
 g18 := by kernel_rfl
 g19 := by kernel_rfl
 i0 := by kernel_rfl
 i2 := by kernel_rfl
 i3 := by kernel_rfl
 i4 := by kernel_rfl
 i5 := by kernel_rfl
 i9 := by kernel_rfl
 i20 := by kernel_rfl
 i37 := by kernel_rfl
 i46 := by kernel_rfl
 i51 := by kernel_rfl
 i53 := by kernel_rfl
 i171 := by kernel_rfl
 i173 := by kernel_rfl
 i212 := by kernel_rfl
 i232 := by kernel_rfl
 i233 := by kernel_rfl
 m17 := by kernel_rfl
 m18 := by kernel_rfl
 m19 := by kernel_rfl }
open Go.RowKit Go.Sort Go.Lib in
theorem Tryd.strconv_Itoa (n : Int) (h0 : -9223372036854775808 ≤ n) (h1 : n ≤ 9223372036854775807) (w : World) (htab : Lib.TabIs Tryd.prog w "internal/strconv.uint64pow10" .u64 Lib.pow10Tab) :
  Calls Tryd.prog 39 #[.int .i64 n] w fun e w' => e = .returned (.string ⟨(Lib.itoa n).toArray⟩) ∧ ∃ k os, w' = grow (w.drewN k) os := Any.strconv_Itoa Tryd.laysM171 n h0 h1 w htab
def Tryd.lays219_ren : Go.Shelf.Ren := ⟨fun | 219 => 83 | 217 => 92 | 225 => 93 | 224 => 94 | 267 => 95 | 266 => 97 | 314 => 98 | n => n, fun | 9 => 9 | 3 => 3 | 4 => 4 | 5 => 5 | 46 => 110 | 146 => 139 | 51 => 22 | n => n, fun | 1 => 2 | n => n⟩
theorem Tryd.lays219 : Go.Proofs.Lays.n219 Tryd.prog Tryd.lays219_ren := {
 mixed := by kernel_rfl
 f217 := Tryd.func92.trans (congrArg some (by kernel_rfl))
 f219 := Tryd.func83.trans (congrArg some (by kernel_rfl))
 f224 := Tryd.func94.trans (congrArg some (by kernel_rfl))
 f225 := Tryd.func93.trans (congrArg some (by kernel_rfl))
 f266 := Tryd.func97.trans (congrArg some (by kernel_rfl))
 f267 := Tryd.func95.trans (congrArg some (by kernel_rfl))
 f314 := Tryd.func98.trans (congrArg some (by kernel_rfl))
 t3 := Tryd.underlying3
 a3 := Tryd.isAgg3
 z3 := Tryd.sizeOf3
 v3 := Tryd.zeroValue3
 t4 := Tryd.underlying4
 a4 := Tryd.isAgg4
 z4 := Tryd.sizeOf4
 v4 := Tryd.zeroValue4
 t5 := Tryd.underlying5
 a5 := Tryd.isAgg5
 z5 := Tryd.sizeOf5
 v5 := Tryd.zeroValue5
 t9 := Tryd.underlying9
 a9 := Tryd.isAgg9
 z9 := Tryd.sizeOf9
 v9 := Tryd.zeroValue9
 t46 := Tryd.underlying110
 a46 := Tryd.isAgg110
 z46 := Tryd.sizeOf110
 v46 := Tryd.zeroValue110
 t51 := Tryd.underlying22
 a51 := Tryd.isAgg22
 z51 := Tryd.sizeOf22
 v51 := Tryd.zeroValue22
 t146 := Tryd.underlying139
 a146 := Tryd.isAgg139
 z146 := Tryd.sizeOf139
 v146 := Tryd.zeroValue139
 g1 := by kernel_rfl }
open Go.RowKit Go.Lib in
theorem Tryd.stringslite_Index_one (s : ByteArray) (c : UInt8) (w : World) :
  Calls Tryd.prog 83 #[.string s, .string ⟨#[c]⟩] w fun e w' => e = .returned (.int .i64 (Lib.indexByte s.data.toList c)) ∧ w' = w := Any.stringslite_Index_one Tryd.lays219 s c w
def Tryd.lays283_ren : Go.Shelf.Ren := ⟨fun | 283 => 59 | n => n, fun | 3 => 3 | 9 => 9 | 4 => 4 | n => n, fun | n => n⟩
theorem Tryd.lays283 : Go.Proofs.Lays.n283 Tryd.prog Tryd.lays283_ren := {
 mixed := by kernel_rfl
 f283 := Tryd.func59.trans (congrArg some (by kernel_rfl))
 t3 := Tryd.underlying3
 a3 := Tryd.isAgg3
 z3 := Tryd.sizeOf3
 v3 := Tryd.zeroValue3
 t4 := Tryd.underlying4
 a4 := Tryd.isAgg4
 z4 := Tryd.sizeOf4
 v4 := Tryd.zeroValue4
 t9 := Tryd.underlying9
 a9 := Tryd.isAgg9
 z9 := Tryd.sizeOf9
 v9 := Tryd.zeroValue9 }
open Go.Lib in
theorem Tryd.internal_strconv_small (i : Nat) (h : i < 100) (w : World) :
  Calls Tryd.prog 59 #[.int .i64 i] w fun e w' => e = .returned (.string ⟨(Lib.decDigits i).toArray⟩) ∧ w' = w := Any.internal_strconv_small Tryd.lays283 i h w
def Tryd.laysM284_ren : Go.Shelf.Ren := ⟨fun | 284 => 60 | 129 => 69 | 317 => 68 | 318 => 70 | n => n, fun | 53 => 83 | 3 => 3 | 212 => 113 | 0 => 0 | 4 => 4 | 46 => 110 | 5 => 5 | 9 => 9 | n => n, fun | 17 => 1 | n => n⟩
theorem Tryd.laysM284 : Go.Proofs.LaysM.n284 Tryd.prog Tryd.laysM284_ren := {
 mixed := by kernel_rfl
 f129 := Tryd.func69.trans (congrArg some (by kernel_rfl))
 f284 := Tryd.func60.trans (congrArg some (by kernel_rfl))
 f317 := Tryd.func68.trans (congrArg some (by kernel_rfl))
 f318 := Tryd.func70.trans (congrArg some (by kernel_rfl))
 t0 := Tryd.underlying0
 a0 := Tryd.isAgg0
 z0 := Tryd.sizeOf0
 v0 := Tryd.zeroValue0
 t3 := Tryd.underlying3
 a3 := Tryd.isAgg3
 z3 := Tryd.sizeOf3
 v3 := Tryd.zeroValue3
 t4 := Tryd.underlying4
 a4 := Tryd.isAgg4
 z4 := Tryd.sizeOf4
 v4 := Tryd.zeroValue4
 t5 := Tryd.underlying5
 a5 := Tryd.isAgg5
 z5 := Tryd.sizeOf5
 v5 := Tryd.zeroValue5
 t9 := Tryd.underlying9
 a9 := Tryd.isAgg9
 z9 := Tryd.sizeOf9
 v9 := Tryd.zeroValue9
 t46 := Tryd.underlying110
 a46 := Tryd.isAgg110
 z46 := Tryd.sizeOf110
 v46 := Tryd.zeroValue110
 t53 := Tryd.underlying83
 a53 := Tryd.isAgg83
 z53 := Tryd.sizeOf83
 v53 := Tryd.zeroValue83
 t212 := Tryd.underlying113
 a212 := Tryd.isAgg113
 z212 := Tryd.sizeOf113
 v212 := Tryd.zeroValue113
 g17 := by kernel_rfl
 i0 := by kernel_rfl
 i3 := by kernel_rfl
 i4 := by kernel_rfl
 i5 := by kernel_rfl
 i9 := by kernel_rfl
 i46 := by kernel_rfl
 i53 := by kernel_rfl
 i212 := by kernel_rfl
 m17 := by kernel_rfl }
open Go.Lib in
theorem Tryd.internal_strconv_numDigits (u : Nat) (h1 : 1 ≤ u) (h2 : u < 18446744073709551616) (w : World) (htab : Lib.TabIs Tryd.prog w "internal/strconv.uint64pow10" .u64 Lib.pow10Tab) :
  Calls Tryd.prog 60 #[.int .u64 u] w fun e w' => e = .returned (.int .i64 (Lib.nDigits u)) ∧ w' = w := Any.internal_strconv_numDigits Tryd.laysM284 u h1 h2 w htab
def Tryd.lays285_ren : Go.Shelf.Ren := ⟨fun | 285 => 61 | n => n, fun | 37 => 75 | 53 => 83 | 3 => 3 | 4 => 4 | 51 => 22 | 9 => 9 | 5 => 5 | 0 => 0 | n => n, fun | n => n⟩
theorem Tryd.lays285 : Go.Proofs.Lays.n285 Tryd.prog Tryd.lays285_ren := {
 mixed := by kernel_rfl
 f285 := Tryd.func61.trans (congrArg some (by kernel_rfl))
 t0 := Tryd.underlying0
 a0 := Tryd.isAgg0
 z0 := Tryd.sizeOf0
 v0 := Tryd.zeroValue0
 t3 := Tryd.underlying3
 a3 := Tryd.isAgg3
 z3 := Tryd.sizeOf3
 v3 := Tryd.zeroValue3
 t4 := Tryd.underlying4
 a4 := Tryd.isAgg4
 z4 := Tryd.sizeOf4
 v4 := Tryd.zeroValue4
 t5 := Tryd.underlying5
 a5 := Tryd.isAgg5
 z5 := Tryd.sizeOf5
 v5 := Tryd.zeroValue5
 t9 := Tryd.underlying9
 a9 := Tryd.isAgg9
 z9 := Tryd.sizeOf9
 v9 := Tryd.zeroValue9
 t37 := Tryd.underlying75
 a37 := Tryd.isAgg75
 z37 := Tryd.sizeOf75
 v37 := Tryd.zeroValue75
 t51 := Tryd.underlying22
 a51 := Tryd.isAgg22
 z51 := Tryd.sizeOf22
 v51 := Tryd.zeroValue22
 t53 := Tryd.underlying83
 a53 := Tryd.isAgg83
 z53 := Tryd.sizeOf83
 v53 := Tryd.zeroValue83 }
open Go.RowKit Go.Sort Go.Lib in
theorem Tryd.internal_strconv_formatBase10 (blk off cap : Nat) (u : Nat) (d : Array UInt8) (w : World) (hH : Holds (fun (b : UInt8) => Value.int .u8 (b.toNat : Int)) w blk off d) (hu : u < 10 ^ d.size) (hu64 : u < 18446744073709551616) (hsz : d.size < 4611686018427387904) :
  Calls Tryd.prog 61 #[.slice (some ⟨blk, off, none⟩) d.size cap, .int .u64 u] w fun e w' =>
   e = .returned (.tuple #[]) ∧ ∃ (n v' : Nat) (dk : Array UInt8), w' = (putRow (fun (b : UInt8) => Value.int .u8 (b.toNat : Int)) w blk off dk).drewN n ∧ FmtInv d.size u 0 v' dk := Any.internal_strconv_formatBase10 Tryd.lays285 blk off cap u d w hH hu hu64 hsz
def Tryd.keys43_ren : Go.Shelf.Ren := ⟨fun | 7 => 43 | 10 => 54 | n => n, fun | 23 => 64 | 26 => 9 | 3 => 44 | 28 => 90 | 0 => 0 | 27 => 89 | 33 => 69 | 4 => 4 | n => n, fun | n => n⟩
theorem Tryd.keys43 : Go.Proofs.SlLaysZ.n7 Tryd.prog Tryd.keys43_ren := {
 mixed := by kernel_rfl
 f7 := ⟨Tryd.f43.name, by decide, Tryd.func43.trans (congrArg some (by kernel_rfl))⟩
 f10 := ⟨Tryd.f54.name, by decide, Tryd.func54.trans (congrArg some (by kernel_rfl))⟩
 t0 := Tryd.underlying0
 a0 := Tryd.isAgg0
 z0 := Tryd.sizeOf0
 v0 := Tryd.zeroValue0
 t4 := Tryd.underlying4
 a4 := Tryd.isAgg4
 z4 := Tryd.sizeOf4
 v4 := Tryd.zeroValue4
 t23 := Tryd.underlying64
 a23 := Tryd.isAgg64
 z23 := Tryd.sizeOf64
 v23 := Tryd.zeroValue64
 t26 := Tryd.underlying9
 a26 := Tryd.isAgg9
 z26 := Tryd.sizeOf9
 v26 := Tryd.zeroValue9
 t27 := Tryd.underlying89
 a27 := Tryd.isAgg89
 z27 := Tryd.sizeOf89
 v27 := Tryd.zeroValue89
 t28 := Tryd.underlying90
 a28 := Tryd.isAgg90
 z28 := Tryd.sizeOf90
 v28 := Tryd.zeroValue90
 t33 := Tryd.underlying69
 a33 := Tryd.isAgg69
 z33 := Tryd.sizeOf69
 v33 := Tryd.zeroValue69 }
def Tryd.sorted42_ren : Go.Shelf.Ren := ⟨fun | 6 => 42 | 8 => 52 | 9 => 53 | 11 => 64 | 13 => 66 | 12 => 65 | 23 => 82 | 24 => 69 | 14 => 73 | 15 => 74 | 16 => 75 | 17 => 76 | 18 => 77 | 19 => 78 | 20 => 79 | 21 => 80 | 22 => 81 | 25 => 86 | 26 => 87 | 27 => 88 | 28 => 89 | 29 => 90 | 30 => 91 | 31 => 96 | n => n, fun | 26 => 9 | 28 => 90 | 24 => 87 | 0 => 0 | 3 => 3 | 37 => 110 | 48 => 22 | 50 => 83 | 4 => 4 | 40 => 118 | 39 => 117 | 45 => 123 | 5 => 5 | 9 => 9 | 51 => 127 | 55 => 131 | 57 => 136 | 58 => 137 | 33 => 69 | n => n, fun | n => n⟩
theorem Tryd.sorted42 : Go.Proofs.SlLaysZ.n6 Tryd.prog Tryd.sorted42_ren := {
 mixed := by kernel_rfl
 f6 := ⟨Tryd.f42.name, by decide, Tryd.func42.trans (congrArg some (by kernel_rfl))⟩
 f8 := ⟨Tryd.f52.name, by decide, Tryd.func52.trans (congrArg some (by kernel_rfl))⟩
 f11 := ⟨Tryd.f64.name, by decide, Tryd.func64.trans (congrArg some (by kernel_rfl))⟩
 t0 := Tryd.underlying0
 a0 := Tryd.isAgg0
 z0 := Tryd.sizeOf0
 v0 := Tryd.zeroValue0
 t24 := Tryd.underlying87
 a24 := Tryd.isAgg87
 z24 := Tryd.sizeOf87
 v24 := Tryd.zeroValue87
 t26 := Tryd.underlying9
 a26 := Tryd.isAgg9
 z26 := Tryd.sizeOf9
 v26 := Tryd.zeroValue9
 t28 := Tryd.underlying90
 a28 := Tryd.isAgg90
 z28 := Tryd.sizeOf90
 v28 := Tryd.zeroValue90
 i26 := by kernel_rfl }
def Tryd.sort53_ren : Go.Shelf.Ren := ⟨fun | 6 => 53 | 8 => 66 | 9 => 65 | 19 => 82 | 20 => 69 | 21 => 73 | 22 => 74 | 23 => 75 | 24 => 76 | 25 => 77 | 26 => 78 | 27 => 79 | 28 => 80 | 29 => 81 | 36 => 86 | 31 => 87 | 32 => 88 | 37 => 89 | 38 => 90 | 39 => 91 | 41 => 96 | n => n, fun | 27 => 87 | 29 => 9 | 3 => 3 | 32 => 110 | 26 => 87 | 0 => 0 | 44 => 22 | 46 => 83 | 4 => 4 | 36 => 118 | 35 => 117 | 41 => 123 | 5 => 5 | 9 => 9 | 53 => 127 | 57 => 131 | 63 => 136 | 64 => 137 | n => n, fun | n => n⟩
theorem Tryd.sort53 : Go.Proofs.SlLaysM.n6 Tryd.prog Tryd.sort53_ren := {
 mixed := by kernel_rfl
 f6 := ⟨Tryd.f53.name, by decide, Tryd.func53.trans (congrArg some (by kernel_rfl))⟩
 f8 := Tryd.func66.trans (congrArg some (by kernel_rfl))
 f9 := ⟨Tryd.f65.name, by decide, Tryd.func65.trans (congrArg some (by kernel_rfl))⟩
 f19 := Tryd.func82.trans (congrArg some (by kernel_rfl))
 f20 := Tryd.func69.trans (congrArg some (by kernel_rfl))
 f21 := ⟨Tryd.f73.name, by decide, Tryd.func73.trans (congrArg some (by kernel_rfl))⟩
 f22 := ⟨Tryd.f74.name, by decide, Tryd.func74.trans (congrArg some (by kernel_rfl))⟩
 f23 := ⟨Tryd.f75.name, by decide, Tryd.func75.trans (congrArg some (by kernel_rfl))⟩
 f24 := ⟨Tryd.f76.name, by decide, Tryd.func76.trans (congrArg some (by kernel_rfl))⟩
 f25 := ⟨Tryd.f77.name, by decide, Tryd.func77.trans (congrArg some (by kernel_rfl))⟩
 f26 := ⟨Tryd.f78.name, by decide, Tryd.func78.trans (congrArg some (by kernel_rfl))⟩
 f27 := ⟨Tryd.f79.name, by decide, Tryd.func79.trans (congrArg some (by kernel_rfl))⟩
 f28 := ⟨Tryd.f80.name, by decide, Tryd.func80.trans (congrArg some (by kernel_rfl))⟩
 f29 := ⟨Tryd.f81.name, by decide, Tryd.func81.trans (congrArg some (by kernel_rfl))⟩
 f31 := Tryd.func87.trans (congrArg some (by kernel_rfl))
 f32 := Tryd.func88.trans (congrArg some (by kernel_rfl))
 f36 := ⟨Tryd.f86.name, by decide, Tryd.func86.trans (congrArg some (by kernel_rfl))⟩
 f37 := ⟨Tryd.f89.name, by decide, Tryd.func89.trans (congrArg some (by kernel_rfl))⟩
 f38 := ⟨Tryd.f90.name, by decide, Tryd.func90.trans (congrArg some (by kernel_rfl))⟩
 f39 := ⟨Tryd.f91.name, by decide, Tryd.func91.trans (congrArg some (by kernel_rfl))⟩
 f41 := ⟨Tryd.f96.name, by decide, Tryd.func96.trans (congrArg some (by kernel_rfl))⟩
 t0 := Tryd.underlying0
 a0 := Tryd.isAgg0
 z0 := Tryd.sizeOf0
 v0 := Tryd.zeroValue0
 t3 := Tryd.underlying3
 a3 := Tryd.isAgg3
 z3 := Tryd.sizeOf3
 v3 := Tryd.zeroValue3
 t4 := Tryd.underlying4
 a4 := Tryd.isAgg4
 z4 := Tryd.sizeOf4
 v4 := Tryd.zeroValue4
 t5 := Tryd.underlying5
 a5 := Tryd.isAgg5
 z5 := Tryd.sizeOf5
 v5 := Tryd.zeroValue5
 t9 := Tryd.underlying9
 a9 := Tryd.isAgg9
 z9 := Tryd.sizeOf9
 v9 := Tryd.zeroValue9
 t26 := Tryd.underlying87
 a26 := Tryd.isAgg87
 z26 := Tryd.sizeOf87
 v26 := Tryd.zeroValue87
 t27 := Tryd.underlying87
 a27 := Tryd.isAgg87
 z27 := Tryd.sizeOf87
 v27 := Tryd.zeroValue87
 t29 := Tryd.underlying9
 a29 := Tryd.isAgg9
 z29 := Tryd.sizeOf9
 v29 := Tryd.zeroValue9
 t32 := Tryd.underlying110
 a32 := Tryd.isAgg110
 z32 := Tryd.sizeOf110
 v32 := Tryd.zeroValue110
 t35 := Tryd.underlying117
 a35 := Tryd.isAgg117
 z35 := Tryd.sizeOf117
 v35 := Tryd.zeroValue117
 t36 := Tryd.underlying118
 a36 := Tryd.isAgg118
 z36 := Tryd.sizeOf118
 v36 := Tryd.zeroValue118
 t41 := Tryd.underlying123
 a41 := Tryd.isAgg123
 z41 := Tryd.sizeOf123
 v41 := Tryd.zeroValue123
 t44 := Tryd.underlying22
 a44 := Tryd.isAgg22
 z44 := Tryd.sizeOf22
 v44 := Tryd.zeroValue22
 t46 := Tryd.underlying83
 a46 := Tryd.isAgg83
 z46 := Tryd.sizeOf83
 v46 := Tryd.zeroValue83
 t53 := Tryd.underlying127
 a53 := Tryd.isAgg127
 z53 := Tryd.sizeOf127
 v53 := Tryd.zeroValue127
 t57 := Tryd.underlying131
 a57 := Tryd.isAgg131
 z57 := Tryd.sizeOf131
 v57 := Tryd.zeroValue131
 t63 := Tryd.underlying136
 a63 := Tryd.isAgg136
 z63 := Tryd.sizeOf136
 v63 := Tryd.zeroValue136
 t64 := Tryd.underlying137
 a64 := Tryd.isAgg137
 z64 := Tryd.sizeOf137
 v64 := Tryd.zeroValue137 }
def Tryd.laysB_ren : Go.Shelf.Ren := ⟨fun | 166 => 37 | 240 => 48 | 276 => 58 | 169 => 41 | n => n, fun | 37 => 75 | 70 => 74 | 72 => 77 | 75 => 79 | 80 => 61 | 164 => 99 | 127 => 94 | n => n, fun n => n⟩
theorem Tryd.laysB166 : Lays.n166 Tryd.prog Tryd.laysB_ren := {
 mixed := by kernel_rfl
 f166 := Tryd.func37.trans (congrArg some (by kernel_rfl))
 f240 := Tryd.func48.trans (congrArg some (by kernel_rfl))
 f276 := Tryd.func58.trans (congrArg some (by kernel_rfl))
 t0 := Tryd.underlying0
 a0 := Tryd.isAgg0
 z0 := Tryd.sizeOf0
 v0 := Tryd.zeroValue0
 t3 := Tryd.underlying3
 a3 := Tryd.isAgg3
 z3 := Tryd.sizeOf3
 v3 := Tryd.zeroValue3
 t4 := Tryd.underlying4
 a4 := Tryd.isAgg4
 z4 := Tryd.sizeOf4
 v4 := Tryd.zeroValue4
 t9 := Tryd.underlying9
 a9 := Tryd.isAgg9
 z9 := Tryd.sizeOf9
 v9 := Tryd.zeroValue9
 t20 := Tryd.underlying20
 a20 := Tryd.isAgg20
 z20 := Tryd.sizeOf20
 v20 := Tryd.zeroValue20
 t37 := Tryd.underlying75
 a37 := Tryd.isAgg75
 z37 := Tryd.sizeOf75
 v37 := Tryd.zeroValue75
 t70 := Tryd.underlying74
 a70 := Tryd.isAgg74
 z70 := Tryd.sizeOf74
 v70 := Tryd.zeroValue74
 t72 := Tryd.underlying77
 a72 := Tryd.isAgg77
 z72 := Tryd.sizeOf77
 v72 := Tryd.zeroValue77
 t75 := Tryd.underlying79
 a75 := Tryd.isAgg79
 z75 := Tryd.sizeOf79
 v75 := Tryd.zeroValue79
 t164 := Tryd.underlying99
 a164 := Tryd.isAgg99
 z164 := Tryd.sizeOf99
 v164 := Tryd.zeroValue99 }
theorem Tryd.laysB169 : Lays.n169 Tryd.prog Tryd.laysB_ren := {
 mixed := by kernel_rfl
 f169 := Tryd.func41.trans (congrArg some (by kernel_rfl))
 t0 := Tryd.underlying0
 a0 := Tryd.isAgg0
 z0 := Tryd.sizeOf0
 v0 := Tryd.zeroValue0
 t3 := Tryd.underlying3
 a3 := Tryd.isAgg3
 z3 := Tryd.sizeOf3
 v3 := Tryd.zeroValue3
 t9 := Tryd.underlying9
 a9 := Tryd.isAgg9
 z9 := Tryd.sizeOf9
 v9 := Tryd.zeroValue9
 t37 := Tryd.underlying75
 a37 := Tryd.isAgg75
 z37 := Tryd.sizeOf75
 v37 := Tryd.zeroValue75
 t70 := Tryd.underlying74
 a70 := Tryd.isAgg74
 z70 := Tryd.sizeOf74
 v70 := Tryd.zeroValue74
 t72 := Tryd.underlying77
 a72 := Tryd.isAgg77
 z72 := Tryd.sizeOf77
 v72 := Tryd.zeroValue77
 t127 := Tryd.underlying94
 a127 := Tryd.isAgg94
 z127 := Tryd.sizeOf94
 v127 := Tryd.zeroValue94 }
theorem Tryd.sorts42 (m : Nat) : AnyZ.SortsIn Tryd.prog Tryd.sorted42_ren Fence.wide m :=
 ⟨fun blk off cap ss W hH hblk hsz => Go.callsIn_wide.2 (AnyM.slices_Sort_string Tryd.sort53 blk off cap ss W hH hblk hsz),
  fun p cap W => Go.callsIn_wide.2 (AnyM.slices_Sort_string_none Tryd.sort53 p cap W)⟩
theorem Tryd.sortedC (Bm b nn : Nat) (D0 : DataW Value) (R : Value → Option (DataW Value × List MemPlace)) (w : World) (hBm : Bm < w.heap.size) (hcell : w.cell? ⟨Bm, 0, none⟩ = some (.map (some b))) (hown : w.ownsMap Tryd.prog 9 R b nn D0) (hmax : Go.Maps.size D0 ≤ maxLen) (hbytes : Go.Maps.size D0 * 16 ≤ 140737488355328) :
  Go.Calls Tryd.prog 42 #[.func (.func 54) #[] #[.pointer (some ⟨Bm, 0, none⟩)]] w fun e w' => ∃ (v : Value) (ss : List (List UInt8)), e = .returned v ∧ ss.Perm (Go.strKeys D0) ∧ w'.ownsRow w.heap.size 9 1 v ss.length ((ss.mergeSort (fun x y => decide (x ≤ y))).map encStr) ∧ (v = .slice none 0 0 ↔ ss = []) ∧ Go.RowKit.Below w.heap.size w w' :=
 (Go.callsIn_wide (n := 5)).1 (AnyZ.sorted_in Tryd.sorted42 Fence.wide 5 trivial trivial trivial trivial rfl (by omega) (Tryd.sorts42 _) (enters_of Tryd.func53 (by kernel_rfl) rfl) 54 #[.pointer (some ⟨Bm, 0, none⟩)] trivial (enters_of Tryd.func54 (by kernel_rfl) rfl) _ _ hmax hbytes _
  (AnyZ.keys_gives (ρ := Tryd.keys43_ren) { Tryd.keys43 with } Fence.wide 2 trivial rfl (by omega) Bm b nn D0 w hBm hcell hown))
theorem Tryd.sortedN (Bm : Nat) (w : World) (hBm : Bm < w.heap.size) (hcell : w.cell? ⟨Bm, 0, none⟩ = some (.map none)) :
  Go.Calls Tryd.prog 42 #[.func (.func 54) #[] #[.pointer (some ⟨Bm, 0, none⟩)]] w fun e w' => ∃ (v : Value) (ss : List (List UInt8)), e = .returned v ∧ ss = [] ∧ w'.ownsRow w.heap.size 9 1 v ss.length ((ss.mergeSort (fun x y => decide (x ≤ y))).map encStr) ∧ (v = .slice none 0 0 ↔ ss = []) ∧ Go.RowKit.Below w.heap.size w w' :=
 (Go.callsIn_wide (n := 5)).1 (AnyZ.sorted_in Tryd.sorted42 Fence.wide 5 trivial trivial trivial trivial rfl (by omega) (Tryd.sorts42 _) (enters_of Tryd.func53 (by kernel_rfl) rfl) 54 #[.pointer (some ⟨Bm, 0, none⟩)] trivial (enters_of Tryd.func54 (by kernel_rfl) rfl) _ 0 (Nat.zero_le _) (by omega) _
  (AnyZ.keys_gives_nil (ρ := Tryd.keys43_ren) { Tryd.keys43 with } Fence.wide 2 trivial rfl Bm w hBm hcell))
theorem Tryd.builderX : Builder.Extra Tryd.prog Tryd.laysB_ren where
 sizeBuilder := by kernel_rfl
 liesBuilder := by kernel_rfl
 t5 := Tryd.underlying5
 a5 := Tryd.isAgg5
 z5 := Tryd.sizeOf5
 v5 := Tryd.zeroValue5
 infoByte := by kernel_rfl
 cellsByte := by kernel_rfl
 sizeByte := by kernel_rfl
 neB5 := by decide
theorem Tryd.hb37 : WB.hasBody Tryd.prog 37 = true := by kernel_rfl
theorem Tryd.hb41 : WB.hasBody Tryd.prog 41 = true := by kernel_rfl
theorem Tryd.writeC : WB.WriteC Tryd.prog 37 77 5 := WB.writeC_of (P := Tryd.prog) (ρ := Tryd.laysB_ren) Tryd.laysB166 Tryd.builderX Tryd.hb37
theorem Tryd.stringC : WB.StringC Tryd.prog 41 77 5 := WB.stringC_of (P := Tryd.prog) (ρ := Tryd.laysB_ren) Tryd.laysB169 Tryd.builderX Tryd.hb41
end Go.Proofs
namespace Go.Proofs
open Go.Shelf Go.RowKit Go.Sort Go.Lib
theorem holds_zero0 (w : World) (T : TypeId) (nd : Nat) (hs : nd ≤ 24) : Holds (fun (b : UInt8) => Value.int .u8 (b.toNat : Int)) (w.alloc (.cells zeros24 T)) w.heap.size 0 (Array.replicate nd (0 : UInt8)) := fun j hj => by
 have hj' : j < nd := by simpa using hj
 refine ⟨?_, World.frozen?_alloc_new _ _ _ _⟩
 rw [World.cell?_alloc_new, zeros24_at _ (by omega), getElem!_pos _ j hj]
 simp
theorem fin_pos0 (w : World) (o : Obj) (dk : Array UInt8) (k : Nat) : ∃ os, (putRow (fun (b : UInt8) => Value.int .u8 (b.toNat : Int)) (w.alloc o) w.heap.size 0 dk).drewN k = grow (w.drewN k) os := by
 rw [alloc_eq_grow]
 obtain ⟨os', _, e⟩ := putRow_grow_new (fun (b : UInt8) => Value.int .u8 (b.toNat : Int)) w #[o] w.heap.size 0 dk (Nat.le_refl _)
 exact ⟨os', by rw [e]; rfl⟩
set_option maxHeartbeats 6400000 in
set_option maxRecDepth 100000 in
theorem Tryd.internal_FormatUint_10 (u : Nat) (hu64 : u < 18446744073709551616) (w : World) (htab : Lib.TabIs Tryd.prog w "internal/strconv.uint64pow10" .u64 Lib.pow10Tab) :
  Calls Tryd.prog 49 #[.int .u64 (u : Int), .int .i64 10] w fun e w' => e = .returned (.string ⟨(Lib.itoa (u : Int)).toArray⟩) ∧ ∃ k os, w' = grow (w.drewN k) os := by
 have eS : ∀ args w, (callFunc 59 args).run Tryd.prog w = .ok (.enter 59 args) w := enters_of Tryd.func59 (by kernel_rfl) rfl
 have eN : ∀ args w, (callFunc 60 args).run Tryd.prog w = .ok (.enter 60 args) w := enters_of Tryd.func60 (by kernel_rfl) rfl
 have eB : ∀ args w, (callFunc 61 args).run Tryd.prog w = .ok (.enter 61 args) w := enters_of Tryd.func61 (by kernel_rfl) rfl
 by_cases hs : u < 100
 ·have hwr : IntKind.i64.wrap (u : Int) = (u : Int) := by rw [IntKind.wrap_i64]; omega
  go_enter Tryd.func49, Tryd.ntmps49
  go_wp2_with (go_at_fn 59; refine (Tryd.internal_strconv_small u hs _).mono ?_; rintro e w' ⟨rfl, rfl⟩)
  go_ret
  refine ⟨?_, 0, #[], by simp [World.drewN_zero]⟩
  rw [Lib.itoa_nonneg]
  rfl
 ·have hu1 : 1 ≤ u := by omega
  have hnd20 : Lib.nDigits u ≤ 20 := by have := Lib.numDigits_eq u hu1 hu64; split at this <;> omega
  have hal : Tryd.prog.arrayLen 101 = 24 := by kernel_rfl
  have hsl1 : ∀ W, (Instr.sliceAt 101 (.pointer (some ⟨w.heap.size, 0, none⟩)) none (some (.int .i64 (Lib.nDigits u : Int))) none).run Tryd.prog W = .ok (.slice (some ⟨w.heap.size, 0, none⟩) (Lib.nDigits u) 24) W := fun W => by
   rw [run_sliceAt_array_h W 101 ⟨w.heap.size, 0, none⟩ (by simp [Program.arrayLen, Program.elem, Tryd.underlying101]) .i64 (Lib.nDigits u : Int) (by omega) (by rw [hal]; omega)]
   go_simp
  have hH0 := holds_zero0 w 101 (Lib.nDigits u) (by omega)
  have hfmt := Tryd.internal_strconv_formatBase10 w.heap.size 0 24 u (Array.replicate (Lib.nDigits u) 0) (w.alloc (.cells Lib.zeros24 101)) hH0 (by rw [Array.size_replicate]; exact Lib.lt_pow_nDigits u) hu64 (by rw [Array.size_replicate]; omega)
  rw [Array.size_replicate] at hfmt
  have HH0 := Lib.hid hH0
  clear hH0 hal
  go_enter Tryd.func49, Tryd.ntmps49
  go_wp2_with (first
   | (go_at_fn 60; refine (Tryd.internal_strconv_numDigits u hu1 hu64 _ (Lib.tabIs_alloc htab _)).mono ?_; rintro e w' ⟨rfl, rfl⟩))
  go_at_fn 61
  refine hfmt.mono ?_
  rintro e w' ⟨rfl, k, v', dk, rfl, hF⟩
  have hcv : (convert 75 9 (.slice (some ⟨w.heap.size, 0, none⟩) (Lib.nDigits u) 24)).run Tryd.prog ((putRow (fun (b : UInt8) => Value.int .u8 (b.toNat : Int)) (w.alloc (.cells Lib.zeros24 101)) w.heap.size 0 dk).drewN k) = .ok (.string ⟨(Lib.decDigits u).toArray⟩) ((putRow (fun (b : UInt8) => Value.int .u8 (b.toNat : Int)) (w.alloc (.cells Lib.zeros24 101)) w.heap.size 0 dk).drewN k) := by
   have h := run_convert_bytes_back (P := Tryd.prog) ((putRow (fun (b : UInt8) => Value.int .u8 (b.toNat : Int)) (w.alloc (.cells Lib.zeros24 101)) w.heap.size 0 dk).drewN k) 75 9 5 ⟨w.heap.size, 0, none⟩ 24 (Lib.decDigits u) Tryd.underlying75 Tryd.underlying5 Tryd.underlying9 (fun j hj => by
    rw [Lib.row_is_numeral hF j hj, Lib.add_plain, World.cell?_drewN]
    exact cell?_putRow (fun (b : UInt8) => Value.int .u8 (b.toNat : Int)) _ w.heap.size 0 _ dk HH0.out (by rw [hF.size, Array.size_replicate]) j (by rw [hF.size]; rw [Lib.decDigits_length] at hj; exact hj))
   rw [Lib.decDigits_length] at h
   exact h
  go_wp2
  go_ret
  obtain ⟨os, eo⟩ := fin_pos0 w (.cells Lib.zeros24 101) dk k
  refine ⟨?_, k, os, eo⟩
  rw [Lib.itoa_nonneg]
  rfl
set_option maxHeartbeats 1600000 in
theorem Tryd.strconv_FormatUint_10 (u : Nat) (hu64 : u < 18446744073709551616) (w : World) (htab : Lib.TabIs Tryd.prog w "internal/strconv.uint64pow10" .u64 Lib.pow10Tab) :
  Calls Tryd.prog 38 #[.int .u64 (u : Int), .int .i64 10] w fun e w' => e = .returned (.string ⟨(Lib.itoa (u : Int)).toArray⟩) ∧ ∃ k os, w' = grow (w.drewN k) os := by
 have eS : ∀ args w, (callFunc 49 args).run Tryd.prog w = .ok (.enter 49 args) w := enters_of Tryd.func49 (by kernel_rfl) rfl
 go_enter Tryd.func38, Tryd.ntmps38
 go_wp2_with (go_at_fn 49; refine (Tryd.internal_FormatUint_10 u hu64 _ htab).mono ?_; rintro e w' ⟨rfl, k, os, rfl⟩)
 go_ret
 exact ⟨rfl, k, os, rfl⟩
end Go.Proofs

