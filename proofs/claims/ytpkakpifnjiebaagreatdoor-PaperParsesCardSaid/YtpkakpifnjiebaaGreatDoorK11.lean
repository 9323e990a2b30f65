/-
 OWN TEXTS, MERGED (wip/merge.py): RShelf, FmtU. No condition of their own.
-/
import Derived.Shelf.SlIter.Nil
import Derived.Shelf.SortM.Plain
import Derived.Shelf.SortM.SortNone
import Derived.Ground.GgzProg
import Derived.Ground.SlgmProg
import Derived.Shelf.Strings.Builder1
import Derived.Shelf.Small.Bits
import Derived.Shelf.Strings.BuilderF
import Derived.Shelf.Strings.BuilderK
import Derived.Shelf.Utf8.RuneCount
import Derived.Shelf.Strconv.Atoi
import Derived.Shelf.Strconv.Itoa0
import Derived.Shelf.Strconv.Itoa1
import Derived.Shelf.LaysM
import Derived.Shelf.Strconv.Itoa2
import Derived.Shelf.Strconv.Itoa3
import Derived.Shelf.Strconv.AtoiErrFast
import Derived.Shelf.Strconv.ParseIntEmpty
import Derived.Shelf.Strconv.AtoiFail
import Derived.Shelf.Strconv.Clone
import Derived.Shelf.Strconv.SyntaxError
import Derived.Shelf.LaysC
import Derived.Shelf.Strconv.ToError
import Derived.Shelf.Strconv.AtoiErr
import Derived.Shelf.Strconv.ErrVar
import Derived.Shelf.Strconv.Lower
import Derived.Shelf.Strconv.ParseUint10
import Derived.Shelf.Strconv.ParseUint10Empty
import Derived.Shelf.Strconv.ParseUint10Any
import Derived.Shelf.Strconv.ParseInt10
import Derived.Shelf.Strconv.AtoiLong
import Derived.Shelf.Strconv.AtoiInnerAll
import Derived.Shelf.Strconv.RangeError
import Derived.Shelf.Strconv.ToErrorRange
import Derived.Shelf.Strconv.AtoiAll
import Derived.Shelf.Strconv.ParseUintEmpty
import Derived.Shelf.Strconv.ParseUint10b64
import Derived.Shelf.Strconv.ParseUint10b32
import Derived.Shelf.Strconv.ParseUint10b16
import Derived.Shelf.Strconv.ParseUint10b8
import Derived.Shelf.Strconv.ParseUint10At
import Derived.Shelf.Strconv.ParseInt10At64
import Derived.Shelf.Strconv.ParseInt10At32
import Derived.Shelf.Strconv.ParseInt10At16
import Derived.Shelf.Strconv.ParseInt10At8
import Derived.Shelf.Strconv.ParseInt10All
import Derived.Ground.MpProg
import Derived.Shelf.Pu.ParseUintPublic10
import Derived.Shelf.Strings.Search1
import Derived.Shelf.Strings.Search2
import Derived.Shelf.Strings.Search3
import Derived.Shelf.Strings.Cut
import Derived.Shelf.Strings.Count
import Derived.Shelf.Strings.Shaped
import Derived.Shelf.Sort.Plain
import Derived.Shelf.Strings.Split
import Derived.Shelf.Strings.SplitShaped
import Derived.Shelf.Unicode.Decode
import Derived.Shelf.Strings.RuneCount
import Derived.Shelf.Strings.Explode
import Derived.Shelf.Unicode.DecodeSlow
import Derived.Shelf.Unicode.DecodeAny
import Derived.Shelf.Strings.BuilderCap
import Derived.Shelf.Slices.Turned
import Derived.Shelf.Slices.In.SortNone
import Derived.Sort.KeysCollected
import Derived.KernelRfl
import Derived.Test.YtpkakpifnjiebaaGreatDoorProg
import Derived.Test.YtpkakpifnjiebaaGreatDoorK6
import Derived.Lib.Walk
import Derived.Lib.ItoaMem
import Derived.WalkKit
import Derived.BigCall
import Derived.BigGuard
set_option linter.unusedVariables false
set_option linter.unusedSimpArgs false
namespace Go.Proofs
open Go.Shelf
def Tryz.laysM171_ren : Go.Shelf.Ren := ⟨fun | 171 => 17 | 243 => 40 | 246 => 58 | 283 => 54 | 284 => 55 | 285 => 56 | 286 => 57 | 129 => 72 | 317 => 71 | 318 => 73 | 319 => 74 | 320 => 75 | 337 => 94 | 338 => 95 | n => n, fun | 3 => 3 | 9 => 9 | 2 => 2 | 4 => 4 | 171 => 97 | 0 => 0 | 53 => 56 | 37 => 48 | 5 => 5 | 173 => 100 | 212 => 111 | 51 => 22 | 20 => 20 | 213 => 112 | 46 => 114 | 232 => 144 | 233 => 145 | n => n, fun | 17 => 1 | 18 => 5 | 19 => 6 | n => n⟩
theorem Tryz.laysM171 : Go.Proofs.LaysM.n171 Tryz.prog Tryz.laysM171_ren := {
 mixed := by kernel_rfl
 f129 := Tryz.func72.trans (congrArg some (by kernel_rfl))
 f171 := Tryz.func17.trans (congrArg some (by kernel_rfl))
 f243 := Tryz.func40.trans (congrArg some (by kernel_rfl))
 f246 := Tryz.func58.trans (congrArg some (by kernel_rfl))
 f283 := Tryz.func54.trans (congrArg some (by kernel_rfl))
 f284 := Tryz.func55.trans (congrArg some (by kernel_rfl))
 f285 := Tryz.func56.trans (congrArg some (by kernel_rfl))
 f286 := Tryz.func57.trans (congrArg some (by kernel_rfl))
 f317 := Tryz.func71.trans (congrArg some (by kernel_rfl))
 f318 := Tryz.func73.trans (congrArg some (by kernel_rfl))
 f319 := Tryz.func74.trans (congrArg some (by kernel_rfl))
 f320 := Tryz.func75.trans (congrArg some (by kernel_rfl))
 f337 := Tryz.func94.trans (congrArg some (by kernel_rfl))
 f338 := Tryz.func95.trans (congrArg some (by kernel_rfl))
 t0 := Tryz.underlying0
 a0 := Tryz.isAgg0
 z0 := Tryz.sizeOf0
 v0 := Tryz.zeroValue0
 t2 := Tryz.underlying2
 a2 := Tryz.isAgg2
 z2 := Tryz.sizeOf2
 v2 := Tryz.zeroValue2
 t3 := Tryz.underlying3
 a3 := Tryz.isAgg3
 z3 := Tryz.sizeOf3
 v3 := Tryz.zeroValue3
 t4 := Tryz.underlying4
 a4 := Tryz.isAgg4
 z4 := Tryz.sizeOf4
 v4 := Tryz.zeroValue4
 t5 := Tryz.underlying5
 a5 := Tryz.isAgg5
 z5 := Tryz.sizeOf5
 v5 := Tryz.zeroValue5
 t9 := Tryz.underlying9
 a9 := Tryz.isAgg9
 z9 := Tryz.sizeOf9
 v9 := Tryz.zeroValue9
 t20 := Tryz.underlying20
 a20 := Tryz.isAgg20
 z20 := Tryz.sizeOf20
 v20 := Tryz.zeroValue20
 t37 := Tryz.underlying48
 a37 := Tryz.isAgg48
 z37 := Tryz.sizeOf48
 v37 := Tryz.zeroValue48
 t46 := Tryz.underlying114
 a46 := Tryz.isAgg114
 z46 := Tryz.sizeOf114
 v46 := Tryz.zeroValue114
 t51 := Tryz.underlying22
 a51 := Tryz.isAgg22
 z51 := Tryz.sizeOf22
 v51 := Tryz.zeroValue22
 t53 := Tryz.underlying56
 a53 := Tryz.isAgg56
 z53 := Tryz.sizeOf56
 v53 := Tryz.zeroValue56
 t171 := Tryz.underlying97
 a171 := Tryz.isAgg97
 z171 := Tryz.sizeOf97
 v171 := Tryz.zeroValue97
 t173 := Tryz.underlying100
 a173 := Tryz.isAgg100
 z173 := Tryz.sizeOf100
 v173 := Tryz.zeroValue100
 t212 := Tryz.underlying111
 a212 := Tryz.isAgg111
 z212 := Tryz.sizeOf111
 v212 := Tryz.zeroValue111
 t213 := Tryz.underlying112
 a213 := Tryz.isAgg112
 z213 := Tryz.sizeOf112
 t232 := Tryz.underlying144
 a232 := Tryz.isAgg144
 z232 := Tryz.sizeOf144
 v232 := Tryz.zeroValue144
 t233 := Tryz.underlying145
 a233 := Tryz.isAgg145
 z233 := Tryz.sizeOf145
 v233 := Tryz.zeroValue145
 g17 := by kernel_rfl
 g18 := by kernel_rfl
 g19 := by kernel_rfl
 i0 := by kernel_rfl
 i2 := by kernel_rfl
 i3 := by kernel_rfl
 i4 := by kernel_rfl
 i5 := by kernel_rfl
 i9 := by kernel_rfl
 i20 := by kernel_rfl
 i37 := by kernel_rfl
 i46 := by kernel_rfl
 i51 := by kernel_rfl
 i53 := by kernel_rfl
 i171 := by kernel_rfl
 i173 := by kernel_rfl
 i212 := by kernel_rfl
 i232 := by kernel_rfl
 i233 := by kernel_rfl
 m17 := by kernel_rfl
 m18 := by kernel_rfl
 m19 := by kernel_rfl }
open Go.RowKit Go.Sort Go.Lib in
theorem Tryz.strconv_Itoa (n : Int) (h0 : -9223372036854775808 ≤ n) (h1 : n ≤ 9223372036854775807) (w : World) (htab : Lib.TabIs Tryz.prog w "internal/strconv.uint64pow10" .u64 Lib.pow10Tab) :
  Calls Tryz.prog 17 #[.int .i64 n] w fun e w' => e = .returned (.string ⟨(Lib.itoa n).toArray⟩) ∧ ∃ k os, w' = grow (w.drewN k) os := Any.strconv_Itoa Tryz.laysM171 n h0 h1 w htab
def Tryz.lays219_ren : Go.Shelf.Ren := ⟨fun | 219 => 65 | 217 => 86 | 225 => 87 | 224 => 88 | 267 => 89 | 266 => 99 | 314 => 100 | n => n, fun | 9 => 9 | 3 => 3 | 4 => 4 | 5 => 5 | 46 => 114 | 146 => 134 | 51 => 22 | n => n, fun | 1 => 2 | n => n⟩
theorem Tryz.lays219 : Go.Proofs.Lays.n219 Tryz.prog Tryz.lays219_ren := {
 mixed := by kernel_rfl
 f217 := Tryz.func86.trans (congrArg some (by kernel_rfl))
 f219 := Tryz.func65.trans (congrArg some (by kernel_rfl))
 f224 := Tryz.func88.trans (congrArg some (by kernel_rfl))
 f225 := Tryz.func87.trans (congrArg some (by kernel_rfl))
 f266 := Tryz.func99.trans (congrArg some (by kernel_rfl))
 f267 := Tryz.func89.trans (congrArg some (by kernel_rfl))
 f314 := Tryz.func100.trans (congrArg some (by kernel_rfl))
 t3 := Tryz.underlying3
 a3 := Tryz.isAgg3
 z3 := Tryz.sizeOf3
 v3 := Tryz.zeroValue3
 t4 := Tryz.underlying4
 a4 := Tryz.isAgg4
 z4 := Tryz.sizeOf4
 v4 := Tryz.zeroValue4
 t5 := Tryz.underlying5
 a5 := Tryz.isAgg5
 z5 := Tryz.sizeOf5
 v5 := Tryz.zeroValue5
 t9 := Tryz.underlying9
 a9 := Tryz.isAgg9
 z9 := Tryz.sizeOf9
 v9 := Tryz.zeroValue9
 t46 := Tryz.underlying114
 a46 := Tryz.isAgg114
 z46 := Tryz.sizeOf114
 v46 := Tryz.zeroValue114
 t51 := Tryz.underlying22
 a51 := Tryz.isAgg22
 z51 := Tryz.sizeOf22
 v51 := Tryz.zeroValue22
 t146 := Tryz.underlying134
 a146 := Tryz.isAgg134
 z146 := Tryz.sizeOf134
 v146 := Tryz.zeroValue134
 g1 := by kernel_rfl }
open Go.RowKit Go.Lib in
theorem Tryz.stringslite_Index_one (s : ByteArray) (c : UInt8) (w : World) :
  Calls Tryz.prog 65 #[.string s, .string ⟨#[c]⟩] w fun e w' => e = .returned (.int .i64 (Lib.indexByte s.data.toList c)) ∧ w' = w := Any.stringslite_Index_one Tryz.lays219 s c w
def Tryz.lays283_ren : Go.Shelf.Ren := ⟨fun | 283 => 54 | n => n, fun | 3 => 3 | 9 => 9 | 4 => 4 | n => n, fun | n => n⟩
theorem Tryz.lays283 : Go.Proofs.Lays.n283 Tryz.prog Tryz.lays283_ren := {
 mixed := by kernel_rfl
 f283 := Tryz.func54.trans (congrArg some (by kernel_rfl))
 t3 := Tryz.underlying3
 a3 := Tryz.isAgg3
 z3 := Tryz.sizeOf3
 v3 := Tryz.zeroValue3
 t4 := Tryz.underlying4
 a4 := Tryz.isAgg4
 z4 := Tryz.sizeOf4
 v4 := Tryz.zeroValue4
 t9 := Tryz.underlying9
 a9 := Tryz.isAgg9
 z9 := Tryz.sizeOf9
 v9 := Tryz.zeroValue9 }
open Go.Lib in
theorem Tryz.internal_strconv_small (i : Nat) (h : i < 100) (w : World) :
  Calls Tryz.prog 54 #[.int .i64 i] w fun e w' => e = .returned (.string ⟨(Lib.decDigits i).toArray⟩) ∧ w' = w := Any.internal_strconv_small Tryz.lays283 i h w
def Tryz.laysM284_ren : Go.Shelf.Ren := ⟨fun | 284 => 55 | 129 => 72 | 317 => 71 | 318 => 73 | n => n, fun | 53 => 56 | 3 => 3 | 212 => 111 | 0 => 0 | 4 => 4 | 46 => 114 | 5 => 5 | 9 => 9 | n => n, fun | 17 => 1 | n => n⟩
theorem Tryz.laysM284 : Go.Proofs.LaysM.n284 Tryz.prog Tryz.laysM284_ren := {
 mixed := by kernel_rfl
 f129 := Tryz.func72.trans (congrArg some (by kernel_rfl))
 f284 := Tryz.func55.trans (congrArg some (by kernel_rfl))
 f317 := Tryz.func71.trans (congrArg some (by kernel_rfl))
 f318 := Tryz.func73.trans (congrArg some (by kernel_rfl))
 t0 := Tryz.underlying0
 a0 := Tryz.isAgg0
 z0 := Tryz.sizeOf0
 v0 := Tryz.zeroValue0
 t3 := Tryz.underlying3
 a3 := Tryz.isAgg3
 z3 := Tryz.sizeOf3
 v3 := Tryz.zeroValue3
 t4 := Tryz.underlying4
 a4 := Tryz.isAgg4
 z4 := Tryz.sizeOf4
 v4 := Tryz.zeroValue4
 t5 := Tryz.underlying5
 a5 := Tryz.isAgg5
 z5 := Tryz.sizeOf5
 v5 := Tryz.zeroValue5
 t9 := Tryz.underlying9
 a9 := Tryz.isAgg9
 z9 := Tryz.sizeOf9
 v9 := Tryz.zeroValue9
 t46 := Tryz.underlying114
 a46 := Tryz.isAgg114
 z46 := Tryz.sizeOf114
 v46 := Tryz.zeroValue114
 t53 := Tryz.underlying56
 a53 := Tryz.isAgg56
 z53 := Tryz.sizeOf56
 v53 := Tryz.zeroValue56
 t212 := Tryz.underlying111
 a212 := Tryz.isAgg111
 z212 := Tryz.sizeOf111
 v212 := Tryz.zeroValue111
 g17 := by kernel_rfl
 i0 := by kernel_rfl
 i3 := by kernel_rfl
 i4 := by kernel_rfl
 i5 := by kernel_rfl
 i9 := by kernel_rfl
 i46 := by kernel_rfl
 i53 := by kernel_rfl
 i212 := by kernel_rfl
 m17 := by kernel_rfl }
open Go.Lib in
theorem Tryz.internal_strconv_numDigits (u : Nat) (h1 : 1 ≤ u) (h2 : u < 18446744073709551616) (w : World) (htab : Lib.TabIs Tryz.prog w "internal/strconv.uint64pow10" .u64 Lib.pow10Tab) :
  Calls Tryz.prog 55 #[.int .u64 u] w fun e w' => e = .returned (.int .i64 (Lib.nDigits u)) ∧ w' = w := Any.internal_strconv_numDigits Tryz.laysM284 u h1 h2 w htab
def Tryz.lays285_ren : Go.Shelf.Ren := ⟨fun | 285 => 56 | n => n, fun | 37 => 48 | 53 => 56 | 3 => 3 | 4 => 4 | 51 => 22 | 9 => 9 | 5 => 5 | 0 => 0 | n => n, fun | n => n⟩
theorem Tryz.lays285 : Go.Proofs.Lays.n285 Tryz.prog Tryz.lays285_ren := {
 mixed := by kernel_rfl
 f285 := Tryz.func56.trans (congrArg some (by kernel_rfl))
 t0 := Tryz.underlying0
 a0 := Tryz.isAgg0
 z0 := Tryz.sizeOf0
 v0 := Tryz.zeroValue0
 t3 := Tryz.underlying3
 a3 := Tryz.isAgg3
 z3 := Tryz.sizeOf3
 v3 := Tryz.zeroValue3
 t4 := Tryz.underlying4
 a4 := Tryz.isAgg4
 z4 := Tryz.sizeOf4
 v4 := Tryz.zeroValue4
 t5 := Tryz.underlying5
 a5 := Tryz.isAgg5
 z5 := Tryz.sizeOf5
 v5 := Tryz.zeroValue5
 t9 := Tryz.underlying9
 a9 := Tryz.isAgg9
 z9 := Tryz.sizeOf9
 v9 := Tryz.zeroValue9
 t37 := Tryz.underlying48
 a37 := Tryz.isAgg48
 z37 := Tryz.sizeOf48
 v37 := Tryz.zeroValue48
 t51 := Tryz.underlying22
 a51 := Tryz.isAgg22
 z51 := Tryz.sizeOf22
 v51 := Tryz.zeroValue22
 t53 := Tryz.underlying56
 a53 := Tryz.isAgg56
 z53 := Tryz.sizeOf56
 v53 := Tryz.zeroValue56 }
open Go.RowKit Go.Sort Go.Lib in
theorem Tryz.internal_strconv_formatBase10 (blk off cap : Nat) (u : Nat) (d : Array UInt8) (w : World) (hH : Holds (fun (b : UInt8) => Value.int .u8 (b.toNat : Int)) w blk off d) (hu : u < 10 ^ d.size) (hu64 : u < 18446744073709551616) (hsz : d.size < 4611686018427387904) :
  Calls Tryz.prog 56 #[.slice (some ⟨blk, off, none⟩) d.size cap, .int .u64 u] w fun e w' =>
   e = .returned (.tuple #[]) ∧ ∃ (n v' : Nat) (dk : Array UInt8), w' = (putRow (fun (b : UInt8) => Value.int .u8 (b.toNat : Int)) w blk off dk).drewN n ∧ FmtInv d.size u 0 v' dk := Any.internal_strconv_formatBase10 Tryz.lays285 blk off cap u d w hH hu hu64 hsz
def Tryz.keys51_ren : Go.Shelf.Ren := ⟨fun | 7 => 51 | 10 => 70 | n => n, fun | 23 => 79 | 26 => 9 | 3 => 41 | 28 => 92 | 0 => 0 | 27 => 91 | 33 => 39 | 4 => 4 | n => n, fun | n => n⟩
theorem Tryz.keys51 : Go.Proofs.SlLaysZ.n7 Tryz.prog Tryz.keys51_ren := {
 mixed := by kernel_rfl
 f7 := ⟨Tryz.f51.name, by decide, Tryz.func51.trans (congrArg some (by kernel_rfl))⟩
 f10 := ⟨Tryz.f70.name, by decide, Tryz.func70.trans (congrArg some (by kernel_rfl))⟩
 t0 := Tryz.underlying0
 a0 := Tryz.isAgg0
 z0 := Tryz.sizeOf0
 v0 := Tryz.zeroValue0
 t4 := Tryz.underlying4
 a4 := Tryz.isAgg4
 z4 := Tryz.sizeOf4
 v4 := Tryz.zeroValue4
 t23 := Tryz.underlying79
 a23 := Tryz.isAgg79
 z23 := Tryz.sizeOf79
 v23 := Tryz.zeroValue79
 t26 := Tryz.underlying9
 a26 := Tryz.isAgg9
 z26 := Tryz.sizeOf9
 v26 := Tryz.zeroValue9
 t27 := Tryz.underlying91
 a27 := Tryz.isAgg91
 z27 := Tryz.sizeOf91
 v27 := Tryz.zeroValue91
 t28 := Tryz.underlying92
 a28 := Tryz.isAgg92
 z28 := Tryz.sizeOf92
 v28 := Tryz.zeroValue92
 t33 := Tryz.underlying39
 a33 := Tryz.isAgg39
 z33 := Tryz.sizeOf39
 v33 := Tryz.zeroValue39 }
def Tryz.sorted50_ren : Go.Shelf.Ren := ⟨fun | 6 => 50 | 8 => 68 | 9 => 69 | 11 => 91 | 13 => 93 | 12 => 92 | 23 => 110 | 24 => 72 | 14 => 101 | 15 => 102 | 16 => 103 | 17 => 104 | 18 => 105 | 19 => 106 | 20 => 107 | 21 => 108 | 22 => 109 | 25 => 111 | 26 => 112 | 27 => 113 | 28 => 114 | 29 => 115 | 30 => 116 | 31 => 117 | n => n, fun | 26 => 9 | 28 => 92 | 24 => 62 | 0 => 0 | 3 => 3 | 37 => 114 | 48 => 22 | 50 => 56 | 4 => 4 | 40 => 138 | 39 => 137 | 45 => 72 | 5 => 5 | 9 => 9 | 51 => 153 | 55 => 157 | 57 => 159 | 58 => 160 | 33 => 39 | n => n, fun | n => n⟩
theorem Tryz.sorted50 : Go.Proofs.SlLaysZ.n6 Tryz.prog Tryz.sorted50_ren := {
 mixed := by kernel_rfl
 f6 := ⟨Tryz.f50.name, by decide, Tryz.func50.trans (congrArg some (by kernel_rfl))⟩
 f8 := ⟨Tryz.f68.name, by decide, Tryz.func68.trans (congrArg some (by kernel_rfl))⟩
 f11 := ⟨Tryz.f91.name, by decide, Tryz.func91.trans (congrArg some (by kernel_rfl))⟩
 t0 := Tryz.underlying0
 a0 := Tryz.isAgg0
 z0 := Tryz.sizeOf0
 v0 := Tryz.zeroValue0
 t24 := Tryz.underlying62
 a24 := Tryz.isAgg62
 z24 := Tryz.sizeOf62
 v24 := Tryz.zeroValue62
 t26 := Tryz.underlying9
 a26 := Tryz.isAgg9
 z26 := Tryz.sizeOf9
 v26 := Tryz.zeroValue9
 t28 := Tryz.underlying92
 a28 := Tryz.isAgg92
 z28 := Tryz.sizeOf92
 v28 := Tryz.zeroValue92
 i26 := by kernel_rfl }
def Tryz.sort69_ren : Go.Shelf.Ren := ⟨fun | 6 => 69 | 8 => 93 | 9 => 92 | 19 => 110 | 20 => 72 | 21 => 101 | 22 => 102 | 23 => 103 | 24 => 104 | 25 => 105 | 26 => 106 | 27 => 107 | 28 => 108 | 29 => 109 | 36 => 111 | 31 => 112 | 32 => 113 | 37 => 114 | 38 => 115 | 39 => 116 | 41 => 117 | n => n, fun | 27 => 62 | 29 => 9 | 3 => 3 | 32 => 114 | 26 => 62 | 0 => 0 | 44 => 22 | 46 => 56 | 4 => 4 | 36 => 138 | 35 => 137 | 41 => 72 | 5 => 5 | 9 => 9 | 53 => 153 | 57 => 157 | 63 => 159 | 64 => 160 | n => n, fun | n => n⟩
theorem Tryz.sort69 : Go.Proofs.SlLaysM.n6 Tryz.prog Tryz.sort69_ren := {
 mixed := by kernel_rfl
 f6 := ⟨Tryz.f69.name, by decide, Tryz.func69.trans (congrArg some (by kernel_rfl))⟩
 f8 := Tryz.func93.trans (congrArg some (by kernel_rfl))
 f9 := ⟨Tryz.f92.name, by decide, Tryz.func92.trans (congrArg some (by kernel_rfl))⟩
 f19 := Tryz.func110.trans (congrArg some (by kernel_rfl))
 f20 := Tryz.func72.trans (congrArg some (by kernel_rfl))
 f21 := ⟨Tryz.f101.name, by decide, Tryz.func101.trans (congrArg some (by kernel_rfl))⟩
 f22 := ⟨Tryz.f102.name, by decide, Tryz.func102.trans (congrArg some (by kernel_rfl))⟩
 f23 := ⟨Tryz.f103.name, by decide, Tryz.func103.trans (congrArg some (by kernel_rfl))⟩
 f24 := ⟨Tryz.f104.name, by decide, Tryz.func104.trans (congrArg some (by kernel_rfl))⟩
 f25 := ⟨Tryz.f105.name, by decide, Tryz.func105.trans (congrArg some (by kernel_rfl))⟩
 f26 := ⟨Tryz.f106.name, by decide, Tryz.func106.trans (congrArg some (by kernel_rfl))⟩
 f27 := ⟨Tryz.f107.name, by decide, Tryz.func107.trans (congrArg some (by kernel_rfl))⟩
 f28 := ⟨Tryz.f108.name, by decide, Tryz.func108.trans (congrArg some (by kernel_rfl))⟩
 f29 := ⟨Tryz.f109.name, by decide, Tryz.func109.trans (congrArg some (by kernel_rfl))⟩
 f31 := Tryz.func112.trans (congrArg some (by kernel_rfl))
 f32 := Tryz.func113.trans (congrArg some (by kernel_rfl))
 f36 := ⟨Tryz.f111.name, by decide, Tryz.func111.trans (congrArg some (by kernel_rfl))⟩
 f37 := ⟨Tryz.f114.name, by decide, Tryz.func114.trans (congrArg some (by kernel_rfl))⟩
 f38 := ⟨Tryz.f115.name, by decide, Tryz.func115.trans (congrArg some (by kernel_rfl))⟩
 f39 := ⟨Tryz.f116.name, by decide, Tryz.func116.trans (congrArg some (by kernel_rfl))⟩
 f41 := ⟨Tryz.f117.name, by decide, Tryz.func117.trans (congrArg some (by kernel_rfl))⟩
 t0 := Tryz.underlying0
 a0 := Tryz.isAgg0
 z0 := Tryz.sizeOf0
 v0 := Tryz.zeroValue0
 t3 := Tryz.underlying3
 a3 := Tryz.isAgg3
 z3 := Tryz.sizeOf3
 v3 := Tryz.zeroValue3
 t4 := Tryz.underlying4
 a4 := Tryz.isAgg4
 z4 := Tryz.sizeOf4
 v4 := Tryz.zeroValue4
 t5 := Tryz.underlying5
 a5 := Tryz.isAgg5
 z5 := Tryz.sizeOf5
 v5 := Tryz.zeroValue5
 t9 := Tryz.underlying9
 a9 := Tryz.isAgg9
 z9 := Tryz.sizeOf9
 v9 := Tryz.zeroValue9
 t26 := Tryz.underlying62
 a26 := Tryz.isAgg62
 z26 := Tryz.sizeOf62
 v26 := Tryz.zeroValue62
 t27 := Tryz.underlying62
 a27 := Tryz.isAgg62
 z27 := Tryz.sizeOf62
 v27 := Tryz.zeroValue62
 t29 := Tryz.underlying9
 a29 := Tryz.isAgg9
 z29 := Tryz.sizeOf9
 v29 := Tryz.zeroValue9
 t32 := Tryz.underlying114
 a32 := Tryz.isAgg114
 z32 := Tryz.sizeOf114
 v32 := Tryz.zeroValue114
 t35 := Tryz.underlying137
 a35 := Tryz.isAgg137
 z35 := Tryz.sizeOf137
 v35 := Tryz.zeroValue137
 t36 := Tryz.underlying138
 a36 := Tryz.isAgg138
 z36 := Tryz.sizeOf138
 v36 := Tryz.zeroValue138
 t41 := Tryz.underlying72
 a41 := Tryz.isAgg72
 z41 := Tryz.sizeOf72
 v41 := Tryz.zeroValue72
 t44 := Tryz.underlying22
 a44 := Tryz.isAgg22
 z44 := Tryz.sizeOf22
 v44 := Tryz.zeroValue22
 t46 := Tryz.underlying56
 a46 := Tryz.isAgg56
 z46 := Tryz.sizeOf56
 v46 := Tryz.zeroValue56
 t53 := Tryz.underlying153
 a53 := Tryz.isAgg153
 z53 := Tryz.sizeOf153
 v53 := Tryz.zeroValue153
 t57 := Tryz.underlying157
 a57 := Tryz.isAgg157
 z57 := Tryz.sizeOf157
 v57 := Tryz.zeroValue157
 t63 := Tryz.underlying159
 a63 := Tryz.isAgg159
 z63 := Tryz.sizeOf159
 v63 := Tryz.zeroValue159
 t64 := Tryz.underlying160
 a64 := Tryz.isAgg160
 z64 := Tryz.sizeOf160
 v64 := Tryz.zeroValue160 }
def Tryz.lays138_ren : Go.Shelf.Ren := ⟨fun | 138 => 60 | 195 => 76 | 218 => 78 | 143 => 61 | 219 => 65 | 217 => 86 | 225 => 87 | 224 => 88 | 267 => 89 | 266 => 99 | 314 => 100 | n => n, fun | 9 => 9 | 3 => 3 | 4 => 4 | 5 => 5 | 0 => 0 | 46 => 114 | 146 => 134 | 51 => 22 | n => n, fun | 1 => 2 | n => n⟩
theorem Tryz.lays138 : Go.Proofs.Lays.n138 Tryz.prog Tryz.lays138_ren := {
 mixed := by kernel_rfl
 f138 := Tryz.func60.trans (congrArg some (by kernel_rfl))
 f143 := Tryz.func61.trans (congrArg some (by kernel_rfl))
 f195 := Tryz.func76.trans (congrArg some (by kernel_rfl))
 f217 := Tryz.func86.trans (congrArg some (by kernel_rfl))
 f218 := Tryz.func78.trans (congrArg some (by kernel_rfl))
 f219 := Tryz.func65.trans (congrArg some (by kernel_rfl))
 f224 := Tryz.func88.trans (congrArg some (by kernel_rfl))
 f225 := Tryz.func87.trans (congrArg some (by kernel_rfl))
 f266 := Tryz.func99.trans (congrArg some (by kernel_rfl))
 f267 := Tryz.func89.trans (congrArg some (by kernel_rfl))
 f314 := Tryz.func100.trans (congrArg some (by kernel_rfl))
 t0 := Tryz.underlying0
 a0 := Tryz.isAgg0
 z0 := Tryz.sizeOf0
 v0 := Tryz.zeroValue0
 t3 := Tryz.underlying3
 a3 := Tryz.isAgg3
 z3 := Tryz.sizeOf3
 v3 := Tryz.zeroValue3
 t4 := Tryz.underlying4
 a4 := Tryz.isAgg4
 z4 := Tryz.sizeOf4
 v4 := Tryz.zeroValue4
 t5 := Tryz.underlying5
 a5 := Tryz.isAgg5
 z5 := Tryz.sizeOf5
 v5 := Tryz.zeroValue5
 t9 := Tryz.underlying9
 a9 := Tryz.isAgg9
 z9 := Tryz.sizeOf9
 v9 := Tryz.zeroValue9
 t46 := Tryz.underlying114
 a46 := Tryz.isAgg114
 z46 := Tryz.sizeOf114
 v46 := Tryz.zeroValue114
 t51 := Tryz.underlying22
 a51 := Tryz.isAgg22
 z51 := Tryz.sizeOf22
 v51 := Tryz.zeroValue22
 t146 := Tryz.underlying134
 a146 := Tryz.isAgg134
 z146 := Tryz.sizeOf134
 v146 := Tryz.zeroValue134
 g1 := by kernel_rfl }
open Go.RowKit Go.Lib in
theorem Tryz.strings_Count_one (s : ByteArray) (c : UInt8) (w : World) :
  Calls Tryz.prog 60 #[.string s, .string ⟨#[c]⟩] w fun e w' => e = .returned (.int .i64 (Lib.countByte s.data.toList c)) ∧ w' = w := Any.strings_Count_one Tryz.lays138 s c w
def Tryz.laysPu14_ren : Go.Shelf.Ren := ⟨fun | 14 => 45 | 16 => 62 | 17 => 63 | 19 => 79 | 20 => 80 | 21 => 81 | 22 => 82 | 23 => 83 | 24 => 84 | 25 => 97 | 27 => 17 | 26 => 98 | 28 => 40 | 29 => 58 | 30 => 54 | 31 => 55 | 32 => 56 | 33 => 57 | 35 => 72 | 34 => 71 | 36 => 73 | 37 => 74 | 38 => 75 | 39 => 94 | 40 => 95 | n => n, fun | 9 => 9 | 3 => 3 | 22 => 56 | 24 => 52 | 25 => 85 | 4 => 4 | 34 => 120 | 5 => 5 | 36 => 114 | 37 => 48 | 0 => 0 | 39 => 122 | 21 => 21 | 44 => 132 | 47 => 83 | 50 => 152 | 48 => 150 | 2 => 2 | 52 => 97 | 55 => 100 | 59 => 111 | 60 => 22 | 20 => 20 | 61 => 112 | 65 => 144 | 66 => 145 | 67 => 27 | n => n, fun | 0 => 3 | 1 => 4 | 2 => 1 | 3 => 5 | 4 => 6 | n => n⟩
theorem Tryz.laysPu14 : Go.Proofs.LaysPu.n14 Tryz.prog Tryz.laysPu14_ren := {
 mixed := by kernel_rfl
 f14 := Tryz.func45.trans (congrArg some (by kernel_rfl))
 f16 := Tryz.func62.trans (congrArg some (by kernel_rfl))
 f17 := Tryz.func63.trans (congrArg some (by kernel_rfl))
 f19 := Tryz.func79.trans (congrArg some (by kernel_rfl))
 f20 := Tryz.func80.trans (congrArg some (by kernel_rfl))
 f21 := Tryz.func81.trans (congrArg some (by kernel_rfl))
 f22 := Tryz.func82.trans (congrArg some (by kernel_rfl))
 f23 := Tryz.func83.trans (congrArg some (by kernel_rfl))
 f24 := Tryz.func84.trans (congrArg some (by kernel_rfl))
 f25 := Tryz.func97.trans (congrArg some (by kernel_rfl))
 f26 := Tryz.func98.trans (congrArg some (by kernel_rfl))
 f27 := Tryz.func17.trans (congrArg some (by kernel_rfl))
 f28 := Tryz.func40.trans (congrArg some (by kernel_rfl))
 f29 := Tryz.func58.trans (congrArg some (by kernel_rfl))
 f30 := Tryz.func54.trans (congrArg some (by kernel_rfl))
 f31 := Tryz.func55.trans (congrArg some (by kernel_rfl))
 f32 := Tryz.func56.trans (congrArg some (by kernel_rfl))
 f33 := Tryz.func57.trans (congrArg some (by kernel_rfl))
 f34 := Tryz.func71.trans (congrArg some (by kernel_rfl))
 f35 := Tryz.func72.trans (congrArg some (by kernel_rfl))
 f36 := Tryz.func73.trans (congrArg some (by kernel_rfl))
 f37 := Tryz.func74.trans (congrArg some (by kernel_rfl))
 f38 := Tryz.func75.trans (congrArg some (by kernel_rfl))
 f39 := Tryz.func94.trans (congrArg some (by kernel_rfl))
 f40 := Tryz.func95.trans (congrArg some (by kernel_rfl))
 t0 := Tryz.underlying0
 a0 := Tryz.isAgg0
 z0 := Tryz.sizeOf0
 v0 := Tryz.zeroValue0
 i0 := by kernel_rfl
 t2 := Tryz.underlying2
 a2 := Tryz.isAgg2
 z2 := Tryz.sizeOf2
 v2 := Tryz.zeroValue2
 i2 := by kernel_rfl
 t3 := Tryz.underlying3
 a3 := Tryz.isAgg3
 z3 := Tryz.sizeOf3
 v3 := Tryz.zeroValue3
 i3 := by kernel_rfl
 t4 := Tryz.underlying4
 a4 := Tryz.isAgg4
 z4 := Tryz.sizeOf4
 v4 := Tryz.zeroValue4
 i4 := by kernel_rfl
 t5 := Tryz.underlying5
 a5 := Tryz.isAgg5
 z5 := Tryz.sizeOf5
 v5 := Tryz.zeroValue5
 i5 := by kernel_rfl
 t9 := Tryz.underlying9
 a9 := Tryz.isAgg9
 z9 := Tryz.sizeOf9
 v9 := Tryz.zeroValue9
 i9 := by kernel_rfl
 t20 := Tryz.underlying20
 a20 := Tryz.isAgg20
 z20 := Tryz.sizeOf20
 v20 := Tryz.zeroValue20
 i20 := by kernel_rfl
 t21 := Tryz.underlying21
 a21 := Tryz.isAgg21
 z21 := Tryz.sizeOf21
 v21 := Tryz.zeroValue21
 i21 := by kernel_rfl
 t22 := Tryz.underlying56
 a22 := Tryz.isAgg56
 z22 := Tryz.sizeOf56
 v22 := Tryz.zeroValue56
 i22 := by kernel_rfl
 t24 := Tryz.underlying52
 a24 := Tryz.isAgg52
 z24 := Tryz.sizeOf52
 v24 := Tryz.zeroValue52
 i24 := by kernel_rfl
 t25 := Tryz.underlying85
 a25 := Tryz.isAgg85
 z25 := Tryz.sizeOf85
 v25 := Tryz.zeroValue85
 i25 := by kernel_rfl
 t34 := Tryz.underlying120
 a34 := Tryz.isAgg120
 z34 := Tryz.sizeOf120
 v34 := Tryz.zeroValue120
 i34 := by kernel_rfl
 c34 := by kernel_rfl
 t36 := Tryz.underlying114
 a36 := Tryz.isAgg114
 z36 := Tryz.sizeOf114
 v36 := Tryz.zeroValue114
 i36 := by kernel_rfl
 t37 := Tryz.underlying48
 a37 := Tryz.isAgg48
 z37 := Tryz.sizeOf48
 v37 := Tryz.zeroValue48
 i37 := by kernel_rfl
 t39 := Tryz.underlying122
 a39 := Tryz.isAgg122
 z39 := Tryz.sizeOf122
 v39 := Tryz.zeroValue122
 i39 := by kernel_rfl
 t44 := Tryz.underlying132
 a44 := Tryz.isAgg132
 z44 := Tryz.sizeOf132
 v44 := Tryz.zeroValue132
 i44 := by kernel_rfl
 t47 := Tryz.underlying83
 a47 := Tryz.isAgg83
 z47 := Tryz.sizeOf83
 v47 := Tryz.zeroValue83
 i47 := by kernel_rfl
 t48 := Tryz.underlying150
 a48 := Tryz.isAgg150
 z48 := Tryz.sizeOf150
 v48 := Tryz.zeroValue150
 i48 := by kernel_rfl
 t50 := Tryz.underlying152
 a50 := Tryz.isAgg152
 z50 := Tryz.sizeOf152
 v50 := Tryz.zeroValue152
 i50 := by kernel_rfl
 t52 := Tryz.underlying97
 a52 := Tryz.isAgg97
 z52 := Tryz.sizeOf97
 v52 := Tryz.zeroValue97
 i52 := by kernel_rfl
 t55 := Tryz.underlying100
 a55 := Tryz.isAgg100
 z55 := Tryz.sizeOf100
 v55 := Tryz.zeroValue100
 i55 := by kernel_rfl
 t59 := Tryz.underlying111
 a59 := Tryz.isAgg111
 z59 := Tryz.sizeOf111
 v59 := Tryz.zeroValue111
 i59 := by kernel_rfl
 t60 := Tryz.underlying22
 a60 := Tryz.isAgg22
 z60 := Tryz.sizeOf22
 v60 := Tryz.zeroValue22
 i60 := by kernel_rfl
 t61 := Tryz.underlying112
 a61 := Tryz.isAgg112
 z61 := Tryz.sizeOf112
 t65 := Tryz.underlying144
 a65 := Tryz.isAgg144
 z65 := Tryz.sizeOf144
 v65 := Tryz.zeroValue144
 i65 := by kernel_rfl
 t66 := Tryz.underlying145
 a66 := Tryz.isAgg145
 z66 := Tryz.sizeOf145
 v66 := Tryz.zeroValue145
 i66 := by kernel_rfl
 t67 := Tryz.underlying27
 a67 := Tryz.isAgg27
 z67 := Tryz.sizeOf27
 v67 := Tryz.zeroValue27
 i67 := by kernel_rfl
 g0 := by kernel_rfl
 m0 := by kernel_rfl
 g1 := by kernel_rfl
 m1 := by kernel_rfl
 g2 := by kernel_rfl
 m2 := by kernel_rfl
 g3 := by kernel_rfl
 m3 := by kernel_rfl
 g4 := by kernel_rfl
 m4 := by kernel_rfl }
open Go.RowKit in
theorem Tryz.strconv_ParseUint_10_at32_ok (s : ByteArray) (hmax : s.size ≤ 9223372036854775806) (u : Nat) (h : Lib.parseUintB 32 s.data.toList = .ok u) (w : World) :
  Calls Tryz.prog 45 #[.string s, .int .i64 10, .int .i64 32] w fun e w' => e = .returned (.tuple #[.int .u64 u, .nilIface]) ∧ (w' = w ∨ w' = Lib.bytesWorld w 5 s) := Any.strconv_ParseUint_10_at32_ok Tryz.laysPu14 s hmax u h w
open Go.RowKit in
theorem Tryz.strconv_ParseUint_10_at32_syntax (s : ByteArray) (hlim : s.size ≤ 281474976710656) (h : Lib.parseUintB 32 s.data.toList = Lib.NumEnd.syntax) (ev : Value) (w : World) (hv : w.cell? ⟨3, 0, none⟩ = some ev) (hev : ev = .nilIface ∨ ∃ te pe, ev = .iface te pe) :
  Calls Tryz.prog 45 #[.string s, .int .i64 10, .int .i64 32] w fun e w' => ∃ N, e = .returned (.tuple #[.int .u64 0, .iface 122 (.pointer (some ⟨N, 0, none⟩))]) ∧ w.heap.size ≤ N ∧ w'.heap[N]? = some (.cells #[.string ⟨#[80, 97, 114, 115, 101, 85, 105, 110, 116]⟩, .string s, ev] 132 (0, 0)) ∧ Below w.heap.size w w' := Any.strconv_ParseUint_10_at32_syntax Tryz.laysPu14 s hlim h ev w hv hev
open Go.RowKit in
theorem Tryz.strconv_ParseUint_10_at32_range (s : ByteArray) (hlim : s.size ≤ 281474976710656) (h : Lib.parseUintB 32 s.data.toList = .range) (ev : Value) (w : World) (hv : w.cell? ⟨4, 0, none⟩ = some ev) (hev : ev = .nilIface ∨ ∃ te pe, ev = .iface te pe) :
  Calls Tryz.prog 45 #[.string s, .int .i64 10, .int .i64 32] w fun e w' => ∃ N, e = .returned (.tuple #[.int .u64 4294967295, .iface 122 (.pointer (some ⟨N, 0, none⟩))]) ∧ w.heap.size ≤ N ∧ w'.heap[N]? = some (.cells #[.string ⟨#[80, 97, 114, 115, 101, 85, 105, 110, 116]⟩, .string s, ev] 132 (0, 0)) ∧ Below w.heap.size w w' := Any.strconv_ParseUint_10_at32_range Tryz.laysPu14 s hlim h ev w hv hev
def Tryz.laysC172_ren : Go.Shelf.Ren := ⟨fun | 172 => 46 | 244 => 64 | 245 => 63 | 247 => 85 | 279 => 81 | 280 => 82 | 281 => 83 | 282 => 84 | 287 => 62 | 316 => 97 | 171 => 17 | 205 => 98 | 321 => 79 | 322 => 80 | 243 => 40 | 246 => 58 | 283 => 54 | 284 => 55 | 285 => 56 | 286 => 57 | 129 => 72 | 317 => 71 | 318 => 73 | 319 => 74 | 320 => 75 | 337 => 94 | 338 => 95 | n => n, fun | 9 => 9 | 3 => 3 | 75 => 52 | 76 => 53 | 4 => 4 | 5 => 5 | 167 => 120 | 37 => 48 | 0 => 0 | 85 => 125 | 2 => 2 | 168 => 122 | 53 => 56 | 175 => 85 | 46 => 114 | 210 => 132 | 127 => 83 | 145 => 152 | 143 => 150 | 21 => 21 | 171 => 97 | 173 => 100 | 212 => 111 | 51 => 22 | 20 => 20 | 213 => 112 | 232 => 144 | 233 => 145 | 80 => 27 | n => n, fun | 15 => 3 | 16 => 4 | 17 => 1 | 18 => 5 | 19 => 6 | n => n⟩
theorem Tryz.laysC172 : Go.Proofs.LaysC.n172 Tryz.prog Tryz.laysC172_ren := {
 mixed := by kernel_rfl
 f129 := Tryz.func72.trans (congrArg some (by kernel_rfl))
 f171 := Tryz.func17.trans (congrArg some (by kernel_rfl))
 f172 := Tryz.func46.trans (congrArg some (by kernel_rfl))
 f205 := Tryz.func98.trans (congrArg some (by kernel_rfl))
 f243 := Tryz.func40.trans (congrArg some (by kernel_rfl))
 f244 := Tryz.func64.trans (congrArg some (by kernel_rfl))
 f245 := Tryz.func63.trans (congrArg some (by kernel_rfl))
 f246 := Tryz.func58.trans (congrArg some (by kernel_rfl))
 f247 := Tryz.func85.trans (congrArg some (by kernel_rfl))
 f279 := Tryz.func81.trans (congrArg some (by kernel_rfl))
 f280 := Tryz.func82.trans (congrArg some (by kernel_rfl))
 f281 := Tryz.func83.trans (congrArg some (by kernel_rfl))
 f282 := Tryz.func84.trans (congrArg some (by kernel_rfl))
 f283 := Tryz.func54.trans (congrArg some (by kernel_rfl))
 f284 := Tryz.func55.trans (congrArg some (by kernel_rfl))
 f285 := Tryz.func56.trans (congrArg some (by kernel_rfl))
 f286 := Tryz.func57.trans (congrArg some (by kernel_rfl))
 f287 := Tryz.func62.trans (congrArg some (by kernel_rfl))
 f316 := Tryz.func97.trans (congrArg some (by kernel_rfl))
 f317 := Tryz.func71.trans (congrArg some (by kernel_rfl))
 f318 := Tryz.func73.trans (congrArg some (by kernel_rfl))
 f319 := Tryz.func74.trans (congrArg some (by kernel_rfl))
 f320 := Tryz.func75.trans (congrArg some (by kernel_rfl))
 f321 := Tryz.func79.trans (congrArg some (by kernel_rfl))
 f322 := Tryz.func80.trans (congrArg some (by kernel_rfl))
 f337 := Tryz.func94.trans (congrArg some (by kernel_rfl))
 f338 := Tryz.func95.trans (congrArg some (by kernel_rfl))
 t0 := Tryz.underlying0
 a0 := Tryz.isAgg0
 z0 := Tryz.sizeOf0
 v0 := Tryz.zeroValue0
 t2 := Tryz.underlying2
 a2 := Tryz.isAgg2
 z2 := Tryz.sizeOf2
 v2 := Tryz.zeroValue2
 t3 := Tryz.underlying3
 a3 := Tryz.isAgg3
 z3 := Tryz.sizeOf3
 v3 := Tryz.zeroValue3
 t4 := Tryz.underlying4
 a4 := Tryz.isAgg4
 z4 := Tryz.sizeOf4
 v4 := Tryz.zeroValue4
 t5 := Tryz.underlying5
 a5 := Tryz.isAgg5
 z5 := Tryz.sizeOf5
 v5 := Tryz.zeroValue5
 t9 := Tryz.underlying9
 a9 := Tryz.isAgg9
 z9 := Tryz.sizeOf9
 v9 := Tryz.zeroValue9
 t20 := Tryz.underlying20
 a20 := Tryz.isAgg20
 z20 := Tryz.sizeOf20
 v20 := Tryz.zeroValue20
 t21 := Tryz.underlying21
 a21 := Tryz.isAgg21
 z21 := Tryz.sizeOf21
 v21 := Tryz.zeroValue21
 t37 := Tryz.underlying48
 a37 := Tryz.isAgg48
 z37 := Tryz.sizeOf48
 v37 := Tryz.zeroValue48
 t46 := Tryz.underlying114
 a46 := Tryz.isAgg114
 z46 := Tryz.sizeOf114
 v46 := Tryz.zeroValue114
 t51 := Tryz.underlying22
 a51 := Tryz.isAgg22
 z51 := Tryz.sizeOf22
 v51 := Tryz.zeroValue22
 t53 := Tryz.underlying56
 a53 := Tryz.isAgg56
 z53 := Tryz.sizeOf56
 v53 := Tryz.zeroValue56
 t75 := Tryz.underlying52
 a75 := Tryz.isAgg52
 z75 := Tryz.sizeOf52
 v75 := Tryz.zeroValue52
 t76 := Tryz.underlying53
 a76 := Tryz.isAgg53
 z76 := Tryz.sizeOf53
 v76 := Tryz.zeroValue53
 t85 := Tryz.underlying125
 a85 := Tryz.isAgg125
 z85 := Tryz.sizeOf125
 v85 := Tryz.zeroValue125
 t127 := Tryz.underlying83
 a127 := Tryz.isAgg83
 z127 := Tryz.sizeOf83
 v127 := Tryz.zeroValue83
 t143 := Tryz.underlying150
 a143 := Tryz.isAgg150
 z143 := Tryz.sizeOf150
 v143 := Tryz.zeroValue150
 t145 := Tryz.underlying152
 a145 := Tryz.isAgg152
 z145 := Tryz.sizeOf152
 v145 := Tryz.zeroValue152
 t167 := Tryz.underlying120
 a167 := Tryz.isAgg120
 z167 := Tryz.sizeOf120
 v167 := Tryz.zeroValue120
 t168 := Tryz.underlying122
 a168 := Tryz.isAgg122
 z168 := Tryz.sizeOf122
 v168 := Tryz.zeroValue122
 t171 := Tryz.underlying97
 a171 := Tryz.isAgg97
 z171 := Tryz.sizeOf97
 v171 := Tryz.zeroValue97
 t173 := Tryz.underlying100
 a173 := Tryz.isAgg100
 z173 := Tryz.sizeOf100
 v173 := Tryz.zeroValue100
 t175 := Tryz.underlying85
 a175 := Tryz.isAgg85
 z175 := Tryz.sizeOf85
 v175 := Tryz.zeroValue85
 t210 := Tryz.underlying132
 a210 := Tryz.isAgg132
 z210 := Tryz.sizeOf132
 v210 := Tryz.zeroValue132
 t212 := Tryz.underlying111
 a212 := Tryz.isAgg111
 z212 := Tryz.sizeOf111
 v212 := Tryz.zeroValue111
 t213 := Tryz.underlying112
 a213 := Tryz.isAgg112
 z213 := Tryz.sizeOf112
 t232 := Tryz.underlying144
 a232 := Tryz.isAgg144
 z232 := Tryz.sizeOf144
 v232 := Tryz.zeroValue144
 t233 := Tryz.underlying145
 a233 := Tryz.isAgg145
 z233 := Tryz.sizeOf145
 v233 := Tryz.zeroValue145
 g15 := by kernel_rfl
 g16 := by kernel_rfl
 g17 := by kernel_rfl
 g18 := by kernel_rfl
 g19 := by kernel_rfl
 t80 := Tryz.underlying27
 a80 := Tryz.isAgg27
 z80 := Tryz.sizeOf27
 v80 := Tryz.zeroValue27
 i0 := by kernel_rfl
 i2 := by kernel_rfl
 i3 := by kernel_rfl
 i4 := by kernel_rfl
 i5 := by kernel_rfl
 i9 := by kernel_rfl
 i20 := by kernel_rfl
 i21 := by kernel_rfl
 i37 := by kernel_rfl
 i46 := by kernel_rfl
 i51 := by kernel_rfl
 i53 := by kernel_rfl
 i75 := by kernel_rfl
 i76 := by kernel_rfl
 i80 := by kernel_rfl
 i85 := by kernel_rfl
 i127 := by kernel_rfl
 i143 := by kernel_rfl
 i145 := by kernel_rfl
 i167 := by kernel_rfl
 i168 := by kernel_rfl
 i171 := by kernel_rfl
 i173 := by kernel_rfl
 i175 := by kernel_rfl
 i210 := by kernel_rfl
 i212 := by kernel_rfl
 i232 := by kernel_rfl
 i233 := by kernel_rfl
 m15 := by kernel_rfl
 m16 := by kernel_rfl
 m17 := by kernel_rfl
 m18 := by kernel_rfl
 m19 := by kernel_rfl
 c0 := by kernel_rfl
 c2 := by kernel_rfl
 c3 := by kernel_rfl
 c4 := by kernel_rfl
 c5 := by kernel_rfl
 c9 := by kernel_rfl
 c20 := by kernel_rfl
 c21 := by kernel_rfl
 c37 := by kernel_rfl
 c46 := by kernel_rfl
 c51 := by kernel_rfl
 c53 := by kernel_rfl
 c75 := by kernel_rfl
 c76 := by kernel_rfl
 c80 := by kernel_rfl
 c85 := by kernel_rfl
 c127 := by kernel_rfl
 c143 := by kernel_rfl
 c145 := by kernel_rfl
 c167 := by kernel_rfl
 c168 := by kernel_rfl
 c171 := by kernel_rfl
 c173 := by kernel_rfl
 c175 := by kernel_rfl
 c210 := by kernel_rfl
 c212 := by kernel_rfl
 c213 := by kernel_rfl
 c232 := by kernel_rfl
 c233 := by kernel_rfl }
open Go.RowKit in
theorem Tryz.strconv_Atoi_ok (s : ByteArray) (hmax : s.size ≤ 9223372036854775806) (v : Int) (h : Lib.atoiAll s.data.toList = .ok v) (w : World) :
  Calls Tryz.prog 46 #[.string s] w fun e w' => e = .returned (.tuple #[.int .i64 v, .nilIface]) ∧ (w' = w ∨ ∃ t, w' = Lib.bytesWorld w 5 t) := Any.strconv_Atoi_ok Tryz.laysC172 s hmax v h w
open Go.RowKit in
theorem Tryz.strconv_Atoi_syntax (s : ByteArray) (hlim : s.size ≤ 281474976710656) (h : Lib.atoiAll s.data.toList = Lib.NumEnd.syntax) (ev : Value) (w : World) (hv : w.cell? ⟨3, 0, none⟩ = some ev) (hev : ev = .nilIface ∨ ∃ te pe, ev = .iface te pe) :
  Calls Tryz.prog 46 #[.string s] w fun e w' => ∃ N, e = .returned (.tuple #[.int .i64 (0), .iface 122 (.pointer (some ⟨N, 0, none⟩))]) ∧ w.heap.size ≤ N ∧ w'.heap[N]? = some (.cells #[.string ⟨#[65, 116, 111, 105]⟩, .string s, ev] 132 (0, 0)) ∧ Below w.heap.size w w' := Any.strconv_Atoi_syntax Tryz.laysC172 s hlim h ev w hv hev
open Go.RowKit in
theorem Tryz.strconv_Atoi_range (s : ByteArray) (hlim : s.size ≤ 281474976710656) (h : Lib.atoiAll s.data.toList = .range) (ev : Value) (w : World) (hv : w.cell? ⟨4, 0, none⟩ = some ev) (hev : ev = .nilIface ∨ ∃ te pe, ev = .iface te pe) :
  Calls Tryz.prog 46 #[.string s] w fun e w' => ∃ N, e = .returned (.tuple #[.int .i64 (Lib.atoiSat s.data.toList), .iface 122 (.pointer (some ⟨N, 0, none⟩))]) ∧ w.heap.size ≤ N ∧ w'.heap[N]? = some (.cells #[.string ⟨#[65, 116, 111, 105]⟩, .string s, ev] 132 (0, 0)) ∧ Below w.heap.size w w' := Any.strconv_Atoi_range Tryz.laysC172 s hlim h ev w hv hev
def Tryz.laysB_ren : Go.Shelf.Ren := ⟨fun | 166 => 15 | 240 => 38 | 276 => 53 | 169 => 19 | n => n, fun | 37 => 48 | 70 => 47 | 72 => 50 | 75 => 52 | 80 => 27 | 164 => 95 | 127 => 83 | n => n, fun n => n⟩
theorem Tryz.laysB166 : Lays.n166 Tryz.prog Tryz.laysB_ren := {
 mixed := by kernel_rfl
 f166 := Tryz.func15.trans (congrArg some (by kernel_rfl))
 f240 := Tryz.func38.trans (congrArg some (by kernel_rfl))
 f276 := Tryz.func53.trans (congrArg some (by kernel_rfl))
 t0 := Tryz.underlying0
 a0 := Tryz.isAgg0
 z0 := Tryz.sizeOf0
 v0 := Tryz.zeroValue0
 t3 := Tryz.underlying3
 a3 := Tryz.isAgg3
 z3 := Tryz.sizeOf3
 v3 := Tryz.zeroValue3
 t4 := Tryz.underlying4
 a4 := Tryz.isAgg4
 z4 := Tryz.sizeOf4
 v4 := Tryz.zeroValue4
 t9 := Tryz.underlying9
 a9 := Tryz.isAgg9
 z9 := Tryz.sizeOf9
 v9 := Tryz.zeroValue9
 t20 := Tryz.underlying20
 a20 := Tryz.isAgg20
 z20 := Tryz.sizeOf20
 v20 := Tryz.zeroValue20
 t37 := Tryz.underlying48
 a37 := Tryz.isAgg48
 z37 := Tryz.sizeOf48
 v37 := Tryz.zeroValue48
 t70 := Tryz.underlying47
 a70 := Tryz.isAgg47
 z70 := Tryz.sizeOf47
 v70 := Tryz.zeroValue47
 t72 := Tryz.underlying50
 a72 := Tryz.isAgg50
 z72 := Tryz.sizeOf50
 v72 := Tryz.zeroValue50
 t75 := Tryz.underlying52
 a75 := Tryz.isAgg52
 z75 := Tryz.sizeOf52
 v75 := Tryz.zeroValue52
 t164 := Tryz.underlying95
 a164 := Tryz.isAgg95
 z164 := Tryz.sizeOf95
 v164 := Tryz.zeroValue95 }
theorem Tryz.laysB169 : Lays.n169 Tryz.prog Tryz.laysB_ren := {
 mixed := by kernel_rfl
 f169 := Tryz.func19.trans (congrArg some (by kernel_rfl))
 t0 := Tryz.underlying0
 a0 := Tryz.isAgg0
 z0 := Tryz.sizeOf0
 v0 := Tryz.zeroValue0
 t3 := Tryz.underlying3
 a3 := Tryz.isAgg3
 z3 := Tryz.sizeOf3
 v3 := Tryz.zeroValue3
 t9 := Tryz.underlying9
 a9 := Tryz.isAgg9
 z9 := Tryz.sizeOf9
 v9 := Tryz.zeroValue9
 t37 := Tryz.underlying48
 a37 := Tryz.isAgg48
 z37 := Tryz.sizeOf48
 v37 := Tryz.zeroValue48
 t70 := Tryz.underlying47
 a70 := Tryz.isAgg47
 z70 := Tryz.sizeOf47
 v70 := Tryz.zeroValue47
 t72 := Tryz.underlying50
 a72 := Tryz.isAgg50
 z72 := Tryz.sizeOf50
 v72 := Tryz.zeroValue50
 t127 := Tryz.underlying83
 a127 := Tryz.isAgg83
 z127 := Tryz.sizeOf83
 v127 := Tryz.zeroValue83 }
theorem Tryz.sorts50 (m : Nat) : AnyZ.SortsIn Tryz.prog Tryz.sorted50_ren Fence.wide m :=
 ⟨fun blk off cap ss W hH hblk hsz => Go.callsIn_wide.2 (AnyM.slices_Sort_string Tryz.sort69 blk off cap ss W hH hblk hsz),
  fun p cap W => Go.callsIn_wide.2 (AnyM.slices_Sort_string_none Tryz.sort69 p cap W)⟩
theorem Tryz.sortedC (Bm b nn : Nat) (D0 : DataW Value) (R : Value → Option (DataW Value × List MemPlace)) (w : World) (hBm : Bm < w.heap.size) (hcell : w.cell? ⟨Bm, 0, none⟩ = some (.map (some b))) (hown : w.ownsMap Tryz.prog 9 R b nn D0) (hmax : Go.Maps.size D0 ≤ maxLen) (hbytes : Go.Maps.size D0 * 16 ≤ 140737488355328) :
  Go.Calls Tryz.prog 50 #[.func (.func 70) #[] #[.pointer (some ⟨Bm, 0, none⟩)]] w fun e w' => ∃ (v : Value) (ss : List (List UInt8)), e = .returned v ∧ ss.Perm (Go.strKeys D0) ∧ w'.ownsRow w.heap.size 9 1 v ss.length ((ss.mergeSort (fun x y => decide (x ≤ y))).map encStr) ∧ (v = .slice none 0 0 ↔ ss = []) ∧ Go.RowKit.Below w.heap.size w w' :=
 (Go.callsIn_wide (n := 5)).1 (AnyZ.sorted_in Tryz.sorted50 Fence.wide 5 trivial trivial trivial trivial rfl (by omega) (Tryz.sorts50 _) (enters_of Tryz.func69 (by kernel_rfl) rfl) 70 #[.pointer (some ⟨Bm, 0, none⟩)] trivial (enters_of Tryz.func70 (by kernel_rfl) rfl) _ _ hmax hbytes _
  (AnyZ.keys_gives (ρ := Tryz.keys51_ren) { Tryz.keys51 with } Fence.wide 2 trivial rfl (by omega) Bm b nn D0 w hBm hcell hown))
theorem Tryz.sortedN (Bm : Nat) (w : World) (hBm : Bm < w.heap.size) (hcell : w.cell? ⟨Bm, 0, none⟩ = some (.map none)) :
  Go.Calls Tryz.prog 50 #[.func (.func 70) #[] #[.pointer (some ⟨Bm, 0, none⟩)]] w fun e w' => ∃ (v : Value) (ss : List (List UInt8)), e = .returned v ∧ ss = [] ∧ w'.ownsRow w.heap.size 9 1 v ss.length ((ss.mergeSort (fun x y => decide (x ≤ y))).map encStr) ∧ (v = .slice none 0 0 ↔ ss = []) ∧ Go.RowKit.Below w.heap.size w w' :=
 (Go.callsIn_wide (n := 5)).1 (AnyZ.sorted_in Tryz.sorted50 Fence.wide 5 trivial trivial trivial trivial rfl (by omega) (Tryz.sorts50 _) (enters_of Tryz.func69 (by kernel_rfl) rfl) 70 #[.pointer (some ⟨Bm, 0, none⟩)] trivial (enters_of Tryz.func70 (by kernel_rfl) rfl) _ 0 (Nat.zero_le _) (by omega) _
  (AnyZ.keys_gives_nil (ρ := Tryz.keys51_ren) { Tryz.keys51 with } Fence.wide 2 trivial rfl Bm w hBm hcell))
theorem Tryz.builderX : Builder.Extra Tryz.prog Tryz.laysB_ren where
 sizeBuilder := by kernel_rfl
 liesBuilder := by kernel_rfl
 t5 := Tryz.underlying5
 a5 := Tryz.isAgg5
 z5 := Tryz.sizeOf5
 v5 := Tryz.zeroValue5
 infoByte := by kernel_rfl
 cellsByte := by kernel_rfl
 sizeByte := by kernel_rfl
 neB5 := by decide
theorem Tryz.hb15 : WB.hasBody Tryz.prog 15 = true := by kernel_rfl
theorem Tryz.hb19 : WB.hasBody Tryz.prog 19 = true := by kernel_rfl
theorem Tryz.writeC : WB.WriteC Tryz.prog 15 50 5 := WB.writeC_of (P := Tryz.prog) (ρ := Tryz.laysB_ren) Tryz.laysB166 Tryz.builderX Tryz.hb15
theorem Tryz.stringC : WB.StringC Tryz.prog 19 50 5 := WB.stringC_of (P := Tryz.prog) (ρ := Tryz.laysB_ren) Tryz.laysB169 Tryz.builderX Tryz.hb19
end Go.Proofs
namespace Go.Proofs
open Go.Shelf Go.RowKit Go.Sort Go.Lib
theorem holds_zero0 (w : World) (T : TypeId) (nd : Nat) (hs : nd ≤ 24) : Holds (fun (b : UInt8) => Value.int .u8 (b.toNat : Int)) (w.alloc (.cells zeros24 T)) w.heap.size 0 (Array.replicate nd (0 : UInt8)) := fun j hj => by
 have hj' : j < nd := by simpa using hj
 refine ⟨?_, World.frozen?_alloc_new _ _ _ _⟩
 rw [World.cell?_alloc_new, zeros24_at _ (by omega), getElem!_pos _ j hj]
 simp
theorem fin_pos0 (w : World) (o : Obj) (dk : Array UInt8) (k : Nat) : ∃ os, (putRow (fun (b : UInt8) => Value.int .u8 (b.toNat : Int)) (w.alloc o) w.heap.size 0 dk).drewN k = grow (w.drewN k) os := by
 rw [alloc_eq_grow]
 obtain ⟨os', _, e⟩ := putRow_grow_new (fun (b : UInt8) => Value.int .u8 (b.toNat : Int)) w #[o] w.heap.size 0 dk (Nat.le_refl _)
 exact ⟨os', by rw [e]; rfl⟩
set_option maxHeartbeats 6400000 in
set_option maxRecDepth 100000 in
theorem Tryz.internal_FormatUint_10 (u : Nat) (hu64 : u < 18446744073709551616) (w : World) (htab : Lib.TabIs Tryz.prog w "internal/strconv.uint64pow10" .u64 Lib.pow10Tab) :
  Calls Tryz.prog 39 #[.int .u64 (u : Int), .int .i64 10] w fun e w' => e = .returned (.string ⟨(Lib.itoa (u : Int)).toArray⟩) ∧ ∃ k os, w' = grow (w.drewN k) os := by
 have eS : ∀ args w, (callFunc 54 args).run Tryz.prog w = .ok (.enter 54 args) w := enters_of Tryz.func54 (by kernel_rfl) rfl
 have eN : ∀ args w, (callFunc 55 args).run Tryz.prog w = .ok (.enter 55 args) w := enters_of Tryz.func55 (by kernel_rfl) rfl
 have eB : ∀ args w, (callFunc 56 args).run Tryz.prog w = .ok (.enter 56 args) w := enters_of Tryz.func56 (by kernel_rfl) rfl
 by_cases hs : u < 100
 ·have hwr : IntKind.i64.wrap (u : Int) = (u : Int) := by rw [IntKind.wrap_i64]; omega
  go_enter Tryz.func39, Tryz.ntmps39
  go_wp2_with (go_at_fn 54; refine (Tryz.internal_strconv_small u hs _).mono ?_; rintro e w' ⟨rfl, rfl⟩)
  go_ret
  refine ⟨?_, 0, #[], by simp [World.drewN_zero]⟩
  rw [Lib.itoa_nonneg]
  rfl
 ·have hu1 : 1 ≤ u := by omega
  have hnd20 : Lib.nDigits u ≤ 20 := by have := Lib.numDigits_eq u hu1 hu64; split at this <;> omega
  have hal : Tryz.prog.arrayLen 97 = 24 := by kernel_rfl
  have hsl1 : ∀ W, (Instr.sliceAt 97 (.pointer (some ⟨w.heap.size, 0, none⟩)) none (some (.int .i64 (Lib.nDigits u : Int))) none).run Tryz.prog W = .ok (.slice (some ⟨w.heap.size, 0, none⟩) (Lib.nDigits u) 24) W := fun W => by
   rw [run_sliceAt_array_h W 97 ⟨w.heap.size, 0, none⟩ (by simp [Program.arrayLen, Program.elem, Tryz.underlying97]) .i64 (Lib.nDigits u : Int) (by omega) (by rw [hal]; omega)]
   go_simp
  have hH0 := holds_zero0 w 97 (Lib.nDigits u) (by omega)
  have hfmt := Tryz.internal_strconv_formatBase10 w.heap.size 0 24 u (Array.replicate (Lib.nDigits u) 0) (w.alloc (.cells Lib.zeros24 97)) hH0 (by rw [Array.size_replicate]; exact Lib.lt_pow_nDigits u) hu64 (by rw [Array.size_replicate]; omega)
  rw [Array.size_replicate] at hfmt
  have HH0 := Lib.hid hH0
  clear hH0 hal
  go_enter Tryz.func39, Tryz.ntmps39
  go_wp2_with (first
   | (go_at_fn 55; refine (Tryz.internal_strconv_numDigits u hu1 hu64 _ (Lib.tabIs_alloc htab _)).mono ?_; rintro e w' ⟨rfl, rfl⟩))
  go_at_fn 56
  refine hfmt.mono ?_
  rintro e w' ⟨rfl, k, v', dk, rfl, hF⟩
  have hcv : (convert 48 9 (.slice (some ⟨w.heap.size, 0, none⟩) (Lib.nDigits u) 24)).run Tryz.prog ((putRow (fun (b : UInt8) => Value.int .u8 (b.toNat : Int)) (w.alloc (.cells Lib.zeros24 97)) w.heap.size 0 dk).drewN k) = .ok (.string ⟨(Lib.decDigits u).toArray⟩) ((putRow (fun (b : UInt8) => Value.int .u8 (b.toNat : Int)) (w.alloc (.cells Lib.zeros24 97)) w.heap.size 0 dk).drewN k) := by
   have h := run_convert_bytes_back (P := Tryz.prog) ((putRow (fun (b : UInt8) => Value.int .u8 (b.toNat : Int)) (w.alloc (.cells Lib.zeros24 97)) w.heap.size 0 dk).drewN k) 48 9 5 ⟨w.heap.size, 0, none⟩ 24 (Lib.decDigits u) Tryz.underlying48 Tryz.underlying5 Tryz.underlying9 (fun j hj => by
    rw [Lib.row_is_numeral hF j hj, Lib.add_plain, World.cell?_drewN]
    exact cell?_putRow (fun (b : UInt8) => Value.int .u8 (b.toNat : Int)) _ w.heap.size 0 _ dk HH0.out (by rw [hF.size, Array.size_replicate]) j (by rw [hF.size]; rw [Lib.decDigits_length] at hj; exact hj))
   rw [Lib.decDigits_length] at h
   exact h
  go_wp2
  go_ret
  obtain ⟨os, eo⟩ := fin_pos0 w (.cells Lib.zeros24 97) dk k
  refine ⟨?_, k, os, eo⟩
  rw [Lib.itoa_nonneg]
  rfl
set_option maxHeartbeats 1600000 in
theorem Tryz.strconv_FormatUint_10 (u : Nat) (hu64 : u < 18446744073709551616) (w : World) (htab : Lib.TabIs Tryz.prog w "internal/strconv.uint64pow10" .u64 Lib.pow10Tab) :
  Calls Tryz.prog 16 #[.int .u64 (u : Int), .int .i64 10] w fun e w' => e = .returned (.string ⟨(Lib.itoa (u : Int)).toArray⟩) ∧ ∃ k os, w' = grow (w.drewN k) os := by
 have eS : ∀ args w, (callFunc 39 args).run Tryz.prog w = .ok (.enter 39 args) w := enters_of Tryz.func39 (by kernel_rfl) rfl
 go_enter Tryz.func16, Tryz.ntmps16
 go_wp2_with (go_at_fn 39; refine (Tryz.internal_FormatUint_10 u hu64 _ htab).mono ?_; rintro e w' ⟨rfl, k, os, rfl⟩)
 go_ret
 exact ⟨rfl, k, os, rfl⟩
end Go.Proofs

