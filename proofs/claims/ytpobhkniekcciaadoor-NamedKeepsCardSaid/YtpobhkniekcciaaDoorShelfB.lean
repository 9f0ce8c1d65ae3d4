/-
  DERIVED: THE SHELF's CONTRACTS AT THIS DUMP, IN PLAIN WORDS (tools/lay-plain.mjs out of 'TrydShelfB.lean', which tools/lay-shelf.mjs wrote): THE SAME DECLARATIONS UNDER THE SAME NAMES: 'import', 'namespace', 'open', 'def', 'theorem' AND NOTHING ELSE: no command of the shelf's: FOR A HAND-IN. Each laying: the table of numbers ('.._ren') and one theorem, a field a fact of the dump's own or the kernel's comparison; each contract: ONE APPLICATION.
-/
import Derived.Shelf.SlGeneric
import Derived.Ground.GgzProg
import Derived.Ground.SlgmProg
import Derived.Shelf.Spec.DecodeRune
import Derived.Shelf.SlIter.Nil
import Derived.Shelf.SortM.Plain
import Derived.Shelf.SortM.SortNone
import Derived.Test.YtpobhkniekcciaaDoorProg
namespace Go.Proofs
open Go.Shelf
def Tryd.keys79_ren : Go.Shelf.Ren := ⟨fun | 7 => 79 | 10 => 135 | n => n, fun | 23 => 128 | 26 => 9 | 3 => 42 | 28 => 133 | 0 => 0 | 27 => 132 | 33 => 188 | 4 => 4 | n => n, fun | n => n⟩
theorem Tryd.keys79 : Go.Proofs.SlLaysZ.n7 Tryd.prog Tryd.keys79_ren := {
  mixed := by kernel_rfl
  f7 := ⟨Tryd.f79.name, by decide, Tryd.func79.trans (congrArg some (by kernel_rfl))⟩
  f10 := ⟨Tryd.f135.name, by decide, Tryd.func135.trans (congrArg some (by kernel_rfl))⟩
  t0 := Tryd.underlying0
  a0 := Tryd.isAgg0
  z0 := Tryd.sizeOf0
  v0 := Tryd.zeroValue0
  t4 := Tryd.underlying4
  a4 := Tryd.isAgg4
  z4 := Tryd.sizeOf4
  v4 := Tryd.zeroValue4
  t23 := Tryd.underlying128
  a23 := Tryd.isAgg128
  z23 := Tryd.sizeOf128
  v23 := Tryd.zeroValue128
  t26 := Tryd.underlying9
  a26 := Tryd.isAgg9
  z26 := Tryd.sizeOf9
  v26 := Tryd.zeroValue9
  t27 := Tryd.underlying132
  a27 := Tryd.isAgg132
  z27 := Tryd.sizeOf132
  v27 := Tryd.zeroValue132
  t28 := Tryd.underlying133
  a28 := Tryd.isAgg133
  z28 := Tryd.sizeOf133
  v28 := Tryd.zeroValue133
  t33 := Tryd.underlying188
  a33 := Tryd.isAgg188
  z33 := Tryd.sizeOf188
  v33 := Tryd.zeroValue188 }
def Tryd.sorted78_ren : Go.Shelf.Ren := ⟨fun | 6 => 78 | 8 => 133 | 9 => 134 | 11 => 168 | 13 => 170 | 12 => 169 | 23 => 201 | 24 => 202 | 14 => 192 | 15 => 193 | 16 => 194 | 17 => 195 | 18 => 196 | 19 => 197 | 20 => 198 | 21 => 199 | 22 => 200 | 25 => 212 | 26 => 213 | 27 => 214 | 28 => 215 | 29 => 216 | 30 => 217 | 31 => 221 | n => n, fun | 26 => 9 | 28 => 133 | 24 => 23 | 0 => 0 | 3 => 3 | 37 => 229 | 48 => 254 | 50 => 218 | 4 => 4 | 40 => 248 | 39 => 247 | 45 => 230 | 5 => 5 | 9 => 9 | 51 => 268 | 55 => 116 | 57 => 273 | 58 => 274 | 33 => 188 | n => n, fun | n => n⟩
theorem Tryd.sorted78 : Go.Proofs.SlLaysZ.n6 Tryd.prog Tryd.sorted78_ren := {
  mixed := by kernel_rfl
  f6 := ⟨Tryd.f78.name, by decide, Tryd.func78.trans (congrArg some (by kernel_rfl))⟩
  f8 := ⟨Tryd.f133.name, by decide, Tryd.func133.trans (congrArg some (by kernel_rfl))⟩
  f11 := ⟨Tryd.f168.name, by decide, Tryd.func168.trans (congrArg some (by kernel_rfl))⟩
  t0 := Tryd.underlying0
  a0 := Tryd.isAgg0
  z0 := Tryd.sizeOf0
  v0 := Tryd.zeroValue0
  t24 := Tryd.underlying23
  a24 := Tryd.isAgg23
  z24 := Tryd.sizeOf23
  v24 := Tryd.zeroValue23
  t26 := Tryd.underlying9
  a26 := Tryd.isAgg9
  z26 := Tryd.sizeOf9
  v26 := Tryd.zeroValue9
  t28 := Tryd.underlying133
  a28 := Tryd.isAgg133
  z28 := Tryd.sizeOf133
  v28 := Tryd.zeroValue133
  i26 := by kernel_rfl }
def Tryd.sort134_ren : Go.Shelf.Ren := ⟨fun | 6 => 134 | 8 => 170 | 9 => 169 | 19 => 201 | 20 => 202 | 21 => 192 | 22 => 193 | 23 => 194 | 24 => 195 | 25 => 196 | 26 => 197 | 27 => 198 | 28 => 199 | 29 => 200 | 36 => 212 | 31 => 213 | 32 => 214 | 37 => 215 | 38 => 216 | 39 => 217 | 41 => 221 | n => n, fun | 27 => 23 | 29 => 9 | 3 => 3 | 32 => 229 | 26 => 23 | 0 => 0 | 44 => 254 | 46 => 218 | 4 => 4 | 36 => 248 | 35 => 247 | 41 => 230 | 5 => 5 | 9 => 9 | 53 => 268 | 57 => 116 | 63 => 273 | 64 => 274 | n => n, fun | n => n⟩
theorem Tryd.sort134 : Go.Proofs.SlLaysM.n6 Tryd.prog Tryd.sort134_ren := {
  mixed := by kernel_rfl
  f6 := ⟨Tryd.f134.name, by decide, Tryd.func134.trans (congrArg some (by kernel_rfl))⟩
  f8 := Tryd.func170.trans (congrArg some (by kernel_rfl))
  f9 := ⟨Tryd.f169.name, by decide, Tryd.func169.trans (congrArg some (by kernel_rfl))⟩
  f19 := Tryd.func201.trans (congrArg some (by kernel_rfl))
  f20 := Tryd.func202.trans (congrArg some (by kernel_rfl))
  f21 := ⟨Tryd.f192.name, by decide, Tryd.func192.trans (congrArg some (by kernel_rfl))⟩
  f22 := ⟨Tryd.f193.name, by decide, Tryd.func193.trans (congrArg some (by kernel_rfl))⟩
  f23 := ⟨Tryd.f194.name, by decide, Tryd.func194.trans (congrArg some (by kernel_rfl))⟩
  f24 := ⟨Tryd.f195.name, by decide, Tryd.func195.trans (congrArg some (by kernel_rfl))⟩
  f25 := ⟨Tryd.f196.name, by decide, Tryd.func196.trans (congrArg some (by kernel_rfl))⟩
  f26 := ⟨Tryd.f197.name, by decide, Tryd.func197.trans (congrArg some (by kernel_rfl))⟩
  f27 := ⟨Tryd.f198.name, by decide, Tryd.func198.trans (congrArg some (by kernel_rfl))⟩
  f28 := ⟨Tryd.f199.name, by decide, Tryd.func199.trans (congrArg some (by kernel_rfl))⟩
  f29 := ⟨Tryd.f200.name, by decide, Tryd.func200.trans (congrArg some (by kernel_rfl))⟩
  f31 := Tryd.func213.trans (congrArg some (by kernel_rfl))
  f32 := Tryd.func214.trans (congrArg some (by kernel_rfl))
  f36 := ⟨Tryd.f212.name, by decide, Tryd.func212.trans (congrArg some (by kernel_rfl))⟩
  f37 := ⟨Tryd.f215.name, by decide, Tryd.func215.trans (congrArg some (by kernel_rfl))⟩
  f38 := ⟨Tryd.f216.name, by decide, Tryd.func216.trans (congrArg some (by kernel_rfl))⟩
  f39 := ⟨Tryd.f217.name, by decide, Tryd.func217.trans (congrArg some (by kernel_rfl))⟩
  f41 := ⟨Tryd.f221.name, by decide, Tryd.func221.trans (congrArg some (by kernel_rfl))⟩
  t0 := Tryd.underlying0
  a0 := Tryd.isAgg0
  z0 := Tryd.sizeOf0
  v0 := Tryd.zeroValue0
  t3 := Tryd.underlying3
  a3 := Tryd.isAgg3
  z3 := Tryd.sizeOf3
  v3 := Tryd.zeroValue3
  t4 := Tryd.underlying4
  a4 := Tryd.isAgg4
  z4 := Tryd.sizeOf4
  v4 := Tryd.zeroValue4
  t5 := Tryd.underlying5
  a5 := Tryd.isAgg5
  z5 := Tryd.sizeOf5
  v5 := Tryd.zeroValue5
  t9 := Tryd.underlying9
  a9 := Tryd.isAgg9
  z9 := Tryd.sizeOf9
  v9 := Tryd.zeroValue9
  t26 := Tryd.underlying23
  a26 := Tryd.isAgg23
  z26 := Tryd.sizeOf23
  v26 := Tryd.zeroValue23
  t27 := Tryd.underlying23
  a27 := Tryd.isAgg23
  z27 := Tryd.sizeOf23
  v27 := Tryd.zeroValue23
  t29 := Tryd.underlying9
  a29 := Tryd.isAgg9
  z29 := Tryd.sizeOf9
  v29 := Tryd.zeroValue9
  t32 := Tryd.underlying229
  a32 := Tryd.isAgg229
  z32 := Tryd.sizeOf229
  v32 := Tryd.zeroValue229
  t35 := Tryd.underlying247
  a35 := Tryd.isAgg247
  z35 := Tryd.sizeOf247
  v35 := Tryd.zeroValue247
  t36 := Tryd.underlying248
  a36 := Tryd.isAgg248
  z36 := Tryd.sizeOf248
  v36 := Tryd.zeroValue248
  t41 := Tryd.underlying230
  a41 := Tryd.isAgg230
  z41 := Tryd.sizeOf230
  v41 := Tryd.zeroValue230
  t44 := Tryd.underlying254
  a44 := Tryd.isAgg254
  z44 := Tryd.sizeOf254
  v44 := Tryd.zeroValue254
  t46 := Tryd.underlying218
  a46 := Tryd.isAgg218
  z46 := Tryd.sizeOf218
  v46 := Tryd.zeroValue218
  t53 := Tryd.underlying268
  a53 := Tryd.isAgg268
  z53 := Tryd.sizeOf268
  v53 := Tryd.zeroValue268
  t57 := Tryd.underlying116
  a57 := Tryd.isAgg116
  z57 := Tryd.sizeOf116
  v57 := Tryd.zeroValue116
  t63 := Tryd.underlying273
  a63 := Tryd.isAgg273
  z63 := Tryd.sizeOf273
  v63 := Tryd.zeroValue273
  t64 := Tryd.underlying274
  a64 := Tryd.isAgg274
  z64 := Tryd.sizeOf274
  v64 := Tryd.zeroValue274 }
end Go.Proofs
