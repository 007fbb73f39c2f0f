/-
  DERIVED: THE SHELF's CONTRACTS AT THIS DUMP, IN PLAIN WORDS (tools/lay-plain.mjs out of 'YtillcmhjhajimaaGreatDoorShelf.lean', which tools/lay-shelf.mjs wrote): THE SAME DECLARATIONS UNDER THE SAME NAMES: 'import', 'namespace', 'open', 'def', 'theorem' AND NOTHING ELSE: no command of the shelf's: FOR A HAND-IN. Each laying: the table of numbers ('.._ren') and one theorem, a field a fact of the dump's own or the kernel's comparison; each contract: ONE APPLICATION.
-/
import Derived.Shelf.SlGeneric
import Derived.Shelf.SlSortCmp.WholeK
import Derived.Shelf.SlSortCmp.NoneTotal
import Derived.Shelf.SlicesQ.IndexFunc
import Derived.Shelf.SlicesQ.Equal
import Derived.Shelf.SlicesE.Clone
import Derived.Shelf.Small.Wraps
import Derived.Shelf.Strings.Prefix
import Derived.Shelf.Slices.Turned
import Derived.Shelf.Slices.CompactI
import Derived.Ground.SlsfProg
import Derived.Ground.SlgfProg
import Derived.Ground.SlgqProg
import Derived.Ground.SlgnProg
import Derived.Ground.NamesProg
import Derived.Ground.Names2Prog
import Derived.Test.YtillcmhjhajimaaGreatDoorProg
namespace Go.Proofs
open Go.Shelf
def Tryz.lays122_ren : Go.Shelf.Ren := ⟨fun | 122 => 152 | 215 => 177 | n => n, fun | 3 => 3 | 4 => 4 | n => n, fun | n => n⟩
theorem Tryz.lays122 : Go.Proofs.Lays.n122 Tryz.prog Tryz.lays122_ren := {
  mixed := by kernel_rfl
  f122 := Tryz.func152.trans (congrArg some (by kernel_rfl))
  f215 := Tryz.func177.trans (congrArg some (by kernel_rfl))
  t3 := Tryz.underlying3
  a3 := Tryz.isAgg3
  z3 := Tryz.sizeOf3
  v3 := Tryz.zeroValue3
  t4 := Tryz.underlying4
  a4 := Tryz.isAgg4
  z4 := Tryz.sizeOf4
  v4 := Tryz.zeroValue4 }
def Tryz.lays189_ren : Go.Shelf.Ren := ⟨fun | 189 => 173 | 125 => 176 | 257 => 180 | 128 => 189 | 129 => 190 | 294 => 192 | 295 => 193 | 296 => 194 | 297 => 195 | 298 => 196 | 299 => 197 | 216 => 198 | 300 => 199 | 301 => 200 | 328 => 207 | 329 => 202 | 330 => 203 | 331 => 208 | 332 => 209 | 215 => 177 | 343 => 211 | n => n, fun | 28 => 22 | 3 => 3 | 46 => 210 | 0 => 0 | 51 => 224 | 53 => 26 | 4 => 4 | 183 => 217 | 182 => 216 | 131 => 221 | 5 => 5 | 9 => 9 | 218 => 231 | 222 => 234 | 228 => 238 | 229 => 239 | n => n, fun | n => n⟩
theorem Tryz.lays189 : Go.Proofs.Lays.n189 Tryz.prog Tryz.lays189_ren := {
  mixed := by kernel_rfl
  f125 := Tryz.func176.trans (congrArg some (by kernel_rfl))
  f128 := Tryz.func189.trans (congrArg some (by kernel_rfl))
  f129 := Tryz.func190.trans (congrArg some (by kernel_rfl))
  f189 := Tryz.func173.trans (congrArg some (by kernel_rfl))
  f215 := Tryz.func177.trans (congrArg some (by kernel_rfl))
  f216 := Tryz.func198.trans (congrArg some (by kernel_rfl))
  f257 := Tryz.func180.trans (congrArg some (by kernel_rfl))
  f294 := Tryz.func192.trans (congrArg some (by kernel_rfl))
  f295 := Tryz.func193.trans (congrArg some (by kernel_rfl))
  f296 := Tryz.func194.trans (congrArg some (by kernel_rfl))
  f297 := Tryz.func195.trans (congrArg some (by kernel_rfl))
  f298 := Tryz.func196.trans (congrArg some (by kernel_rfl))
  f299 := Tryz.func197.trans (congrArg some (by kernel_rfl))
  f300 := Tryz.func199.trans (congrArg some (by kernel_rfl))
  f301 := Tryz.func200.trans (congrArg some (by kernel_rfl))
  f328 := Tryz.func207.trans (congrArg some (by kernel_rfl))
  f329 := Tryz.func202.trans (congrArg some (by kernel_rfl))
  f330 := Tryz.func203.trans (congrArg some (by kernel_rfl))
  f331 := Tryz.func208.trans (congrArg some (by kernel_rfl))
  f332 := Tryz.func209.trans (congrArg some (by kernel_rfl))
  f343 := Tryz.func211.trans (congrArg some (by kernel_rfl))
  t0 := Tryz.underlying0
  a0 := Tryz.isAgg0
  z0 := Tryz.sizeOf0
  v0 := Tryz.zeroValue0
  t3 := Tryz.underlying3
  a3 := Tryz.isAgg3
  z3 := Tryz.sizeOf3
  v3 := Tryz.zeroValue3
  t4 := Tryz.underlying4
  a4 := Tryz.isAgg4
  z4 := Tryz.sizeOf4
  v4 := Tryz.zeroValue4
  t5 := Tryz.underlying5
  a5 := Tryz.isAgg5
  z5 := Tryz.sizeOf5
  v5 := Tryz.zeroValue5
  t9 := Tryz.underlying9
  a9 := Tryz.isAgg9
  z9 := Tryz.sizeOf9
  v9 := Tryz.zeroValue9
  t28 := Tryz.underlying22
  a28 := Tryz.isAgg22
  z28 := Tryz.sizeOf22
  v28 := Tryz.zeroValue22
  t46 := Tryz.underlying210
  a46 := Tryz.isAgg210
  z46 := Tryz.sizeOf210
  v46 := Tryz.zeroValue210
  t51 := Tryz.underlying224
  a51 := Tryz.isAgg224
  z51 := Tryz.sizeOf224
  v51 := Tryz.zeroValue224
  t53 := Tryz.underlying26
  a53 := Tryz.isAgg26
  z53 := Tryz.sizeOf26
  v53 := Tryz.zeroValue26
  t131 := Tryz.underlying221
  a131 := Tryz.isAgg221
  z131 := Tryz.sizeOf221
  v131 := Tryz.zeroValue221
  t182 := Tryz.underlying216
  a182 := Tryz.isAgg216
  z182 := Tryz.sizeOf216
  v182 := Tryz.zeroValue216
  t183 := Tryz.underlying217
  a183 := Tryz.isAgg217
  z183 := Tryz.sizeOf217
  v183 := Tryz.zeroValue217
  t218 := Tryz.underlying231
  a218 := Tryz.isAgg231
  z218 := Tryz.sizeOf231
  v218 := Tryz.zeroValue231
  t222 := Tryz.underlying234
  a222 := Tryz.isAgg234
  z222 := Tryz.sizeOf234
  v222 := Tryz.zeroValue234
  t228 := Tryz.underlying238
  a228 := Tryz.isAgg238
  z228 := Tryz.sizeOf238
  v228 := Tryz.zeroValue238
  t229 := Tryz.underlying239
  a229 := Tryz.isAgg239
  z229 := Tryz.sizeOf239
  v229 := Tryz.zeroValue239 }
def Tryz.laysNm220_ren : Go.Shelf.Ren := ⟨fun | 20 => 174 | n => n, fun | 22 => 22 | 3 => 3 | 4 => 4 | 0 => 0 | n => n, fun | n => n⟩
theorem Tryz.laysNm220 : Go.Proofs.Lays2.n20 Tryz.prog Tryz.laysNm220_ren := {
  mixed := by kernel_rfl
  f20 := Tryz.func174.trans (congrArg some (by kernel_rfl))
  t0 := Tryz.underlying0
  a0 := Tryz.isAgg0
  z0 := Tryz.sizeOf0
  v0 := Tryz.zeroValue0
  t3 := Tryz.underlying3
  a3 := Tryz.isAgg3
  z3 := Tryz.sizeOf3
  v3 := Tryz.zeroValue3
  t4 := Tryz.underlying4
  a4 := Tryz.isAgg4
  z4 := Tryz.sizeOf4
  v4 := Tryz.zeroValue4
  t22 := Tryz.underlying22
  a22 := Tryz.isAgg22
  z22 := Tryz.sizeOf22
  v22 := Tryz.zeroValue22
  i3 := by kernel_rfl }
def Tryz.sortR_ren : Go.Shelf.Ren := ⟨fun | 6 => 150 | 15 => 176 | 14 => 175 | 28 => 189 | 29 => 190 | 20 => 181 | 21 => 182 | 22 => 183 | 23 => 184 | 24 => 185 | 25 => 186 | 26 => 187 | 27 => 188 | 46 => 201 | 47 => 202 | 48 => 203 | 49 => 204 | 50 => 205 | 57 => 210 | n => n, fun | 22 => 65 | 24 => 93 | 25 => 192 | 3 => 3 | 39 => 210 | 0 => 0 | 53 => 224 | 55 => 26 | 4 => 4 | 46 => 217 | 45 => 216 | 50 => 221 | 5 => 5 | 9 => 9 | 66 => 231 | 70 => 234 | 76 => 238 | 77 => 239 | n => n, fun | n => n⟩
theorem Tryz.sortR : Go.Proofs.SlLaysF0.n6 Tryz.prog Tryz.sortR_ren := {
  mixed := by kernel_rfl
  f6 := ⟨Tryz.f150.name, by decide, Tryz.func150.trans (congrArg some (by kernel_rfl))⟩
  f14 := ⟨Tryz.f175.name, by decide, Tryz.func175.trans (congrArg some (by kernel_rfl))⟩
  f15 := Tryz.func176.trans (congrArg some (by kernel_rfl))
  f20 := ⟨Tryz.f181.name, by decide, Tryz.func181.trans (congrArg some (by kernel_rfl))⟩
  f21 := ⟨Tryz.f182.name, by decide, Tryz.func182.trans (congrArg some (by kernel_rfl))⟩
  f22 := ⟨Tryz.f183.name, by decide, Tryz.func183.trans (congrArg some (by kernel_rfl))⟩
  f23 := ⟨Tryz.f184.name, by decide, Tryz.func184.trans (congrArg some (by kernel_rfl))⟩
  f24 := ⟨Tryz.f185.name, by decide, Tryz.func185.trans (congrArg some (by kernel_rfl))⟩
  f25 := ⟨Tryz.f186.name, by decide, Tryz.func186.trans (congrArg some (by kernel_rfl))⟩
  f26 := ⟨Tryz.f187.name, by decide, Tryz.func187.trans (congrArg some (by kernel_rfl))⟩
  f27 := ⟨Tryz.f188.name, by decide, Tryz.func188.trans (congrArg some (by kernel_rfl))⟩
  f28 := Tryz.func189.trans (congrArg some (by kernel_rfl))
  f29 := Tryz.func190.trans (congrArg some (by kernel_rfl))
  f46 := ⟨Tryz.f201.name, by decide, Tryz.func201.trans (congrArg some (by kernel_rfl))⟩
  f47 := Tryz.func202.trans (congrArg some (by kernel_rfl))
  f48 := Tryz.func203.trans (congrArg some (by kernel_rfl))
  f49 := ⟨Tryz.f204.name, by decide, Tryz.func204.trans (congrArg some (by kernel_rfl))⟩
  f50 := ⟨Tryz.f205.name, by decide, Tryz.func205.trans (congrArg some (by kernel_rfl))⟩
  f57 := ⟨Tryz.f210.name, by decide, Tryz.func210.trans (congrArg some (by kernel_rfl))⟩
  t0 := Tryz.underlying0
  a0 := Tryz.isAgg0
  z0 := Tryz.sizeOf0
  v0 := Tryz.zeroValue0
  t3 := Tryz.underlying3
  a3 := Tryz.isAgg3
  z3 := Tryz.sizeOf3
  v3 := Tryz.zeroValue3
  t4 := Tryz.underlying4
  a4 := Tryz.isAgg4
  z4 := Tryz.sizeOf4
  v4 := Tryz.zeroValue4
  t5 := Tryz.underlying5
  a5 := Tryz.isAgg5
  z5 := Tryz.sizeOf5
  v5 := Tryz.zeroValue5
  t9 := Tryz.underlying9
  a9 := Tryz.isAgg9
  z9 := Tryz.sizeOf9
  v9 := Tryz.zeroValue9
  t22 := Tryz.underlying65
  a22 := Tryz.isAgg65
  z22 := Tryz.sizeOf65
  v22 := Tryz.zeroValue65
  t25 := Tryz.underlying192
  a25 := Tryz.isAgg192
  z25 := Tryz.sizeOf192
  v25 := Tryz.zeroValue192
  t39 := Tryz.underlying210
  a39 := Tryz.isAgg210
  z39 := Tryz.sizeOf210
  v39 := Tryz.zeroValue210
  t45 := Tryz.underlying216
  a45 := Tryz.isAgg216
  z45 := Tryz.sizeOf216
  v45 := Tryz.zeroValue216
  t46 := Tryz.underlying217
  a46 := Tryz.isAgg217
  z46 := Tryz.sizeOf217
  v46 := Tryz.zeroValue217
  t50 := Tryz.underlying221
  a50 := Tryz.isAgg221
  z50 := Tryz.sizeOf221
  v50 := Tryz.zeroValue221
  t53 := Tryz.underlying224
  a53 := Tryz.isAgg224
  z53 := Tryz.sizeOf224
  v53 := Tryz.zeroValue224
  t55 := Tryz.underlying26
  a55 := Tryz.isAgg26
  z55 := Tryz.sizeOf26
  v55 := Tryz.zeroValue26
  t66 := Tryz.underlying231
  a66 := Tryz.isAgg231
  z66 := Tryz.sizeOf231
  v66 := Tryz.zeroValue231
  t70 := Tryz.underlying234
  a70 := Tryz.isAgg234
  z70 := Tryz.sizeOf234
  v70 := Tryz.zeroValue234
  t76 := Tryz.underlying238
  a76 := Tryz.isAgg238
  z76 := Tryz.sizeOf238
  v76 := Tryz.zeroValue238
  t77 := Tryz.underlying239
  a77 := Tryz.isAgg239
  z77 := Tryz.sizeOf239
  v77 := Tryz.zeroValue239 }
def Tryz.cloneR_ren : Go.Shelf.Ren := ⟨fun | 41 => 149 | n => n, fun | 22 => 65 | 23 => 93 | 4 => 4 | n => n, fun | n => n⟩
theorem Tryz.cloneR : Go.Proofs.SlLaysE0.n41 Tryz.prog Tryz.cloneR_ren := {
  mixed := by kernel_rfl
  f41 := ⟨Tryz.f149.name, by decide, Tryz.func149.trans (congrArg some (by kernel_rfl))⟩
  t4 := Tryz.underlying4
  a4 := Tryz.isAgg4
  z4 := Tryz.sizeOf4
  v4 := Tryz.zeroValue4
  t22 := Tryz.underlying65
  a22 := Tryz.isAgg65
  z22 := Tryz.sizeOf65
  v22 := Tryz.zeroValue65 }
def Tryz.cloneS_ren : Go.Shelf.Ren := ⟨fun | 41 => 53 | n => n, fun | 22 => 27 | 23 => 9 | 4 => 4 | n => n, fun | n => n⟩
theorem Tryz.cloneS : Go.Proofs.SlLaysE0.n41 Tryz.prog Tryz.cloneS_ren := {
  mixed := by kernel_rfl
  f41 := ⟨Tryz.f53.name, by decide, Tryz.func53.trans (congrArg some (by kernel_rfl))⟩
  t4 := Tryz.underlying4
  a4 := Tryz.isAgg4
  z4 := Tryz.sizeOf4
  v4 := Tryz.zeroValue4
  t22 := Tryz.underlying27
  a22 := Tryz.isAgg27
  z22 := Tryz.sizeOf27
  v22 := Tryz.zeroValue27 }
def Tryz.cloneA_ren : Go.Shelf.Ren := ⟨fun | 41 => 131 | n => n, fun | 22 => 86 | 23 => 83 | 4 => 4 | n => n, fun | n => n⟩
theorem Tryz.cloneA : Go.Proofs.SlLaysE0.n41 Tryz.prog Tryz.cloneA_ren := {
  mixed := by kernel_rfl
  f41 := ⟨Tryz.f131.name, by decide, Tryz.func131.trans (congrArg some (by kernel_rfl))⟩
  t4 := Tryz.underlying4
  a4 := Tryz.isAgg4
  z4 := Tryz.sizeOf4
  v4 := Tryz.zeroValue4
  t22 := Tryz.underlying86
  a22 := Tryz.isAgg86
  z22 := Tryz.sizeOf86
  v22 := Tryz.zeroValue86 }
def Tryz.cloneI_ren : Go.Shelf.Ren := ⟨fun | 41 => 132 | n => n, fun | 22 => 22 | 23 => 3 | 4 => 4 | n => n, fun | n => n⟩
theorem Tryz.cloneI : Go.Proofs.SlLaysE0.n41 Tryz.prog Tryz.cloneI_ren := {
  mixed := by kernel_rfl
  f41 := ⟨Tryz.f132.name, by decide, Tryz.func132.trans (congrArg some (by kernel_rfl))⟩
  t4 := Tryz.underlying4
  a4 := Tryz.isAgg4
  z4 := Tryz.sizeOf4
  v4 := Tryz.zeroValue4
  t22 := Tryz.underlying22
  a22 := Tryz.isAgg22
  z22 := Tryz.sizeOf22
  v22 := Tryz.zeroValue22 }
def Tryz.lays104_ren : Go.Shelf.Ren := ⟨fun | 104 => 178 | 211 => 191 | 207 => 206 | n => n, fun | 9 => 9 | 4 => 4 | 24 => 133 | 3 => 3 | n => n, fun | n => n⟩
theorem Tryz.lays104 : Go.Proofs.Lays.n104 Tryz.prog Tryz.lays104_ren := {
  mixed := by kernel_rfl
  f104 := Tryz.func178.trans (congrArg some (by kernel_rfl))
  f207 := Tryz.func206.trans (congrArg some (by kernel_rfl))
  f211 := Tryz.func191.trans (congrArg some (by kernel_rfl))
  t3 := Tryz.underlying3
  a3 := Tryz.isAgg3
  z3 := Tryz.sizeOf3
  v3 := Tryz.zeroValue3
  t4 := Tryz.underlying4
  a4 := Tryz.isAgg4
  z4 := Tryz.sizeOf4
  v4 := Tryz.zeroValue4
  t9 := Tryz.underlying9
  a9 := Tryz.isAgg9
  z9 := Tryz.sizeOf9
  v9 := Tryz.zeroValue9
  t24 := Tryz.underlying133
  a24 := Tryz.isAgg133
  z24 := Tryz.sizeOf133
  v24 := Tryz.zeroValue133 }
def Tryz.lays99_ren : Go.Shelf.Ren := ⟨fun | 99 => 33 | 206 => 61 | n => n, fun | 9 => 9 | 4 => 4 | 3 => 3 | n => n, fun | n => n⟩
theorem Tryz.lays99 : Go.Proofs.Lays.n99 Tryz.prog Tryz.lays99_ren := {
  mixed := by kernel_rfl
  f99 := Tryz.func33.trans (congrArg some (by kernel_rfl))
  f206 := Tryz.func61.trans (congrArg some (by kernel_rfl))
  t3 := Tryz.underlying3
  a3 := Tryz.isAgg3
  z3 := Tryz.sizeOf3
  v3 := Tryz.zeroValue3
  t4 := Tryz.underlying4
  a4 := Tryz.isAgg4
  z4 := Tryz.sizeOf4
  v4 := Tryz.zeroValue4
  t9 := Tryz.underlying9
  a9 := Tryz.isAgg9
  z9 := Tryz.sizeOf9
  v9 := Tryz.zeroValue9 }
def Tryz.lays110_ren : Go.Shelf.Ren := ⟨fun | 110 => 52 | 109 => 97 | n => n, fun | 31 => 27 | 9 => 9 | 4 => 4 | 3 => 3 | 0 => 0 | n => n, fun | n => n⟩
theorem Tryz.lays110 : Go.Proofs.Lays.n110 Tryz.prog Tryz.lays110_ren := {
  mixed := by kernel_rfl
  f109 := Tryz.func97.trans (congrArg some (by kernel_rfl))
  f110 := Tryz.func52.trans (congrArg some (by kernel_rfl))
  t0 := Tryz.underlying0
  a0 := Tryz.isAgg0
  z0 := Tryz.sizeOf0
  v0 := Tryz.zeroValue0
  t3 := Tryz.underlying3
  a3 := Tryz.isAgg3
  z3 := Tryz.sizeOf3
  v3 := Tryz.zeroValue3
  t4 := Tryz.underlying4
  a4 := Tryz.isAgg4
  z4 := Tryz.sizeOf4
  v4 := Tryz.zeroValue4
  t9 := Tryz.underlying9
  a9 := Tryz.isAgg9
  z9 := Tryz.sizeOf9
  v9 := Tryz.zeroValue9
  t31 := Tryz.underlying27
  a31 := Tryz.isAgg27
  z31 := Tryz.sizeOf27
  v31 := Tryz.zeroValue27 }
end Go.Proofs
