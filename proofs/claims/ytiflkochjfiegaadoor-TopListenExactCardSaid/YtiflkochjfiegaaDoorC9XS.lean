/-
  Part of the proof of a law.
-/
import Derived.Shelf.Strconv.Itoa0
import Derived.Shelf.Strconv.Itoa1
import Derived.Shelf.LaysM
import Derived.Shelf.Strconv.Itoa2
import Derived.Shelf.Strconv.Itoa3
import Derived.Shelf.Strings.Search1
import Derived.Shelf.Strings.Search2
import Derived.Shelf.Strings.Cut
import Derived.Shelf.Strings.Shaped
import Derived.Test.YtiflkochjfiegaaDoorProg
set_option linter.unusedVariables false
set_option linter.unusedSimpArgs false
set_option linter.unusedSectionVars false
/-
  Contracts of the library at this program, laid by the kit's tool.
-/
namespace Go.Proofs
open Go.Shelf
def Tryd.laysM171_ren : Go.Shelf.Ren := ⟨fun | 171 => 138 | 243 => 169 | 246 => 175 | 283 => 180 | 284 => 181 | 285 => 182 | 286 => 183 | 129 => 187 | 317 => 186 | 318 => 188 | 319 => 189 | 320 => 190 | 337 => 191 | 338 => 192 | n => n, fun | 3 => 3 | 9 => 9 | 2 => 2 | 4 => 4 | 171 => 209 | 0 => 0 | 53 => 210 | 37 => 198 | 5 => 5 | 173 => 213 | 212 => 219 | 51 => 215 | 20 => 20 | 213 => 220 | 46 => 208 | 232 => 223 | 233 => 224 | n => n, fun | 17 => 2 | 18 => 3 | 19 => 4 | n => n⟩
theorem Tryd.laysM171 : Go.Proofs.LaysM.n171 Tryd.prog Tryd.laysM171_ren := {
  mixed := by kernel_rfl
  f129 := Tryd.func187.trans (congrArg some (by kernel_rfl))
  f171 := Tryd.func138.trans (congrArg some (by kernel_rfl))
  f243 := Tryd.func169.trans (congrArg some (by kernel_rfl))
  f246 := Tryd.func175.trans (congrArg some (by kernel_rfl))
  f283 := Tryd.func180.trans (congrArg some (by kernel_rfl))
  f284 := Tryd.func181.trans (congrArg some (by kernel_rfl))
  f285 := Tryd.func182.trans (congrArg some (by kernel_rfl))
  f286 := Tryd.func183.trans (congrArg some (by kernel_rfl))
  f317 := Tryd.func186.trans (congrArg some (by kernel_rfl))
  f318 := Tryd.func188.trans (congrArg some (by kernel_rfl))
  f319 := Tryd.func189.trans (congrArg some (by kernel_rfl))
  f320 := Tryd.func190.trans (congrArg some (by kernel_rfl))
  f337 := Tryd.func191.trans (congrArg some (by kernel_rfl))
  f338 := Tryd.func192.trans (congrArg some (by kernel_rfl))
  t0 := Tryd.underlying0
  a0 := Tryd.isAgg0
  z0 := Tryd.sizeOf0
  v0 := Tryd.zeroValue0
  t2 := Tryd.underlying2
  a2 := Tryd.isAgg2
  z2 := Tryd.sizeOf2
  v2 := Tryd.zeroValue2
  t3 := Tryd.underlying3
  a3 := Tryd.isAgg3
  z3 := Tryd.sizeOf3
  v3 := Tryd.zeroValue3
  t4 := Tryd.underlying4
  a4 := Tryd.isAgg4
  z4 := Tryd.sizeOf4
  v4 := Tryd.zeroValue4
  t5 := Tryd.underlying5
  a5 := Tryd.isAgg5
  z5 := Tryd.sizeOf5
  v5 := Tryd.zeroValue5
  t9 := Tryd.underlying9
  a9 := Tryd.isAgg9
  z9 := Tryd.sizeOf9
  v9 := Tryd.zeroValue9
  t20 := Tryd.underlying20
  a20 := Tryd.isAgg20
  z20 := Tryd.sizeOf20
  v20 := Tryd.zeroValue20
  t37 := Tryd.underlying198
  a37 := Tryd.isAgg198
  z37 := Tryd.sizeOf198
  v37 := Tryd.zeroValue198
  t46 := Tryd.underlying208
  a46 := Tryd.isAgg208
  z46 := Tryd.sizeOf208
  v46 := Tryd.zeroValue208
  t51 := Tryd.underlying215
  a51 := Tryd.isAgg215
  z51 := Tryd.sizeOf215
  v51 := Tryd.zeroValue215
  t53 := Tryd.underlying210
  a53 := Tryd.isAgg210
  z53 := Tryd.sizeOf210
  v53 := Tryd.zeroValue210
  t171 := Tryd.underlying209
  a171 := Tryd.isAgg209
  z171 := Tryd.sizeOf209
  v171 := Tryd.zeroValue209
  t173 := Tryd.underlying213
  a173 := Tryd.isAgg213
  z173 := Tryd.sizeOf213
  v173 := Tryd.zeroValue213
  t212 := Tryd.underlying219
  a212 := Tryd.isAgg219
  z212 := Tryd.sizeOf219
  v212 := Tryd.zeroValue219
  t213 := Tryd.underlying220
  a213 := Tryd.isAgg220
  z213 := Tryd.sizeOf220
  t232 := Tryd.underlying223
  a232 := Tryd.isAgg223
  z232 := Tryd.sizeOf223
  v232 := Tryd.zeroValue223
  t233 := Tryd.underlying224
  a233 := Tryd.isAgg224
  z233 := Tryd.sizeOf224
  v233 := Tryd.zeroValue224
  g17 := by kernel_rfl
  g18 := by kernel_rfl
  g19 := by kernel_rfl
  i0 := by kernel_rfl
  i2 := by kernel_rfl
  i3 := by kernel_rfl
  i4 := by kernel_rfl
  i5 := by kernel_rfl
  i9 := by kernel_rfl
  i20 := by kernel_rfl
  i37 := by kernel_rfl
  i46 := by kernel_rfl
  i51 := by kernel_rfl
  i53 := by kernel_rfl
  i171 := by kernel_rfl
  i173 := by kernel_rfl
  i212 := by kernel_rfl
  i232 := by kernel_rfl
  i233 := by kernel_rfl
  m17 := by kernel_rfl
  m18 := by kernel_rfl
  m19 := by kernel_rfl }
open Go.RowKit Go.Sort Go.Lib in
theorem Tryd.strconv_Itoa (n : Int) (h0 : -9223372036854775808 ≤ n) (h1 : n ≤ 9223372036854775807) (w : World) (htab : Lib.TabIs Tryd.prog w "internal/strconv.uint64pow10" .u64 Lib.pow10Tab) :
    Calls Tryd.prog 138 #[.int .i64 n] w fun e w' => e = .returned (.string ⟨(Lib.itoa n).toArray⟩) ∧ ∃ k os, w' = grow (w.drewN k) os := Any.strconv_Itoa Tryd.laysM171 n h0 h1 w htab
def Tryd.lays145_ren : Go.Shelf.Ren := ⟨fun | 145 => 136 | 220 => 164 | 219 => 174 | 217 => 176 | 225 => 177 | 224 => 178 | 267 => 179 | 266 => 184 | 314 => 185 | n => n, fun | 9 => 9 | 4 => 4 | 59 => 174 | 3 => 3 | 5 => 5 | 46 => 208 | 146 => 216 | 51 => 215 | n => n, fun | 1 => 1 | n => n⟩
theorem Tryd.lays145 : Go.Proofs.Lays.n145 Tryd.prog Tryd.lays145_ren := {
  mixed := by kernel_rfl
  f145 := Tryd.func136.trans (congrArg some (by kernel_rfl))
  f217 := Tryd.func176.trans (congrArg some (by kernel_rfl))
  f219 := Tryd.func174.trans (congrArg some (by kernel_rfl))
  f220 := Tryd.func164.trans (congrArg some (by kernel_rfl))
  f224 := Tryd.func178.trans (congrArg some (by kernel_rfl))
  f225 := Tryd.func177.trans (congrArg some (by kernel_rfl))
  f266 := Tryd.func184.trans (congrArg some (by kernel_rfl))
  f267 := Tryd.func179.trans (congrArg some (by kernel_rfl))
  f314 := Tryd.func185.trans (congrArg some (by kernel_rfl))
  t3 := Tryd.underlying3
  a3 := Tryd.isAgg3
  z3 := Tryd.sizeOf3
  v3 := Tryd.zeroValue3
  t4 := Tryd.underlying4
  a4 := Tryd.isAgg4
  z4 := Tryd.sizeOf4
  v4 := Tryd.zeroValue4
  t5 := Tryd.underlying5
  a5 := Tryd.isAgg5
  z5 := Tryd.sizeOf5
  v5 := Tryd.zeroValue5
  t9 := Tryd.underlying9
  a9 := Tryd.isAgg9
  z9 := Tryd.sizeOf9
  v9 := Tryd.zeroValue9
  t46 := Tryd.underlying208
  a46 := Tryd.isAgg208
  z46 := Tryd.sizeOf208
  v46 := Tryd.zeroValue208
  t51 := Tryd.underlying215
  a51 := Tryd.isAgg215
  z51 := Tryd.sizeOf215
  v51 := Tryd.zeroValue215
  t59 := Tryd.underlying174
  a59 := Tryd.isAgg174
  z59 := Tryd.sizeOf174
  v59 := Tryd.zeroValue174
  t146 := Tryd.underlying216
  a146 := Tryd.isAgg216
  z146 := Tryd.sizeOf216
  v146 := Tryd.zeroValue216
  g1 := by kernel_rfl }
open Go.RowKit Go.Lib in
theorem Tryd.strings_Cut (s sep : ByteArray) (m : Int) (w : World) (hs : s.size < 4294967281) (hm : w.cell? ⟨1, 0, none⟩ = some (.int .i64 m)) :
    Calls Tryd.prog 136 #[.string s, .string sep] w fun e w' => e = .returned (.tuple #[.string ⟨(Lib.cut s.data.toList sep.data.toList).1.toArray⟩, .string ⟨(Lib.cut s.data.toList sep.data.toList).2.1.toArray⟩, .bool (Lib.cut s.data.toList sep.data.toList).2.2]) ∧ ∃ n, w' = w.drewN n := Any.strings_Cut Tryd.lays145 s sep m w hs hm
end Go.Proofs
