/-
  Part of the proof that TopTransferMended holds.
-/
import Derived.Test.YtmailpnpjcpodaaGreatDoorT32
import Derived.Lib.LaidTab
import Derived.Shelf.Strings.Builder1
import Derived.Shelf.Strings.Builder2
import Derived.Shelf.Strings.OnBuilder
import Derived.Shelf.Strings.BuilderF
import Derived.Shelf.Utf8.RuneCount
import Derived.Shelf.Strings.Builder2Cap
import Derived.Shelf.Strconv.Atoi
import Derived.Shelf.Strconv.Itoa0
import Derived.Shelf.Strconv.Itoa1
import Derived.Shelf.LaysM
import Derived.Shelf.Strconv.Itoa2
import Derived.Shelf.Strconv.Itoa3
import Derived.Shelf.Strconv.AtoiErrFast
import Derived.Shelf.Strconv.ParseIntEmpty
import Derived.Shelf.Strconv.AtoiFail
import Derived.Shelf.Strconv.Clone
import Derived.Shelf.Strconv.SyntaxError
import Derived.Shelf.LaysC
import Derived.Shelf.Strconv.ToError
import Derived.Shelf.Strconv.Lower
import Derived.Shelf.Strconv.ParseUint10
import Derived.Shelf.Strconv.ParseUint10Empty
import Derived.Shelf.Strconv.ParseUint10Any
import Derived.Shelf.Strconv.ParseInt10
import Derived.Shelf.Strconv.AtoiLong
import Derived.Shelf.Strconv.AtoiInnerAll
import Derived.Shelf.Strconv.RangeError
import Derived.Shelf.Strconv.ToErrorRange
import Derived.Shelf.Strconv.AtoiAll
import Derived.Shelf.Strconv.ParseUintEmpty
import Derived.Shelf.Strconv.ParseUint10b16
import Derived.Shelf.Strings.Search1
import Derived.Shelf.Strings.Search2
import Derived.Shelf.Strings.Search3
import Derived.Shelf.Strings.Cut
import Derived.Shelf.Strings.Count
import Derived.Shelf.Strings.Shaped
import Derived.Shelf.Strings.Prefix
import Derived.Shelf.Strings.Split
import Derived.Shelf.Strings.SplitShaped
import Derived.Shelf.Unicode.Decode
import Derived.Shelf.Strings.RuneCount
import Derived.Shelf.Strings.Explode
import Derived.Shelf.Bits.Mul64
import Derived.Shelf.Unicode.DecodeSlow
import Derived.Shelf.Unicode.DecodeAny
import Derived.Shelf.Slices.Turned
import Derived.Ground.SlgnProg
import Derived.Shelf.SlicesE.Clone
import Derived.Lib.ItoaLen
import Derived.Lib.AtoiErrMem
import Derived.Lib.SplitLaws
set_option linter.unusedVariables false
set_option linter.unusedSimpArgs false
set_option linter.unusedSectionVars false
namespace Go.Ev
open Go
variable [Glob]
theorem cell_of_cells{w:World}{g j:Nat}{arr:Array Value}{t:TypeId}{fr:Nat × Nat}(h:w.heap[g]? = some (.cells arr t fr)):w.cell? ⟨g,j,none⟩=arr[j]? := by
 unfold World.cell?
 rw[h]
 show(if(Addr.mk g j none).spot.isSome=true then none else arr[j]?)=arr[j]?
 rw[if_neg (by simp)]
theorem GlobOK.tabIs{P:Program}{m:Nat→Prop}{w:World}{g:Nat}{name:String}{k:IntKind}{zs:List Int}(h:GlobOK m w)(hl:globOf Glob.tab g=some (zs.map (SV.int k)))(h0:zs≠[])(hg:P.globalNamed name=some g):Lib.TabIs P w name k zs:=by
 obtain⟨_,_,h3⟩:=h g _ hl
 obtain⟨z0,r,rfl⟩: ∃z0 r,zs=z0::r:=by
  cases zs with
  |nil=>exact absurd rfl h0
  |cons a b=>exact⟨a,b,rfl⟩
 obtain⟨_,arr,t,fr,ha,hs⟩:=h3 0 (.int k z0) rfl
 unfold Lib.TabIs World.var?
 rw[hg]
 show(match w.heap[g]? with|some (.cells cs _ _)=>some cs|_=>none)=_
 rw[ha]
 show some arr=_
 congr 1
 apply Array.ext
 ·rw[hs];simp
 ·intro i h1 h2
  have hi:i<(z0::r).length:=by rw[hs] at h1;simpa using h1
  obtain⟨⟨u,hu,hd⟩,_⟩:=h3 i (.int k (z0::r)[i]) (by rw[List.getElem?_map,List.getElem?_eq_getElem hi];rfl)
  rw[cell_of_cells ha] at hu
  rw[Array.getElem?_eq_getElem h1] at hu
  have e1:=Option.some.inj hu
  have e2:u= .int k (z0::r)[i]:=hd
  rw[e1,e2,List.getElem_toArray,List.getElem_map]
theorem GlobOK.someInt{m:Nat→Prop}{w:World}{g:Nat}(h:GlobOK m w)(hl:globOf Glob.tab g=some [SV.any]): ∃n,w.cell? ⟨g,0,none⟩=some (.int .i64 n):=by
 obtain⟨_,_,h3⟩:=h g _ hl
 obtain⟨⟨u,hu,n,rfl⟩,_⟩:=h3 0 .any rfl
 exact⟨n,hu⟩
end Go.Ev
namespace Go.Proofs
open Go.Shelf
def Tryz.lays156_ren:Go.Shelf.Ren:=⟨fun|156=>38|165=>90|166=>91|169=>92|240=>116|241=>117|276=>135|277=>136|n=>n,fun|31=>56|9=>9|3=>3|4=>4|0=>0|20=>20|72=>149|76=>153|70=>146|37=>147|75=>152|127=>172|164=>193|5=>5|80=>155|n=>n,fun|n=>n⟩
theorem Tryz.lays156:Go.Proofs.Lays.n156 Tryz.prog Tryz.lays156_ren:={
 mixed:=by kernel_rfl
 f156:=Tryz.func38.trans (congrArg some (by kernel_rfl))
 f165:=Tryz.func90.trans (congrArg some (by kernel_rfl))
 f166:=Tryz.func91.trans (congrArg some (by kernel_rfl))
 f169:=Tryz.func92.trans (congrArg some (by kernel_rfl))
 f240:=Tryz.func116.trans (congrArg some (by kernel_rfl))
 f241:=Tryz.func117.trans (congrArg some (by kernel_rfl))
 f276:=Tryz.func135.trans (congrArg some (by kernel_rfl))
 f277:=Tryz.func136.trans (congrArg some (by kernel_rfl))
 t0:=Tryz.underlying0
 a0:=Tryz.isAgg0
 z0:=Tryz.sizeOf0
 v0:=Tryz.zeroValue0
 t3:=Tryz.underlying3
 a3:=Tryz.isAgg3
 z3:=Tryz.sizeOf3
 v3:=Tryz.zeroValue3
 t4:=Tryz.underlying4
 a4:=Tryz.isAgg4
 z4:=Tryz.sizeOf4
 v4:=Tryz.zeroValue4
 t9:=Tryz.underlying9
 a9:=Tryz.isAgg9
 z9:=Tryz.sizeOf9
 v9:=Tryz.zeroValue9
 t20:=Tryz.underlying20
 a20:=Tryz.isAgg20
 z20:=Tryz.sizeOf20
 v20:=Tryz.zeroValue20
 t31:=Tryz.underlying56
 a31:=Tryz.isAgg56
 z31:=Tryz.sizeOf56
 v31:=Tryz.zeroValue56
 t37:=Tryz.underlying147
 a37:=Tryz.isAgg147
 z37:=Tryz.sizeOf147
 v37:=Tryz.zeroValue147
 t70:=Tryz.underlying146
 a70:=Tryz.isAgg146
 z70:=Tryz.sizeOf146
 v70:=Tryz.zeroValue146
 t72:=Tryz.underlying149
 a72:=Tryz.isAgg149
 z72:=Tryz.sizeOf149
 v72:=Tryz.zeroValue149
 t75:=Tryz.underlying152
 a75:=Tryz.isAgg152
 z75:=Tryz.sizeOf152
 v75:=Tryz.zeroValue152
 t76:=Tryz.underlying153
 a76:=Tryz.isAgg153
 z76:=Tryz.sizeOf153
 v76:=Tryz.zeroValue153
 t127:=Tryz.underlying172
 a127:=Tryz.isAgg172
 z127:=Tryz.sizeOf172
 v127:=Tryz.zeroValue172
 t164:=Tryz.underlying193
 a164:=Tryz.isAgg193
 z164:=Tryz.sizeOf193
 v164:=Tryz.zeroValue193 }
theorem Tryz.Builder_Extra_156:Builder.Extra Tryz.prog Tryz.lays156_ren:={
 sizeBuilder:=by kernel_rfl
 liesBuilder:=by kernel_rfl
 t5:=Tryz.underlying5
 a5:=Tryz.isAgg5
 z5:=Tryz.sizeOf5
 v5:=Tryz.zeroValue5
 infoByte:=by kernel_rfl
 cellsByte:=by kernel_rfl
 sizeByte:=by kernel_rfl
 neB5:=by decide }
open Go.RowKit in
theorem Tryz.strings_Join(bk o c:Nat)(xs:List ByteArray)(sep:ByteArray)(w:World)(hcells: ∀(j:Nat) x,xs[j]? = some x→w.cell? ⟨bk,o+j,none⟩=some (.string x))(hbk:bk<w.heap.size)(hN:xs.length≤140737488355328)(hcap:xs.length≤c)(hlen:(Lib.join (xs.map (·.data.toList)) sep.data.toList).length≤140737488355328): Calls Tryz.prog 38 #[.slice (some ⟨bk,o,none⟩) xs.length c,.string sep] w fun e w'=>e= .returned (.string ⟨(Lib.join (xs.map (·.data.toList)) sep.data.toList).toArray⟩)∧Below w.heap.size w w':=Any.strings_Join Tryz.lays156 Tryz.Builder_Extra_156 bk o c xs sep w hcells hbk hN hcap hlen
def Tryz.laysM171_ren:Go.Shelf.Ren:=⟨fun|171=>37|243=>89|246=>115|283=>131|284=>132|285=>133|286=>134|129=>151|317=>150|318=>152|319=>153|320=>154|337=>161|338=>162|n=>n,fun|3=>3|9=>9|2=>2|4=>4|171=>188|0=>0|53=>179|37=>147|5=>5|173=>191|212=>208|51=>176|20=>20|213=>209|46=>160|232=>227|233=>228|n=>n,fun|17=>2|18=>7|19=>8|n=>n⟩
theorem Tryz.laysM171:Go.Proofs.LaysM.n171 Tryz.prog Tryz.laysM171_ren:={
 mixed:=by kernel_rfl
 f129:=Tryz.func151.trans (congrArg some (by kernel_rfl))
 f171:=Tryz.func37.trans (congrArg some (by kernel_rfl))
 f243:=Tryz.func89.trans (congrArg some (by kernel_rfl))
 f246:=Tryz.func115.trans (congrArg some (by kernel_rfl))
 f283:=Tryz.func131.trans (congrArg some (by kernel_rfl))
 f284:=Tryz.func132.trans (congrArg some (by kernel_rfl))
 f285:=Tryz.func133.trans (congrArg some (by kernel_rfl))
 f286:=Tryz.func134.trans (congrArg some (by kernel_rfl))
 f317:=Tryz.func150.trans (congrArg some (by kernel_rfl))
 f318:=Tryz.func152.trans (congrArg some (by kernel_rfl))
 f319:=Tryz.func153.trans (congrArg some (by kernel_rfl))
 f320:=Tryz.func154.trans (congrArg some (by kernel_rfl))
 f337:=Tryz.func161.trans (congrArg some (by kernel_rfl))
 f338:=Tryz.func162.trans (congrArg some (by kernel_rfl))
 t0:=Tryz.underlying0
 a0:=Tryz.isAgg0
 z0:=Tryz.sizeOf0
 v0:=Tryz.zeroValue0
 t2:=Tryz.underlying2
 a2:=Tryz.isAgg2
 z2:=Tryz.sizeOf2
 v2:=Tryz.zeroValue2
 t3:=Tryz.underlying3
 a3:=Tryz.isAgg3
 z3:=Tryz.sizeOf3
 v3:=Tryz.zeroValue3
 t4:=Tryz.underlying4
 a4:=Tryz.isAgg4
 z4:=Tryz.sizeOf4
 v4:=Tryz.zeroValue4
 t5:=Tryz.underlying5
 a5:=Tryz.isAgg5
 z5:=Tryz.sizeOf5
 v5:=Tryz.zeroValue5
 t9:=Tryz.underlying9
 a9:=Tryz.isAgg9
 z9:=Tryz.sizeOf9
 v9:=Tryz.zeroValue9
 t20:=Tryz.underlying20
 a20:=Tryz.isAgg20
 z20:=Tryz.sizeOf20
 v20:=Tryz.zeroValue20
 t37:=Tryz.underlying147
 a37:=Tryz.isAgg147
 z37:=Tryz.sizeOf147
 v37:=Tryz.zeroValue147
 t46:=Tryz.underlying160
 a46:=Tryz.isAgg160
 z46:=Tryz.sizeOf160
 v46:=Tryz.zeroValue160
 t51:=Tryz.underlying176
 a51:=Tryz.isAgg176
 z51:=Tryz.sizeOf176
 v51:=Tryz.zeroValue176
 t53:=Tryz.underlying179
 a53:=Tryz.isAgg179
 z53:=Tryz.sizeOf179
 v53:=Tryz.zeroValue179
 t171:=Tryz.underlying188
 a171:=Tryz.isAgg188
 z171:=Tryz.sizeOf188
 v171:=Tryz.zeroValue188
 t173:=Tryz.underlying191
 a173:=Tryz.isAgg191
 z173:=Tryz.sizeOf191
 v173:=Tryz.zeroValue191
 t212:=Tryz.underlying208
 a212:=Tryz.isAgg208
 z212:=Tryz.sizeOf208
 v212:=Tryz.zeroValue208
 t213:=Tryz.underlying209
 a213:=Tryz.isAgg209
 z213:=Tryz.sizeOf209
 t232:=Tryz.underlying227
 a232:=Tryz.isAgg227
 z232:=Tryz.sizeOf227
 v232:=Tryz.zeroValue227
 t233:=Tryz.underlying228
 a233:=Tryz.isAgg228
 z233:=Tryz.sizeOf228
 v233:=Tryz.zeroValue228
 g17:=by kernel_rfl
 g18:=by kernel_rfl
 g19:=by kernel_rfl
 i0:=by kernel_rfl
 i2:=by kernel_rfl
 i3:=by kernel_rfl
 i4:=by kernel_rfl
 i5:=by kernel_rfl
 i9:=by kernel_rfl
 i20:=by kernel_rfl
 i37:=by kernel_rfl
 i46:=by kernel_rfl
 i51:=by kernel_rfl
 i53:=by kernel_rfl
 i171:=by kernel_rfl
 i173:=by kernel_rfl
 i212:=by kernel_rfl
 i232:=by kernel_rfl
 i233:=by kernel_rfl
 m17:=by kernel_rfl
 m18:=by kernel_rfl
 m19:=by kernel_rfl }
open Go.RowKit Go.Sort Go.Lib in
theorem Tryz.strconv_Itoa(n:Int)(h0: -9223372036854775808≤n)(h1:n≤9223372036854775807)(w:World) (htab:Lib.TabIs Tryz.prog w "internal/strconv.uint64pow10" .u64 Lib.pow10Tab): Calls Tryz.prog 37 #[.int .i64 n] w fun e w'=>e= .returned (.string ⟨(Lib.itoa n).toArray⟩)∧ ∃k os,w'=grow (w.drewN k) os:=Any.strconv_Itoa Tryz.laysM171 n h0 h1 w htab
def Tryz.laysC172_ren:Go.Shelf.Ren:=⟨fun|172=>94|244=>121|245=>122|247=>140|279=>141|280=>142|281=>143|282=>144|287=>156|316=>157|171=>37|205=>158|321=>163|322=>164|243=>89|246=>115|283=>131|284=>132|285=>133|286=>134|129=>151|317=>150|318=>152|319=>153|320=>154|337=>161|338=>162|n=>n,fun|9=>9|3=>3|75=>152|76=>153|4=>4|5=>5|167=>200|37=>147|0=>0|85=>201|2=>2|168=>203|53=>179|175=>211|46=>160|210=>215|127=>172|145=>226|143=>224|21=>21|171=>188|173=>191|212=>208|51=>176|20=>20|213=>209|232=>227|233=>228|80=>155|n=>n,fun|15=>3|16=>4|17=>2|18=>7|19=>8|n=>n⟩
theorem Tryz.laysC172:Go.Proofs.LaysC.n172 Tryz.prog Tryz.laysC172_ren:={
 mixed:=by kernel_rfl
 f129:=Tryz.func151.trans (congrArg some (by kernel_rfl))
 f171:=Tryz.func37.trans (congrArg some (by kernel_rfl))
 f172:=Tryz.func94.trans (congrArg some (by kernel_rfl))
 f205:=Tryz.func158.trans (congrArg some (by kernel_rfl))
 f243:=Tryz.func89.trans (congrArg some (by kernel_rfl))
 f244:=Tryz.func121.trans (congrArg some (by kernel_rfl))
 f245:=Tryz.func122.trans (congrArg some (by kernel_rfl))
 f246:=Tryz.func115.trans (congrArg some (by kernel_rfl))
 f247:=Tryz.func140.trans (congrArg some (by kernel_rfl))
 f279:=Tryz.func141.trans (congrArg some (by kernel_rfl))
 f280:=Tryz.func142.trans (congrArg some (by kernel_rfl))
 f281:=Tryz.func143.trans (congrArg some (by kernel_rfl))
 f282:=Tryz.func144.trans (congrArg some (by kernel_rfl))
 f283:=Tryz.func131.trans (congrArg some (by kernel_rfl))
 f284:=Tryz.func132.trans (congrArg some (by kernel_rfl))
 f285:=Tryz.func133.trans (congrArg some (by kernel_rfl))
 f286:=Tryz.func134.trans (congrArg some (by kernel_rfl))
 f287:=Tryz.func156.trans (congrArg some (by kernel_rfl))
 f316:=Tryz.func157.trans (congrArg some (by kernel_rfl))
 f317:=Tryz.func150.trans (congrArg some (by kernel_rfl))
 f318:=Tryz.func152.trans (congrArg some (by kernel_rfl))
 f319:=Tryz.func153.trans (congrArg some (by kernel_rfl))
 f320:=Tryz.func154.trans (congrArg some (by kernel_rfl))
 f321:=Tryz.func163.trans (congrArg some (by kernel_rfl))
 f322:=Tryz.func164.trans (congrArg some (by kernel_rfl))
 f337:=Tryz.func161.trans (congrArg some (by kernel_rfl))
 f338:=Tryz.func162.trans (congrArg some (by kernel_rfl))
 t0:=Tryz.underlying0
 a0:=Tryz.isAgg0
 z0:=Tryz.sizeOf0
 v0:=Tryz.zeroValue0
 t2:=Tryz.underlying2
 a2:=Tryz.isAgg2
 z2:=Tryz.sizeOf2
 v2:=Tryz.zeroValue2
 t3:=Tryz.underlying3
 a3:=Tryz.isAgg3
 z3:=Tryz.sizeOf3
 v3:=Tryz.zeroValue3
 t4:=Tryz.underlying4
 a4:=Tryz.isAgg4
 z4:=Tryz.sizeOf4
 v4:=Tryz.zeroValue4
 t5:=Tryz.underlying5
 a5:=Tryz.isAgg5
 z5:=Tryz.sizeOf5
 v5:=Tryz.zeroValue5
 t9:=Tryz.underlying9
 a9:=Tryz.isAgg9
 z9:=Tryz.sizeOf9
 v9:=Tryz.zeroValue9
 t20:=Tryz.underlying20
 a20:=Tryz.isAgg20
 z20:=Tryz.sizeOf20
 v20:=Tryz.zeroValue20
 t21:=Tryz.underlying21
 a21:=Tryz.isAgg21
 z21:=Tryz.sizeOf21
 v21:=Tryz.zeroValue21
 t37:=Tryz.underlying147
 a37:=Tryz.isAgg147
 z37:=Tryz.sizeOf147
 v37:=Tryz.zeroValue147
 t46:=Tryz.underlying160
 a46:=Tryz.isAgg160
 z46:=Tryz.sizeOf160
 v46:=Tryz.zeroValue160
 t51:=Tryz.underlying176
 a51:=Tryz.isAgg176
 z51:=Tryz.sizeOf176
 v51:=Tryz.zeroValue176
 t53:=Tryz.underlying179
 a53:=Tryz.isAgg179
 z53:=Tryz.sizeOf179
 v53:=Tryz.zeroValue179
 t75:=Tryz.underlying152
 a75:=Tryz.isAgg152
 z75:=Tryz.sizeOf152
 v75:=Tryz.zeroValue152
 t76:=Tryz.underlying153
 a76:=Tryz.isAgg153
 z76:=Tryz.sizeOf153
 v76:=Tryz.zeroValue153
 t85:=Tryz.underlying201
 a85:=Tryz.isAgg201
 z85:=Tryz.sizeOf201
 v85:=Tryz.zeroValue201
 t127:=Tryz.underlying172
 a127:=Tryz.isAgg172
 z127:=Tryz.sizeOf172
 v127:=Tryz.zeroValue172
 t143:=Tryz.underlying224
 a143:=Tryz.isAgg224
 z143:=Tryz.sizeOf224
 v143:=Tryz.zeroValue224
 t145:=Tryz.underlying226
 a145:=Tryz.isAgg226
 z145:=Tryz.sizeOf226
 v145:=Tryz.zeroValue226
 t167:=Tryz.underlying200
 a167:=Tryz.isAgg200
 z167:=Tryz.sizeOf200
 v167:=Tryz.zeroValue200
 t168:=Tryz.underlying203
 a168:=Tryz.isAgg203
 z168:=Tryz.sizeOf203
 v168:=Tryz.zeroValue203
 t171:=Tryz.underlying188
 a171:=Tryz.isAgg188
 z171:=Tryz.sizeOf188
 v171:=Tryz.zeroValue188
 t173:=Tryz.underlying191
 a173:=Tryz.isAgg191
 z173:=Tryz.sizeOf191
 v173:=Tryz.zeroValue191
 t175:=Tryz.underlying211
 a175:=Tryz.isAgg211
 z175:=Tryz.sizeOf211
 v175:=Tryz.zeroValue211
 t210:=Tryz.underlying215
 a210:=Tryz.isAgg215
 z210:=Tryz.sizeOf215
 v210:=Tryz.zeroValue215
 t212:=Tryz.underlying208
 a212:=Tryz.isAgg208
 z212:=Tryz.sizeOf208
 v212:=Tryz.zeroValue208
 t213:=Tryz.underlying209
 a213:=Tryz.isAgg209
 z213:=Tryz.sizeOf209
 t232:=Tryz.underlying227
 a232:=Tryz.isAgg227
 z232:=Tryz.sizeOf227
 v232:=Tryz.zeroValue227
 t233:=Tryz.underlying228
 a233:=Tryz.isAgg228
 z233:=Tryz.sizeOf228
 v233:=Tryz.zeroValue228
 g15:=by kernel_rfl
 g16:=by kernel_rfl
 g17:=by kernel_rfl
 g18:=by kernel_rfl
 g19:=by kernel_rfl
 t80:=Tryz.underlying155
 a80:=Tryz.isAgg155
 z80:=Tryz.sizeOf155
 v80:=Tryz.zeroValue155
 i0:=by kernel_rfl
 i2:=by kernel_rfl
 i3:=by kernel_rfl
 i4:=by kernel_rfl
 i5:=by kernel_rfl
 i9:=by kernel_rfl
 i20:=by kernel_rfl
 i21:=by kernel_rfl
 i37:=by kernel_rfl
 i46:=by kernel_rfl
 i51:=by kernel_rfl
 i53:=by kernel_rfl
 i75:=by kernel_rfl
 i76:=by kernel_rfl
 i80:=by kernel_rfl
 i85:=by kernel_rfl
 i127:=by kernel_rfl
 i143:=by kernel_rfl
 i145:=by kernel_rfl
 i167:=by kernel_rfl
 i168:=by kernel_rfl
 i171:=by kernel_rfl
 i173:=by kernel_rfl
 i175:=by kernel_rfl
 i210:=by kernel_rfl
 i212:=by kernel_rfl
 i232:=by kernel_rfl
 i233:=by kernel_rfl
 m15:=by kernel_rfl
 m16:=by kernel_rfl
 m17:=by kernel_rfl
 m18:=by kernel_rfl
 m19:=by kernel_rfl
 c0:=by kernel_rfl
 c2:=by kernel_rfl
 c3:=by kernel_rfl
 c4:=by kernel_rfl
 c5:=by kernel_rfl
 c9:=by kernel_rfl
 c20:=by kernel_rfl
 c21:=by kernel_rfl
 c37:=by kernel_rfl
 c46:=by kernel_rfl
 c51:=by kernel_rfl
 c53:=by kernel_rfl
 c75:=by kernel_rfl
 c76:=by kernel_rfl
 c80:=by kernel_rfl
 c85:=by kernel_rfl
 c127:=by kernel_rfl
 c143:=by kernel_rfl
 c145:=by kernel_rfl
 c167:=by kernel_rfl
 c168:=by kernel_rfl
 c171:=by kernel_rfl
 c173:=by kernel_rfl
 c175:=by kernel_rfl
 c210:=by kernel_rfl
 c212:=by kernel_rfl
 c213:=by kernel_rfl
 c232:=by kernel_rfl
 c233:=by kernel_rfl }
open Go.RowKit in
theorem Tryz.strconv_Atoi_ok(s:ByteArray)(hmax:s.size≤9223372036854775806)(v:Int)(h:Lib.atoiAll s.data.toList= .ok v)(w:World): Calls Tryz.prog 94 #[.string s] w fun e w'=>e= .returned (.tuple #[.int .i64 v,.nilIface])∧(w'=w∨ ∃t,w'=Lib.bytesWorld w 5 t):=Any.strconv_Atoi_ok Tryz.laysC172 s hmax v h w
open Go.RowKit in
theorem Tryz.strconv_Atoi_syntax(s:ByteArray)(hlim:s.size≤281474976710656)(h:Lib.atoiAll s.data.toList=Lib.atoiAll [])(ev:Value)(w:World)(hv:w.cell? ⟨3,0,none⟩=some ev)(hev:ev= .nilIface∨ ∃te pe,ev= .iface te pe): Calls Tryz.prog 94 #[.string s] w fun e w'=> ∃N,e= .returned (.tuple #[.int .i64 (0),.iface 203 (.pointer (some ⟨N,0,none⟩))])∧w.heap.size≤N∧w'.heap[N]? = some (.cells #[.string ⟨#[65,116,111,105]⟩,.string s,ev] 215 (0,0))∧Below w.heap.size w w':=Any.strconv_Atoi_syntax Tryz.laysC172 s hlim (h.trans rfl) ev w hv hev
open Go.RowKit in
theorem Tryz.strconv_Atoi_range(s:ByteArray)(hlim:s.size≤281474976710656)(h:Lib.atoiAll s.data.toList= .range)(ev:Value)(w:World)(hv:w.cell? ⟨4,0,none⟩=some ev)(hev:ev= .nilIface∨ ∃te pe,ev= .iface te pe): Calls Tryz.prog 94 #[.string s] w fun e w'=> ∃N,e= .returned (.tuple #[.int .i64 (Lib.atoiSat s.data.toList),.iface 203 (.pointer (some ⟨N,0,none⟩))])∧w.heap.size≤N∧w'.heap[N]? = some (.cells #[.string ⟨#[65,116,111,105]⟩,.string s,ev] 215 (0,0))∧Below w.heap.size w w':=Any.strconv_Atoi_range Tryz.laysC172 s hlim h ev w hv hev
def Tryz.lays145_ren:Go.Shelf.Ren:=⟨fun|145=>47|220=>97|219=>124|217=>146|225=>147|224=>148|267=>149|266=>159|314=>160|n=>n,fun|9=>9|4=>4|59=>96|3=>3|5=>5|46=>160|146=>177|51=>176|n=>n,fun|1=>1|n=>n⟩
theorem Tryz.lays145:Go.Proofs.Lays.n145 Tryz.prog Tryz.lays145_ren:={
 mixed:=by kernel_rfl
 f145:=Tryz.func47.trans (congrArg some (by kernel_rfl))
 f217:=Tryz.func146.trans (congrArg some (by kernel_rfl))
 f219:=Tryz.func124.trans (congrArg some (by kernel_rfl))
 f220:=Tryz.func97.trans (congrArg some (by kernel_rfl))
 f224:=Tryz.func148.trans (congrArg some (by kernel_rfl))
 f225:=Tryz.func147.trans (congrArg some (by kernel_rfl))
 f266:=Tryz.func159.trans (congrArg some (by kernel_rfl))
 f267:=Tryz.func149.trans (congrArg some (by kernel_rfl))
 f314:=Tryz.func160.trans (congrArg some (by kernel_rfl))
 t3:=Tryz.underlying3
 a3:=Tryz.isAgg3
 z3:=Tryz.sizeOf3
 v3:=Tryz.zeroValue3
 t4:=Tryz.underlying4
 a4:=Tryz.isAgg4
 z4:=Tryz.sizeOf4
 v4:=Tryz.zeroValue4
 t5:=Tryz.underlying5
 a5:=Tryz.isAgg5
 z5:=Tryz.sizeOf5
 v5:=Tryz.zeroValue5
 t9:=Tryz.underlying9
 a9:=Tryz.isAgg9
 z9:=Tryz.sizeOf9
 v9:=Tryz.zeroValue9
 t46:=Tryz.underlying160
 a46:=Tryz.isAgg160
 z46:=Tryz.sizeOf160
 v46:=Tryz.zeroValue160
 t51:=Tryz.underlying176
 a51:=Tryz.isAgg176
 z51:=Tryz.sizeOf176
 v51:=Tryz.zeroValue176
 t59:=Tryz.underlying96
 a59:=Tryz.isAgg96
 z59:=Tryz.sizeOf96
 v59:=Tryz.zeroValue96
 t146:=Tryz.underlying177
 a146:=Tryz.isAgg177
 z146:=Tryz.sizeOf177
 v146:=Tryz.zeroValue177
 g1:=by kernel_rfl }
open Go.RowKit Go.Lib in
theorem Tryz.strings_Cut(s sep:ByteArray)(m:Int)(w:World)(hs:s.size<4294967281)(hm:w.cell? ⟨1,0,none⟩=some (.int .i64 m)): Calls Tryz.prog 47 #[.string s,.string sep] w fun e w'=>e= .returned (.tuple #[.string ⟨(Lib.cut s.data.toList sep.data.toList).1.toArray⟩,.string ⟨(Lib.cut s.data.toList sep.data.toList).2.1.toArray⟩,.bool (Lib.cut s.data.toList sep.data.toList).2.2])∧ ∃n,w'=w.drewN n:=Any.strings_Cut Tryz.lays145 s sep m w hs hm
def Tryz.lays101_ren:Go.Shelf.Ren:=⟨fun|101=>95|208=>123|206=>145|n=>n,fun|9=>9|4=>4|3=>3|n=>n,fun|n=>n⟩
theorem Tryz.lays101:Go.Proofs.Lays.n101 Tryz.prog Tryz.lays101_ren:={
 mixed:=by kernel_rfl
 f101:=Tryz.func95.trans (congrArg some (by kernel_rfl))
 f206:=Tryz.func145.trans (congrArg some (by kernel_rfl))
 f208:=Tryz.func123.trans (congrArg some (by kernel_rfl))
 t3:=Tryz.underlying3
 a3:=Tryz.isAgg3
 z3:=Tryz.sizeOf3
 v3:=Tryz.zeroValue3
 t4:=Tryz.underlying4
 a4:=Tryz.isAgg4
 z4:=Tryz.sizeOf4
 v4:=Tryz.zeroValue4
 t9:=Tryz.underlying9
 a9:=Tryz.isAgg9
 z9:=Tryz.sizeOf9
 v9:=Tryz.zeroValue9 }
open Go.RowKit Go.Lib in
theorem Tryz.strings_TrimPrefix(s p:ByteArray)(w:World): Calls Tryz.prog 95 #[.string s,.string p] w fun e w'=>e= .returned (.string ⟨(Lib.trimPrefix s.data.toList p.data.toList).toArray⟩)∧w'=w:=Any.strings_TrimPrefix Tryz.lays101 s p w
def Tryz.lays146_ren:Go.Shelf.Ren:=⟨fun|146=>39|221=>93|268=>118|138=>119|143=>120|195=>137|197=>138|218=>139|219=>124|260=>155|217=>146|225=>147|224=>148|267=>149|266=>159|314=>160|n=>n,fun|9=>9|31=>56|3=>3|4=>4|0=>0|105=>197|21=>21|5=>5|46=>160|119=>219|139=>222|138=>221|146=>177|51=>176|n=>n,fun|1=>1|3=>5|4=>6|n=>n⟩
theorem Tryz.lays146:Go.Proofs.Lays.n146 Tryz.prog Tryz.lays146_ren:={
 mixed:=by kernel_rfl
 f138:=Tryz.func119.trans (congrArg some (by kernel_rfl))
 f143:=Tryz.func120.trans (congrArg some (by kernel_rfl))
 f146:=Tryz.func39.trans (congrArg some (by kernel_rfl))
 f195:=Tryz.func137.trans (congrArg some (by kernel_rfl))
 f197:=Tryz.func138.trans (congrArg some (by kernel_rfl))
 f217:=Tryz.func146.trans (congrArg some (by kernel_rfl))
 f218:=Tryz.func139.trans (congrArg some (by kernel_rfl))
 f219:=Tryz.func124.trans (congrArg some (by kernel_rfl))
 f221:=Tryz.func93.trans (congrArg some (by kernel_rfl))
 f224:=Tryz.func148.trans (congrArg some (by kernel_rfl))
 f225:=Tryz.func147.trans (congrArg some (by kernel_rfl))
 f260:=Tryz.func155.trans (congrArg some (by kernel_rfl))
 f266:=Tryz.func159.trans (congrArg some (by kernel_rfl))
 f267:=Tryz.func149.trans (congrArg some (by kernel_rfl))
 f268:=Tryz.func118.trans (congrArg some (by kernel_rfl))
 f314:=Tryz.func160.trans (congrArg some (by kernel_rfl))
 t0:=Tryz.underlying0
 a0:=Tryz.isAgg0
 z0:=Tryz.sizeOf0
 v0:=Tryz.zeroValue0
 t3:=Tryz.underlying3
 a3:=Tryz.isAgg3
 z3:=Tryz.sizeOf3
 v3:=Tryz.zeroValue3
 t4:=Tryz.underlying4
 a4:=Tryz.isAgg4
 z4:=Tryz.sizeOf4
 v4:=Tryz.zeroValue4
 t5:=Tryz.underlying5
 a5:=Tryz.isAgg5
 z5:=Tryz.sizeOf5
 v5:=Tryz.zeroValue5
 t9:=Tryz.underlying9
 a9:=Tryz.isAgg9
 z9:=Tryz.sizeOf9
 v9:=Tryz.zeroValue9
 t21:=Tryz.underlying21
 a21:=Tryz.isAgg21
 z21:=Tryz.sizeOf21
 v21:=Tryz.zeroValue21
 t31:=Tryz.underlying56
 a31:=Tryz.isAgg56
 z31:=Tryz.sizeOf56
 v31:=Tryz.zeroValue56
 t46:=Tryz.underlying160
 a46:=Tryz.isAgg160
 z46:=Tryz.sizeOf160
 v46:=Tryz.zeroValue160
 t51:=Tryz.underlying176
 a51:=Tryz.isAgg176
 z51:=Tryz.sizeOf176
 v51:=Tryz.zeroValue176
 t105:=Tryz.underlying197
 a105:=Tryz.isAgg197
 z105:=Tryz.sizeOf197
 v105:=Tryz.zeroValue197
 t119:=Tryz.underlying219
 a119:=Tryz.isAgg219
 z119:=Tryz.sizeOf219
 t138:=Tryz.underlying221
 a138:=Tryz.isAgg221
 z138:=Tryz.sizeOf221
 v138:=Tryz.zeroValue221
 t139:=Tryz.underlying222
 a139:=Tryz.isAgg222
 z139:=Tryz.sizeOf222
 v139:=Tryz.zeroValue222
 t146:=Tryz.underlying177
 a146:=Tryz.isAgg177
 z146:=Tryz.sizeOf177
 v146:=Tryz.zeroValue177
 g1:=by kernel_rfl
 g3:=by kernel_rfl
 g4:=by kernel_rfl }
open Go.RowKit Go.Lib in
theorem Tryz.strings_Split(s sep:ByteArray)(m:Int)(w:World)(hs:s.size<4294967281)(hm:w.cell? ⟨1,0,none⟩=some (.int .i64 m))(h1:1≤sep.size):
  Calls Tryz.prog 39 #[.string s,.string sep] w fun e w'=>
   e= .returned (.slice (some ⟨w.heap.size,0,none⟩) (Lib.countB s sep+1) (Lib.countB s sep+1))∧w'=w.alloc (.cells ((Lib.splitB sep 0 (Lib.countB s sep) s).map Value.string).toArray 9):=Any.strings_Split Tryz.lays146 (by kernel_rfl) s sep m w hs hm h1
end Go.Proofs
namespace Go.Ev
open Go Go.Proofs
attribute [local irreducible] evFn evBody evRound
set_option maxRecDepth 20000
theorem okito:SpecOK Tryz.prog 37 itoaS:=by
 refine SpecOK.lib ⟨_,_,Tryz.func37,rfl,by kernel_rfl⟩ fun args σ K h=> ?_
 unfold itoaS at h
 split at h
 rotate_right
 ·exact h.elim
 rename_i n
 refine⟨rfl,fun m vals w hg ha=> ?_⟩
 match vals,ha with
 |[v],ha=>
  obtain rfl:v= .int .i64 n:=ha.1
  refine(Tryz.strconv_Itoa n h.1.1 h.1.2 w (hg.tabIs (g:=2) (by kernel_rfl) (by decide) (by kernel_rfl))).mono ?_
  rintro e w' ⟨rfl,k,os,rfl⟩
  exact⟨_,_,rfl,h.2,(Grows.drewN w k).trans (Grows.grow _ os),rfl⟩
theorem okcut:SpecOK Tryz.prog 47 strcutS:=by
 refine SpecOK.lib ⟨_,_,Tryz.func47,rfl,by kernel_rfl⟩ fun args σ K h=> ?_
 unfold strcutS at h
 split at h
 rotate_right
 ·exact h.elim
 rename_i s c
 refine⟨rfl,fun m vals w hg ha=> ?_⟩
 match vals,ha with
 |[v,u],ha=>
  obtain rfl:v= .string ⟨s.toArray⟩:=ha.1
  obtain rfl:u= .string ⟨[c].toArray⟩:=ha.2.1
  obtain⟨x,hx⟩:=hg.someInt (g:=1) (by kernel_rfl)
  refine(Tryz.strings_Cut ⟨s.toArray⟩ ⟨[c].toArray⟩ x w (by have:=h.1;show s.toArray.size<_;rw[List.size_toArray];omega) hx).mono ?_
  rintro e w' ⟨rfl,n,rfl⟩
  refine⟨_,_,rfl,h.2,Grows.drewN w n,_,rfl,?_⟩
  have e1:Lib.cut (ByteArray.mk s.toArray).data.toList (ByteArray.mk [c].toArray).data.toList=(bef c s,aft c s,hasB c s):=cut_one c s
  rw[e1]
  exact⟨rfl,rfl,rfl,trivial⟩
theorem glob_iface{m:Nat→Prop}{w:World}{g:Nat}(h:GlobOK m w)(hl:globOf Glob.tab g=some [SV.ifc false]): ∃ev,w.cell? ⟨g,0,none⟩=some ev∧(ev= .nilIface∨ ∃te pe,ev= .iface te pe):=by
 obtain⟨_,_,h3⟩:=h g _ hl
 obtain⟨⟨u,hu,hd⟩,_⟩:=h3 0 (.ifc false) rfl
 refine⟨u,hu,?_⟩
 rcases hd with⟨h1,_⟩|⟨_,h1⟩
 ·cases h1
 ·exact .inr h1
theorem okato:SpecOK Tryz.prog 94 atoiS:=by
 refine SpecOK.lib ⟨_,_,Tryz.func94,rfl,by kernel_rfl⟩ fun args σ K h=> ?_
 unfold atoiS at h
 split at h
 rotate_right
 ·exact h.elim
 rename_i s
 obtain⟨hl,h⟩:=h
 refine⟨rfl,fun m vals w hg ha=> ?_⟩
 match vals,ha with
 |[v],ha=>
  obtain rfl:v= .string ⟨s.toArray⟩:=ha.1
  have hsz:(ByteArray.mk s.toArray).size≤1000000:=by
   show s.toArray.size≤_
   rw[List.size_toArray];exact hl
  unfold atoV atoB at h
  rcases hx:Lib.atoiAll s with n|_|_
  ·rw[hx] at h
   refine(Tryz.strconv_Atoi_ok ⟨s.toArray⟩ (by omega) n hx w).mono ?_
   rintro e w' ⟨rfl,hw⟩
   refine⟨_,_,rfl,h,?_,_,rfl,rfl,.inl ⟨rfl,rfl⟩,trivial⟩
   rcases hw with rfl|⟨t,rfl⟩
   ·exact Grows.refl _
   ·exact Grows.of_below (Lib.bytesWorld_below _ _ _)
  ·rw[hx] at h
   obtain⟨ev,hv,hev⟩:=glob_iface hg (g:=3) (by kernel_rfl)
   refine(Tryz.strconv_Atoi_syntax ⟨s.toArray⟩ (by omega) (hx.trans rfl) ev w hv hev).mono ?_
   rintro e w' ⟨N,rfl,_,_,hb⟩
   exact⟨_,_,rfl,h,Grows.of_below hb,_,rfl,rfl,.inr ⟨rfl,_,_,rfl⟩,trivial⟩
  ·rw[hx] at h
   obtain⟨ev,hv,hev⟩:=glob_iface hg (g:=4) (by kernel_rfl)
   refine(Tryz.strconv_Atoi_range ⟨s.toArray⟩ (by omega) hx ev w hv hev).mono ?_
   rintro e w' ⟨N,rfl,_,_,hb⟩
   exact⟨_,_,rfl,h,Grows.of_below hb,_,rfl,rfl,.inr ⟨rfl,_,_,rfl⟩,trivial⟩
theorem oktp:SpecOK Tryz.prog 95 tpS:=by
 refine SpecOK.lib ⟨_,_,Tryz.func95,rfl,by kernel_rfl⟩ fun args σ K h=> ?_
 unfold tpS at h
 split at h
 rotate_right
 ·exact h.elim
 rename_i s
 refine⟨rfl,fun m vals w hg ha=> ?_⟩
 match vals,ha with
 |[v,u],ha=>
  obtain rfl:v= .string ⟨s.toArray⟩:=ha.1
  obtain rfl:u= .string ⟨[45].toArray⟩:=ha.2.1
  refine(Tryz.strings_TrimPrefix ⟨s.toArray⟩ ⟨[45].toArray⟩ w).mono ?_
  rintro e w' ⟨rfl,rfl⟩
  exact⟨_,_,rfl,h,Grows.refl _,rfl⟩
theorem addr_flat{w:World}{a:Addr}{v:Value}(h:w.cell? a=some v):a=⟨a.block,a.off,none⟩:=by
 obtain⟨b,o,s⟩:=a
 cases s with
 |none=>rfl
 |some s=>
  unfold World.cell? at h
  split at h
  ·rw[if_pos (by simp)] at h;cases h
  ·cases h
theorem add_flat(b o j:Nat):(⟨b,o,none⟩:Addr).add j=⟨b,o+j,none⟩:=by
 unfold Addr.add
 split
 ·rename_i h;subst h;rfl
 ·rfl
theorem okjoin:SpecOK Tryz.prog 38 joinS:=by
 refine SpecOK.lib ⟨_,_,Tryz.func38,rfl,by kernel_rfl⟩ fun args σ K h=> ?_
 unfold joinS at h
 split at h
 rotate_right
 ·exact h.elim
 rename_i l c
 obtain⟨⟨h1,h2,h3⟩,h⟩:=h
 refine⟨rfl,fun m vals w hg ha=> ?_⟩
 match vals,ha with
 |[v,u],ha=>
  obtain⟨a,cap,rfl,hc1,hc2,had⟩:=ha.1
  obtain rfl:u= .string ⟨[c].toArray⟩:=ha.2.1
  have hcount:(Row.recs [.str] l).count=l.length:=rfl
  obtain⟨ad,rfl,hb,hm,hcell⟩:=had.resolve_left (by rw[hcount];omega)
  have hat: ∀(i:Nat) (xs:List D),l[i]? = some xs→w.cell? (ad.add i)=some (.string ⟨(strG xs).toArray⟩):=by
   intro i xs hi
   obtain⟨u,hu,hd⟩:=hcell i xs hi 0 .str rfl
   have hd2:u= .string ⟨(strG xs).toArray⟩:=hd
   rw[← hd2,← hu]
   show w.cell? (ad.add i)=w.cell? (ad.add (i*1+0))
   rw[Nat.mul_one,Nat.add_zero]
  have hflat:ad=⟨ad.block,ad.off,none⟩:=by
   have h0:=hat 0 l[0] (List.getElem?_eq_getElem (by omega))
   exact addr_flat h0
  rw[hflat] at hat ⊢
  have hj:((l.map fun x=>ByteArray.mk (strG x).toArray).map (·.data.toList))=l.map strG:=by
   rw[List.map_map]
   exact List.map_congr_left fun x _=>rfl
  have hlen2:(l.map fun x=>ByteArray.mk (strG x).toArray).length=l.length:=List.length_map _
  have hres:=Tryz.strings_Join ad.block ad.off cap (l.map fun x=>ByteArray.mk (strG x).toArray) ⟨[c].toArray⟩ w (fun j x hx=>by
    rw[List.getElem?_map] at hx
    cases hl:l[j]? with
    |none=>rw[hl] at hx;cases hx
    |some xs=>
     rw[hl] at hx
     simp only[Option.map_some,Option.some.injEq] at hx
     subst hx
     have:=hat j xs hl
     rwa [add_flat] at this) hb (by omega) (by rw[hlen2];rw[hcount] at hc1;exact hc1) (by rw[hj];exact h3)
  rw[hlen2] at hres
  refine hres.mono ?_
  rintro e w' ⟨rfl,hb2⟩
  rw[hj]
  exact⟨_,_,rfl,h,Grows.of_below hb2,rfl⟩
theorem oksplit:SpecOK Tryz.prog 39 splitS:=by
 refine SpecOK.lib2 ⟨_,_,Tryz.func39,rfl,by kernel_rfl⟩ fun args σ K h=> ?_
 unfold splitS at h
 split at h
 rotate_right
 ·exact h.elim
 rename_i s c
 obtain⟨hl,h⟩:=h
 refine⟨rfl,fun m vals w hg hm ha=> ?_⟩
 match vals,ha with
 |[v,u],ha=>
  obtain rfl:v= .string ⟨s.toArray⟩:=ha.1
  obtain rfl:u= .string ⟨[c].toArray⟩:=ha.2.1
  obtain⟨x,hx⟩:=hg.someInt (g:=1) (by kernel_rfl)
  have hsz:(ByteArray.mk s.toArray).size=s.length:=List.size_toArray
  have hc1:1≤(ByteArray.mk [c].toArray).size:=Nat.le_refl 1
  have hall:=Lib.splitB_all (ByteArray.mk [c].toArray) hc1 0 _ (ByteArray.mk s.toArray) rfl
  have hdat:=Lib.splitB_data (ByteArray.mk [c].toArray) 0 (Lib.countB (ByteArray.mk s.toArray) (ByteArray.mk [c].toArray)) (ByteArray.mk s.toArray)
  have hspl:Lib.splitK (ByteArray.mk [c].toArray).data.toList 0 (Lib.countB (ByteArray.mk s.toArray) (ByteArray.mk [c].toArray)) (ByteArray.mk s.toArray).data.toList=pcs c s:=split_one c s
  rw[hspl] at hdat
  have hcb:=Lib.countB_le (ByteArray.mk [c].toArray) hc1 _ (ByteArray.mk s.toArray) (Nat.le_refl _)
  have hres:=Tryz.strings_Split ⟨s.toArray⟩ ⟨[c].toArray⟩ x w (by rw[hsz];omega) hx hc1
  refine hres.mono ?_
  rintro e w' ⟨rfl,rfl⟩
  generalize hn:Lib.countB (ByteArray.mk s.toArray) (ByteArray.mk [c].toArray)=n at *
  generalize Lib.splitB (ByteArray.mk [c].toArray) 0 n (ByteArray.mk s.toArray)=L at *
  have hpl:(pcs c s).length=n+1:=by rw[← hdat,List.length_map];exact hall
  have hcount:(Row.recs [.str] ((pcs c s).map one1)).count=n+1:=by
   show((pcs c s).map one1).length=n+1
   rw[List.length_map];exact hpl
  have hget: ∀b,b<w.heap.size→(w.alloc (.cells (L.map Value.string).toArray 9)).heap[b]? = w.heap[b]? := fun b hb=>by
   show(w.heap.push _)[b]? = _
   rw[Array.getElem?_push,if_neg (by omega)]
  have hnew:(w.alloc (.cells (L.map Value.string).toArray 9)).heap[w.heap.size]? = some (.cells (L.map Value.string).toArray 9 (0,0)):=by
   show(w.heap.push _)[w.heap.size]? = _
   rw[Array.getElem?_push,if_pos rfl]
  refine⟨_,_,rfl,h,Grows.of_heap rfl rfl rfl (by show w.heap.size≤(w.heap.push _).size;rw[Array.size_push];omega) hget,some ⟨w.heap.size,0,none⟩,n+1,?_,?_,?_,.inr ⟨_,rfl,?_,fun hmm=>Nat.lt_irrefl _ (hm _ hmm),?_⟩⟩
  ·rw[hcount]
  ·rw[hcount];exact Nat.le_refl _
  ·have:n≤s.length:=by rw[← hsz];exact hcb
   unfold maxLen;omega
  ·show w.heap.size<(w.heap.push _).size
   rw[Array.size_push];omega
  ·intro i xs hi c' ck hc'
   cases c' with
   |succ c'=>simp at hc'
   |zero=>
    simp only[List.getElem?_cons_zero,Option.some.injEq] at hc'
    subst hc'
    rw[List.getElem?_map] at hi
    cases hp:(pcs c s)[i]? with
    |none=>rw[hp] at hi;cases hi
    |some q=>
     rw[hp] at hi
     simp only[Option.map_some,Option.some.injEq] at hi
     subst hi
     rw[← hdat,List.getElem?_map] at hp
     cases hL:L[i]? with
     |none=>rw[hL] at hp;cases hp
     |some y=>
      rw[hL] at hp
      simp only[Option.map_some,Option.some.injEq] at hp
      refine⟨.string y,?_,?_⟩
      ·show(w.alloc _).cell? ((⟨w.heap.size,0,none⟩:Addr).add (i*1+0))=_
       rw[add_flat,cell_of_cells hnew]
       simp[hL]
      ·show Value.string y= .string ⟨q.toArray⟩
       rw[← hp,Array.toArray_toList]
theorem itoG_len{n:Int}(h: -9223372036854775808≤n∧n≤9223372036854775807):(itoG n).length≤21:=Lib.itoa_length_le n h.1 h.2
theorem digF_len{n:Int}(h: -9223372036854775808≤n∧n≤9223372036854775807):(digF n).length≤21:=by
 have h1:=Lib.itoa_length_le n h.1 h.2
 rw[itoa_digF] at h1
 by_cases h0:n=0
 ·subst h0;decide
 ·rw[if_neg h0,List.length_append] at h1;omega
theorem lokdec_0:LoopOK Edec (lb Tryz.f53 0) [0,3,4] [3,4] decL:=by
 refine loopOK (.cons ok137 .nil) (noInner (by kernel_rfl)) (fun vs σ=>match vs,σ with
  |[.one (.int .i64 n),.one (.str _),.one (.str _)],[]=>n.natAbs
  |_,_=>0) fun vs σ k h=> ?_
 unfold decL at h
 split at h
 rotate_right
 ·exact h.elim
 ·rename_i n s g
  rw[exdecl0a n s g _]
  obtain⟨⟨h1,h2,h3⟩,h⟩:=h
  by_cases h0:n=0
  ·subst h0
   rw[show digF 0=[] from rfl] at h
   exact h
  ·have hb:(n != 0)=true:=by simpa using h0
   have e:UInt8.ofNat (IntKind.u8.wrap (IntKind.i64.wrap ((48:Int)+sizeG (n.tmod (10:Int))))).toNat=UInt8.ofNat (48+n.natAbs%10):=by
    have hm:(n.tmod 10).natAbs=n.natAbs%10:=by rw[Int.natAbs_tmod];rfl
    have hs:sizeG (n.tmod 10)=((n.natAbs%10:Nat):Int):=by
     unfold sizeG wi
     rw[wrap_id (by omega) (by omega)]
     split<;>omega
    rw[hs,wrap_id (by omega) (by omega)]
    congr 1
    have e1:(2:Int)^IntKind.u8.bits=256:=by decide
    have e3:IntKind.u8.signed=false:=rfl
    unfold IntKind.wrap
    simp only[e1,e3,Bool.false_and,Bool.false_eq_true,if_false]
    omega
   have hq:IntKind.i64.wrap (n.tdiv 10)=n.tdiv 10:=by
    have:(n.tdiv 10).natAbs=n.natAbs/10:=by rw[Int.natAbs_tdiv];rfl
    exact wrap_id (by omega) (by omega)
   have hd:=digF_step h0 s
   rw[hd] at h h1
   rw[hb,cond_true,e,hq]
   have hlen:s.length≤1000:=by
    rw[List.length_append,List.length_cons] at h1;omega
   rw[decide_eq_true (by simp only[List.length_cons,List.length_nil];omega),cond_true]
   have ha:(n.tdiv 10).natAbs=n.natAbs/10:=by rw[Int.natAbs_tdiv];rfl
   have hmu:(n.tdiv 10).natAbs<n.natAbs:=by rw[ha];omega
   exact⟨⟨⟨h1,by omega,by omega⟩,h⟩,hmu⟩
theorem okdec:SpecOK Tryz.prog 53 decS:=by
 refine specOK (n:=27) (m:=0) (lps:=[(6,.spec [0,3,4] [3,4] decL)]) (.cons ok137 .nil) Tryz.func53 (by kernel_rfl) (by kernel_rfl) (theLoops (n:=1) (by kernel_rfl) fun i hi=> ?_) fun args σ K h=> ?_
 ·match i,hi with
  |0,_=>exact loopHyp_of (key:=6) (by kernel_rfl) rfl lokdec_0
 unfold decS at h
 split at h
 rotate_right
 ·exact h.elim
 rename_i n
 rw[exdec n K]
 obtain⟨h1,h⟩:=h
 have hl:=digF_len h1
 have e:itoG n=if n=0 then[48] else(if n<0 then[45] else[])++digF n:=itoa_digF n
 rw[e] at h
 rw[List.append_nil]
 by_cases h0:n=0
 ·subst h0;exact h
 ·rw[if_neg h0] at h
  have hb:(n==0)=false:=by simpa using h0
  rw[hb,cond_false]
  by_cases hn:n<0
  ·rw[if_pos hn] at h
   rw[decide_eq_true hn,cond_true]
   refine And.intro ⟨by omega,h1⟩ ?_
   rw[decide_eq_true (by omega),cond_true]
   exact h
  ·rw[if_neg hn] at h
   rw[decide_eq_false hn,cond_false]
   refine And.intro ⟨by omega,h1⟩ ?_
   rw[decide_eq_true (by omega),cond_true]
   exact h
theorem one1_at{L:List (List UInt8)}{j:Nat}(h:j<L.length):(((List.map one1 L).getD j []).getD 0 (D.int 0)).toStr=L.getD j []:=by
 have e:(List.map one1 L).getD j []=one1 (L.getD j []):=by simp[List.getD,List.getElem?_eq_getElem h]
 rw[e]
 rfl
theorem atoV_range(s:List UInt8)(h:atoB s=true): -9223372036854775808≤atoV s∧atoV s≤9223372036854775807:=by
 unfold atoB at h
 unfold atoV
 rcases hx:Lib.atoiAll s with v|_|_
 ·have:=Lib.atoiAll_bounds hx
  show -9223372036854775808≤v∧v≤9223372036854775807
  omega
 ·rw[hx] at h;cases h
 ·rw[hx] at h;cases h
theorem oknmb:SpecOK Tryz.prog 40 numberS:=by
 refine specOK (n:=35) (m:=0) (lps:=[]) (.cons okato (.cons okito (.cons oktp .nil))) Tryz.func40 (by kernel_rfl) (by kernel_rfl) (noLoops (by kernel_rfl)) fun args σ K h=> ?_
 unfold numberS at h
 split at h
 rotate_right
 ·exact h.elim
 rename_i s b
 rw[exnmb s b K]
 obtain⟨h1,h⟩:=h
 refine And.intro h1 ?_
 unfold nmB at h
 cases ha:atoB s with
 |false=>rw[ha] at h;exact h
 |true=>
  rw[ha] at h
  refine And.intro (atoV_range s ha) ?_
  cases hi:(itoG (atoV s)==s) with
  |false=>rw[hi] at h;exact h
  |true=>
   rw[hi] at h
   cases b with
   |true=>exact h
   |false=>
    cases hv:decide (atoV s≥0) with
    |true=>rw[hv] at h;exact h
    |false=>rw[hv] at h;exact h
end Go.Ev
