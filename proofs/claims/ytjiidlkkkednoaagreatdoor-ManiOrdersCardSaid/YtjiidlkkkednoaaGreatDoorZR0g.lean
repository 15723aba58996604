import Derived.Shelf.Strings.Builder1
import Derived.Shelf.Strings.Builder2
import Derived.Shelf.Strings.OnBuilder
import Derived.Shelf.Small.Strs
import Derived.Shelf.Small.Wraps
import Derived.Shelf.Strings.BuilderF
import Derived.Shelf.Strings.BuilderK
import Derived.Shelf.Utf8.RuneCount
import Derived.Shelf.Strings.Builder2Cap
import Derived.Shelf.Strconv.Itoa0
import Derived.Shelf.Strconv.Itoa1
import Derived.Shelf.LaysM
import Derived.Shelf.Strconv.Itoa2
import Derived.Shelf.Strconv.Itoa3
import Derived.Shelf.Strconv.Clone
import Derived.Shelf.Strings.Search1
import Derived.Shelf.Strings.Search2
import Derived.Shelf.Strings.Search3
import Derived.Shelf.Strings.Cut
import Derived.Shelf.Strings.Count
import Derived.Shelf.Strings.Shaped
import Derived.Shelf.Strings.LastIndex
import Derived.Shelf.Strings.Prefix
import Derived.Shelf.Strings.Split
import Derived.Shelf.Strings.SplitShaped
import Derived.Shelf.Unicode.Decode
import Derived.Shelf.Strings.RuneCount
import Derived.Shelf.Strings.Explode
import Derived.Shelf.Unicode.DecodeSlow
import Derived.Shelf.Unicode.DecodeAny
import Derived.Shelf.Strings.BuilderCap
import Derived.Ground.Names2Prog
import Derived.Shelf.Slices.SearchI
import Derived.Ground.PaProg
import Derived.Shelf.Path.Small
import Derived.Test.YtjiidlkkkednoaaGreatDoorProg
import Derived.Test.YtjiidlkkkednoaaGreatDoorZBaseg
import Derived.HandedShaped
import Derived.Shelf.Vars
import Derived.Lib.LaidTab
import Derived.LaidSub
import Derived.Below
import Derived.Deep.Draws
import Derived.Deep.AppendLies
import Derived.Maps.AppendAt
import Derived.OwnWalk
import Derived.Laws.BytesArg
import Derived.Laws.MakeOwn
import Derived.Laws.OwnMore
import Derived.Deep.OwnRows
import Derived.Tactics
import Derived.Lib.ConvBytes
import Derived.Laws.Slices
import Derived.WalkKit
import Derived.KernelRfl
import Derived.RowKit3
import Derived.Deep.LoopGhost
import Derived.Deep.QuietTactic
import Derived.BigQuiet
import Derived.WideLaws
import Derived.Deep.DeepCutAuto
import Derived.Deep.CutBlock
import Derived.Deep.RegionHeld3
import Derived.Laws.Rows
import Derived.Lib.AppendStr
import Derived.ArgAppend
import Derived.Laws.IdiomCopy
import Derived.OrdersHeld
import Derived.Laws.BitsLemmas
import Derived.RowKit
import Derived.Test.YtjiidlkkkednoaaGreatDoorZW0
set_option linter.unusedVariables false
set_option linter.unusedSimpArgs false
section
namespace Go.Proofs
open Go.Shelf
def Tryz.lays169_ren:Go.Shelf.Ren:=⟨fun|169 => 30|n => n,fun|70 => 57|9 => 9|0 => 0|72 => 60|37 => 58|127 => 91|3 => 3|5 => 5|n => n,fun|n => n⟩
theorem Tryz.lays169:Go.Proofs.Lays.n169 Tryz.prog Tryz.lays169_ren:={
  mixed:=by kernel_rfl
  f169:=Tryz.func30.trans (congrArg some (by kernel_rfl))
  t0:=Tryz.underlying0
  a0:=Tryz.isAgg0
  z0:=Tryz.sizeOf0
  v0:=Tryz.zeroValue0
  t3:=Tryz.underlying3
  a3:=Tryz.isAgg3
  z3:=Tryz.sizeOf3
  v3:=Tryz.zeroValue3
  t9:=Tryz.underlying9
  a9:=Tryz.isAgg9
  z9:=Tryz.sizeOf9
  v9:=Tryz.zeroValue9
  t37:=Tryz.underlying58
  a37:=Tryz.isAgg58
  z37:=Tryz.sizeOf58
  v37:=Tryz.zeroValue58
  t70:=Tryz.underlying57
  a70:=Tryz.isAgg57
  z70:=Tryz.sizeOf57
  v70:=Tryz.zeroValue57
  t72:=Tryz.underlying60
  a72:=Tryz.isAgg60
  z72:=Tryz.sizeOf60
  v72:=Tryz.zeroValue60
  t127:=Tryz.underlying91
  a127:=Tryz.isAgg91
  z127:=Tryz.sizeOf91
  v127:=Tryz.zeroValue91 }
theorem Tryz.Builder_Extra_169:Builder.Extra Tryz.prog Tryz.lays169_ren:={
  sizeBuilder:=by kernel_rfl
  liesBuilder:=by kernel_rfl
  t5:=Tryz.underlying5
  a5:=Tryz.isAgg5
  z5:=Tryz.sizeOf5
  v5:=Tryz.zeroValue5
  infoByte:=by kernel_rfl
  cellsByte:=by kernel_rfl
  sizeByte:=by kernel_rfl
  neB5:=by decide }
open Go.RowKit in
theorem Tryz.Builder_String_any (B b:Nat) (l:List UInt8) (w:World) (h:Lib.IsBuilder 60 5 B b (Lib.byteCells l) w) (hBw:B≤w.heap.size) :
    Calls Tryz.prog 30 #[.pointer (some ⟨b,0,none⟩)] w fun e w' => e=.returned (.string ⟨l.toArray⟩)∧Below B w w':=Any.Builder_String_any Tryz.lays169 Tryz.Builder_Extra_169 B b l w h hBw
def Tryz.lays156_ren:Go.Shelf.Ren:=⟨fun|156 => 28|165 => 60|166 => 27|169 => 30|240 => 59|241 => 93|276 => 92|277 => 124|n => n,fun|31 => 41|9 => 9|3 => 3|4 => 4|0 => 0|20 => 20|72 => 60|76 => 63|70 => 57|37 => 58|75 => 62|127 => 91|164 => 109|5 => 5|80 => 67|n => n,fun|n => n⟩
theorem Tryz.lays156:Go.Proofs.Lays.n156 Tryz.prog Tryz.lays156_ren:={
  mixed:=by kernel_rfl
  f156:=Tryz.func28.trans (congrArg some (by kernel_rfl))
  f165:=Tryz.func60.trans (congrArg some (by kernel_rfl))
  f166:=Tryz.func27.trans (congrArg some (by kernel_rfl))
  f169:=Tryz.func30.trans (congrArg some (by kernel_rfl))
  f240:=Tryz.func59.trans (congrArg some (by kernel_rfl))
  f241:=Tryz.func93.trans (congrArg some (by kernel_rfl))
  f276:=Tryz.func92.trans (congrArg some (by kernel_rfl))
  f277:=Tryz.func124.trans (congrArg some (by kernel_rfl))
  t0:=Tryz.underlying0
  a0:=Tryz.isAgg0
  z0:=Tryz.sizeOf0
  v0:=Tryz.zeroValue0
  t3:=Tryz.underlying3
  a3:=Tryz.isAgg3
  z3:=Tryz.sizeOf3
  v3:=Tryz.zeroValue3
  t4:=Tryz.underlying4
  a4:=Tryz.isAgg4
  z4:=Tryz.sizeOf4
  v4:=Tryz.zeroValue4
  t9:=Tryz.underlying9
  a9:=Tryz.isAgg9
  z9:=Tryz.sizeOf9
  v9:=Tryz.zeroValue9
  t20:=Tryz.underlying20
  a20:=Tryz.isAgg20
  z20:=Tryz.sizeOf20
  v20:=Tryz.zeroValue20
  t31:=Tryz.underlying41
  a31:=Tryz.isAgg41
  z31:=Tryz.sizeOf41
  v31:=Tryz.zeroValue41
  t37:=Tryz.underlying58
  a37:=Tryz.isAgg58
  z37:=Tryz.sizeOf58
  v37:=Tryz.zeroValue58
  t70:=Tryz.underlying57
  a70:=Tryz.isAgg57
  z70:=Tryz.sizeOf57
  v70:=Tryz.zeroValue57
  t72:=Tryz.underlying60
  a72:=Tryz.isAgg60
  z72:=Tryz.sizeOf60
  v72:=Tryz.zeroValue60
  t75:=Tryz.underlying62
  a75:=Tryz.isAgg62
  z75:=Tryz.sizeOf62
  v75:=Tryz.zeroValue62
  t76:=Tryz.underlying63
  a76:=Tryz.isAgg63
  z76:=Tryz.sizeOf63
  v76:=Tryz.zeroValue63
  t127:=Tryz.underlying91
  a127:=Tryz.isAgg91
  z127:=Tryz.sizeOf91
  v127:=Tryz.zeroValue91
  t164:=Tryz.underlying109
  a164:=Tryz.isAgg109
  z164:=Tryz.sizeOf109
  v164:=Tryz.zeroValue109 }
theorem Tryz.Builder_Extra_156:Builder.Extra Tryz.prog Tryz.lays156_ren:={
  sizeBuilder:=by kernel_rfl
  liesBuilder:=by kernel_rfl
  t5:=Tryz.underlying5
  a5:=Tryz.isAgg5
  z5:=Tryz.sizeOf5
  v5:=Tryz.zeroValue5
  infoByte:=by kernel_rfl
  cellsByte:=by kernel_rfl
  sizeByte:=by kernel_rfl
  neB5:=by decide }
open Go.RowKit in
theorem Tryz.strings_Join (bk o c:Nat) (xs:List ByteArray) (sep:ByteArray) (w:World) (hcells:∀ (j:Nat) x,xs[j]?=some x→w.cell? ⟨bk,o+j,none⟩=some (.string x)) (hbk:bk<w.heap.size) (hN:xs.length≤140737488355328) (hcap:xs.length≤c) (hlen:(Lib.join (xs.map (·.data.toList)) sep.data.toList).length≤140737488355328) :
    Calls Tryz.prog 28 #[.slice (some ⟨bk,o,none⟩) xs.length c,.string sep] w fun e w' => e=.returned (.string ⟨(Lib.join (xs.map (·.data.toList)) sep.data.toList).toArray⟩)∧Below w.heap.size w w':=Any.strings_Join Tryz.lays156 Tryz.Builder_Extra_156 bk o c xs sep w hcells hbk hN hcap hlen
def Tryz.lays106_ren:Go.Shelf.Ren:=⟨fun|106 => 40|213 => 75|265 => 114|n => n,fun|9 => 9|3 => 3|n => n,fun|n => n⟩
theorem Tryz.lays106:Go.Proofs.Lays.n106 Tryz.prog Tryz.lays106_ren:={
  mixed:=by kernel_rfl
  f106:=Tryz.func40.trans (congrArg some (by kernel_rfl))
  f213:=Tryz.func75.trans (congrArg some (by kernel_rfl))
  f265:=Tryz.func114.trans (congrArg some (by kernel_rfl))
  t3:=Tryz.underlying3
  a3:=Tryz.isAgg3
  z3:=Tryz.sizeOf3
  v3:=Tryz.zeroValue3
  t9:=Tryz.underlying9
  a9:=Tryz.isAgg9
  z9:=Tryz.sizeOf9
  v9:=Tryz.zeroValue9 }
open Go.RowKit in
theorem Tryz.strings_Compare (a b:ByteArray) (w:World) :
    Calls Tryz.prog 40 #[.string a,.string b] w fun e w' => e=.returned (.int .i64 (Lib.compareBytes a.data.toList b.data.toList))∧w'=w:=Any.strings_Compare Tryz.lays106 a b w
def Tryz.lays137_ren:Go.Shelf.Ren:=⟨fun|137 => 130|217 => 145|266 => 159|n => n,fun|9 => 9|5 => 5|3 => 3|n => n,fun|n => n⟩
theorem Tryz.lays137:Go.Proofs.Lays.n137 Tryz.prog Tryz.lays137_ren:={
  mixed:=by kernel_rfl
  f137:=Tryz.func130.trans (congrArg some (by kernel_rfl))
  f217:=Tryz.func145.trans (congrArg some (by kernel_rfl))
  f266:=Tryz.func159.trans (congrArg some (by kernel_rfl))
  t3:=Tryz.underlying3
  a3:=Tryz.isAgg3
  z3:=Tryz.sizeOf3
  v3:=Tryz.zeroValue3
  t5:=Tryz.underlying5
  a5:=Tryz.isAgg5
  z5:=Tryz.sizeOf5
  v5:=Tryz.zeroValue5
  t9:=Tryz.underlying9
  a9:=Tryz.isAgg9
  z9:=Tryz.sizeOf9
  v9:=Tryz.zeroValue9 }
open Go.RowKit in
theorem Tryz.strings_IndexByte (s:ByteArray) (c:Int) (w:World) :
    Calls Tryz.prog 130 #[.string s,.int .u8 c] w fun e w' => e=.returned (.int .i64 (Lib.indexByte s.data.toList c.toNat.toUInt8))∧w'=w:=Any.strings_IndexByte Tryz.lays137 s c w
def Tryz.lays103_ren:Go.Shelf.Ren:=⟨fun|103 => 106|210 => 129|206 => 149|n => n,fun|9 => 9|4 => 4|24 => 117|3 => 3|n => n,fun|n => n⟩
theorem Tryz.lays103:Go.Proofs.Lays.n103 Tryz.prog Tryz.lays103_ren:={
  mixed:=by kernel_rfl
  f103:=Tryz.func106.trans (congrArg some (by kernel_rfl))
  f206:=Tryz.func149.trans (congrArg some (by kernel_rfl))
  f210:=Tryz.func129.trans (congrArg some (by kernel_rfl))
  t3:=Tryz.underlying3
  a3:=Tryz.isAgg3
  z3:=Tryz.sizeOf3
  v3:=Tryz.zeroValue3
  t4:=Tryz.underlying4
  a4:=Tryz.isAgg4
  z4:=Tryz.sizeOf4
  v4:=Tryz.zeroValue4
  t9:=Tryz.underlying9
  a9:=Tryz.isAgg9
  z9:=Tryz.sizeOf9
  v9:=Tryz.zeroValue9
  t24:=Tryz.underlying117
  a24:=Tryz.isAgg117
  z24:=Tryz.sizeOf117
  v24:=Tryz.zeroValue117 }
open Go.RowKit in
theorem Tryz.strings_CutPrefix (s p:ByteArray) (w:World) :
    Calls Tryz.prog 106 #[.string s,.string p] w fun e w' => e=.returned (.tuple #[.string ⟨(Lib.trimPrefix s.data.toList p.data.toList).toArray⟩,.bool (Lib.hasPrefix s.data.toList p.data.toList)])∧w'=w:=Any.strings_CutPrefix Tryz.lays103 s p w
def Tryz.lays215_ren:Go.Shelf.Ren:=⟨fun|215 => 133|n => n,fun|3 => 3|4 => 4|n => n,fun|n => n⟩
theorem Tryz.lays215:Go.Proofs.Lays.n215 Tryz.prog Tryz.lays215_ren:={
  mixed:=by kernel_rfl
  f215:=Tryz.func133.trans (congrArg some (by kernel_rfl))
  t3:=Tryz.underlying3
  a3:=Tryz.isAgg3
  z3:=Tryz.sizeOf3
  v3:=Tryz.zeroValue3
  t4:=Tryz.underlying4
  a4:=Tryz.isAgg4
  z4:=Tryz.sizeOf4
  v4:=Tryz.zeroValue4 }
open Go.RowKit in
theorem Tryz.cmp_isNaN_int (x:Int) (w:World) :
    Calls Tryz.prog 133 #[.int .i64 x] w fun e w' => e=.returned (.bool false)∧w'=w:=Any.cmp_isNaN_int Tryz.lays215 x w
def Tryz.lays122_ren:Go.Shelf.Ren:=⟨fun|122 => 116|215 => 133|n => n,fun|3 => 3|4 => 4|n => n,fun|n => n⟩
theorem Tryz.lays122:Go.Proofs.Lays.n122 Tryz.prog Tryz.lays122_ren:={
  mixed:=by kernel_rfl
  f122:=Tryz.func116.trans (congrArg some (by kernel_rfl))
  f215:=Tryz.func133.trans (congrArg some (by kernel_rfl))
  t3:=Tryz.underlying3
  a3:=Tryz.isAgg3
  z3:=Tryz.sizeOf3
  v3:=Tryz.zeroValue3
  t4:=Tryz.underlying4
  a4:=Tryz.isAgg4
  z4:=Tryz.sizeOf4
  v4:=Tryz.zeroValue4 }
open Go.RowKit in
theorem Tryz.cmp_Compare_int (x y:Int) (w:World) :
    Calls Tryz.prog 116 #[.int .i64 x,.int .i64 y] w fun e w' => e=.returned (.int .i64 (Lib.compareInt x y))∧w'=w:=Any.cmp_Compare_int Tryz.lays122 x y w
def Tryz.laysM171_ren:Go.Shelf.Ren:=⟨fun|171 => 61|243 => 94|246 => 125|283 => 141|284 => 142|285 => 143|286 => 144|129 => 155|317 => 154|318 => 156|319 => 157|320 => 158|337 => 164|338 => 165|n => n,fun|3 => 3|9 => 9|2 => 2|4 => 4|171 => 139|0 => 0|53 => 140|37 => 58|5 => 5|173 => 143|212 => 152|51 => 153|20 => 20|213 => 154|46 => 146|232 => 159|233 => 160|n => n,fun|17 => 3|18 => 4|19 => 5|n => n⟩
theorem Tryz.laysM171:Go.Proofs.LaysM.n171 Tryz.prog Tryz.laysM171_ren:={
  mixed:=by kernel_rfl
  f129:=Tryz.func155.trans (congrArg some (by kernel_rfl))
  f171:=Tryz.func61.trans (congrArg some (by kernel_rfl))
  f243:=Tryz.func94.trans (congrArg some (by kernel_rfl))
  f246:=Tryz.func125.trans (congrArg some (by kernel_rfl))
  f283:=Tryz.func141.trans (congrArg some (by kernel_rfl))
  f284:=Tryz.func142.trans (congrArg some (by kernel_rfl))
  f285:=Tryz.func143.trans (congrArg some (by kernel_rfl))
  f286:=Tryz.func144.trans (congrArg some (by kernel_rfl))
  f317:=Tryz.func154.trans (congrArg some (by kernel_rfl))
  f318:=Tryz.func156.trans (congrArg some (by kernel_rfl))
  f319:=Tryz.func157.trans (congrArg some (by kernel_rfl))
  f320:=Tryz.func158.trans (congrArg some (by kernel_rfl))
  f337:=Tryz.func164.trans (congrArg some (by kernel_rfl))
  f338:=Tryz.func165.trans (congrArg some (by kernel_rfl))
  t0:=Tryz.underlying0
  a0:=Tryz.isAgg0
  z0:=Tryz.sizeOf0
  v0:=Tryz.zeroValue0
  t2:=Tryz.underlying2
  a2:=Tryz.isAgg2
  z2:=Tryz.sizeOf2
  v2:=Tryz.zeroValue2
  t3:=Tryz.underlying3
  a3:=Tryz.isAgg3
  z3:=Tryz.sizeOf3
  v3:=Tryz.zeroValue3
  t4:=Tryz.underlying4
  a4:=Tryz.isAgg4
  z4:=Tryz.sizeOf4
  v4:=Tryz.zeroValue4
  t5:=Tryz.underlying5
  a5:=Tryz.isAgg5
  z5:=Tryz.sizeOf5
  v5:=Tryz.zeroValue5
  t9:=Tryz.underlying9
  a9:=Tryz.isAgg9
  z9:=Tryz.sizeOf9
  v9:=Tryz.zeroValue9
  t20:=Tryz.underlying20
  a20:=Tryz.isAgg20
  z20:=Tryz.sizeOf20
  v20:=Tryz.zeroValue20
  t37:=Tryz.underlying58
  a37:=Tryz.isAgg58
  z37:=Tryz.sizeOf58
  v37:=Tryz.zeroValue58
  t46:=Tryz.underlying146
  a46:=Tryz.isAgg146
  z46:=Tryz.sizeOf146
  v46:=Tryz.zeroValue146
  t51:=Tryz.underlying153
  a51:=Tryz.isAgg153
  z51:=Tryz.sizeOf153
  v51:=Tryz.zeroValue153
  t53:=Tryz.underlying140
  a53:=Tryz.isAgg140
  z53:=Tryz.sizeOf140
  v53:=Tryz.zeroValue140
  t171:=Tryz.underlying139
  a171:=Tryz.isAgg139
  z171:=Tryz.sizeOf139
  v171:=Tryz.zeroValue139
  t173:=Tryz.underlying143
  a173:=Tryz.isAgg143
  z173:=Tryz.sizeOf143
  v173:=Tryz.zeroValue143
  t212:=Tryz.underlying152
  a212:=Tryz.isAgg152
  z212:=Tryz.sizeOf152
  v212:=Tryz.zeroValue152
  t213:=Tryz.underlying154
  a213:=Tryz.isAgg154
  z213:=Tryz.sizeOf154
  t232:=Tryz.underlying159
  a232:=Tryz.isAgg159
  z232:=Tryz.sizeOf159
  v232:=Tryz.zeroValue159
  t233:=Tryz.underlying160
  a233:=Tryz.isAgg160
  z233:=Tryz.sizeOf160
  v233:=Tryz.zeroValue160
  g17:=by kernel_rfl
  g18:=by kernel_rfl
  g19:=by kernel_rfl
  i0:=by kernel_rfl
  i2:=by kernel_rfl
  i3:=by kernel_rfl
  i4:=by kernel_rfl
  i5:=by kernel_rfl
  i9:=by kernel_rfl
  i20:=by kernel_rfl
  i37:=by kernel_rfl
  i46:=by kernel_rfl
  i51:=by kernel_rfl
  i53:=by kernel_rfl
  i171:=by kernel_rfl
  i173:=by kernel_rfl
  i212:=by kernel_rfl
  i232:=by kernel_rfl
  i233:=by kernel_rfl
  m17:=by kernel_rfl
  m18:=by kernel_rfl
  m19:=by kernel_rfl }
open Go.RowKit Go.Sort Go.Lib in
theorem Tryz.strconv_Itoa (n : Int) (h0 : -9223372036854775808 ≤ n) (h1 : n ≤ 9223372036854775807) (w : World) (htab : Lib.TabIs Tryz.prog w "internal/strconv.uint64pow10" .u64 Lib.pow10Tab) :
    Calls Tryz.prog 61 #[.int .i64 n] w fun e w' => e=.returned (.string ⟨(Lib.itoa n).toArray⟩)∧∃ k os,w'=grow (w.drewN k) os:=Any.strconv_Itoa Tryz.laysM171 n h0 h1 w htab
def Tryz.laysM316_ren:Go.Shelf.Ren:=⟨fun|316 => 102|n => n,fun|9 => 9|3 => 3|4 => 4|37 => 58|0 => 0|127 => 91|5 => 5|n => n,fun|n => n⟩
theorem Tryz.laysM316:Go.Proofs.LaysM.n316 Tryz.prog Tryz.laysM316_ren:={
  mixed:=by kernel_rfl
  f316:=Tryz.func102.trans (congrArg some (by kernel_rfl))
  t0:=Tryz.underlying0
  a0:=Tryz.isAgg0
  z0:=Tryz.sizeOf0
  v0:=Tryz.zeroValue0
  t3:=Tryz.underlying3
  a3:=Tryz.isAgg3
  z3:=Tryz.sizeOf3
  v3:=Tryz.zeroValue3
  t4:=Tryz.underlying4
  a4:=Tryz.isAgg4
  z4:=Tryz.sizeOf4
  v4:=Tryz.zeroValue4
  t9:=Tryz.underlying9
  a9:=Tryz.isAgg9
  z9:=Tryz.sizeOf9
  v9:=Tryz.zeroValue9
  t37:=Tryz.underlying58
  a37:=Tryz.isAgg58
  z37:=Tryz.sizeOf58
  v37:=Tryz.zeroValue58
  t127:=Tryz.underlying91
  a127:=Tryz.isAgg91
  z127:=Tryz.sizeOf91
  v127:=Tryz.zeroValue91
  t5:=Tryz.underlying5
  a5:=Tryz.isAgg5
  z5:=Tryz.sizeOf5
  v5:=Tryz.zeroValue5
  i0:=by kernel_rfl
  i3:=by kernel_rfl
  i4:=by kernel_rfl
  i5:=by kernel_rfl
  i9:=by kernel_rfl
  i37:=by kernel_rfl
  i127:=by kernel_rfl }
open Go.RowKit in
theorem Tryz.stringslite_Clone (s:ByteArray) (w:World) (hlim:s.size≤281474976710656) :
    Calls Tryz.prog 102 #[.string s] w fun e w' => e=.returned (.string s)∧Below w.heap.size w w':=Any.stringslite_Clone Tryz.laysM316 s w hlim
def Tryz.lays219_ren:Go.Shelf.Ren:=⟨fun|219 => 126|217 => 145|225 => 146|224 => 147|267 => 148|266 => 159|314 => 160|n => n,fun|9 => 9|3 => 3|4 => 4|5 => 5|46 => 146|146 => 156|51 => 153|n => n,fun|1 => 0|n => n⟩
theorem Tryz.lays219:Go.Proofs.Lays.n219 Tryz.prog Tryz.lays219_ren:={
  mixed:=by kernel_rfl
  f217:=Tryz.func145.trans (congrArg some (by kernel_rfl))
  f219:=Tryz.func126.trans (congrArg some (by kernel_rfl))
  f224:=Tryz.func147.trans (congrArg some (by kernel_rfl))
  f225:=Tryz.func146.trans (congrArg some (by kernel_rfl))
  f266:=Tryz.func159.trans (congrArg some (by kernel_rfl))
  f267:=Tryz.func148.trans (congrArg some (by kernel_rfl))
  f314:=Tryz.func160.trans (congrArg some (by kernel_rfl))
  t3:=Tryz.underlying3
  a3:=Tryz.isAgg3
  z3:=Tryz.sizeOf3
  v3:=Tryz.zeroValue3
  t4:=Tryz.underlying4
  a4:=Tryz.isAgg4
  z4:=Tryz.sizeOf4
  v4:=Tryz.zeroValue4
  t5:=Tryz.underlying5
  a5:=Tryz.isAgg5
  z5:=Tryz.sizeOf5
  v5:=Tryz.zeroValue5
  t9:=Tryz.underlying9
  a9:=Tryz.isAgg9
  z9:=Tryz.sizeOf9
  v9:=Tryz.zeroValue9
  t46:=Tryz.underlying146
  a46:=Tryz.isAgg146
  z46:=Tryz.sizeOf146
  v46:=Tryz.zeroValue146
  t51:=Tryz.underlying153
  a51:=Tryz.isAgg153
  z51:=Tryz.sizeOf153
  v51:=Tryz.zeroValue153
  t146:=Tryz.underlying156
  a146:=Tryz.isAgg156
  z146:=Tryz.sizeOf156
  v146:=Tryz.zeroValue156
  g1:=by kernel_rfl }
open Go.RowKit Go.Lib in
theorem Tryz.stringslite_Index_one (s:ByteArray) (c:UInt8) (w:World) :
    Calls Tryz.prog 126 #[.string s,.string ⟨#[c]⟩] w fun e w' => e=.returned (.int .i64 (Lib.indexByte s.data.toList c))∧w'=w:=Any.stringslite_Index_one Tryz.lays219 s c w
def Tryz.lays143_ren:Go.Shelf.Ren:=⟨fun|143 => 97|219 => 126|217 => 145|225 => 146|224 => 147|267 => 148|266 => 159|314 => 160|n => n,fun|9 => 9|3 => 3|4 => 4|5 => 5|46 => 146|146 => 156|51 => 153|n => n,fun|1 => 0|n => n⟩
theorem Tryz.lays143:Go.Proofs.Lays.n143 Tryz.prog Tryz.lays143_ren:={
  mixed:=by kernel_rfl
  f143:=Tryz.func97.trans (congrArg some (by kernel_rfl))
  f217:=Tryz.func145.trans (congrArg some (by kernel_rfl))
  f219:=Tryz.func126.trans (congrArg some (by kernel_rfl))
  f224:=Tryz.func147.trans (congrArg some (by kernel_rfl))
  f225:=Tryz.func146.trans (congrArg some (by kernel_rfl))
  f266:=Tryz.func159.trans (congrArg some (by kernel_rfl))
  f267:=Tryz.func148.trans (congrArg some (by kernel_rfl))
  f314:=Tryz.func160.trans (congrArg some (by kernel_rfl))
  t3:=Tryz.underlying3
  a3:=Tryz.isAgg3
  z3:=Tryz.sizeOf3
  v3:=Tryz.zeroValue3
  t4:=Tryz.underlying4
  a4:=Tryz.isAgg4
  z4:=Tryz.sizeOf4
  v4:=Tryz.zeroValue4
  t5:=Tryz.underlying5
  a5:=Tryz.isAgg5
  z5:=Tryz.sizeOf5
  v5:=Tryz.zeroValue5
  t9:=Tryz.underlying9
  a9:=Tryz.isAgg9
  z9:=Tryz.sizeOf9
  v9:=Tryz.zeroValue9
  t46:=Tryz.underlying146
  a46:=Tryz.isAgg146
  z46:=Tryz.sizeOf146
  v46:=Tryz.zeroValue146
  t51:=Tryz.underlying153
  a51:=Tryz.isAgg153
  z51:=Tryz.sizeOf153
  v51:=Tryz.zeroValue153
  t146:=Tryz.underlying156
  a146:=Tryz.isAgg156
  z146:=Tryz.sizeOf156
  v146:=Tryz.zeroValue156
  g1:=by kernel_rfl }
open Go.RowKit Go.Lib in
theorem Tryz.strings_Index_one (s:ByteArray) (c:UInt8) (w:World) :
    Calls Tryz.prog 97 #[.string s,.string ⟨#[c]⟩] w fun e w' => e=.returned (.int .i64 (Lib.indexByte s.data.toList c))∧w'=w:=Any.strings_Index_one Tryz.lays143 s c w
def Tryz.lays138_ren:Go.Shelf.Ren:=⟨fun|138 => 62|195 => 95|218 => 96|143 => 97|219 => 126|217 => 145|225 => 146|224 => 147|267 => 148|266 => 159|314 => 160|n => n,fun|9 => 9|3 => 3|4 => 4|5 => 5|0 => 0|46 => 146|146 => 156|51 => 153|n => n,fun|1 => 0|n => n⟩
theorem Tryz.lays138:Go.Proofs.Lays.n138 Tryz.prog Tryz.lays138_ren:={
  mixed:=by kernel_rfl
  f138:=Tryz.func62.trans (congrArg some (by kernel_rfl))
  f143:=Tryz.func97.trans (congrArg some (by kernel_rfl))
  f195:=Tryz.func95.trans (congrArg some (by kernel_rfl))
  f217:=Tryz.func145.trans (congrArg some (by kernel_rfl))
  f218:=Tryz.func96.trans (congrArg some (by kernel_rfl))
  f219:=Tryz.func126.trans (congrArg some (by kernel_rfl))
  f224:=Tryz.func147.trans (congrArg some (by kernel_rfl))
  f225:=Tryz.func146.trans (congrArg some (by kernel_rfl))
  f266:=Tryz.func159.trans (congrArg some (by kernel_rfl))
  f267:=Tryz.func148.trans (congrArg some (by kernel_rfl))
  f314:=Tryz.func160.trans (congrArg some (by kernel_rfl))
  t0:=Tryz.underlying0
  a0:=Tryz.isAgg0
  z0:=Tryz.sizeOf0
  v0:=Tryz.zeroValue0
  t3:=Tryz.underlying3
  a3:=Tryz.isAgg3
  z3:=Tryz.sizeOf3
  v3:=Tryz.zeroValue3
  t4:=Tryz.underlying4
  a4:=Tryz.isAgg4
  z4:=Tryz.sizeOf4
  v4:=Tryz.zeroValue4
  t5:=Tryz.underlying5
  a5:=Tryz.isAgg5
  z5:=Tryz.sizeOf5
  v5:=Tryz.zeroValue5
  t9:=Tryz.underlying9
  a9:=Tryz.isAgg9
  z9:=Tryz.sizeOf9
  v9:=Tryz.zeroValue9
  t46:=Tryz.underlying146
  a46:=Tryz.isAgg146
  z46:=Tryz.sizeOf146
  v46:=Tryz.zeroValue146
  t51:=Tryz.underlying153
  a51:=Tryz.isAgg153
  z51:=Tryz.sizeOf153
  v51:=Tryz.zeroValue153
  t146:=Tryz.underlying156
  a146:=Tryz.isAgg156
  z146:=Tryz.sizeOf156
  v146:=Tryz.zeroValue156
  g1:=by kernel_rfl }
open Go.RowKit Go.Lib in
theorem Tryz.strings_Count_one (s:ByteArray) (c:UInt8) (w:World) :
    Calls Tryz.prog 62 #[.string s,.string ⟨#[c]⟩] w fun e w' => e=.returned (.int .i64 (Lib.countByte s.data.toList c))∧w'=w:=Any.strings_Count_one Tryz.lays138 s c w
def Tryz.lays149_ren:Go.Shelf.Ren:=⟨fun|149 => 63|222 => 98|n => n,fun|9 => 9|5 => 5|3 => 3|4 => 4|n => n,fun|n => n⟩
theorem Tryz.lays149:Go.Proofs.Lays.n149 Tryz.prog Tryz.lays149_ren:={
  mixed:=by kernel_rfl
  f149:=Tryz.func63.trans (congrArg some (by kernel_rfl))
  f222:=Tryz.func98.trans (congrArg some (by kernel_rfl))
  t3:=Tryz.underlying3
  a3:=Tryz.isAgg3
  z3:=Tryz.sizeOf3
  v3:=Tryz.zeroValue3
  t4:=Tryz.underlying4
  a4:=Tryz.isAgg4
  z4:=Tryz.sizeOf4
  v4:=Tryz.zeroValue4
  t5:=Tryz.underlying5
  a5:=Tryz.isAgg5
  z5:=Tryz.sizeOf5
  v5:=Tryz.zeroValue5
  t9:=Tryz.underlying9
  a9:=Tryz.isAgg9
  z9:=Tryz.sizeOf9
  v9:=Tryz.zeroValue9 }
open Go.RowKit Go.Lib in
theorem Tryz.strings_LastIndexByte (s:ByteArray) (c:Int) (hs:s.size<4611686018427387904) (w:World) :
    Calls Tryz.prog 63 #[.string s,.int .u8 c] w fun e w' => e=.returned (.int .i64 (Lib.lastIndexByte s c))∧w'=w:=Any.strings_LastIndexByte Tryz.lays149 s c hs w
def Tryz.lays102_ren:Go.Shelf.Ren:=⟨fun|102 => 34|209 => 69|207 => 104|n => n,fun|9 => 9|4 => 4|3 => 3|n => n,fun|n => n⟩
theorem Tryz.lays102:Go.Proofs.Lays.n102 Tryz.prog Tryz.lays102_ren:={
  mixed:=by kernel_rfl
  f102:=Tryz.func34.trans (congrArg some (by kernel_rfl))
  f207:=Tryz.func104.trans (congrArg some (by kernel_rfl))
  f209:=Tryz.func69.trans (congrArg some (by kernel_rfl))
  t3:=Tryz.underlying3
  a3:=Tryz.isAgg3
  z3:=Tryz.sizeOf3
  v3:=Tryz.zeroValue3
  t4:=Tryz.underlying4
  a4:=Tryz.isAgg4
  z4:=Tryz.sizeOf4
  v4:=Tryz.zeroValue4
  t9:=Tryz.underlying9
  a9:=Tryz.isAgg9
  z9:=Tryz.sizeOf9
  v9:=Tryz.zeroValue9 }
open Go.RowKit Go.Lib in
theorem Tryz.strings_TrimSuffix (s p:ByteArray) (w:World) (hs:s.size≤9223372036854775807) :
    Calls Tryz.prog 34 #[.string s,.string p] w fun e w' => e=.returned (.string ⟨(Lib.trimSuffix s.data.toList p.data.toList).toArray⟩)∧w'=w:=Any.strings_TrimSuffix Tryz.lays102 s p w hs
def Tryz.lays146_ren:Go.Shelf.Ren:=⟨fun|146 => 65|221 => 101|268 => 128|138 => 62|143 => 97|195 => 95|197 => 100|218 => 96|219 => 126|260 => 127|217 => 145|225 => 146|224 => 147|267 => 148|266 => 159|314 => 160|n => n,fun|9 => 9|31 => 41|3 => 3|4 => 4|0 => 0|105 => 112|21 => 21|5 => 5|46 => 146|119 => 147|139 => 150|138 => 149|146 => 156|51 => 153|n => n,fun|1 => 0|3 => 1|4 => 2|n => n⟩
theorem Tryz.lays146:Go.Proofs.Lays.n146 Tryz.prog Tryz.lays146_ren:={
  mixed:=by kernel_rfl
  f138:=Tryz.func62.trans (congrArg some (by kernel_rfl))
  f143:=Tryz.func97.trans (congrArg some (by kernel_rfl))
  f146:=Tryz.func65.trans (congrArg some (by kernel_rfl))
  f195:=Tryz.func95.trans (congrArg some (by kernel_rfl))
  f197:=Tryz.func100.trans (congrArg some (by kernel_rfl))
  f217:=Tryz.func145.trans (congrArg some (by kernel_rfl))
  f218:=Tryz.func96.trans (congrArg some (by kernel_rfl))
  f219:=Tryz.func126.trans (congrArg some (by kernel_rfl))
  f221:=Tryz.func101.trans (congrArg some (by kernel_rfl))
  f224:=Tryz.func147.trans (congrArg some (by kernel_rfl))
  f225:=Tryz.func146.trans (congrArg some (by kernel_rfl))
  f260:=Tryz.func127.trans (congrArg some (by kernel_rfl))
  f266:=Tryz.func159.trans (congrArg some (by kernel_rfl))
  f267:=Tryz.func148.trans (congrArg some (by kernel_rfl))
  f268:=Tryz.func128.trans (congrArg some (by kernel_rfl))
  f314:=Tryz.func160.trans (congrArg some (by kernel_rfl))
  t0:=Tryz.underlying0
  a0:=Tryz.isAgg0
  z0:=Tryz.sizeOf0
  v0:=Tryz.zeroValue0
  t3:=Tryz.underlying3
  a3:=Tryz.isAgg3
  z3:=Tryz.sizeOf3
  v3:=Tryz.zeroValue3
  t4:=Tryz.underlying4
  a4:=Tryz.isAgg4
  z4:=Tryz.sizeOf4
  v4:=Tryz.zeroValue4
  t5:=Tryz.underlying5
  a5:=Tryz.isAgg5
  z5:=Tryz.sizeOf5
  v5:=Tryz.zeroValue5
  t9:=Tryz.underlying9
  a9:=Tryz.isAgg9
  z9:=Tryz.sizeOf9
  v9:=Tryz.zeroValue9
  t21:=Tryz.underlying21
  a21:=Tryz.isAgg21
  z21:=Tryz.sizeOf21
  v21:=Tryz.zeroValue21
  t31:=Tryz.underlying41
  a31:=Tryz.isAgg41
  z31:=Tryz.sizeOf41
  v31:=Tryz.zeroValue41
  t46:=Tryz.underlying146
  a46:=Tryz.isAgg146
  z46:=Tryz.sizeOf146
  v46:=Tryz.zeroValue146
  t51:=Tryz.underlying153
  a51:=Tryz.isAgg153
  z51:=Tryz.sizeOf153
  v51:=Tryz.zeroValue153
  t105:=Tryz.underlying112
  a105:=Tryz.isAgg112
  z105:=Tryz.sizeOf112
  v105:=Tryz.zeroValue112
  t119:=Tryz.underlying147
  a119:=Tryz.isAgg147
  z119:=Tryz.sizeOf147
  t138:=Tryz.underlying149
  a138:=Tryz.isAgg149
  z138:=Tryz.sizeOf149
  v138:=Tryz.zeroValue149
  t139:=Tryz.underlying150
  a139:=Tryz.isAgg150
  z139:=Tryz.sizeOf150
  v139:=Tryz.zeroValue150
  t146:=Tryz.underlying156
  a146:=Tryz.isAgg156
  z146:=Tryz.sizeOf156
  v146:=Tryz.zeroValue156
  g1:=by kernel_rfl
  g3:=by kernel_rfl
  g4:=by kernel_rfl }
open Go.RowKit Go.Lib in
theorem Tryz.strings_Split (s sep:ByteArray) (m:Int) (w:World) (hs:s.size<4294967281) (hm:w.cell? ⟨0,0,none⟩=some (.int .i64 m)) (h1:1≤sep.size) :
    Calls Tryz.prog 65 #[.string s,.string sep] w fun e w' =>
      e=.returned (.slice (some ⟨w.heap.size,0,none⟩) (Lib.countB s sep+1) (Lib.countB s sep+1))∧w'=w.alloc (.cells ((Lib.splitB sep 0 (Lib.countB s sep) s).map Value.string).toArray 9):=Any.strings_Split Tryz.lays146 (by kernel_rfl) s sep m w hs hm h1
end Go.Proofs
end
section
namespace Go.Proofs.YtjiidlkkkednoaaGreatDoor.Q
open Go.RowKit Go.Proofs.YtjiidlkkkednoaaGreatDoorW.PrintWords
def GLtop:Nat:=max 0 3
structure GL (w:World):Prop where
  maxLen:∃ m:Int,w.cell? ⟨0,0,none⟩=some (.int .i64 m)
  pow : Lib.TabIs Tryz.prog w "internal/strconv.uint64pow10" .u64 Lib.pow10Tab
theorem pow_named : Tryz.prog.globalNamed "internal/strconv.uint64pow10" = some 3 := by kernel_rfl
theorem GL.lt {w:World} (h:GL w):GLtop<w.heap.size:=by
  obtain ⟨m,hm⟩:=h.maxLen
  have h1:=World.block_lt_of_cell? w _ hm
  have h2:=World.block_lt_of_cell? w _ (h.pow.cell pow_named 0 (by decide))
  simp only at h1 h2
  exact Nat.max_lt.2 ⟨h1,h2⟩
theorem GL.below {w w':World} {B:Nat} (h:GL w) (hb:Below B w w') (hB:GLtop<B):GL w':=by
  obtain ⟨m,hm⟩:=h.maxLen
  have h1:w'.heap[0]?=_:=hb.block _ (Nat.lt_of_le_of_lt (Nat.le_max_left _ _) hB)
  have h2:w'.heap[3]?=_:=hb.block _ (Nat.lt_of_le_of_lt (Nat.le_max_right _ _) hB)
  refine ⟨⟨m,?_⟩,?_⟩
  · simp only [World.cell?] at hm ⊢
    rw [h1]
    exact hm
  · have hp:=h.pow
    unfold Lib.TabIs World.var? at hp ⊢
    rw [pow_named] at hp ⊢
    simp only [Option.bind_some] at hp ⊢
    rw [h2]
    exact hp
theorem GL.below0 {w w':World} (h:GL w) (hb:Below w.heap.size w w'):GL w':=h.below hb h.lt
theorem GL.drewN {w:World} (h:GL w) (n:Nat):GL (w.drewN n):=⟨h.maxLen,h.pow⟩
theorem GL.shaped {w:World} (h:w.ShapedOpen Tryz.prog) {l:List (String × DataW Unit)} (hl:laidMetH Tryz.prog l w)
    (hf : (l.filter fun x => x.1 == "internal/strconv.uint64pow10") = [("internal/strconv.uint64pow10", Lib.tabData .u64 Lib.pow10Tab)]) : GL w := by
  have h2 := hl.filter (fun x => x.1 == "internal/strconv.uint64pow10")
  rw [hf] at h2
  have h3 : laidMet Tryz.prog [("internal/strconv.uint64pow10", Lib.tabData .u64 Lib.pow10Tab)] w := h2
  exact ⟨cell_of_shapedOpen_int (g:=0) (t:=3) h (by decide +kernel) (zero:=#[.int .i64 0]) (by kernel_rfl) rfl (by kernel_rfl) (by kernel_rfl) Tryz.underlying3,
    Lib.tabIs_of_head pow_named (by kernel_rfl) Tryz.underlying152 Tryz.underlying140 (by kernel_rfl) (by kernel_rfl) h3⟩
theorem returnsIn_shaped {H:Type} {enc:TypeId × Value→H} {a:Assume} {C:Checked} {os:Os} {f:FuncId} {fn:Func} {s:ChangeSpec} {conds:List PathCond} {apart fresh handsOn again:Bool} {X:World→Prop}
    (hX:∀ (w w':World),w.heap=w'.heap→X w→X w')
    (own:ownKnob C.prog.godebug=none) (started:os.Started) (noInit:C.prog.inits.idxOf? f=none) (hfn:C.prog.funcs[f]?=some fn)
    (witness:∃ (w:World) (tape:Tape) (i:Input),w.os=os∧(w.forCall tape i).Shaped C.prog∧i.vars=[]∧Input.okWide C.prog (w.forCall tape i) .any w.heap.size f i ∧
      ((s.pre enc C.prog fn conds apart (w.forCall tape i).memory i.args∧X (w.forCall tape i).memory)∧sizedMet enc C.prog fn (OpenSpec.ofChange s) apart (w.forCall tape i).memory i.args)∧a.holds C.prog (lone (Frame.enter C.prog f i.args .normal) [] (w.forCall tape i)))
    (contract:∀ (W:World) (base:Nat) (args:Array Value) (ds gs:List (DataW H)) (before:List MemPlace),
      (∀ (j:Nat) t v,fn.params[j]?=some t→args[j]?=some v→Value.okWide C.prog W .any base t v) →
      DataW.Whole enc C.prog fn.params.toList s.vars apart W args.toList ds gs before →
      conds.all (PathCond.test C.prog ⟨fn.params.toList,ds,s.plain.varTypes C.prog,gs⟩)=true →
      (DataW.weightsEach C.prog (fn.params.toList++s.plain.varTypes C.prog) (ds++gs)).all (·≤reachBytes)=true→X W→W.ShapedOpen C.prog →
      Calls C.prog f args W fun e W' => ∃ v,e=.returned v∧s.post enc C.prog fn apart fresh handsOn again W args v W') :
    ReturnsInHanded a C os f .any (fun w args => (s.pre enc C.prog fn conds apart w args∧X w)∧sizedMet enc C.prog fn (OpenSpec.ofChange s) apart w args) (s.post enc C.prog fn apart fresh handsOn again):=by
  refine returnsInHanded_of_calls own started noInit witness fun w tape i _ shape _ fits ⟨⟨⟨ds,gs,before,whole,met⟩,x⟩,sized⟩ _ => ?_
  obtain ⟨_,_,_,g,hg,_,_,_,_,each⟩:=fits
  obtain rfl:g=fn:=Option.some.inj (hg.symm.trans hfn)
  exact (contract (w.forCall tape i) w.heap.size i.args ds gs before each (DataW.Whole.of_heap (by rfl) whole) met (sized.weights whole) (hX _ _ (by rfl) x) shape).mono fun _ _ ⟨v,he,hp⟩ => by
    subst he
    exact ChangeSpec.post_blind hp
end Go.Proofs.YtjiidlkkkednoaaGreatDoor.Q
end
section
namespace Go.Proofs.YtjiidlkkkednoaaGreatDoor.Q
open Go.RowKit Go.Proofs.YtjiidlkkkednoaaGreatDoorW.PrintWords
def bs (l:List UInt8):ByteArray:=⟨l.toArray⟩
theorem bs_data (s:ByteArray):bs s.data.toList=s:=by simp [bs]
theorem data_bs (l:List UInt8):(bs l).data.toList=l:=by simp [bs]
theorem size_bs (l:List UInt8):(bs l).size=l.length:=by simp [bs,ByteArray.size]
theorem toList_bs (l:List UInt8):(bs l).toList=l:=by simp [bs]
theorem ext_bs {s t:ByteArray} (h:s.data.toList=t.data.toList):s=t:=by rw [← bs_data s,← bs_data t,h]
theorem extract_bs (l:List UInt8) (i j:Nat):(bs l).extract i j=bs ((l.take j).drop i):=ext_bs (by simp [bs,ByteArray.data_extract,List.extract_eq_take_drop,List.drop_take])
theorem idx_span (l:List UInt8) (c:UInt8):Lib.indexByte l c=if l.contains c then ((l.takeWhile (· != c)).length:Int) else -1:=by
  induction l with
  | nil => simp [Lib.indexByte]
  | cons x r ih =>
    unfold Lib.indexByte
    by_cases h:x=c
    · subst h
      simp
    · have hb:(x != c)=true:=by simpa using h
      have hc:(c == x)=false:=by simpa using fun e => h e.symm
      simp only [List.contains_cons,hc,Bool.false_or,List.takeWhile_cons,hb]
      rw [ih]
      simp [h]
      split <;> simp_all
      all_goals omega
def cutL (l:List UInt8) (c:UInt8):List UInt8:=l.takeWhile (· != c)
def cutR (l:List UInt8) (c:UInt8):List UInt8:=(l.dropWhile (· != c)).tail
theorem cut_length (l:List UInt8) (c:UInt8) (h:l.contains c=true):(cutL l c).length<l.length∧cutL l c=l.take (cutL l c).length∧cutR l c=l.drop ((cutL l c).length+1):=by
  induction l with
  | nil => simp at h
  | cons x r ih =>
    by_cases hx:x=c
    · subst hx
      simp [cutL,cutR]
    · have hb:(x != c)=true:=by simpa using hx
      have hr:r.contains c=true:=by
        have hc:(c == x)=false:=by simpa using fun e => hx e.symm
        rw [List.contains_cons,hc,Bool.false_or] at h
        exact h
      obtain ⟨h1,h2,h3⟩:=ih hr
      unfold cutL cutR at *
      simp only [List.takeWhile_cons,List.dropWhile_cons,hb,if_true,List.length_cons,List.take_succ_cons,List.drop_succ_cons]
      exact ⟨by omega,by rw [← h2],h3⟩
theorem cut_none (l:List UInt8) (c:UInt8) (h:l.contains c=false):cutL l c=l∧cutR l c=[]:=by
  have hp:∀ x ∈ l,(x != c)=true:=by
    intro x hx
    simp at h
    simp
    rintro rfl
    exact h hx
  unfold cutL cutR
  clear h
  induction l with
  | nil => exact ⟨rfl,rfl⟩
  | cons x r ih =>
    obtain ⟨h1,h2⟩:=ih (fun y hy => hp y (List.mem_cons_of_mem _ hy))
    have hx:=hp x List.mem_cons_self
    simp only [List.takeWhile_cons,List.dropWhile_cons,hx,if_true]
    exact ⟨by rw [h1],h2⟩
def parts (c:UInt8):List UInt8→List (List UInt8)
  | [] => [[]]
  | x :: r => if x=c then [] :: parts c r else match parts c r with|[] => [[x]]|w :: ws => (x :: w) :: ws
theorem parts_ne (c:UInt8) (l:List UInt8):parts c l≠[]:=by
  cases l with
  | nil => simp [parts]
  | cons x r =>
    unfold parts
    split
    · simp
    · split <;> simp
theorem parts_cons (c x:UInt8) (r:List UInt8):parts c (x :: r)=if x=c then [] :: parts c r else match parts c r with|[] => [[x]]|w :: ws => (x :: w) :: ws:=rfl
theorem parts_cut (c:UInt8) (l:List UInt8):parts c l=cutL l c :: (if l.contains c=true then parts c (cutR l c) else []):=by
  induction l with
  | nil => simp [parts,cutL]
  | cons x r ih =>
    rw [parts_cons]
    by_cases hx:x=c
    · subst hx
      rw [if_pos rfl,if_pos (by simp)]
      simp [cutL,cutR]
    · rw [if_neg hx,ih]
      have hb:(x != c)=true:=by simpa using hx
      have hc:(c == x)=false:=by simpa using fun e => hx e.symm
      have e1:cutL (x :: r) c=x :: cutL r c:=by simp only [cutL,List.takeWhile_cons,hb,if_true]
      have e2:cutR (x :: r) c=cutR r c:=by simp only [cutR,List.dropWhile_cons,hb,if_true]
      rw [e1,e2,List.contains_cons,hc,Bool.false_or]
end Go.Proofs.YtjiidlkkkednoaaGreatDoor.Q
end
section
namespace Go.Proofs.YtjiidlkkkednoaaGreatDoor.R
open Go.RowKit Go.Proofs.YtjiidlkkkednoaaGreatDoorW.PrintWords Go.Proofs.YtjiidlkkkednoaaGreatDoorW.PrintLast Go.Proofs.YtjiidlkkkednoaaGreatDoorW.PrintMore
attribute [local go_sem] max2_int min2_int max_two min_two max_three min_three max_four min_four
set_option linter.unusedVariables false
set_option linter.unusedSimpArgs false
def errW:Option Int→Value
  | none => .nilIface
  | some c => .iface 0 (.int .i64 c)
theorem errW_none:errW none=.nilIface:=rfl
theorem errW_some (c:Int):errW (some c)=.iface 0 (.int .i64 c):=rfl
end Go.Proofs.YtjiidlkkkednoaaGreatDoor.R
end
