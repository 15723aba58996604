import Derived.Shelf.Strings.Builder1
import Derived.Shelf.Strings.Builder2
import Derived.Shelf.Strings.OnBuilder
import Derived.Shelf.Strings.Trim
import Derived.Shelf.Small.Utf8
import Derived.Shelf.Small.Strs
import Derived.Shelf.Small.Wraps
import Derived.Shelf.Strings.BuilderF
import Derived.Shelf.Strings.BuilderK
import Derived.Shelf.Utf8.RuneCount
import Derived.Shelf.Strings.Builder2Cap
import Derived.Shelf.LaysM
import Derived.Shelf.Bytes.Len
import Derived.Shelf.Bytes.TryGrow
import Derived.Shelf.Bytes.GrowSliceCatch
import Derived.Shelf.Bytes.GrowSlice
import Derived.Shelf.Bytes.GrowRow0
import Derived.Shelf.Bytes.GrowRow
import Derived.Shelf.Bytes.GrowNil
import Derived.Shelf.Bytes.Grow
import Derived.Shelf.Bytes.WriteByte
import Derived.Shelf.Bytes.String
import Derived.Shelf.Bytes.Reset
import Derived.Shelf.Strconv.Clone
import Derived.Shelf.Strings.Search1
import Derived.Shelf.Bytes.GrowRow0Kept
import Derived.Shelf.Strings.Search2
import Derived.Shelf.Bytes.GrowRowKept
import Derived.Shelf.Strings.Search3
import Derived.Shelf.Bytes.GrowNilKept
import Derived.Shelf.Strings.Cut
import Derived.Shelf.Bytes.GrowKept
import Derived.Shelf.Strings.Count
import Derived.Shelf.Bytes.WriteByteKept
import Derived.Shelf.Strings.Shaped
import Derived.Shelf.Bytes.ResetKept
import Derived.Shelf.Strings.LastIndex
import Derived.Shelf.Bytes.BufferK
import Derived.Shelf.Bytes.GrowRow0Own
import Derived.Shelf.Bytes.GrowRowOwn
import Derived.Shelf.Bytes.GrowNilOwn
import Derived.Shelf.Bytes.GrowOwn
import Derived.Shelf.Bytes.LenAt
import Derived.Shelf.Bytes.StringAt
import Derived.Shelf.Bytes.TryGrowAt
import Derived.Shelf.Bytes.GrowRow0At
import Derived.Shelf.Bytes.GrowRowAt
import Derived.Shelf.Bytes.GrowNilAt
import Derived.Shelf.Bytes.GrowAt
import Derived.Shelf.Bytes.WriteByteAt
import Derived.Shelf.Strings.Prefix
import Derived.Shelf.Strings.Split
import Derived.Shelf.Unicode.Decode
import Derived.Shelf.Strings.Runes
import Derived.Shelf.Strings.RuneCount
import Derived.Shelf.Strings.AsciiSet
import Derived.Shelf.Unicode.DecodeSlow
import Derived.Shelf.Unicode.DecodeAny
import Derived.Shelf.Strings.BuilderCap
import Derived.Shelf.Slices.Turned
import Derived.Ground.PaProg
import Derived.Shelf.Path.Small
import Derived.Test.YtjdjljgbfpkbdaaGreatDoorProg
set_option linter.unusedVariables false
set_option linter.unusedSimpArgs false
namespace Go.Proofs
open Go.Shelf
def Tryz.lays161_ren:Go.Shelf.Ren:=⟨fun|161 => 29|231 => 53|227 => 54|233 => 55|235 => 56|228 => 87|197 => 85|151 => 88|260 => 102|152 => 103|137 => 45|119 => 112|224 => 108|225 => 107|217 => 75|266 => 98|n => n,fun|9 => 9|4 => 4|3 => 3|5 => 5|117 => 93|116 => 92|0 => 0|124 => 96|105 => 117|21 => 21|119 => 133|46 => 129|139 => 136|138 => 135|n => n,fun|3 => 1|4 => 2|n => n⟩
theorem Tryz.lays161:Go.Proofs.Lays.n161 Tryz.prog Tryz.lays161_ren:={
 mixed:=by kernel_rfl
 f119:=Tryz.func112.trans (congrArg some (by kernel_rfl))
 f137:=Tryz.func45.trans (congrArg some (by kernel_rfl))
 f151:=Tryz.func88.trans (congrArg some (by kernel_rfl))
 f152:=Tryz.func103.trans (congrArg some (by kernel_rfl))
 f161:=Tryz.func29.trans (congrArg some (by kernel_rfl))
 f197:=Tryz.func85.trans (congrArg some (by kernel_rfl))
 f217:=Tryz.func75.trans (congrArg some (by kernel_rfl))
 f224:=Tryz.func108.trans (congrArg some (by kernel_rfl))
 f225:=Tryz.func107.trans (congrArg some (by kernel_rfl))
 f227:=Tryz.func54.trans (congrArg some (by kernel_rfl))
 f228:=Tryz.func87.trans (congrArg some (by kernel_rfl))
 f231:=Tryz.func53.trans (congrArg some (by kernel_rfl))
 f233:=Tryz.func55.trans (congrArg some (by kernel_rfl))
 f235:=Tryz.func56.trans (congrArg some (by kernel_rfl))
 f260:=Tryz.func102.trans (congrArg some (by kernel_rfl))
 f266:=Tryz.func98.trans (congrArg some (by kernel_rfl))
 t0:=Tryz.underlying0
 a0:=Tryz.isAgg0
 z0:=Tryz.sizeOf0
 v0:=Tryz.zeroValue0
 t3:=Tryz.underlying3
 a3:=Tryz.isAgg3
 z3:=Tryz.sizeOf3
 v3:=Tryz.zeroValue3
 t4:=Tryz.underlying4
 a4:=Tryz.isAgg4
 z4:=Tryz.sizeOf4
 v4:=Tryz.zeroValue4
 t5:=Tryz.underlying5
 a5:=Tryz.isAgg5
 z5:=Tryz.sizeOf5
 v5:=Tryz.zeroValue5
 t9:=Tryz.underlying9
 a9:=Tryz.isAgg9
 z9:=Tryz.sizeOf9
 v9:=Tryz.zeroValue9
 t21:=Tryz.underlying21
 a21:=Tryz.isAgg21
 z21:=Tryz.sizeOf21
 v21:=Tryz.zeroValue21
 t46:=Tryz.underlying129
 a46:=Tryz.isAgg129
 z46:=Tryz.sizeOf129
 v46:=Tryz.zeroValue129
 t105:=Tryz.underlying117
 a105:=Tryz.isAgg117
 z105:=Tryz.sizeOf117
 v105:=Tryz.zeroValue117
 t116:=Tryz.underlying92
 a116:=Tryz.isAgg92
 z116:=Tryz.sizeOf92
 t117:=Tryz.underlying93
 a117:=Tryz.isAgg93
 z117:=Tryz.sizeOf93
 v117:=Tryz.zeroValue93
 t119:=Tryz.underlying133
 a119:=Tryz.isAgg133
 z119:=Tryz.sizeOf133
 t124:=Tryz.underlying96
 a124:=Tryz.isAgg96
 z124:=Tryz.sizeOf96
 v124:=Tryz.zeroValue96
 t138:=Tryz.underlying135
 a138:=Tryz.isAgg135
 z138:=Tryz.sizeOf135
 v138:=Tryz.zeroValue135
 t139:=Tryz.underlying136
 a139:=Tryz.isAgg136
 z139:=Tryz.sizeOf136
 v139:=Tryz.zeroValue136
 g3:=by kernel_rfl
 g4:=by kernel_rfl }
open Go.RowKit in
theorem Tryz.strings_TrimLeft_one (s:ByteArray) (c:UInt8) (hc:c.toNat<128) (w:World) :
  Calls Tryz.prog 29 #[.string s,.string ⟨#[c]⟩] w fun e w' => e=.returned (.string ⟨(Lib.trimLeftB s.data.toList c).toArray⟩)∧w'=w:=Any.strings_TrimLeft_one Tryz.lays161 s c hc w
def Tryz.lays137_ren:Go.Shelf.Ren:=⟨fun|137 => 45|217 => 75|266 => 98|n => n,fun|9 => 9|5 => 5|3 => 3|n => n,fun|n => n⟩
theorem Tryz.lays137:Go.Proofs.Lays.n137 Tryz.prog Tryz.lays137_ren:={
 mixed:=by kernel_rfl
 f137:=Tryz.func45.trans (congrArg some (by kernel_rfl))
 f217:=Tryz.func75.trans (congrArg some (by kernel_rfl))
 f266:=Tryz.func98.trans (congrArg some (by kernel_rfl))
 t3:=Tryz.underlying3
 a3:=Tryz.isAgg3
 z3:=Tryz.sizeOf3
 v3:=Tryz.zeroValue3
 t5:=Tryz.underlying5
 a5:=Tryz.isAgg5
 z5:=Tryz.sizeOf5
 v5:=Tryz.zeroValue5
 t9:=Tryz.underlying9
 a9:=Tryz.isAgg9
 z9:=Tryz.sizeOf9
 v9:=Tryz.zeroValue9 }
open Go.RowKit in
theorem Tryz.strings_IndexByte (s:ByteArray) (c:Int) (w:World) :
  Calls Tryz.prog 45 #[.string s,.int .u8 c] w fun e w' => e=.returned (.int .i64 (Lib.indexByte s.data.toList c.toNat.toUInt8))∧w'=w:=Any.strings_IndexByte Tryz.lays137 s c w
def Tryz.lays103_ren:Go.Shelf.Ren:=⟨fun|103 => 57|210 => 89|206 => 104|n => n,fun|9 => 9|4 => 4|24 => 97|3 => 3|n => n,fun|n => n⟩
theorem Tryz.lays103:Go.Proofs.Lays.n103 Tryz.prog Tryz.lays103_ren:={
 mixed:=by kernel_rfl
 f103:=Tryz.func57.trans (congrArg some (by kernel_rfl))
 f206:=Tryz.func104.trans (congrArg some (by kernel_rfl))
 f210:=Tryz.func89.trans (congrArg some (by kernel_rfl))
 t3:=Tryz.underlying3
 a3:=Tryz.isAgg3
 z3:=Tryz.sizeOf3
 v3:=Tryz.zeroValue3
 t4:=Tryz.underlying4
 a4:=Tryz.isAgg4
 z4:=Tryz.sizeOf4
 v4:=Tryz.zeroValue4
 t9:=Tryz.underlying9
 a9:=Tryz.isAgg9
 z9:=Tryz.sizeOf9
 v9:=Tryz.zeroValue9
 t24:=Tryz.underlying97
 a24:=Tryz.isAgg97
 z24:=Tryz.sizeOf97
 v24:=Tryz.zeroValue97 }
open Go.RowKit in
theorem Tryz.strings_CutPrefix (s p:ByteArray) (w:World) :
  Calls Tryz.prog 57 #[.string s,.string p] w fun e w' => e=.returned (.tuple #[.string ⟨(Lib.trimPrefix s.data.toList p.data.toList).toArray⟩,.bool (Lib.hasPrefix s.data.toList p.data.toList)])∧w'=w:=Any.strings_CutPrefix Tryz.lays103 s p w
def Tryz.laysM179_ren:Go.Shelf.Ren:=⟨fun|179 => 118|251 => 121|252 => 122|181 => 123|184 => 124|290 => 125|324 => 126|n => n,fun|130 => 156|5 => 5|75 => 114|0 => 0|93 => 143|91 => 141|3 => 3|131 => 157|4 => 4|37 => 23|20 => 20|80 => 109|9 => 9|n => n,fun|14 => 3|n => n⟩
theorem Tryz.laysM179:Go.Proofs.LaysM.n179 Tryz.prog Tryz.laysM179_ren:={
 mixed:=by kernel_rfl
 f179:=Tryz.func118.trans (congrArg some (by kernel_rfl))
 f181:=Tryz.func123.trans (congrArg some (by kernel_rfl))
 f184:=Tryz.func124.trans (congrArg some (by kernel_rfl))
 f251:=Tryz.func121.trans (congrArg some (by kernel_rfl))
 f252:=Tryz.func122.trans (congrArg some (by kernel_rfl))
 f290:=Tryz.func125.trans (congrArg some (by kernel_rfl))
 f324:=Tryz.func126.trans (congrArg some (by kernel_rfl))
 t0:=Tryz.underlying0
 a0:=Tryz.isAgg0
 z0:=Tryz.sizeOf0
 v0:=Tryz.zeroValue0
 t3:=Tryz.underlying3
 a3:=Tryz.isAgg3
 z3:=Tryz.sizeOf3
 v3:=Tryz.zeroValue3
 t4:=Tryz.underlying4
 a4:=Tryz.isAgg4
 z4:=Tryz.sizeOf4
 v4:=Tryz.zeroValue4
 t5:=Tryz.underlying5
 a5:=Tryz.isAgg5
 z5:=Tryz.sizeOf5
 v5:=Tryz.zeroValue5
 t20:=Tryz.underlying20
 a20:=Tryz.isAgg20
 z20:=Tryz.sizeOf20
 v20:=Tryz.zeroValue20
 t37:=Tryz.underlying23
 a37:=Tryz.isAgg23
 z37:=Tryz.sizeOf23
 v37:=Tryz.zeroValue23
 t75:=Tryz.underlying114
 a75:=Tryz.isAgg114
 z75:=Tryz.sizeOf114
 v75:=Tryz.zeroValue114
 t91:=Tryz.underlying141
 a91:=Tryz.isAgg141
 z91:=Tryz.sizeOf141
 v91:=Tryz.zeroValue141
 t93:=Tryz.underlying143
 a93:=Tryz.isAgg143
 z93:=Tryz.sizeOf143
 v93:=Tryz.zeroValue143
 t130:=Tryz.underlying156
 a130:=Tryz.isAgg156
 z130:=Tryz.sizeOf156
 v130:=Tryz.zeroValue156
 t131:=Tryz.underlying157
 a131:=Tryz.isAgg157
 z131:=Tryz.sizeOf157
 v131:=Tryz.zeroValue157
 g14:=by kernel_rfl
 t9:=Tryz.underlying9
 a9:=Tryz.isAgg9
 z9:=Tryz.sizeOf9
 v9:=Tryz.zeroValue9
 t80:=Tryz.underlying109
 a80:=Tryz.isAgg109
 z80:=Tryz.sizeOf109
 v80:=Tryz.zeroValue109
 i0:=by kernel_rfl
 i3:=by kernel_rfl
 i4:=by kernel_rfl
 i5:=by kernel_rfl
 i9:=by kernel_rfl
 i20:=by kernel_rfl
 i37:=by kernel_rfl
 i75:=by kernel_rfl
 i80:=by kernel_rfl
 i91:=by kernel_rfl
 i93:=by kernel_rfl
 i130:=by kernel_rfl
 i131:=by kernel_rfl
 m14:=by kernel_rfl }
open Go.RowKit in
theorem Tryz.Buffer_WriteByte (B b:Nat) (bs:List Value) (c:Int) (w:World) (h:Lib.IsBuffer 143 5 B b bs w) (hBw:B≤w.heap.size) (h1:∀ v ∈ bs,v.oneCell'=true) (hlim:bs.length+1≤140737488355328) :
  Calls Tryz.prog 118 #[.pointer (some ⟨b,0,none⟩),.int .u8 c] w fun e w' => e=.returned .nilIface∧Lib.IsBuffer 143 5 B b (bs++[.int .u8 c]) w'∧Below B w w':=Any.Buffer_WriteByte Tryz.laysM179 B b bs c w h hBw h1 hlim
def Tryz.laysM182_ren:Go.Shelf.Ren:=⟨fun|182 => 116|n => n,fun|130 => 156|9 => 9|4 => 4|0 => 0|93 => 143|37 => 23|3 => 3|91 => 141|5 => 5|n => n,fun|n => n⟩
theorem Tryz.laysM182:Go.Proofs.LaysM.n182 Tryz.prog Tryz.laysM182_ren:={
 mixed:=by kernel_rfl
 f182:=Tryz.func116.trans (congrArg some (by kernel_rfl))
 t0:=Tryz.underlying0
 a0:=Tryz.isAgg0
 z0:=Tryz.sizeOf0
 v0:=Tryz.zeroValue0
 t3:=Tryz.underlying3
 a3:=Tryz.isAgg3
 z3:=Tryz.sizeOf3
 v3:=Tryz.zeroValue3
 t4:=Tryz.underlying4
 a4:=Tryz.isAgg4
 z4:=Tryz.sizeOf4
 v4:=Tryz.zeroValue4
 t9:=Tryz.underlying9
 a9:=Tryz.isAgg9
 z9:=Tryz.sizeOf9
 v9:=Tryz.zeroValue9
 t37:=Tryz.underlying23
 a37:=Tryz.isAgg23
 z37:=Tryz.sizeOf23
 v37:=Tryz.zeroValue23
 t93:=Tryz.underlying143
 a93:=Tryz.isAgg143
 z93:=Tryz.sizeOf143
 v93:=Tryz.zeroValue143
 t130:=Tryz.underlying156
 a130:=Tryz.isAgg156
 z130:=Tryz.sizeOf156
 v130:=Tryz.zeroValue156
 t5:=Tryz.underlying5
 a5:=Tryz.isAgg5
 z5:=Tryz.sizeOf5
 v5:=Tryz.zeroValue5
 t91:=Tryz.underlying141
 a91:=Tryz.isAgg141
 z91:=Tryz.sizeOf141
 v91:=Tryz.zeroValue141
 i0:=by kernel_rfl
 i3:=by kernel_rfl
 i4:=by kernel_rfl
 i5:=by kernel_rfl
 i9:=by kernel_rfl
 i37:=by kernel_rfl
 i91:=by kernel_rfl
 i93:=by kernel_rfl
 i130:=by kernel_rfl }
open Go.RowKit in
theorem Tryz.Buffer_String (B b:Nat) (l:List UInt8) (w:World) (h:Lib.IsBuffer 143 5 B b (Lib.byteCells l) w) :
  Calls Tryz.prog 116 #[.pointer (some ⟨b,0,none⟩)] w fun e w' => e=.returned (.string ⟨l.toArray⟩)∧∃ n,w'=w.drewN n:=Any.Buffer_String Tryz.laysM182 B b l w h
def Tryz.laysM316_ren:Go.Shelf.Ren:=⟨fun|316 => 93|n => n,fun|9 => 9|3 => 3|4 => 4|37 => 23|0 => 0|127 => 126|5 => 5|n => n,fun|n => n⟩
theorem Tryz.laysM316:Go.Proofs.LaysM.n316 Tryz.prog Tryz.laysM316_ren:={
 mixed:=by kernel_rfl
 f316:=Tryz.func93.trans (congrArg some (by kernel_rfl))
 t0:=Tryz.underlying0
 a0:=Tryz.isAgg0
 z0:=Tryz.sizeOf0
 v0:=Tryz.zeroValue0
 t3:=Tryz.underlying3
 a3:=Tryz.isAgg3
 z3:=Tryz.sizeOf3
 v3:=Tryz.zeroValue3
 t4:=Tryz.underlying4
 a4:=Tryz.isAgg4
 z4:=Tryz.sizeOf4
 v4:=Tryz.zeroValue4
 t9:=Tryz.underlying9
 a9:=Tryz.isAgg9
 z9:=Tryz.sizeOf9
 v9:=Tryz.zeroValue9
 t37:=Tryz.underlying23
 a37:=Tryz.isAgg23
 z37:=Tryz.sizeOf23
 v37:=Tryz.zeroValue23
 t127:=Tryz.underlying126
 a127:=Tryz.isAgg126
 z127:=Tryz.sizeOf126
 v127:=Tryz.zeroValue126
 t5:=Tryz.underlying5
 a5:=Tryz.isAgg5
 z5:=Tryz.sizeOf5
 v5:=Tryz.zeroValue5
 i0:=by kernel_rfl
 i3:=by kernel_rfl
 i4:=by kernel_rfl
 i5:=by kernel_rfl
 i9:=by kernel_rfl
 i37:=by kernel_rfl
 i127:=by kernel_rfl }
open Go.RowKit in
theorem Tryz.stringslite_Clone (s:ByteArray) (w:World) (hlim:s.size≤281474976710656) :
  Calls Tryz.prog 93 #[.string s] w fun e w' => e=.returned (.string s)∧Below w.heap.size w w':=Any.stringslite_Clone Tryz.laysM316 s w hlim
def Tryz.lays219_ren:Go.Shelf.Ren:=⟨fun|219 => 99|217 => 75|225 => 107|224 => 108|267 => 109|266 => 98|314 => 119|n => n,fun|9 => 9|3 => 3|4 => 4|5 => 5|46 => 129|146 => 153|51 => 152|n => n,fun|1 => 0|n => n⟩
theorem Tryz.lays219:Go.Proofs.Lays.n219 Tryz.prog Tryz.lays219_ren:={
 mixed:=by kernel_rfl
 f217:=Tryz.func75.trans (congrArg some (by kernel_rfl))
 f219:=Tryz.func99.trans (congrArg some (by kernel_rfl))
 f224:=Tryz.func108.trans (congrArg some (by kernel_rfl))
 f225:=Tryz.func107.trans (congrArg some (by kernel_rfl))
 f266:=Tryz.func98.trans (congrArg some (by kernel_rfl))
 f267:=Tryz.func109.trans (congrArg some (by kernel_rfl))
 f314:=Tryz.func119.trans (congrArg some (by kernel_rfl))
 t3:=Tryz.underlying3
 a3:=Tryz.isAgg3
 z3:=Tryz.sizeOf3
 v3:=Tryz.zeroValue3
 t4:=Tryz.underlying4
 a4:=Tryz.isAgg4
 z4:=Tryz.sizeOf4
 v4:=Tryz.zeroValue4
 t5:=Tryz.underlying5
 a5:=Tryz.isAgg5
 z5:=Tryz.sizeOf5
 v5:=Tryz.zeroValue5
 t9:=Tryz.underlying9
 a9:=Tryz.isAgg9
 z9:=Tryz.sizeOf9
 v9:=Tryz.zeroValue9
 t46:=Tryz.underlying129
 a46:=Tryz.isAgg129
 z46:=Tryz.sizeOf129
 v46:=Tryz.zeroValue129
 t51:=Tryz.underlying152
 a51:=Tryz.isAgg152
 z51:=Tryz.sizeOf152
 v51:=Tryz.zeroValue152
 t146:=Tryz.underlying153
 a146:=Tryz.isAgg153
 z146:=Tryz.sizeOf153
 v146:=Tryz.zeroValue153
 g1:=by kernel_rfl }
open Go.RowKit Go.Lib in
theorem Tryz.stringslite_Index_one (s:ByteArray) (c:UInt8) (w:World) :
  Calls Tryz.prog 99 #[.string s,.string ⟨#[c]⟩] w fun e w' => e=.returned (.int .i64 (Lib.indexByte s.data.toList c))∧w'=w:=Any.stringslite_Index_one Tryz.lays219 s c w
def Tryz.lays143_ren:Go.Shelf.Ren:=⟨fun|143 => 76|219 => 99|217 => 75|225 => 107|224 => 108|267 => 109|266 => 98|314 => 119|n => n,fun|9 => 9|3 => 3|4 => 4|5 => 5|46 => 129|146 => 153|51 => 152|n => n,fun|1 => 0|n => n⟩
theorem Tryz.lays143:Go.Proofs.Lays.n143 Tryz.prog Tryz.lays143_ren:={
 mixed:=by kernel_rfl
 f143:=Tryz.func76.trans (congrArg some (by kernel_rfl))
 f217:=Tryz.func75.trans (congrArg some (by kernel_rfl))
 f219:=Tryz.func99.trans (congrArg some (by kernel_rfl))
 f224:=Tryz.func108.trans (congrArg some (by kernel_rfl))
 f225:=Tryz.func107.trans (congrArg some (by kernel_rfl))
 f266:=Tryz.func98.trans (congrArg some (by kernel_rfl))
 f267:=Tryz.func109.trans (congrArg some (by kernel_rfl))
 f314:=Tryz.func119.trans (congrArg some (by kernel_rfl))
 t3:=Tryz.underlying3
 a3:=Tryz.isAgg3
 z3:=Tryz.sizeOf3
 v3:=Tryz.zeroValue3
 t4:=Tryz.underlying4
 a4:=Tryz.isAgg4
 z4:=Tryz.sizeOf4
 v4:=Tryz.zeroValue4
 t5:=Tryz.underlying5
 a5:=Tryz.isAgg5
 z5:=Tryz.sizeOf5
 v5:=Tryz.zeroValue5
 t9:=Tryz.underlying9
 a9:=Tryz.isAgg9
 z9:=Tryz.sizeOf9
 v9:=Tryz.zeroValue9
 t46:=Tryz.underlying129
 a46:=Tryz.isAgg129
 z46:=Tryz.sizeOf129
 v46:=Tryz.zeroValue129
 t51:=Tryz.underlying152
 a51:=Tryz.isAgg152
 z51:=Tryz.sizeOf152
 v51:=Tryz.zeroValue152
 t146:=Tryz.underlying153
 a146:=Tryz.isAgg153
 z146:=Tryz.sizeOf153
 v146:=Tryz.zeroValue153
 g1:=by kernel_rfl }
open Go.RowKit Go.Lib in
theorem Tryz.strings_Index_one (s:ByteArray) (c:UInt8) (w:World) :
  Calls Tryz.prog 76 #[.string s,.string ⟨#[c]⟩] w fun e w' => e=.returned (.int .i64 (Lib.indexByte s.data.toList c))∧w'=w:=Any.strings_Index_one Tryz.lays143 s c w
def Tryz.lays144_ren:Go.Shelf.Ren:=⟨fun|144 => 46|143 => 76|219 => 99|217 => 75|225 => 107|224 => 108|267 => 109|266 => 98|314 => 119|n => n,fun|9 => 9|4 => 4|3 => 3|5 => 5|46 => 129|146 => 153|51 => 152|n => n,fun|1 => 0|n => n⟩
theorem Tryz.lays144:Go.Proofs.Lays.n144 Tryz.prog Tryz.lays144_ren:={
 mixed:=by kernel_rfl
 f143:=Tryz.func76.trans (congrArg some (by kernel_rfl))
 f144:=Tryz.func46.trans (congrArg some (by kernel_rfl))
 f217:=Tryz.func75.trans (congrArg some (by kernel_rfl))
 f219:=Tryz.func99.trans (congrArg some (by kernel_rfl))
 f224:=Tryz.func108.trans (congrArg some (by kernel_rfl))
 f225:=Tryz.func107.trans (congrArg some (by kernel_rfl))
 f266:=Tryz.func98.trans (congrArg some (by kernel_rfl))
 f267:=Tryz.func109.trans (congrArg some (by kernel_rfl))
 f314:=Tryz.func119.trans (congrArg some (by kernel_rfl))
 t3:=Tryz.underlying3
 a3:=Tryz.isAgg3
 z3:=Tryz.sizeOf3
 v3:=Tryz.zeroValue3
 t4:=Tryz.underlying4
 a4:=Tryz.isAgg4
 z4:=Tryz.sizeOf4
 v4:=Tryz.zeroValue4
 t5:=Tryz.underlying5
 a5:=Tryz.isAgg5
 z5:=Tryz.sizeOf5
 v5:=Tryz.zeroValue5
 t9:=Tryz.underlying9
 a9:=Tryz.isAgg9
 z9:=Tryz.sizeOf9
 v9:=Tryz.zeroValue9
 t46:=Tryz.underlying129
 a46:=Tryz.isAgg129
 z46:=Tryz.sizeOf129
 v46:=Tryz.zeroValue129
 t51:=Tryz.underlying152
 a51:=Tryz.isAgg152
 z51:=Tryz.sizeOf152
 v51:=Tryz.zeroValue152
 t146:=Tryz.underlying153
 a146:=Tryz.isAgg153
 z146:=Tryz.sizeOf153
 v146:=Tryz.zeroValue153
 g1:=by kernel_rfl }
open Go.RowKit Go.Lib in
theorem Tryz.strings_Contains_one (s:ByteArray) (c:UInt8) (w:World) :
  Calls Tryz.prog 46 #[.string s,.string ⟨#[c]⟩] w fun e w' => e=.returned (.bool (decide (0≤Lib.indexByte s.data.toList c)))∧w'=w:=Any.strings_Contains_one Tryz.lays144 s c w
open Go.RowKit Go.Lib in
theorem Tryz.strings_Contains (s sub:ByteArray) (m:Int) (w:World) (hs:s.size<4294967281) (hm:w.cell? ⟨0,0,none⟩=some (.int .i64 m)) :
  Calls Tryz.prog 46 #[.string s,.string sub] w fun e w' => e=.returned (.bool (Lib.contains s.data.toList sub.data.toList))∧w'=w:=Any.strings_Contains Tryz.lays144 s sub m w hs hm
def Tryz.lays145_ren:Go.Shelf.Ren:=⟨fun|145 => 90|220 => 105|219 => 99|217 => 75|225 => 107|224 => 108|267 => 109|266 => 98|314 => 119|n => n,fun|9 => 9|4 => 4|59 => 99|3 => 3|5 => 5|46 => 129|146 => 153|51 => 152|n => n,fun|1 => 0|n => n⟩
theorem Tryz.lays145:Go.Proofs.Lays.n145 Tryz.prog Tryz.lays145_ren:={
 mixed:=by kernel_rfl
 f145:=Tryz.func90.trans (congrArg some (by kernel_rfl))
 f217:=Tryz.func75.trans (congrArg some (by kernel_rfl))
 f219:=Tryz.func99.trans (congrArg some (by kernel_rfl))
 f220:=Tryz.func105.trans (congrArg some (by kernel_rfl))
 f224:=Tryz.func108.trans (congrArg some (by kernel_rfl))
 f225:=Tryz.func107.trans (congrArg some (by kernel_rfl))
 f266:=Tryz.func98.trans (congrArg some (by kernel_rfl))
 f267:=Tryz.func109.trans (congrArg some (by kernel_rfl))
 f314:=Tryz.func119.trans (congrArg some (by kernel_rfl))
 t3:=Tryz.underlying3
 a3:=Tryz.isAgg3
 z3:=Tryz.sizeOf3
 v3:=Tryz.zeroValue3
 t4:=Tryz.underlying4
 a4:=Tryz.isAgg4
 z4:=Tryz.sizeOf4
 v4:=Tryz.zeroValue4
 t5:=Tryz.underlying5
 a5:=Tryz.isAgg5
 z5:=Tryz.sizeOf5
 v5:=Tryz.zeroValue5
 t9:=Tryz.underlying9
 a9:=Tryz.isAgg9
 z9:=Tryz.sizeOf9
 v9:=Tryz.zeroValue9
 t46:=Tryz.underlying129
 a46:=Tryz.isAgg129
 z46:=Tryz.sizeOf129
 v46:=Tryz.zeroValue129
 t51:=Tryz.underlying152
 a51:=Tryz.isAgg152
 z51:=Tryz.sizeOf152
 v51:=Tryz.zeroValue152
 t59:=Tryz.underlying99
 a59:=Tryz.isAgg99
 z59:=Tryz.sizeOf99
 v59:=Tryz.zeroValue99
 t146:=Tryz.underlying153
 a146:=Tryz.isAgg153
 z146:=Tryz.sizeOf153
 v146:=Tryz.zeroValue153
 g1:=by kernel_rfl }
open Go.RowKit Go.Lib in
theorem Tryz.strings_Cut (s sep:ByteArray) (m:Int) (w:World) (hs:s.size<4294967281) (hm:w.cell? ⟨0,0,none⟩=some (.int .i64 m)) :
  Calls Tryz.prog 90 #[.string s,.string sep] w fun e w' => e=.returned (.tuple #[.string ⟨(Lib.cut s.data.toList sep.data.toList).1.toArray⟩,.string ⟨(Lib.cut s.data.toList sep.data.toList).2.1.toArray⟩,.bool (Lib.cut s.data.toList sep.data.toList).2.2])∧∃ n,w'=w.drewN n:=Any.strings_Cut Tryz.lays145 s sep m w hs hm
def Tryz.lays138_ren:Go.Shelf.Ren:=⟨fun|138 => 48|195 => 80|218 => 81|143 => 76|219 => 99|217 => 75|225 => 107|224 => 108|267 => 109|266 => 98|314 => 119|n => n,fun|9 => 9|3 => 3|4 => 4|5 => 5|0 => 0|46 => 129|146 => 153|51 => 152|n => n,fun|1 => 0|n => n⟩
theorem Tryz.lays138:Go.Proofs.Lays.n138 Tryz.prog Tryz.lays138_ren:={
 mixed:=by kernel_rfl
 f138:=Tryz.func48.trans (congrArg some (by kernel_rfl))
 f143:=Tryz.func76.trans (congrArg some (by kernel_rfl))
 f195:=Tryz.func80.trans (congrArg some (by kernel_rfl))
 f217:=Tryz.func75.trans (congrArg some (by kernel_rfl))
 f218:=Tryz.func81.trans (congrArg some (by kernel_rfl))
 f219:=Tryz.func99.trans (congrArg some (by kernel_rfl))
 f224:=Tryz.func108.trans (congrArg some (by kernel_rfl))
 f225:=Tryz.func107.trans (congrArg some (by kernel_rfl))
 f266:=Tryz.func98.trans (congrArg some (by kernel_rfl))
 f267:=Tryz.func109.trans (congrArg some (by kernel_rfl))
 f314:=Tryz.func119.trans (congrArg some (by kernel_rfl))
 t0:=Tryz.underlying0
 a0:=Tryz.isAgg0
 z0:=Tryz.sizeOf0
 v0:=Tryz.zeroValue0
 t3:=Tryz.underlying3
 a3:=Tryz.isAgg3
 z3:=Tryz.sizeOf3
 v3:=Tryz.zeroValue3
 t4:=Tryz.underlying4
 a4:=Tryz.isAgg4
 z4:=Tryz.sizeOf4
 v4:=Tryz.zeroValue4
 t5:=Tryz.underlying5
 a5:=Tryz.isAgg5
 z5:=Tryz.sizeOf5
 v5:=Tryz.zeroValue5
 t9:=Tryz.underlying9
 a9:=Tryz.isAgg9
 z9:=Tryz.sizeOf9
 v9:=Tryz.zeroValue9
 t46:=Tryz.underlying129
 a46:=Tryz.isAgg129
 z46:=Tryz.sizeOf129
 v46:=Tryz.zeroValue129
 t51:=Tryz.underlying152
 a51:=Tryz.isAgg152
 z51:=Tryz.sizeOf152
 v51:=Tryz.zeroValue152
 t146:=Tryz.underlying153
 a146:=Tryz.isAgg153
 z146:=Tryz.sizeOf153
 v146:=Tryz.zeroValue153
 g1:=by kernel_rfl }
open Go.RowKit Go.Lib in
theorem Tryz.strings_Count_one (s:ByteArray) (c:UInt8) (w:World) :
  Calls Tryz.prog 48 #[.string s,.string ⟨#[c]⟩] w fun e w' => e=.returned (.int .i64 (Lib.countByte s.data.toList c))∧w'=w:=Any.strings_Count_one Tryz.lays138 s c w
def Tryz.lays149_ren:Go.Shelf.Ren:=⟨fun|149 => 49|222 => 82|n => n,fun|9 => 9|5 => 5|3 => 3|4 => 4|n => n,fun|n => n⟩
theorem Tryz.lays149:Go.Proofs.Lays.n149 Tryz.prog Tryz.lays149_ren:={
 mixed:=by kernel_rfl
 f149:=Tryz.func49.trans (congrArg some (by kernel_rfl))
 f222:=Tryz.func82.trans (congrArg some (by kernel_rfl))
 t3:=Tryz.underlying3
 a3:=Tryz.isAgg3
 z3:=Tryz.sizeOf3
 v3:=Tryz.zeroValue3
 t4:=Tryz.underlying4
 a4:=Tryz.isAgg4
 z4:=Tryz.sizeOf4
 v4:=Tryz.zeroValue4
 t5:=Tryz.underlying5
 a5:=Tryz.isAgg5
 z5:=Tryz.sizeOf5
 v5:=Tryz.zeroValue5
 t9:=Tryz.underlying9
 a9:=Tryz.isAgg9
 z9:=Tryz.sizeOf9
 v9:=Tryz.zeroValue9 }
open Go.RowKit Go.Lib in
theorem Tryz.strings_LastIndexByte (s:ByteArray) (c:Int) (hs:s.size<4611686018427387904) (w:World) :
  Calls Tryz.prog 49 #[.string s,.int .u8 c] w fun e w' => e=.returned (.int .i64 (Lib.lastIndexByte s c))∧w'=w:=Any.strings_LastIndexByte Tryz.lays149 s c hs w
def Tryz.lays99_ren:Go.Shelf.Ren:=⟨fun|99 => 120|206 => 104|n => n,fun|9 => 9|4 => 4|3 => 3|n => n,fun|n => n⟩
theorem Tryz.lays99:Go.Proofs.Lays.n99 Tryz.prog Tryz.lays99_ren:={
 mixed:=by kernel_rfl
 f99:=Tryz.func120.trans (congrArg some (by kernel_rfl))
 f206:=Tryz.func104.trans (congrArg some (by kernel_rfl))
 t3:=Tryz.underlying3
 a3:=Tryz.isAgg3
 z3:=Tryz.sizeOf3
 v3:=Tryz.zeroValue3
 t4:=Tryz.underlying4
 a4:=Tryz.isAgg4
 z4:=Tryz.sizeOf4
 v4:=Tryz.zeroValue4
 t9:=Tryz.underlying9
 a9:=Tryz.isAgg9
 z9:=Tryz.sizeOf9
 v9:=Tryz.zeroValue9 }
open Go.RowKit Go.Lib in
theorem Tryz.strings_HasPrefix (s p:ByteArray) (w:World) :
  Calls Tryz.prog 120 #[.string s,.string p] w fun e w' => e=.returned (.bool (Lib.hasPrefix s.data.toList p.data.toList))∧w'=w:=Any.strings_HasPrefix Tryz.lays99 s p w
def Tryz.lays102_ren:Go.Shelf.Ren:=⟨fun|102 => 28|209 => 52|207 => 86|n => n,fun|9 => 9|4 => 4|3 => 3|n => n,fun|n => n⟩
theorem Tryz.lays102:Go.Proofs.Lays.n102 Tryz.prog Tryz.lays102_ren:={
 mixed:=by kernel_rfl
 f102:=Tryz.func28.trans (congrArg some (by kernel_rfl))
 f207:=Tryz.func86.trans (congrArg some (by kernel_rfl))
 f209:=Tryz.func52.trans (congrArg some (by kernel_rfl))
 t3:=Tryz.underlying3
 a3:=Tryz.isAgg3
 z3:=Tryz.sizeOf3
 v3:=Tryz.zeroValue3
 t4:=Tryz.underlying4
 a4:=Tryz.isAgg4
 z4:=Tryz.sizeOf4
 v4:=Tryz.zeroValue4
 t9:=Tryz.underlying9
 a9:=Tryz.isAgg9
 z9:=Tryz.sizeOf9
 v9:=Tryz.zeroValue9 }
open Go.RowKit Go.Lib in
theorem Tryz.strings_TrimSuffix (s p:ByteArray) (w:World) (hs:s.size≤9223372036854775807) :
  Calls Tryz.prog 28 #[.string s,.string p] w fun e w' => e=.returned (.string ⟨(Lib.trimSuffix s.data.toList p.data.toList).toArray⟩)∧w'=w:=Any.strings_TrimSuffix Tryz.lays102 s p w hs
def Tryz.lays109_ren:Go.Shelf.Ren:=⟨fun|109 => 62|n => n,fun|31 => 36|9 => 9|3 => 3|0 => 0|4 => 4|n => n,fun|n => n⟩
theorem Tryz.lays109:Go.Proofs.Lays.n109 Tryz.prog Tryz.lays109_ren:={
 mixed:=by kernel_rfl
 f109:=Tryz.func62.trans (congrArg some (by kernel_rfl))
 t0:=Tryz.underlying0
 a0:=Tryz.isAgg0
 z0:=Tryz.sizeOf0
 v0:=Tryz.zeroValue0
 t3:=Tryz.underlying3
 a3:=Tryz.isAgg3
 z3:=Tryz.sizeOf3
 v3:=Tryz.zeroValue3
 t4:=Tryz.underlying4
 a4:=Tryz.isAgg4
 z4:=Tryz.sizeOf4
 v4:=Tryz.zeroValue4
 t9:=Tryz.underlying9
 a9:=Tryz.isAgg9
 z9:=Tryz.sizeOf9
 v9:=Tryz.zeroValue9
 t31:=Tryz.underlying36
 a31:=Tryz.isAgg36
 z31:=Tryz.sizeOf36
 v31:=Tryz.zeroValue36 }
open Go.Lib in
theorem Tryz.slices_Index_string (b off n c:Nat) (zs:List ByteArray) (x:ByteArray) (w:World) (hz:n≤zs.length) (hbig:n≤9223372036854775807) (hc:∀ j,j<zs.length→w.cell? ⟨b,off+j,none⟩=some (.string (zs.getD j ByteArray.empty))) :
  Calls Tryz.prog 62 #[.slice (some ⟨b,off,none⟩) n c,.string x] w fun e w' => e=.returned (.int .i64 (Lib.idxOfS (zs.take n) x))∧w'=w:=Any.slices_Index_string Tryz.lays109 b off n c zs x w hz hbig hc
def Tryz.lays110_ren:Go.Shelf.Ren:=⟨fun|110 => 59|109 => 62|n => n,fun|31 => 36|9 => 9|4 => 4|3 => 3|0 => 0|n => n,fun|n => n⟩
theorem Tryz.lays110:Go.Proofs.Lays.n110 Tryz.prog Tryz.lays110_ren:={
 mixed:=by kernel_rfl
 f109:=Tryz.func62.trans (congrArg some (by kernel_rfl))
 f110:=Tryz.func59.trans (congrArg some (by kernel_rfl))
 t0:=Tryz.underlying0
 a0:=Tryz.isAgg0
 z0:=Tryz.sizeOf0
 v0:=Tryz.zeroValue0
 t3:=Tryz.underlying3
 a3:=Tryz.isAgg3
 z3:=Tryz.sizeOf3
 v3:=Tryz.zeroValue3
 t4:=Tryz.underlying4
 a4:=Tryz.isAgg4
 z4:=Tryz.sizeOf4
 v4:=Tryz.zeroValue4
 t9:=Tryz.underlying9
 a9:=Tryz.isAgg9
 z9:=Tryz.sizeOf9
 v9:=Tryz.zeroValue9
 t31:=Tryz.underlying36
 a31:=Tryz.isAgg36
 z31:=Tryz.sizeOf36
 v31:=Tryz.zeroValue36 }
open Go.Lib in
theorem Tryz.slices_Contains_string (b off n c:Nat) (zs:List ByteArray) (x:ByteArray) (w:World) (hz:n≤zs.length) (hbig:n≤9223372036854775807) (hc:∀ j,j<zs.length→w.cell? ⟨b,off+j,none⟩=some (.string (zs.getD j ByteArray.empty))) :
  Calls Tryz.prog 59 #[.slice (some ⟨b,off,none⟩) n c,.string x] w fun e w' => e=.returned (.bool (Lib.containsS (zs.take n) x))∧w'=w:=Any.slices_Contains_string Tryz.lays110 b off n c zs x w hz hbig hc
open Go.Lib in
theorem Tryz.slices_Contains_string_empty (a:Option Addr) (c:Nat) (x:ByteArray) (w:World) :
  Calls Tryz.prog 59 #[.slice a 0 c,.string x] w fun e w' => e=.returned (.bool false)∧w'=w:=Any.slices_Contains_string_empty Tryz.lays110 a c x w
end Go.Proofs
