import Derived.Shelf.Strings.Builder1
import Derived.Shelf.Strings.Repeat
import Derived.Test.YtaahejdimjbhhaaGreatDoorProg
import Derived.Test.YtaahejdimjbhhaaGreatDoorK01
set_option maxRecDepth 100000
set_option maxHeartbeats 0
set_option linter.all false
namespace Go.Proofs
open Go.Shelf
def Tryz.lays105_ren:Go.Shelf.Ren:=⟨fun|105=>139|212=>212|99=>213|165=>214|166=>77|170=>215|169=>80|263=>250|264=>251|206=>252|240=>137|241=>253|276=>211|277=>273|n=>n,fun|9=>9|3=>3|4=>4|20=>20|0=>0|46=>87|109=>266|5=>5|72=>156|76=>159|51=>190|146=>291|53=>164|148=>293|70=>153|37=>154|75=>158|127=>219|164=>264|80=>163|n=>n,fun|n=>n⟩
theorem Tryz.lays105:Go.Proofs.Lays.n105 prog Tryz.lays105_ren:={
 mixed:=by kernel_rfl
 f99:=func213.t (congrArg some (by kernel_rfl))
 f105:=func139.t (congrArg some (by kernel_rfl))
 f165:=func214.t (congrArg some (by kernel_rfl))
 f166:=func77.t (congrArg some (by kernel_rfl))
 f169:=func80.t (congrArg some (by kernel_rfl))
 f170:=func215.t (congrArg some (by kernel_rfl))
 f206:=func252.t (congrArg some (by kernel_rfl))
 f212:=func212.t (congrArg some (by kernel_rfl))
 f240:=func137.t (congrArg some (by kernel_rfl))
 f241:=func253.t (congrArg some (by kernel_rfl))
 f263:=func250.t (congrArg some (by kernel_rfl))
 f264:=func251.t (congrArg some (by kernel_rfl))
 f276:=func211.t (congrArg some (by kernel_rfl))
 f277:=func273.t (congrArg some (by kernel_rfl))
 t0:=underlying0
 a0:=Tryz.isAgg0
 z0:=Tryz.sizeOf0
 v0:=Tryz.zeroValue0
 t3:=underlying3
 a3:=Tryz.isAgg3
 z3:=Tryz.sizeOf3
 v3:=Tryz.zeroValue3
 t4:=underlying4
 a4:=Tryz.isAgg4
 z4:=Tryz.sizeOf4
 v4:=Tryz.zeroValue4
 t5:=underlying5
 a5:=Tryz.isAgg5
 z5:=Tryz.sizeOf5
 v5:=Tryz.zeroValue5
 t9:=underlying9
 a9:=Tryz.isAgg9
 z9:=Tryz.sizeOf9
 v9:=Tryz.zeroValue9
 t20:=underlying20
 a20:=Tryz.isAgg20
 z20:=Tryz.sizeOf20
 v20:=Tryz.zeroValue20
 t37:=underlying154
 a37:=Tryz.isAgg154
 z37:=Tryz.sizeOf154
 v37:=Tryz.zeroValue154
 t46:=underlying87
 a46:=Tryz.isAgg87
 z46:=Tryz.sizeOf87
 v46:=Tryz.zeroValue87
 t51:=underlying190
 a51:=Tryz.isAgg190
 z51:=Tryz.sizeOf190
 v51:=Tryz.zeroValue190
 t53:=underlying164
 a53:=Tryz.isAgg164
 z53:=Tryz.sizeOf164
 v53:=Tryz.zeroValue164
 t70:=underlying153
 a70:=Tryz.isAgg153
 z70:=Tryz.sizeOf153
 v70:=Tryz.zeroValue153
 t72:=underlying156
 a72:=Tryz.isAgg156
 z72:=Tryz.sizeOf156
 v72:=Tryz.zeroValue156
 t75:=underlying158
 a75:=Tryz.isAgg158
 z75:=Tryz.sizeOf158
 v75:=Tryz.zeroValue158
 t76:=underlying159
 a76:=Tryz.isAgg159
 z76:=Tryz.sizeOf159
 v76:=Tryz.zeroValue159
 t109:=underlying266
 a109:=Tryz.isAgg266
 z109:=Tryz.sizeOf266
 v109:=Tryz.zeroValue266
 t127:=underlying219
 a127:=Tryz.isAgg219
 z127:=Tryz.sizeOf219
 v127:=Tryz.zeroValue219
 t146:=underlying291
 a146:=Tryz.isAgg291
 z146:=Tryz.sizeOf291
 v146:=Tryz.zeroValue291
 t148:=underlying293
 a148:=Tryz.isAgg293
 z148:=Tryz.sizeOf293
 v148:=Tryz.zeroValue293
 t164:=underlying264
 a164:=Tryz.isAgg264
 z164:=Tryz.sizeOf264
 v164:=Tryz.zeroValue264 }
theorem Tryz.Builder_Extra_105:Builder.Extra prog Tryz.lays105_ren:={
 sizeBuilder:=by kernel_rfl
 liesBuilder:=by kernel_rfl
 t5:=underlying5
 a5:=Tryz.isAgg5
 z5:=Tryz.sizeOf5
 v5:=Tryz.zeroValue5
 infoByte:=by kernel_rfl
 cellsByte:=by kernel_rfl
 sizeByte:=by kernel_rfl
 neB5:=by decide }
open Go.RowKit Go.Lib
theorem Tryz.bld_write(B b:Nat)(a:List Value)(s:ByteArray)(w:World)(h:Lib.IsBuilder 156 5 B b a w)(ao:a.length+s.size<=140737488355328)(X:B<=w.heap.size):
 Calls prog 77 #[.pointer (some ⟨b,0,none⟩),.string s] w λe w'=>e=.returned (.tuple #[s.size,.nilIface])/\Lib.BuilderAt 156 5 B b (.pointer (some ⟨b,0,none⟩)) (a++Lib.strCells s) w'/\Below B w w':=Any.Builder_WriteString { Tryz.lays105 with } Tryz.Builder_Extra_105 B b a s w h ao X
theorem Tryz.bld_string(B b:Nat)(l:List UInt8)(w:World)(h:Lib.IsBuilder 156 5 B b (Lib.byteCells l) w)(X:B<=w.heap.size):
 Calls prog 80 #[.pointer (some ⟨b,0,none⟩)] w λe w'=>e=.returned (.string ⟨l.toArray⟩)/\Below B w w':=Any.Builder_String_any { Tryz.lays105 with } Tryz.Builder_Extra_105 B b l w h X
theorem Tryz.str_repeat(s:ByteArray)(c:Nat)(w:World)(b:c<=9223372036854775807)(ao:s.size*c<=140737488355328):
 Calls prog 139 #[.string s,c] w λe w'=>e=.returned (.string ⟨(Lib.repeatL s.data.toList c).toArray⟩)/\Below w.heap.size w w':=Any.strings_Repeat Tryz.lays105 Tryz.Builder_Extra_105 s c w b ao
end Go.Proofs
