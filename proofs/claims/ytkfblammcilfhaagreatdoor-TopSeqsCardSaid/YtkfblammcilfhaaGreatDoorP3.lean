import Derived.Laws.StructEq
import Derived.Shelf.Small.Bits
import Derived.Shelf.Small.Wraps
import Derived.Shelf.Strconv.Itoa0
import Derived.Shelf.Strconv.Itoa1
import Derived.Shelf.LaysM
import Derived.Shelf.Strconv.Itoa2
import Derived.Shelf.Strconv.Itoa3
import Derived.Test.YtkfblammcilfhaaGreatDoorRows
import Derived.SevenTiedAt
import Derived.Test.YtkfblammcilfhaaGreatDoorP0
set_option linter.all false
set_option maxRecDepth 100000
set_option maxHeartbeats 100000000
open Go.ChangeShapes Go.WideShapes Go.ChangeAt Go.RowKit Go.Proofs.Tryz
open Go.Value renaming int->J
open Go.IntKind renaming i64->V
open Go.Ending renaming returned->av
open Option renaming some->Z
namespace Go.Proofs.YtkfblammcilfhaaGreatDoor
end Go.Proofs.YtkfblammcilfhaaGreatDoor
open Go.Proofs.YtkfblammcilfhaaGreatDoor
namespace Go.Proofs.YtkfblammcilfhaaGreatDoor
end Go.Proofs.YtkfblammcilfhaaGreatDoor
open Go.Proofs.YtkfblammcilfhaaGreatDoor
namespace Go.Proofs
open Go.Shelf
def Tryz.CK:Go.Shelf.Ren:=⟨fun | 171=>136 | 243=>200 | 246=>251 | 283=>284 | 284=>285 | 285=>286 | 286=>287 | 129=>270 | 317=>309 | 318=>310 | 319=>311 | 320=>312 | 337=>329 | 338=>330 | n=>n,fun | 3=>3 | 9=>9 | 2=>2 | 4=>4 | 171=>446 | 0=>0 | 53=>197 | 37=>38 | 5=>5 | 173=>448 | 212=>475 | 51=>41 | 20=>20 | 213=>476 | 46=>370 | 232=>494 | 233=>495 | n=>n,fun | 17=>3 | 18=>4 | 19=>5 | n=>n⟩
def Tryz.LW:Go.Proofs.LaysM.n171 Tryz.prog Tryz.CK:={
 mixed:=cC
 f129:=func270.trans (congrArg Z cC)
 f171:=func136.trans (congrArg Z cC)
 f243:=func200.trans (congrArg Z cC)
 f246:=func251.trans (congrArg Z cC)
 f283:=func284.trans (congrArg Z cC)
 f284:=func285.trans (congrArg Z cC)
 f285:=func286.trans (congrArg Z cC)
 f286:=func287.trans (congrArg Z cC)
 f317:=func309.trans (congrArg Z cC)
 f318:=func310.trans (congrArg Z cC)
 f319:=func311.trans (congrArg Z cC)
 f320:=func312.trans (congrArg Z cC)
 f337:=func329.trans (congrArg Z cC)
 f338:=func330.trans (congrArg Z cC)
 t0:=underlying0
 a0:=Tryz.isAgg0
 z0:=Tryz.sizeOf0
 v0:=Tryz.zeroValue0
 t2:=underlying2
 a2:=Tryz.isAgg2
 z2:=Tryz.sizeOf2
 v2:=Tryz.zeroValue2
 t3:=underlying3
 a3:=Tryz.isAgg3
 z3:=Tryz.sizeOf3
 v3:=Tryz.zeroValue3
 t4:=underlying4
 a4:=Tryz.isAgg4
 z4:=Tryz.sizeOf4
 v4:=Tryz.zeroValue4
 t5:=underlying5
 a5:=Tryz.isAgg5
 z5:=Tryz.sizeOf5
 v5:=Tryz.zeroValue5
 t9:=underlying9
 a9:=Tryz.isAgg9
 z9:=Tryz.sizeOf9
 v9:=Tryz.zeroValue9
 t20:=underlying20
 a20:=Tryz.isAgg20
 z20:=Tryz.sizeOf20
 v20:=Tryz.zeroValue20
 t37:=underlying38
 a37:=Tryz.isAgg38
 z37:=Tryz.sizeOf38
 v37:=Tryz.zeroValue38
 t46:=underlying370
 a46:=Tryz.isAgg370
 z46:=Tryz.sizeOf370
 v46:=Tryz.zeroValue370
 t51:=underlying41
 a51:=Tryz.isAgg41
 z51:=Tryz.sizeOf41
 v51:=Tryz.zeroValue41
 t53:=underlying197
 a53:=Tryz.isAgg197
 z53:=Tryz.sizeOf197
 v53:=Tryz.zeroValue197
 t171:=underlying446
 a171:=Tryz.isAgg446
 z171:=Tryz.sizeOf446
 v171:=Tryz.zeroValue446
 t173:=underlying448
 a173:=Tryz.isAgg448
 z173:=Tryz.sizeOf448
 v173:=Tryz.zeroValue448
 t212:=underlying475
 a212:=Tryz.isAgg475
 z212:=Tryz.sizeOf475
 v212:=Tryz.zeroValue475
 t213:=underlying476
 a213:=Tryz.isAgg476
 z213:=Tryz.sizeOf476
 t232:=underlying494
 a232:=Tryz.isAgg494
 z232:=Tryz.sizeOf494
 v232:=Tryz.zeroValue494
 t233:=underlying495
 a233:=Tryz.isAgg495
 z233:=Tryz.sizeOf495
 v233:=Tryz.zeroValue495
 g17:=cC
 g18:=cC
 g19:=cC
 i0:=cC
 i2:=cC
 i3:=cC
 i4:=cC
 i5:=cC
 i9:=cC
 i20:=cC
 i37:=cC
 i46:=cC
 i51:=cC
 i53:=cC
 i171:=cC
 i173:=cC
 i212:=cC
 i232:=cC
 i233:=cC
 m17:=cC
 m18:=cC
 m19:=by kernel_rfl }
open Go.RowKit Go.Sort Go.Lib in
theorem Tryz.strconv_Itoa (n:Int) (h0:-9223372036854775808<=n) (h1:n<=9223372036854775807) (w:World) (a:Lib.TabIs Tryz.prog w "internal/strconv.uint64pow10" .u64 Lib.pow10Tab) :
  Calls Tryz.prog 136 #[J V n] w λe w'=>e=av (.string ⟨(Lib.itoa n).toArray⟩)/\∃k os,w'=grow (w.drewN k) os:=Any.strconv_Itoa Tryz.LW n h0 h1 w a
end Go.Proofs
namespace Go.Proofs.YtkfblammcilfhaaGreatDoor
end Go.Proofs.YtkfblammcilfhaaGreatDoor
open Go.Proofs.YtkfblammcilfhaaGreatDoor
namespace Go.Proofs.YtkfblammcilfhaaGreatDoor
end Go.Proofs.YtkfblammcilfhaaGreatDoor
