import Derived.Shelf.Strconv.Itoa3
import Derived.Shelf.SlMaps.Clone
import Derived.Test.YtlfmlodanoolhaaGreatDoorV35
set_option linter.all false
set_option maxRecDepth 200000
set_option maxHeartbeats 0
namespace Go.Proofs
open Go.Shelf Go.Proofs.Tryz
def Tryz.laysM171_ren:Go.Shelf.Ren:=⟨λ|171=>115|243=>159|246=>194|283=>216|284=>217|285=>218|286=>219|129=>226|317=>225|318=>227|319=>228|320=>229|337=>233|338=>234|n=>n,λ|3=>3|9=>9|2=>2|4=>4|171=>254|0=>0|53=>38|37=>218|5=>5|173=>257|212=>266|51=>260|20=>20|213=>267|46=>244|232=>270|233=>271|n=>n,λ|17=>2|18=>3|19=>4|n=>n⟩
theorem Tryz.laysM171:Go.Proofs.LaysM.n171 Tryz.prog Tryz.laysM171_ren:={
 mixed:=by kernel_rfl
 f129:=func226.trans (congrArg some (by kernel_rfl))
 f171:=func115.trans (congrArg some (by kernel_rfl))
 f243:=func159.trans (congrArg some (by kernel_rfl))
 f246:=func194.trans (congrArg some (by kernel_rfl))
 f283:=func216.trans (congrArg some (by kernel_rfl))
 f284:=func217.trans (congrArg some (by kernel_rfl))
 f285:=func218.trans (congrArg some (by kernel_rfl))
 f286:=func219.trans (congrArg some (by kernel_rfl))
 f317:=func225.trans (congrArg some (by kernel_rfl))
 f318:=func227.trans (congrArg some (by kernel_rfl))
 f319:=func228.trans (congrArg some (by kernel_rfl))
 f320:=func229.trans (congrArg some (by kernel_rfl))
 f337:=func233.trans (congrArg some (by kernel_rfl))
 f338:=func234.trans (congrArg some (by kernel_rfl))
 t0:=underlying0
 a0:=isAgg0
 z0:=sizeOf0
 v0:=zeroValue0
 t2:=underlying2
 a2:=isAgg2
 z2:=sizeOf2
 v2:=zeroValue2
 t3:=underlying3
 a3:=isAgg3
 z3:=sizeOf3
 v3:=zeroValue3
 t4:=underlying4
 a4:=isAgg4
 z4:=sizeOf4
 v4:=zeroValue4
 t5:=underlying5
 a5:=isAgg5
 z5:=sizeOf5
 v5:=zeroValue5
 t9:=underlying9
 a9:=isAgg9
 z9:=sizeOf9
 v9:=zeroValue9
 t20:=underlying20
 a20:=isAgg20
 z20:=sizeOf20
 v20:=zeroValue20
 t37:=underlying218
 a37:=isAgg218
 z37:=sizeOf218
 v37:=zeroValue218
 t46:=underlying244
 a46:=isAgg244
 z46:=sizeOf244
 v46:=zeroValue244
 t51:=underlying260
 a51:=isAgg260
 z51:=sizeOf260
 v51:=zeroValue260
 t53:=underlying38
 a53:=isAgg38
 z53:=sizeOf38
 v53:=zeroValue38
 t171:=underlying254
 a171:=isAgg254
 z171:=sizeOf254
 v171:=zeroValue254
 t173:=underlying257
 a173:=isAgg257
 z173:=sizeOf257
 v173:=zeroValue257
 t212:=underlying266
 a212:=isAgg266
 z212:=sizeOf266
 v212:=zeroValue266
 t213:=underlying267
 a213:=isAgg267
 z213:=sizeOf267
 t232:=underlying270
 a232:=isAgg270
 z232:=sizeOf270
 v232:=zeroValue270
 t233:=underlying271
 a233:=isAgg271
 z233:=sizeOf271
 v233:=zeroValue271
 g17:=by kernel_rfl
 g18:=by kernel_rfl
 g19:=by kernel_rfl
 i0:=by kernel_rfl
 i2:=by kernel_rfl
 i3:=by kernel_rfl
 i4:=by kernel_rfl
 i5:=by kernel_rfl
 i9:=by kernel_rfl
 i20:=by kernel_rfl
 i37:=by kernel_rfl
 i46:=by kernel_rfl
 i51:=by kernel_rfl
 i53:=by kernel_rfl
 i171:=by kernel_rfl
 i173:=by kernel_rfl
 i212:=by kernel_rfl
 i232:=by kernel_rfl
 i233:=by kernel_rfl
 m17:=by kernel_rfl
 m18:=by kernel_rfl
 m19:=by kernel_rfl}
open Go.RowKit Go.Sort Go.Lib in
theorem Tryz.strconv_Itoa (n : Int) (h0 : -9223372036854775808 ≤ n) (a : n ≤ 9223372036854775807) (w : World) (b : Lib.TabIs Tryz.prog w "internal/strconv.uint64pow10" .u64 Lib.pow10Tab) :
 Calls Tryz.prog 115 #[.int .i64 n] w λe f=>e=.returned (.string ⟨(Lib.itoa n).toArray⟩)/\∃c d,f=grow (w.drewN c) d:=Any.strconv_Itoa Tryz.laysM171 n h0 a w b
end Go.Proofs
namespace Go.Proofs.YtlfmlodanoolhaaGreatDoor
open Go Go.RowKit Go.Shelf Go.Proofs.Tryz
def Al:Go.Shelf.Ren:=⟨λ|5=>158|7=>193|n=>n,λ|4=>4|20=>20|23=>93|25=>9|3=>3|0=>0|n=>n,λ|n=>n⟩
theorem sU:Go.Proofs.SlLaysW.n5 Tryz.prog Al:={
 mixed:=by kernel_rfl
 f5:=⟨Tryz.f158.name,zD,func158.trans (congrArg some zK)⟩
 f7:=func193.trans (congrArg some zK)
 t4:=underlying4
 a4:=isAgg4
 z4:=sizeOf4
 v4:=zeroValue4
 t20:=underlying20
 a20:=isAgg20
 z20:=sizeOf20
 v20:=zeroValue20
 t23:=underlying93
 a23:=isAgg93
 z23:=sizeOf93
 v23:=zeroValue93}
theorem rp(mp:Nat)(env:ByteArray->Option Int)(w:World)(h:EnvM w mp env):
 Calls Tryz.prog 158 #[.map (some mp)] w λe a=>e=.returned (.map (some w.heap.size))/\EnvM a w.heap.size env/\Ext w a:=by
 obtain⟨d,⟨c,b,j,i⟩,f,g⟩:=h;refine(AnyW.maps_Clone sU mp c b w j).mono ?_;rintro e a ⟨rfl,rfl⟩;exact⟨rfl,⟨d,⟨c,b,(MapKept.heap_alloc w _).1,i⟩,f,g⟩,aE _ _⟩
theorem vS (n : Int) (h0 : 0 ≤ n) (b : n ≤ 9223372036854775807) (w : World) (d : Lib.TabIs Tryz.prog w "internal/strconv.uint64pow10" .u64 Lib.pow10Tab) :
 Calls Tryz.prog 115 #[.int .i64 n] w λe a=>e=.returned (.string (cT n))/\Ext w a:=by
 refine(Tryz.strconv_Itoa n zO b w d).mono ?_;rintro e a ⟨rfl,f,g,rfl⟩;exact⟨rfl,⟨rfl,rfl,rfl,by rw[Sort.size_grow];exact Nat.le_add_right _ _,λh c=>Sort.heap_grow_old (w.drewN f) g c⟩⟩
