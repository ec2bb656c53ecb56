import Derived.Shelf.Small.Bits
import Derived.Shelf.Strconv.Itoa0
import Derived.Shelf.Strings.Search1
import Derived.Shelf.Strings.Search2
import Derived.Shelf.Strings.Search3
import Derived.Shelf.LaysM
import Derived.Shelf.Strings.Shaped
import Derived.Shelf.Bits.Mul64
import Derived.Shelf.Slices.Turned
import Derived.Test.YtlfmlodanoolhaaGreatDoorProg
set_option linter.all false
set_option maxRecDepth 200000
set_option maxHeartbeats 0
namespace Go.Proofs
open Go.Shelf Go.Proofs.Tryz
def Tryz.lays125_ren:Go.Shelf.Ren:=⟨λ|125=>222|128=>232|129=>226|n=>n,λ|46=>244|3=>3|51=>260|53=>38|4=>4|5=>5|9=>9|n=>n,λ|n=>n⟩
theorem Tryz.lays125:Go.Proofs.Lays.n125 Tryz.prog Tryz.lays125_ren:={
 mixed:=by kernel_rfl
 f125:=func222.trans (congrArg some (by kernel_rfl))
 f128:=func232.trans (congrArg some (by kernel_rfl))
 f129:=func226.trans (congrArg some (by kernel_rfl))
 t3:=underlying3
 a3:=isAgg3
 z3:=sizeOf3
 v3:=zeroValue3
 t4:=underlying4
 a4:=isAgg4
 z4:=sizeOf4
 v4:=zeroValue4
 t5:=underlying5
 a5:=isAgg5
 z5:=sizeOf5
 v5:=zeroValue5
 t9:=underlying9
 a9:=isAgg9
 z9:=sizeOf9
 v9:=zeroValue9
 t46:=underlying244
 a46:=isAgg244
 z46:=sizeOf244
 v46:=zeroValue244
 t51:=underlying260
 a51:=isAgg260
 z51:=sizeOf260
 v51:=zeroValue260
 t53:=underlying38
 a53:=isAgg38
 z53:=sizeOf38
 v53:=zeroValue38}
theorem Tryz.bits_Len(x:Int)(w:World)(h0:0<=x)(a:x<=18446744073709551615):
 Calls Tryz.prog 222 #[.int .u64 x] w λe b=>e=.returned (.int .i64 (Lib.bitLen x.toNat))/\b=w:=Any.bits_Len Tryz.lays125 x w h0 a
def Tryz.lays219_ren:Go.Shelf.Ren:=⟨λ|219=>235|217=>236|225=>237|224=>238|267=>239|266=>240|314=>241|n=>n,λ|9=>9|3=>3|4=>4|5=>5|46=>244|146=>261|51=>260|n=>n,λ|1=>5|n=>n⟩
def Tryz.lays144_ren:Go.Shelf.Ren:=⟨λ|144=>221|143=>231|219=>235|217=>236|225=>237|224=>238|267=>239|266=>240|314=>241|n=>n,λ|9=>9|4=>4|3=>3|5=>5|46=>244|146=>261|51=>260|n=>n,λ|1=>5|n=>n⟩
theorem Tryz.lays144:Go.Proofs.Lays.n144 Tryz.prog Tryz.lays144_ren:={
 mixed:=by kernel_rfl
 f143:=func231.trans (congrArg some (by kernel_rfl))
 f144:=func221.trans (congrArg some (by kernel_rfl))
 f217:=func236.trans (congrArg some (by kernel_rfl))
 f219:=func235.trans (congrArg some (by kernel_rfl))
 f224:=func238.trans (congrArg some (by kernel_rfl))
 f225:=func237.trans (congrArg some (by kernel_rfl))
 f266:=func240.trans (congrArg some (by kernel_rfl))
 f267:=func239.trans (congrArg some (by kernel_rfl))
 f314:=func241.trans (congrArg some (by kernel_rfl))
 t3:=underlying3
 a3:=isAgg3
 z3:=sizeOf3
 v3:=zeroValue3
 t4:=underlying4
 a4:=isAgg4
 z4:=sizeOf4
 v4:=zeroValue4
 t5:=underlying5
 a5:=isAgg5
 z5:=sizeOf5
 v5:=zeroValue5
 t9:=underlying9
 a9:=isAgg9
 z9:=sizeOf9
 v9:=zeroValue9
 t46:=underlying244
 a46:=isAgg244
 z46:=sizeOf244
 v46:=zeroValue244
 t51:=underlying260
 a51:=isAgg260
 z51:=sizeOf260
 v51:=zeroValue260
 t146:=underlying261
 a146:=isAgg261
 z146:=sizeOf261
 v146:=zeroValue261
 g1:=by kernel_rfl}
open Go.RowKit Go.Lib in
theorem Tryz.strings_Contains(s sub:ByteArray)(m:Int)(w:World)(b:s.size<4294967281)(a:w.cell? ⟨5,0,none⟩=some (.int .i64 m)):
 Calls Tryz.prog 221 #[.string s,.string sub] w λe c=>e=.returned (.bool (Lib.contains s.data.toList sub.data.toList))/\c=w:=Any.strings_Contains Tryz.lays144 s sub m w b a
def Tryz.lays212_ren:Go.Shelf.Ren:=⟨λ|212=>215|263=>223|264=>224|n=>n,λ|46=>244|51=>260|146=>261|53=>38|148=>263|n=>n,λ|n=>n⟩
theorem Tryz.lays212:Go.Proofs.Lays.n212 Tryz.prog Tryz.lays212_ren:={
 mixed:=by kernel_rfl
 f212:=func215.trans (congrArg some (by kernel_rfl))
 f263:=func223.trans (congrArg some (by kernel_rfl))
 f264:=func224.trans (congrArg some (by kernel_rfl))
 t46:=underlying244
 a46:=isAgg244
 z46:=sizeOf244
 v46:=zeroValue244
 t51:=underlying260
 a51:=isAgg260
 z51:=sizeOf260
 v51:=zeroValue260
 t53:=underlying38
 a53:=isAgg38
 z53:=sizeOf38
 v53:=zeroValue38
 t146:=underlying261
 a146:=isAgg261
 z146:=sizeOf261
 v146:=zeroValue261
 t148:=underlying263
 a148:=isAgg263
 z148:=sizeOf263
 v148:=zeroValue263}
open Go.RowKit Go.Lib in
theorem Tryz.bits_Mul(x a:Nat)(b:x<18446744073709551616)(c:a<18446744073709551616)(w:World):
 Calls Tryz.prog 215 #[.int .u64 x,.int .u64 a] w λe d=>e=.returned (.tuple #[.int .u64 ((x*a / 18446744073709551616:Nat):Int),.int .u64 ((x*a % 18446744073709551616:Nat):Int)])/\d=w:=Any.bits_Mul Tryz.lays212 x a b c w
def Tryz.lays107_ren:Go.Shelf.Ren:=⟨λ|107=>184|108=>214|n=>n,λ|28=>77|3=>3|4=>4|0=>0|n=>n,λ|n=>n⟩
theorem Tryz.lays107:Go.Proofs.Lays.n107 Tryz.prog Tryz.lays107_ren:={
 mixed:=by kernel_rfl
 f107:=func184.trans (congrArg some (by kernel_rfl))
 f108:=func214.trans (congrArg some (by kernel_rfl))
 t0:=underlying0
 a0:=isAgg0
 z0:=sizeOf0
 v0:=zeroValue0
 t3:=underlying3
 a3:=isAgg3
 z3:=sizeOf3
 v3:=zeroValue3
 t4:=underlying4
 a4:=isAgg4
 z4:=sizeOf4
 v4:=zeroValue4
 t28:=underlying77
 a28:=isAgg77
 z28:=sizeOf77
 v28:=zeroValue77}
open Go.Lib in
theorem Tryz.slices_Contains_int(b d n f:Nat)(a:List Int)(x:Int)(w:World)(i:n<=a.length)(g:n<=9223372036854775807)(h:∀c,c<a.length->w.cell? ⟨b,d+c,none⟩=some (.int .i64 (a.getD c 0))):
 Calls Tryz.prog 184 #[.slice (some ⟨b,d,none⟩) n f,.int .i64 x] w λe j=>e=.returned (.bool ((a.take n).contains x))/\j=w:=Any.slices_Contains_int Tryz.lays107 b d n f a x w i g h
def Tryz.lays110_ren:Go.Shelf.Ren:=⟨λ|110=>99|109=>144|n=>n,λ|31=>104|9=>9|4=>4|3=>3|0=>0|n=>n,λ|n=>n⟩
theorem Tryz.lays110:Go.Proofs.Lays.n110 Tryz.prog Tryz.lays110_ren:={
 mixed:=by kernel_rfl
 f109:=func144.trans (congrArg some (by kernel_rfl))
 f110:=func99.trans (congrArg some (by kernel_rfl))
 t0:=underlying0
 a0:=isAgg0
 z0:=sizeOf0
 v0:=zeroValue0
 t3:=underlying3
 a3:=isAgg3
 z3:=sizeOf3
 v3:=zeroValue3
 t4:=underlying4
 a4:=isAgg4
 z4:=sizeOf4
 v4:=zeroValue4
 t9:=underlying9
 a9:=isAgg9
 z9:=sizeOf9
 v9:=zeroValue9
 t31:=underlying104
 a31:=isAgg104
 z31:=sizeOf104
 v31:=zeroValue104}
open Go.Lib in
theorem Tryz.slices_Contains_string(b d n f:Nat)(a:List ByteArray)(x:ByteArray)(w:World)(i:n<=a.length)(g:n<=9223372036854775807)(h:∀c,c<a.length->w.cell? ⟨b,d+c,none⟩=some (.string (a.getD c ByteArray.empty))):
 Calls Tryz.prog 99 #[.slice (some ⟨b,d,none⟩) n f,.string x] w λe j=>e=.returned (.bool (Lib.containsS (a.take n) x))/\j=w:=Any.slices_Contains_string Tryz.lays110 b d n f a x w i g h
open Go.Lib in
theorem Tryz.slices_Contains_string_empty(a:Option Addr)(b:Nat)(x:ByteArray)(w:World):
 Calls Tryz.prog 99 #[.slice a 0 b,.string x] w λe c=>e=.returned (.bool false)/\c=w:=Any.slices_Contains_string_empty Tryz.lays110 a b x w
