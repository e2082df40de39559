/-
 Layings of the library's contracts at this dump,in plain words,made by the shelf's own tools.
-/
import Derived.Shelf.Strings.Builder1
import Derived.Shelf.Strings.Builder2
import Derived.Shelf.Strings.OnBuilder
import Derived.Shelf.Strings.TrimSpace
import Derived.Shelf.Small.Utf8
import Derived.Shelf.Strings.BuilderF
import Derived.Shelf.Strconv.Atoi
import Derived.Shelf.Strconv.Itoa0
import Derived.Shelf.Strconv.Itoa1
import Derived.Shelf.LaysM
import Derived.Shelf.Strconv.Itoa2
import Derived.Shelf.Strconv.Itoa3
import Derived.Shelf.Strconv.AtoiErrFast
import Derived.Shelf.Strconv.ParseIntEmpty
import Derived.Shelf.Strconv.AtoiFail
import Derived.Shelf.Strconv.Clone
import Derived.Shelf.Strconv.SyntaxError
import Derived.Shelf.LaysC
import Derived.Shelf.Strconv.ToError
import Derived.Shelf.Strconv.Lower
import Derived.Shelf.Strconv.ParseUint10
import Derived.Shelf.Strconv.ParseUint10Empty
import Derived.Shelf.Strconv.ParseUint10Any
import Derived.Shelf.Strconv.ParseInt10
import Derived.Shelf.Strconv.AtoiLong
import Derived.Shelf.Strconv.AtoiInnerAll
import Derived.Shelf.Strconv.RangeError
import Derived.Shelf.Strconv.ToErrorRange
import Derived.Shelf.Strconv.AtoiAll
import Derived.Shelf.Strconv.ErrVarAll
import Derived.Shelf.Strings.Search1
import Derived.Shelf.Strings.Search2
import Derived.Shelf.Strings.Search3
import Derived.Shelf.Strings.Count
import Derived.Shelf.Strings.Shaped
import Derived.Shelf.Strings.Prefix
import Derived.Shelf.Strings.Split
import Derived.Shelf.Unicode.Latin
import Derived.Shelf.Bits.Mul64
import Derived.Shelf.Strings.Repeat
import Derived.Shelf.Unicode.DecodeSlow
import Derived.Shelf.Unicode.DecodeAny
import Derived.Shelf.Unicode.Is16White
import Derived.Shelf.Unicode.IsSpaceAny
import Derived.Shelf.Unicode.DecodeLast
import Derived.Shelf.Strings.TrimSpaceAny
import Derived.Shelf.Unicode.Is16Any
import Derived.Shelf.Unicode.Is32Any
import Derived.Shelf.Unicode.ExclAny
import Derived.Test.YtdljpbdmcgmalaaGreatDoorProg
namespace Go.Proofs
open Go.Shelf
def Tryz.lays156_ren:Go.Shelf.Ren:=⟨fun | 156=>31 | 165=>84 | 166=>85 | 169=>86 | 240=>137 | 241=>138 | 276=>205 | 277=>206 | n=>n,fun | 31=>72 | 9=>9 | 3=>3 | 4=>4 | 0=>0 | 20=>20 | 72=>133 | 76=>137 | 70=>131 | 37=>62 | 75=>136 | 127=>193 | 164=>246 | 5=>5 | 80=>122 | n=>n,fun | n=>n⟩
theorem Tryz.lays156:Go.Proofs.Lays.n156 Tryz.prog Tryz.lays156_ren:=by constructor <;> first | kernel_rfl | (intros;kernel_rfl) | decide | (constructor <;> first | kernel_rfl | (intros;kernel_rfl) | decide)
theorem Tryz.Builder_Extra_156:Builder.Extra Tryz.prog Tryz.lays156_ren:=by constructor <;> first | kernel_rfl | (intros;kernel_rfl) | decide | (constructor <;> first | kernel_rfl | (intros;kernel_rfl) | decide)
def Tryz.lays163_ren:Go.Shelf.Ren:=⟨fun | 163=>158 | 237=>216 | 199=>217 | 238=>218 | 272=>282 | 261=>283 | 273=>284 | 197=>285 | 315=>340 | 311=>341 | 312=>342 | 271=>343 | 260=>344 | 120=>376 | n=>n,fun | 9=>9 | 37=>62 | 3=>3 | 0=>0 | 5=>5 | 4=>4 | 40=>258 | 119=>259 | 21=>21 | 51=>269 | 141=>301 | 105=>303 | 196=>341 | 193=>338 | 198=>344 | 49=>342 | 194=>339 | 201=>347 | 226=>374 | 46=>231 | 227=>375 | 139=>379 | 138=>378 | n=>n,fun | 0=>0 | 6=>3 | 3=>6 | 4=>7 | n=>n⟩
theorem Tryz.lays163:Go.Proofs.Lays.n163 Tryz.prog Tryz.lays163_ren:=by constructor <;> first | kernel_rfl | (intros;kernel_rfl) | decide | (constructor <;> first | kernel_rfl | (intros;kernel_rfl) | decide)
theorem Tryz.Space_Extra_163:Space.Extra Tryz.prog Tryz.lays163_ren:= {
 gNamed:=by kernel_rfl }
def Tryz.laysM171_ren:Go.Shelf.Ren:=⟨fun | 171=>30 | 243=>83 | 246=>136 | 283=>201 | 284=>202 | 285=>203 | 286=>204 | 129=>263 | 317=>262 | 318=>264 | 319=>265 | 320=>266 | 337=>315 | 338=>316 | n=>n,fun | 3=>3 | 9=>9 | 2=>2 | 4=>4 | 171=>241 | 0=>0 | 53=>139 | 37=>62 | 5=>5 | 173=>244 | 212=>293 | 51=>269 | 20=>20 | 213=>294 | 46=>231 | 232=>364 | 233=>365 | n=>n,fun | 17=>1 | 18=>4 | 19=>5 | n=>n⟩
theorem Tryz.laysM171:Go.Proofs.LaysM.n171 Tryz.prog Tryz.laysM171_ren:=by constructor <;> first | kernel_rfl | (intros;kernel_rfl) | decide | (constructor <;> first | kernel_rfl | (intros;kernel_rfl) | decide)
def Tryz.laysC172_ren:Go.Shelf.Ren:=⟨fun | 172=>339 | 244=>374 | 245=>375 | 247=>387 | 279=>388 | 280=>389 | 281=>390 | 282=>391 | 287=>394 | 316=>395 | 171=>30 | 205=>396 | 321=>397 | 322=>398 | 243=>83 | 246=>136 | 283=>201 | 284=>202 | 285=>203 | 286=>204 | 129=>263 | 317=>262 | 318=>264 | 319=>265 | 320=>266 | 337=>315 | 338=>316 | n=>n,fun | 9=>9 | 3=>3 | 75=>136 | 76=>137 | 4=>4 | 5=>5 | 167=>387 | 37=>62 | 0=>0 | 85=>388 | 2=>2 | 168=>390 | 53=>139 | 175=>394 | 46=>231 | 210=>397 | 127=>193 | 145=>402 | 143=>400 | 21=>21 | 171=>241 | 173=>244 | 212=>293 | 51=>269 | 20=>20 | 213=>294 | 232=>364 | 233=>365 | 80=>122 | n=>n,fun | 15=>8 | 16=>9 | 17=>1 | 18=>4 | 19=>5 | n=>n⟩
theorem Tryz.laysC172:Go.Proofs.LaysC.n172 Tryz.prog Tryz.laysC172_ren:=by constructor <;> first | kernel_rfl | (intros;kernel_rfl) | decide | (constructor <;> first | kernel_rfl | (intros;kernel_rfl) | decide | (constructor <;> first | kernel_rfl | (intros;kernel_rfl) | decide))
def Tryz.lays144_ren:Go.Shelf.Ren:=⟨fun | 144=>159 | 143=>219 | 219=>286 | 217=>345 | 225=>346 | 224=>347 | 267=>348 | 266=>377 | 314=>378 | n=>n,fun | 9=>9 | 4=>4 | 3=>3 | 5=>5 | 46=>231 | 146=>270 | 51=>269 | n=>n,fun | 1=>2 | n=>n⟩
theorem Tryz.lays144:Go.Proofs.Lays.n144 Tryz.prog Tryz.lays144_ren:=by constructor <;> first | kernel_rfl | (intros;kernel_rfl) | decide | (constructor <;> first | kernel_rfl | (intros;kernel_rfl) | decide)
def Tryz.laysM144_ren:Go.Shelf.Ren:=⟨fun | 144=>159 | 143=>219 | 219=>286 | 217=>345 | 225=>346 | 224=>347 | 267=>348 | 266=>377 | 314=>378 | n=>n,fun | 9=>9 | 4=>4 | 3=>3 | 5=>5 | 46=>231 | 146=>270 | 51=>269 | n=>n,fun | 1=>2 | n=>n⟩
theorem Tryz.laysM144:Go.Proofs.LaysM.n144 Tryz.prog Tryz.laysM144_ren:=by constructor <;> first | kernel_rfl | (intros;kernel_rfl) | exact fun w h=>Go.Proofs.cell_of_shapedOpen_int (zero:= #[.int .i64 0]) (t:=3) h (of_decide_eq_true (by kernel_rfl)) (by kernel_rfl) rfl (by kernel_rfl) (by kernel_rfl) Tryz.underlying3 | decide | (constructor <;> first | kernel_rfl | (intros;kernel_rfl) | exact fun w h=>Go.Proofs.cell_of_shapedOpen_int (zero:= #[.int .i64 0]) (t:=3) h (of_decide_eq_true (by kernel_rfl)) (by kernel_rfl) rfl (by kernel_rfl) (by kernel_rfl) Tryz.underlying3 | decide)
def Tryz.lays146_ren:Go.Shelf.Ren:=⟨fun | 146=>338 | 221=>373 | 268=>385 | 138=>386 | 143=>219 | 195=>392 | 197=>285 | 218=>393 | 219=>286 | 260=>344 | 217=>345 | 225=>346 | 224=>347 | 267=>348 | 266=>377 | 314=>378 | n=>n,fun | 9=>9 | 31=>72 | 3=>3 | 4=>4 | 0=>0 | 105=>303 | 21=>21 | 5=>5 | 46=>231 | 119=>259 | 139=>379 | 138=>378 | 146=>270 | 51=>269 | n=>n,fun | 1=>2 | 3=>6 | 4=>7 | n=>n⟩
theorem Tryz.lays146:Go.Proofs.Lays.n146 Tryz.prog Tryz.lays146_ren:=by constructor <;> first | kernel_rfl | (intros;kernel_rfl) | decide | (constructor <;> first | kernel_rfl | (intros;kernel_rfl) | decide)
def Tryz.lays199_ren:Go.Shelf.Ren:=⟨fun | 199=>217 | 261=>283 | 311=>341 | 312=>342 | n=>n,fun | 21=>21 | 4=>4 | 51=>269 | 141=>301 | 0=>0 | 196=>341 | 193=>338 | 3=>3 | 198=>344 | 49=>342 | 194=>339 | 201=>347 | 226=>374 | 46=>231 | 227=>375 | n=>n,fun | 6=>3 | n=>n⟩
theorem Tryz.lays199:Go.Proofs.Lays.n199 Tryz.prog Tryz.lays199_ren:=by constructor <;> first | kernel_rfl | (intros;kernel_rfl) | decide | (constructor <;> first | kernel_rfl | (intros;kernel_rfl) | decide)
def Tryz.lays105_ren:Go.Shelf.Ren:=⟨fun | 105=>129 | 212=>193 | 99=>194 | 165=>84 | 166=>85 | 170=>195 | 169=>86 | 263=>231 | 264=>232 | 206=>233 | 240=>137 | 241=>138 | 276=>205 | 277=>206 | n=>n,fun | 9=>9 | 3=>3 | 4=>4 | 20=>20 | 0=>0 | 46=>231 | 109=>232 | 5=>5 | 72=>133 | 76=>137 | 51=>269 | 146=>270 | 53=>139 | 148=>272 | 70=>131 | 37=>62 | 75=>136 | 127=>193 | 164=>246 | 80=>122 | n=>n,fun | n=>n⟩
theorem Tryz.lays105:Go.Proofs.Lays.n105 Tryz.prog Tryz.lays105_ren:=by constructor <;> first | kernel_rfl | (intros;kernel_rfl) | decide | (constructor <;> first | kernel_rfl | (intros;kernel_rfl) | decide)
theorem Tryz.Builder_Extra_105:Builder.Extra Tryz.prog Tryz.lays105_ren:=by constructor <;> first | kernel_rfl | (intros;kernel_rfl) | decide | (constructor <;> first | kernel_rfl | (intros;kernel_rfl) | decide)
def Tryz.lays260_ren:Go.Shelf.Ren:=⟨fun | 260=>344 | n=>n,fun | 9=>9 | 21=>21 | 3=>3 | 4=>4 | 5=>5 | 119=>259 | 0=>0 | 46=>231 | 139=>379 | 138=>378 | n=>n,fun | 3=>6 | 4=>7 | n=>n⟩
theorem Tryz.lays260:Go.Proofs.Lays.n260 Tryz.prog Tryz.lays260_ren:=by constructor <;> first | kernel_rfl | (intros;kernel_rfl) | decide | (constructor <;> first | kernel_rfl | (intros;kernel_rfl) | decide)
end Go.Proofs
