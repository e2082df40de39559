/-
 Layings of the library's contracts at this dump,in plain words,made by the shelf's own tools.
-/
import Derived.Shelf.Strings.Builder1
import Derived.Shelf.Strings.Builder2
import Derived.Shelf.Strings.OnBuilder
import Derived.Shelf.Strings.TrimSpace
import Derived.Shelf.Small.Utf8
import Derived.Shelf.Strings.BuilderF
import Derived.Shelf.Utf8.RuneCount
import Derived.Shelf.Strconv.Atoi
import Derived.Shelf.Strconv.Itoa0
import Derived.Shelf.Strconv.Itoa1
import Derived.Shelf.LaysM
import Derived.Shelf.Strconv.Itoa2
import Derived.Shelf.Strconv.Itoa3
import Derived.Shelf.Strconv.AtoiErrFast
import Derived.Shelf.Strconv.ParseIntEmpty
import Derived.Shelf.Strconv.AtoiFail
import Derived.Shelf.Strconv.Clone
import Derived.Shelf.Strconv.SyntaxError
import Derived.Shelf.LaysC
import Derived.Shelf.Strconv.ToError
import Derived.Shelf.Strconv.Lower
import Derived.Shelf.Strconv.ParseUint10
import Derived.Shelf.Strconv.ParseUint10Empty
import Derived.Shelf.Strconv.ParseUint10Any
import Derived.Shelf.Strconv.ParseInt10
import Derived.Shelf.Strconv.AtoiLong
import Derived.Shelf.Strconv.AtoiInnerAll
import Derived.Shelf.Strconv.RangeError
import Derived.Shelf.Strconv.ToErrorRange
import Derived.Shelf.Strconv.AtoiAll
import Derived.Shelf.Strconv.ErrVarAll
import Derived.Shelf.Strings.Search1
import Derived.Shelf.Strings.Search2
import Derived.Shelf.Strings.Search3
import Derived.Shelf.Strings.Count
import Derived.Shelf.Strings.Shaped
import Derived.Shelf.Strings.Prefix
import Derived.Shelf.Strings.Split
import Derived.Shelf.Strings.SplitShaped
import Derived.Shelf.Unicode.Latin
import Derived.Shelf.Unicode.Decode
import Derived.Shelf.Strings.RuneCount
import Derived.Shelf.Strings.Explode
import Derived.Shelf.Bits.Mul64
import Derived.Shelf.Strings.Repeat
import Derived.Shelf.Unicode.DecodeSlow
import Derived.Shelf.Unicode.DecodeAny
import Derived.Shelf.Unicode.Is16White
import Derived.Shelf.Unicode.IsSpaceAny
import Derived.Shelf.Unicode.DecodeLast
import Derived.Shelf.Strings.TrimSpaceAny
import Derived.Shelf.Unicode.Is16Any
import Derived.Shelf.Unicode.Is32Any
import Derived.Shelf.Unicode.ExclAny
import Derived.Ground.Names2Prog
import Derived.Shelf.Slices.Clone
import Derived.Shelf.Slices.CompactI
import Derived.Shelf.Slices.SearchI
import Derived.Shelf.Slices.Cells
import Derived.Ground.SlgnProg
import Derived.Shelf.SlicesE.Clone
import Derived.Test.YtpaallejmocmaaaGreatDoorProg
namespace Go.Proofs
open Go.Shelf
def Tryz.lays156_ren:Go.Shelf.Ren:=⟨fun|156=>73|165=>114|166=>115|169=>117|240=>187|241=>188|276=>258|277=>259|n=>n,fun|31=>133|9=>9|3=>3|4=>4|0=>0|20=>20|72=>180|76=>184|70=>178|37=>49|75=>183|127=>239|164=>284|5=>5|80=>113|n=>n,fun|n=>n⟩
theorem Tryz.lays156:Go.Proofs.Lays.n156 Tryz.prog Tryz.lays156_ren:=by constructor<;>first|kernel_rfl|(intros;kernel_rfl)|decide|(constructor<;>first|kernel_rfl|(intros;kernel_rfl)|decide)
theorem Tryz.Builder_Extra_156:Builder.Extra Tryz.prog Tryz.lays156_ren:=by constructor<;>first|kernel_rfl|(intros;kernel_rfl)|decide|(constructor<;>first|kernel_rfl|(intros;kernel_rfl)|decide)
def Tryz.lays163_ren:Go.Shelf.Ren:=⟨fun|163=>178|237=>254|199=>255|238=>256|272=>318|261=>319|273=>320|197=>321|315=>370|311=>371|312=>372|271=>373|260=>374|120=>397|n=>n,fun|9=>9|37=>49|3=>3|0=>0|5=>5|4=>4|40=>281|119=>282|21=>21|51=>234|141=>323|105=>325|196=>353|193=>350|198=>356|49=>354|194=>351|201=>359|226=>377|46=>174|227=>378|139=>382|138=>381|n=>n,fun|0=>0|6=>1|3=>4|4=>5|n=>n⟩
theorem Tryz.lays163:Go.Proofs.Lays.n163 Tryz.prog Tryz.lays163_ren:=by constructor<;>first|kernel_rfl|(intros;kernel_rfl)|decide|(constructor<;>first|kernel_rfl|(intros;kernel_rfl)|decide)
theorem Tryz.Space_Extra_163:Space.Extra Tryz.prog Tryz.lays163_ren:= {
 gNamed:=by kernel_rfl }
def Tryz.laysM171_ren:Go.Shelf.Ren:=⟨fun|171=>72|243=>118|246=>189|283=>260|284=>261|285=>262|286=>263|129=>324|317=>323|318=>325|319=>326|320=>327|337=>379|338=>380|n=>n,fun|3=>3|9=>9|2=>2|4=>4|171=>287|0=>0|53=>154|37=>49|5=>5|173=>290|212=>329|51=>234|20=>20|213=>330|46=>174|232=>384|233=>385|n=>n,fun|17=>3|18=>6|19=>7|n=>n⟩
theorem Tryz.laysM171:Go.Proofs.LaysM.n171 Tryz.prog Tryz.laysM171_ren:=by constructor<;>first|kernel_rfl|(intros;kernel_rfl)|decide|(constructor<;>first|kernel_rfl|(intros;kernel_rfl)|decide)
def Tryz.laysC172_ren:Go.Shelf.Ren:=⟨fun|172=>334|244=>382|245=>383|247=>402|279=>403|280=>404|281=>405|282=>406|287=>410|316=>411|171=>72|205=>412|321=>413|322=>414|243=>118|246=>189|283=>260|284=>261|285=>262|286=>263|129=>324|317=>323|318=>325|319=>326|320=>327|337=>379|338=>380|n=>n,fun|9=>9|3=>3|75=>183|76=>184|4=>4|5=>5|167=>387|37=>49|0=>0|85=>388|2=>2|168=>390|53=>154|175=>394|46=>174|210=>397|127=>239|145=>402|143=>400|21=>21|171=>287|173=>290|212=>329|51=>234|20=>20|213=>330|232=>384|233=>385|80=>113|n=>n,fun|15=>8|16=>9|17=>3|18=>6|19=>7|n=>n⟩
theorem Tryz.laysC172:Go.Proofs.LaysC.n172 Tryz.prog Tryz.laysC172_ren:=by constructor<;>first|kernel_rfl|(intros;kernel_rfl)|decide|(constructor<;>first|kernel_rfl|(intros;kernel_rfl)|decide|(constructor<;>first|kernel_rfl|(intros;kernel_rfl)|decide))
def Tryz.lays144_ren:Go.Shelf.Ren:=⟨fun|144=>179|143=>257|219=>322|217=>375|225=>376|224=>377|267=>378|266=>398|314=>399|n=>n,fun|9=>9|4=>4|3=>3|5=>5|46=>174|146=>235|51=>234|n=>n,fun|1=>2|n=>n⟩
theorem Tryz.lays144:Go.Proofs.Lays.n144 Tryz.prog Tryz.lays144_ren:=by constructor<;>first|kernel_rfl|(intros;kernel_rfl)|decide|(constructor<;>first|kernel_rfl|(intros;kernel_rfl)|decide)
def Tryz.laysM144_ren:Go.Shelf.Ren:=⟨fun|144=>179|143=>257|219=>322|217=>375|225=>376|224=>377|267=>378|266=>398|314=>399|n=>n,fun|9=>9|4=>4|3=>3|5=>5|46=>174|146=>235|51=>234|n=>n,fun|1=>2|n=>n⟩
theorem Tryz.laysM144:Go.Proofs.LaysM.n144 Tryz.prog Tryz.laysM144_ren:=by constructor<;>first|kernel_rfl|(intros;kernel_rfl)|exact fun w h=>Go.Proofs.cell_of_shapedOpen_int (zero:= #[.int .i64 0]) (t:=3) h (of_decide_eq_true (by kernel_rfl)) (by kernel_rfl) rfl (by kernel_rfl) (by kernel_rfl) Tryz.underlying3|decide|(constructor<;>first|kernel_rfl|(intros;kernel_rfl)|exact fun w h=>Go.Proofs.cell_of_shapedOpen_int (zero:= #[.int .i64 0]) (t:=3) h (of_decide_eq_true (by kernel_rfl)) (by kernel_rfl) rfl (by kernel_rfl) (by kernel_rfl) Tryz.underlying3|decide)
def Tryz.lays146_ren:Go.Shelf.Ren:=⟨fun|146=>333|221=>381|268=>400|138=>401|143=>257|195=>408|197=>321|218=>409|219=>322|260=>374|217=>375|225=>376|224=>377|267=>378|266=>398|314=>399|n=>n,fun|9=>9|31=>133|3=>3|4=>4|0=>0|105=>325|21=>21|5=>5|46=>174|119=>282|139=>382|138=>381|146=>235|51=>234|n=>n,fun|1=>2|3=>4|4=>5|n=>n⟩
theorem Tryz.lays146:Go.Proofs.Lays.n146 Tryz.prog Tryz.lays146_ren:=by constructor<;>first|kernel_rfl|(intros;kernel_rfl)|decide|(constructor<;>first|kernel_rfl|(intros;kernel_rfl)|decide)
def Tryz.lays199_ren:Go.Shelf.Ren:=⟨fun|199=>255|261=>319|311=>371|312=>372|n=>n,fun|21=>21|4=>4|51=>234|141=>323|0=>0|196=>353|193=>350|3=>3|198=>356|49=>354|194=>351|201=>359|226=>377|46=>174|227=>378|n=>n,fun|6=>1|n=>n⟩
theorem Tryz.lays199:Go.Proofs.Lays.n199 Tryz.prog Tryz.lays199_ren:=by constructor<;>first|kernel_rfl|(intros;kernel_rfl)|decide|(constructor<;>first|kernel_rfl|(intros;kernel_rfl)|decide)
def Tryz.lays105_ren:Go.Shelf.Ren:=⟨fun|105=>68|212=>112|99=>113|165=>114|166=>115|170=>116|169=>117|263=>184|264=>185|206=>186|240=>187|241=>188|276=>258|277=>259|n=>n,fun|9=>9|3=>3|4=>4|20=>20|0=>0|46=>174|109=>175|5=>5|72=>180|76=>184|51=>234|146=>235|53=>154|148=>237|70=>178|37=>49|75=>183|127=>239|164=>284|80=>113|n=>n,fun|n=>n⟩
theorem Tryz.lays105:Go.Proofs.Lays.n105 Tryz.prog Tryz.lays105_ren:=by constructor<;>first|kernel_rfl|(intros;kernel_rfl)|decide|(constructor<;>first|kernel_rfl|(intros;kernel_rfl)|decide)
theorem Tryz.Builder_Extra_105:Builder.Extra Tryz.prog Tryz.lays105_ren:=by constructor<;>first|kernel_rfl|(intros;kernel_rfl)|decide|(constructor<;>first|kernel_rfl|(intros;kernel_rfl)|decide)
def Tryz.lays260_ren:Go.Shelf.Ren:=⟨fun|260=>374|n=>n,fun|9=>9|21=>21|3=>3|4=>4|5=>5|119=>282|0=>0|46=>174|139=>382|138=>381|n=>n,fun|3=>4|4=>5|n=>n⟩
theorem Tryz.lays260:Go.Proofs.Lays.n260 Tryz.prog Tryz.lays260_ren:=by constructor<;>first|kernel_rfl|(intros;kernel_rfl)|decide|(constructor<;>first|kernel_rfl|(intros;kernel_rfl)|decide)
end Go.Proofs
