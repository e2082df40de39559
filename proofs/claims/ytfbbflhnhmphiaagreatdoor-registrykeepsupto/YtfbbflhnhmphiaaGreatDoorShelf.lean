/-
 Layings of the library's contracts at this dump,in plain words,made by the shelf's own tools.
-/
import Derived.Shelf.Strings.Builder1
import Derived.Shelf.Strings.Builder2
import Derived.Shelf.Strings.OnBuilder
import Derived.Shelf.Strings.TrimSpace
import Derived.Shelf.Small.Utf8
import Derived.Shelf.Small.Bits
import Derived.Shelf.Strings.BuilderF
import Derived.Shelf.Utf8.RuneCount
import Derived.Shelf.Strconv.Atoi
import Derived.Shelf.Strconv.Itoa0
import Derived.Shelf.Strconv.Itoa1
import Derived.Shelf.LaysM
import Derived.Shelf.Strconv.Itoa2
import Derived.Shelf.Strconv.Itoa3
import Derived.Shelf.Strconv.AtoiErrFast
import Derived.Shelf.Strconv.ParseIntEmpty
import Derived.Shelf.Strconv.AtoiFail
import Derived.Shelf.Strconv.Clone
import Derived.Shelf.Strconv.SyntaxError
import Derived.Shelf.LaysC
import Derived.Shelf.Strconv.ToError
import Derived.Shelf.Strconv.Lower
import Derived.Shelf.Strconv.ParseUint10
import Derived.Shelf.Strconv.ParseUint10Empty
import Derived.Shelf.Strconv.ParseUint10Any
import Derived.Shelf.Strconv.ParseInt10
import Derived.Shelf.Strconv.AtoiLong
import Derived.Shelf.Strconv.AtoiInnerAll
import Derived.Shelf.Strconv.RangeError
import Derived.Shelf.Strconv.ToErrorRange
import Derived.Shelf.Strconv.AtoiAll
import Derived.Shelf.Strconv.ErrVarAll
import Derived.Shelf.Strings.Search1
import Derived.Shelf.Strings.Search2
import Derived.Shelf.Strings.Search3
import Derived.Shelf.Strings.Count
import Derived.Shelf.Strings.Shaped
import Derived.Shelf.Sort.Plain
import Derived.Shelf.Strings.Prefix
import Derived.Shelf.Strings.Split
import Derived.Shelf.Strings.SplitShaped
import Derived.Shelf.Unicode.Latin
import Derived.Shelf.Unicode.Decode
import Derived.Shelf.Strings.RuneCount
import Derived.Shelf.Strings.Explode
import Derived.Shelf.Bits.Mul64
import Derived.Shelf.Strings.Repeat
import Derived.Shelf.Unicode.DecodeSlow
import Derived.Shelf.Unicode.DecodeAny
import Derived.Shelf.Unicode.Is16White
import Derived.Shelf.Unicode.IsSpaceAny
import Derived.Shelf.Unicode.DecodeLast
import Derived.Shelf.Strings.TrimSpaceAny
import Derived.Shelf.Unicode.CaseLookup
import Derived.Shelf.Unicode.CaseConvert
import Derived.Shelf.Unicode.CaseTo
import Derived.Shelf.Unicode.CaseLaid
import Derived.Shelf.Unicode.Is16Any
import Derived.Shelf.Unicode.Is32Any
import Derived.Shelf.Unicode.ExclAny
import Derived.Ground.Names2Prog
import Derived.Shelf.Slices.Clone
import Derived.Shelf.Slices.CompactI
import Derived.Shelf.Slices.SearchI
import Derived.Shelf.Slices.Cells
import Derived.Ground.SlgnProg
import Derived.Shelf.SlicesE.Clone
import Derived.Test.YtfbbflhnhmphiaaGreatDoorProg
namespace Go.Proofs
open Go.Shelf
def Tryz.lays158_ren:Go.Shelf.Ren:=⟨fun|158=>293|165=>313|166=>314|167=>346|169=>315|230=>347|203=>348|240=>367|241=>368|197=>308|118=>395|168=>396|270=>397|262=>398|276=>404|277=>405|260=>361|242=>420|313=>421|278=>429|274=>430|275=>431|n=>n,fun|9=>9|4=>4|3=>3|5=>5|72=>349|0=>0|76=>266|75=>265|107=>375|70=>347|20=>20|37=>305|127=>395|21=>21|105=>342|164=>433|162=>455|203=>453|119=>308|46=>351|139=>430|138=>429|51=>338|160=>464|208=>474|206=>472|80=>221|n=>n,fun|13=>8|3=>5|4=>6|n=>n⟩
theorem Tryz.lays158:Go.Proofs.Lays.n158 Tryz.prog Tryz.lays158_ren:=by constructor<;>first|kernel_rfl|(intros;kernel_rfl)|decide|(constructor<;>first|kernel_rfl|(intros;kernel_rfl)|decide)
theorem Tryz.Builder_Extra_158:Builder.Extra Tryz.prog Tryz.lays158_ren:=by constructor<;>first|kernel_rfl|(intros;kernel_rfl)|decide|(constructor<;>first|kernel_rfl|(intros;kernel_rfl)|decide)
def Tryz.lays156_ren:Go.Shelf.Ren:=⟨fun|156=>256|165=>313|166=>314|169=>315|240=>367|241=>368|276=>404|277=>405|n=>n,fun|31=>40|9=>9|3=>3|4=>4|0=>0|20=>20|72=>349|76=>266|70=>347|37=>305|75=>265|127=>395|164=>433|5=>5|80=>221|n=>n,fun|n=>n⟩
theorem Tryz.lays156:Go.Proofs.Lays.n156 Tryz.prog Tryz.lays156_ren:=by constructor<;>first|kernel_rfl|(intros;kernel_rfl)|decide|(constructor<;>first|kernel_rfl|(intros;kernel_rfl)|decide)
theorem Tryz.Builder_Extra_156:Builder.Extra Tryz.prog Tryz.lays156_ren:=by constructor<;>first|kernel_rfl|(intros;kernel_rfl)|decide|(constructor<;>first|kernel_rfl|(intros;kernel_rfl)|decide)
def Tryz.lays163_ren:Go.Shelf.Ren:=⟨fun|163=>188|237=>250|199=>251|238=>252|272=>305|261=>306|273=>307|197=>308|315=>357|311=>358|312=>359|271=>360|260=>361|120=>400|n=>n,fun|9=>9|37=>305|3=>3|0=>0|5=>5|4=>4|40=>307|119=>308|21=>21|51=>338|141=>340|105=>342|196=>381|193=>378|198=>384|49=>382|194=>379|201=>387|226=>425|46=>351|227=>426|139=>430|138=>429|n=>n,fun|0=>0|6=>1|3=>5|4=>6|n=>n⟩
theorem Tryz.lays163:Go.Proofs.Lays.n163 Tryz.prog Tryz.lays163_ren:=by constructor<;>first|kernel_rfl|(intros;kernel_rfl)|decide|(constructor<;>first|kernel_rfl|(intros;kernel_rfl)|decide)
theorem Tryz.Space_Extra_163:Space.Extra Tryz.prog Tryz.lays163_ren:= {
 gNamed:=by kernel_rfl }
def Tryz.laysM171_ren:Go.Shelf.Ren:=⟨fun|171=>207|243=>267|246=>337|283=>379|284=>380|285=>381|286=>382|129=>392|317=>409|318=>410|319=>411|320=>412|337=>425|338=>426|n=>n,fun|3=>3|9=>9|2=>2|4=>4|171=>408|0=>0|53=>390|37=>305|5=>5|173=>411|212=>442|51=>338|20=>20|213=>443|46=>351|232=>469|233=>470|n=>n,fun|17=>7|18=>9|19=>10|n=>n⟩
theorem Tryz.laysM171:Go.Proofs.LaysM.n171 Tryz.prog Tryz.laysM171_ren:=by constructor<;>first|kernel_rfl|(intros;kernel_rfl)|decide|(constructor<;>first|kernel_rfl|(intros;kernel_rfl)|decide)
def Tryz.laysC172_ren:Go.Shelf.Ren:=⟨fun|172=>206|244=>265|245=>266|247=>332|279=>333|280=>334|281=>335|282=>336|287=>376|316=>377|171=>207|205=>378|321=>407|322=>408|243=>267|246=>337|283=>379|284=>380|285=>381|286=>382|129=>392|317=>409|318=>410|319=>411|320=>412|337=>425|338=>426|n=>n,fun|9=>9|3=>3|75=>265|76=>266|4=>4|5=>5|167=>362|37=>305|0=>0|85=>363|2=>2|168=>365|53=>390|175=>403|46=>351|210=>406|127=>395|145=>440|143=>438|21=>21|171=>408|173=>411|212=>442|51=>338|20=>20|213=>443|232=>469|233=>470|80=>221|n=>n,fun|15=>3|16=>4|17=>7|18=>9|19=>10|n=>n⟩
theorem Tryz.laysC172:Go.Proofs.LaysC.n172 Tryz.prog Tryz.laysC172_ren:=by constructor<;>first|kernel_rfl|(intros;kernel_rfl)|decide|(constructor<;>first|kernel_rfl|(intros;kernel_rfl)|decide|(constructor<;>first|kernel_rfl|(intros;kernel_rfl)|decide))
def Tryz.lays144_ren:Go.Shelf.Ren:=⟨fun|144=>189|143=>253|219=>309|217=>362|225=>363|224=>364|267=>365|266=>401|314=>402|n=>n,fun|9=>9|4=>4|3=>3|5=>5|46=>351|146=>396|51=>338|n=>n,fun|1=>2|n=>n⟩
theorem Tryz.lays144:Go.Proofs.Lays.n144 Tryz.prog Tryz.lays144_ren:=by constructor<;>first|kernel_rfl|(intros;kernel_rfl)|decide|(constructor<;>first|kernel_rfl|(intros;kernel_rfl)|decide)
def Tryz.laysM144_ren:Go.Shelf.Ren:=⟨fun|144=>189|143=>253|219=>309|217=>362|225=>363|224=>364|267=>365|266=>401|314=>402|n=>n,fun|9=>9|4=>4|3=>3|5=>5|46=>351|146=>396|51=>338|n=>n,fun|1=>2|n=>n⟩
theorem Tryz.laysM144:Go.Proofs.LaysM.n144 Tryz.prog Tryz.laysM144_ren:=by constructor<;>first|kernel_rfl|(intros;kernel_rfl)|exact fun w h=>Go.Proofs.cell_of_shapedOpen_int (zero:= #[.int .i64 0]) (t:=3) h (of_decide_eq_true (by kernel_rfl)) (by kernel_rfl) rfl (by kernel_rfl) (by kernel_rfl) Tryz.underlying3|decide|(constructor<;>first|kernel_rfl|(intros;kernel_rfl)|exact fun w h=>Go.Proofs.cell_of_shapedOpen_int (zero:= #[.int .i64 0]) (t:=3) h (of_decide_eq_true (by kernel_rfl)) (by kernel_rfl) rfl (by kernel_rfl) (by kernel_rfl) Tryz.underlying3|decide)
def Tryz.lays189_ren:Go.Shelf.Ren:=⟨fun|189=>280|125=>341|257=>340|128=>391|129=>392|294=>383|295=>384|296=>385|297=>386|298=>387|299=>388|216=>249|300=>389|301=>390|328=>413|329=>414|330=>415|331=>416|332=>417|215=>210|343=>427|n=>n,fun|28=>39|3=>3|46=>351|0=>0|51=>338|53=>390|4=>4|183=>415|182=>414|131=>67|5=>5|9=>9|218=>444|222=>448|228=>461|229=>462|n=>n,fun|n=>n⟩
theorem Tryz.lays189:Go.Proofs.Lays.n189 Tryz.prog Tryz.lays189_ren:=by constructor<;>first|kernel_rfl|(intros;kernel_rfl)|decide|(constructor<;>first|kernel_rfl|(intros;kernel_rfl)|decide)
def Tryz.lays146_ren:Go.Shelf.Ren:=⟨fun|146=>205|221=>264|268=>330|138=>331|143=>253|195=>374|197=>308|218=>375|219=>309|260=>361|217=>362|225=>363|224=>364|267=>365|266=>401|314=>402|n=>n,fun|9=>9|31=>40|3=>3|4=>4|0=>0|105=>342|21=>21|5=>5|46=>351|119=>308|139=>430|138=>429|146=>396|51=>338|n=>n,fun|1=>2|3=>5|4=>6|n=>n⟩
theorem Tryz.lays146:Go.Proofs.Lays.n146 Tryz.prog Tryz.lays146_ren:=by constructor<;>first|kernel_rfl|(intros;kernel_rfl)|decide|(constructor<;>first|kernel_rfl|(intros;kernel_rfl)|decide)
def Tryz.lays199_ren:Go.Shelf.Ren:=⟨fun|199=>251|261=>306|311=>358|312=>359|n=>n,fun|21=>21|4=>4|51=>338|141=>340|0=>0|196=>381|193=>378|3=>3|198=>384|49=>382|194=>379|201=>387|226=>425|46=>351|227=>426|n=>n,fun|6=>1|n=>n⟩
theorem Tryz.lays199:Go.Proofs.Lays.n199 Tryz.prog Tryz.lays199_ren:=by constructor<;>first|kernel_rfl|(intros;kernel_rfl)|decide|(constructor<;>first|kernel_rfl|(intros;kernel_rfl)|decide)
def Tryz.lays105_ren:Go.Shelf.Ren:=⟨fun|105=>257|212=>316|99=>317|165=>313|166=>314|170=>318|169=>315|263=>369|264=>370|206=>371|240=>367|241=>368|276=>404|277=>405|n=>n,fun|9=>9|3=>3|4=>4|20=>20|0=>0|46=>351|109=>352|5=>5|72=>349|76=>266|51=>338|146=>396|53=>390|148=>398|70=>347|37=>305|75=>265|127=>395|164=>433|80=>221|n=>n,fun|n=>n⟩
theorem Tryz.lays105:Go.Proofs.Lays.n105 Tryz.prog Tryz.lays105_ren:=by constructor<;>first|kernel_rfl|(intros;kernel_rfl)|decide|(constructor<;>first|kernel_rfl|(intros;kernel_rfl)|decide)
theorem Tryz.Builder_Extra_105:Builder.Extra Tryz.prog Tryz.lays105_ren:=by constructor<;>first|kernel_rfl|(intros;kernel_rfl)|decide|(constructor<;>first|kernel_rfl|(intros;kernel_rfl)|decide)
def Tryz.lays260_ren:Go.Shelf.Ren:=⟨fun|260=>361|n=>n,fun|9=>9|21=>21|3=>3|4=>4|5=>5|119=>308|0=>0|46=>351|139=>430|138=>429|n=>n,fun|3=>5|4=>6|n=>n⟩
theorem Tryz.lays260:Go.Proofs.Lays.n260 Tryz.prog Tryz.lays260_ren:=by constructor<;>first|kernel_rfl|(intros;kernel_rfl)|decide|(constructor<;>first|kernel_rfl|(intros;kernel_rfl)|decide)
end Go.Proofs
