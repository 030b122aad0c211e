/-
  NestDepths, the tied card: for each rest of the arguments that counts the evaluator runs the program's code, and a theorem says that what it answers is what the program does.
-/
import Derived.Test.YtmgppcpmfmaghaaGreatDoorRows
import Derived.Test.YtmgppcpmfmaghaaGreatDoorTie
import Derived.Test.YtmgppcpmfmaghaaGreatDoorCards
import Derived.Test.YtmgppcpmfmaghaaGreatDoorGvSeat
import Derived.Test.YtmgppcpmfmaghaaGreatDoorNestDepthsR0
import Derived.Test.YtmgppcpmfmaghaaGreatDoorNestDepthsR1
import Derived.Test.YtmgppcpmfmaghaaGreatDoorNestDepthsR2
import Derived.Test.YtmgppcpmfmaghaaGreatDoorNestDepthsR3
import Derived.Test.YtmgppcpmfmaghaaGreatDoorLaid
import Derived.Test.YtmgppcpmfmaghaaGreatDoorLaidB
import Derived.Test.YtmgppcpmfmaghaaGreatDoorNestDepthsClosed
import Derived.SevenTiedAt
import Derived.WalkKit
import Derived.ProofKit
import Derived.OpenShut
namespace Go.Proofs.YtmgppcpmfmaghaaGreatDoor.nestDepths
open Go.ChangeShapes Go.WideShapes Go.ChangeAt Go.RowKit
set_option linter.unusedVariables false


/-! ### The walk: the evaluator's runs, one for each rest. -/
theorem runs (r0 : Nat) (h0 : r0 < 6) (r1 : Nat) (h1 : r1 < 8) : Go.Ev.isTr (Go.Ev.runTop Go.Ev.XA (.str 0 0) 2000 4 Tryz.f4 (Go.Ev.argF2 (Go.Ev.restC r0 6) (Go.Ev.restC r1 8))) = true := by
  match r0, h0, r1, h1 with
  | 0, _, 0, _ => exact (congrArg (fun F => Go.Ev.isTr (Go.Ev.runTop Go.Ev.XA (.str 0 0) 2000 4 Tryz.f4 F)) (show Go.Ev.argF2 (Go.Ev.restC 0 6) (Go.Ev.restC 0 8) = 220175867135046865118617391840278639454360335665341169954692955159435834397694766965004328512336755154747392 from by decide +kernel)).trans Go.Ev.nestDepths_0_0
  | 0, _, 1, _ => exact (congrArg (fun F => Go.Ev.isTr (Go.Ev.runTop Go.Ev.XA (.str 0 0) 2000 4 Tryz.f4 F)) (show Go.Ev.argF2 (Go.Ev.restC 0 6) (Go.Ev.restC 1 8) = 220175867135046865118617391840394431543597651860764740939701643067289104382360407529043786096344668284387328 from by decide +kernel)).trans Go.Ev.nestDepths_0_1
  | 0, _, 2, _ => exact (congrArg (fun F => Go.Ev.isTr (Go.Ev.runTop Go.Ev.XA (.str 0 0) 2000 4 Tryz.f4 F)) (show Go.Ev.argF2 (Go.Ev.restC 0 6) (Go.Ev.restC 2 8) = 220175867135046865118617391840510223632834968056188311924710330975142374367026048093083243680352581414027264 from by decide +kernel)).trans Go.Ev.nestDepths_0_2
  | 0, _, 3, _ => exact (congrArg (fun F => Go.Ev.isTr (Go.Ev.runTop Go.Ev.XA (.str 0 0) 2000 4 Tryz.f4 F)) (show Go.Ev.argF2 (Go.Ev.restC 0 6) (Go.Ev.restC 3 8) = 220175867135046865118617391840626015722072284251611882909719018882995644351691688657122701264360494543667200 from by decide +kernel)).trans Go.Ev.nestDepths_0_3
  | 0, _, 4, _ => exact (congrArg (fun F => Go.Ev.isTr (Go.Ev.runTop Go.Ev.XA (.str 0 0) 2000 4 Tryz.f4 F)) (show Go.Ev.argF2 (Go.Ev.restC 0 6) (Go.Ev.restC 4 8) = 220175867135046865118617391840741807811309600447035453894727706790848914336357329221162158848368407673307136 from by decide +kernel)).trans Go.Ev.nestDepths_0_4
  | 0, _, 5, _ => exact (congrArg (fun F => Go.Ev.isTr (Go.Ev.runTop Go.Ev.XA (.str 0 0) 2000 4 Tryz.f4 F)) (show Go.Ev.argF2 (Go.Ev.restC 0 6) (Go.Ev.restC 5 8) = 220175867135046865118617391840857599900546916642459024879736394698702184321022969785201616432376320802947072 from by decide +kernel)).trans Go.Ev.nestDepths_0_5
  | 0, _, 6, _ => exact (congrArg (fun F => Go.Ev.isTr (Go.Ev.runTop Go.Ev.XA (.str 0 0) 2000 4 Tryz.f4 F)) (show Go.Ev.argF2 (Go.Ev.restC 0 6) (Go.Ev.restC 6 8) = 220175867135046865118617391840973391989784232837882595864745082606555454305688610349241074016384233932587008 from by decide +kernel)).trans Go.Ev.nestDepths_0_6
  | 0, _, 7, _ => exact (congrArg (fun F => Go.Ev.isTr (Go.Ev.runTop Go.Ev.XA (.str 0 0) 2000 4 Tryz.f4 F)) (show Go.Ev.argF2 (Go.Ev.restC 0 6) (Go.Ev.restC 7 8) = 220175867135046865118617391841089184079021549033306166849753770514408724290354250913280531600392147062226944 from by decide +kernel)).trans Go.Ev.nestDepths_0_7
  | 1, _, 0, _ => exact (congrArg (fun F => Go.Ev.isTr (Go.Ev.runTop Go.Ev.XA (.str 0 0) 2000 4 Tryz.f4 F)) (show Go.Ev.argF2 (Go.Ev.restC 1 6) (Go.Ev.restC 0 8) = 220175867135046865118617391840278639454360335665341169954692955159436174680061687903467791886944186922958848 from by decide +kernel)).trans Go.Ev.nestDepths_1_0
  | 1, _, 1, _ => exact (congrArg (fun F => Go.Ev.isTr (Go.Ev.runTop Go.Ev.XA (.str 0 0) 2000 4 Tryz.f4 F)) (show Go.Ev.argF2 (Go.Ev.restC 1 6) (Go.Ev.restC 1 8) = 220175867135046865118617391840394431543597651860764740939701643067289444664727328467507249470952100052598784 from by decide +kernel)).trans Go.Ev.nestDepths_1_1
  | 1, _, 2, _ => exact (congrArg (fun F => Go.Ev.isTr (Go.Ev.runTop Go.Ev.XA (.str 0 0) 2000 4 Tryz.f4 F)) (show Go.Ev.argF2 (Go.Ev.restC 1 6) (Go.Ev.restC 2 8) = 220175867135046865118617391840510223632834968056188311924710330975142714649392969031546707054960013182238720 from by decide +kernel)).trans Go.Ev.nestDepths_1_2
  | 1, _, 3, _ => exact (congrArg (fun F => Go.Ev.isTr (Go.Ev.runTop Go.Ev.XA (.str 0 0) 2000 4 Tryz.f4 F)) (show Go.Ev.argF2 (Go.Ev.restC 1 6) (Go.Ev.restC 3 8) = 220175867135046865118617391840626015722072284251611882909719018882995984634058609595586164638967926311878656 from by decide +kernel)).trans Go.Ev.nestDepths_1_3
  | 1, _, 4, _ => exact (congrArg (fun F => Go.Ev.isTr (Go.Ev.runTop Go.Ev.XA (.str 0 0) 2000 4 Tryz.f4 F)) (show Go.Ev.argF2 (Go.Ev.restC 1 6) (Go.Ev.restC 4 8) = 220175867135046865118617391840741807811309600447035453894727706790849254618724250159625622222975839441518592 from by decide +kernel)).trans Go.Ev.nestDepths_1_4
  | 1, _, 5, _ => exact (congrArg (fun F => Go.Ev.isTr (Go.Ev.runTop Go.Ev.XA (.str 0 0) 2000 4 Tryz.f4 F)) (show Go.Ev.argF2 (Go.Ev.restC 1 6) (Go.Ev.restC 5 8) = 220175867135046865118617391840857599900546916642459024879736394698702524603389890723665079806983752571158528 from by decide +kernel)).trans Go.Ev.nestDepths_1_5
  | 1, _, 6, _ => exact (congrArg (fun F => Go.Ev.isTr (Go.Ev.runTop Go.Ev.XA (.str 0 0) 2000 4 Tryz.f4 F)) (show Go.Ev.argF2 (Go.Ev.restC 1 6) (Go.Ev.restC 6 8) = 220175867135046865118617391840973391989784232837882595864745082606555794588055531287704537390991665700798464 from by decide +kernel)).trans Go.Ev.nestDepths_1_6
  | 1, _, 7, _ => exact (congrArg (fun F => Go.Ev.isTr (Go.Ev.runTop Go.Ev.XA (.str 0 0) 2000 4 Tryz.f4 F)) (show Go.Ev.argF2 (Go.Ev.restC 1 6) (Go.Ev.restC 7 8) = 220175867135046865118617391841089184079021549033306166849753770514409064572721171851743994974999578830438400 from by decide +kernel)).trans Go.Ev.nestDepths_1_7
  | 2, _, 0, _ => exact (congrArg (fun F => Go.Ev.isTr (Go.Ev.runTop Go.Ev.XA (.str 0 0) 2000 4 Tryz.f4 F)) (show Go.Ev.argF2 (Go.Ev.restC 2 6) (Go.Ev.restC 0 8) = 220175867135046865118617391840278639454360335665341169954692955159436514962428608841931255261551618691170304 from by decide +kernel)).trans Go.Ev.nestDepths_2_0
  | 2, _, 1, _ => exact (congrArg (fun F => Go.Ev.isTr (Go.Ev.runTop Go.Ev.XA (.str 0 0) 2000 4 Tryz.f4 F)) (show Go.Ev.argF2 (Go.Ev.restC 2 6) (Go.Ev.restC 1 8) = 220175867135046865118617391840394431543597651860764740939701643067289784947094249405970712845559531820810240 from by decide +kernel)).trans Go.Ev.nestDepths_2_1
  | 2, _, 2, _ => exact (congrArg (fun F => Go.Ev.isTr (Go.Ev.runTop Go.Ev.XA (.str 0 0) 2000 4 Tryz.f4 F)) (show Go.Ev.argF2 (Go.Ev.restC 2 6) (Go.Ev.restC 2 8) = 220175867135046865118617391840510223632834968056188311924710330975143054931759889970010170429567444950450176 from by decide +kernel)).trans Go.Ev.nestDepths_2_2
  | 2, _, 3, _ => exact (congrArg (fun F => Go.Ev.isTr (Go.Ev.runTop Go.Ev.XA (.str 0 0) 2000 4 Tryz.f4 F)) (show Go.Ev.argF2 (Go.Ev.restC 2 6) (Go.Ev.restC 3 8) = 220175867135046865118617391840626015722072284251611882909719018882996324916425530534049628013575358080090112 from by decide +kernel)).trans Go.Ev.nestDepths_2_3
  | 2, _, 4, _ => exact (congrArg (fun F => Go.Ev.isTr (Go.Ev.runTop Go.Ev.XA (.str 0 0) 2000 4 Tryz.f4 F)) (show Go.Ev.argF2 (Go.Ev.restC 2 6) (Go.Ev.restC 4 8) = 220175867135046865118617391840741807811309600447035453894727706790849594901091171098089085597583271209730048 from by decide +kernel)).trans Go.Ev.nestDepths_2_4
  | 2, _, 5, _ => exact (congrArg (fun F => Go.Ev.isTr (Go.Ev.runTop Go.Ev.XA (.str 0 0) 2000 4 Tryz.f4 F)) (show Go.Ev.argF2 (Go.Ev.restC 2 6) (Go.Ev.restC 5 8) = 220175867135046865118617391840857599900546916642459024879736394698702864885756811662128543181591184339369984 from by decide +kernel)).trans Go.Ev.nestDepths_2_5
  | 2, _, 6, _ => exact (congrArg (fun F => Go.Ev.isTr (Go.Ev.runTop Go.Ev.XA (.str 0 0) 2000 4 Tryz.f4 F)) (show Go.Ev.argF2 (Go.Ev.restC 2 6) (Go.Ev.restC 6 8) = 220175867135046865118617391840973391989784232837882595864745082606556134870422452226168000765599097469009920 from by decide +kernel)).trans Go.Ev.nestDepths_2_6
  | 2, _, 7, _ => exact (congrArg (fun F => Go.Ev.isTr (Go.Ev.runTop Go.Ev.XA (.str 0 0) 2000 4 Tryz.f4 F)) (show Go.Ev.argF2 (Go.Ev.restC 2 6) (Go.Ev.restC 7 8) = 220175867135046865118617391841089184079021549033306166849753770514409404855088092790207458349607010598649856 from by decide +kernel)).trans Go.Ev.nestDepths_2_7
  | 3, _, 0, _ => exact (congrArg (fun F => Go.Ev.isTr (Go.Ev.runTop Go.Ev.XA (.str 0 0) 2000 4 Tryz.f4 F)) (show Go.Ev.argF2 (Go.Ev.restC 3 6) (Go.Ev.restC 0 8) = 220175867135046865118617391840278639454360335665341169954692955159436855244795529780394718636159050459381760 from by decide +kernel)).trans Go.Ev.nestDepths_3_0
  | 3, _, 1, _ => exact (congrArg (fun F => Go.Ev.isTr (Go.Ev.runTop Go.Ev.XA (.str 0 0) 2000 4 Tryz.f4 F)) (show Go.Ev.argF2 (Go.Ev.restC 3 6) (Go.Ev.restC 1 8) = 220175867135046865118617391840394431543597651860764740939701643067290125229461170344434176220166963589021696 from by decide +kernel)).trans Go.Ev.nestDepths_3_1
  | 3, _, 2, _ => exact (congrArg (fun F => Go.Ev.isTr (Go.Ev.runTop Go.Ev.XA (.str 0 0) 2000 4 Tryz.f4 F)) (show Go.Ev.argF2 (Go.Ev.restC 3 6) (Go.Ev.restC 2 8) = 220175867135046865118617391840510223632834968056188311924710330975143395214126810908473633804174876718661632 from by decide +kernel)).trans Go.Ev.nestDepths_3_2
  | 3, _, 3, _ => exact (congrArg (fun F => Go.Ev.isTr (Go.Ev.runTop Go.Ev.XA (.str 0 0) 2000 4 Tryz.f4 F)) (show Go.Ev.argF2 (Go.Ev.restC 3 6) (Go.Ev.restC 3 8) = 220175867135046865118617391840626015722072284251611882909719018882996665198792451472513091388182789848301568 from by decide +kernel)).trans Go.Ev.nestDepths_3_3
  | 3, _, 4, _ => exact (congrArg (fun F => Go.Ev.isTr (Go.Ev.runTop Go.Ev.XA (.str 0 0) 2000 4 Tryz.f4 F)) (show Go.Ev.argF2 (Go.Ev.restC 3 6) (Go.Ev.restC 4 8) = 220175867135046865118617391840741807811309600447035453894727706790849935183458092036552548972190702977941504 from by decide +kernel)).trans Go.Ev.nestDepths_3_4
  | 3, _, 5, _ => exact (congrArg (fun F => Go.Ev.isTr (Go.Ev.runTop Go.Ev.XA (.str 0 0) 2000 4 Tryz.f4 F)) (show Go.Ev.argF2 (Go.Ev.restC 3 6) (Go.Ev.restC 5 8) = 220175867135046865118617391840857599900546916642459024879736394698703205168123732600592006556198616107581440 from by decide +kernel)).trans Go.Ev.nestDepths_3_5
  | 3, _, 6, _ => exact (congrArg (fun F => Go.Ev.isTr (Go.Ev.runTop Go.Ev.XA (.str 0 0) 2000 4 Tryz.f4 F)) (show Go.Ev.argF2 (Go.Ev.restC 3 6) (Go.Ev.restC 6 8) = 220175867135046865118617391840973391989784232837882595864745082606556475152789373164631464140206529237221376 from by decide +kernel)).trans Go.Ev.nestDepths_3_6
  | 3, _, 7, _ => exact (congrArg (fun F => Go.Ev.isTr (Go.Ev.runTop Go.Ev.XA (.str 0 0) 2000 4 Tryz.f4 F)) (show Go.Ev.argF2 (Go.Ev.restC 3 6) (Go.Ev.restC 7 8) = 220175867135046865118617391841089184079021549033306166849753770514409745137455013728670921724214442366861312 from by decide +kernel)).trans Go.Ev.nestDepths_3_7
  | 4, _, 0, _ => exact (congrArg (fun F => Go.Ev.isTr (Go.Ev.runTop Go.Ev.XA (.str 0 0) 2000 4 Tryz.f4 F)) (show Go.Ev.argF2 (Go.Ev.restC 4 6) (Go.Ev.restC 0 8) = 220175867135046865118617391840278639454360335665341169954692955159437195527162450718858182010766482227593216 from by decide +kernel)).trans Go.Ev.nestDepths_4_0
  | 4, _, 1, _ => exact (congrArg (fun F => Go.Ev.isTr (Go.Ev.runTop Go.Ev.XA (.str 0 0) 2000 4 Tryz.f4 F)) (show Go.Ev.argF2 (Go.Ev.restC 4 6) (Go.Ev.restC 1 8) = 220175867135046865118617391840394431543597651860764740939701643067290465511828091282897639594774395357233152 from by decide +kernel)).trans Go.Ev.nestDepths_4_1
  | 4, _, 2, _ => exact (congrArg (fun F => Go.Ev.isTr (Go.Ev.runTop Go.Ev.XA (.str 0 0) 2000 4 Tryz.f4 F)) (show Go.Ev.argF2 (Go.Ev.restC 4 6) (Go.Ev.restC 2 8) = 220175867135046865118617391840510223632834968056188311924710330975143735496493731846937097178782308486873088 from by decide +kernel)).trans Go.Ev.nestDepths_4_2
  | 4, _, 3, _ => exact (congrArg (fun F => Go.Ev.isTr (Go.Ev.runTop Go.Ev.XA (.str 0 0) 2000 4 Tryz.f4 F)) (show Go.Ev.argF2 (Go.Ev.restC 4 6) (Go.Ev.restC 3 8) = 220175867135046865118617391840626015722072284251611882909719018882997005481159372410976554762790221616513024 from by decide +kernel)).trans Go.Ev.nestDepths_4_3
  | 4, _, 4, _ => exact (congrArg (fun F => Go.Ev.isTr (Go.Ev.runTop Go.Ev.XA (.str 0 0) 2000 4 Tryz.f4 F)) (show Go.Ev.argF2 (Go.Ev.restC 4 6) (Go.Ev.restC 4 8) = 220175867135046865118617391840741807811309600447035453894727706790850275465825012975016012346798134746152960 from by decide +kernel)).trans Go.Ev.nestDepths_4_4
  | 4, _, 5, _ => exact (congrArg (fun F => Go.Ev.isTr (Go.Ev.runTop Go.Ev.XA (.str 0 0) 2000 4 Tryz.f4 F)) (show Go.Ev.argF2 (Go.Ev.restC 4 6) (Go.Ev.restC 5 8) = 220175867135046865118617391840857599900546916642459024879736394698703545450490653539055469930806047875792896 from by decide +kernel)).trans Go.Ev.nestDepths_4_5
  | 4, _, 6, _ => exact (congrArg (fun F => Go.Ev.isTr (Go.Ev.runTop Go.Ev.XA (.str 0 0) 2000 4 Tryz.f4 F)) (show Go.Ev.argF2 (Go.Ev.restC 4 6) (Go.Ev.restC 6 8) = 220175867135046865118617391840973391989784232837882595864745082606556815435156294103094927514813961005432832 from by decide +kernel)).trans Go.Ev.nestDepths_4_6
  | 4, _, 7, _ => exact (congrArg (fun F => Go.Ev.isTr (Go.Ev.runTop Go.Ev.XA (.str 0 0) 2000 4 Tryz.f4 F)) (show Go.Ev.argF2 (Go.Ev.restC 4 6) (Go.Ev.restC 7 8) = 220175867135046865118617391841089184079021549033306166849753770514410085419821934667134385098821874135072768 from by decide +kernel)).trans Go.Ev.nestDepths_4_7
  | 5, _, 0, _ => exact (congrArg (fun F => Go.Ev.isTr (Go.Ev.runTop Go.Ev.XA (.str 0 0) 2000 4 Tryz.f4 F)) (show Go.Ev.argF2 (Go.Ev.restC 5 6) (Go.Ev.restC 0 8) = 220175867135046865118617391840278639454360335665341169954692955159437535809529371657321645385373913995804672 from by decide +kernel)).trans Go.Ev.nestDepths_5_0
  | 5, _, 1, _ => exact (congrArg (fun F => Go.Ev.isTr (Go.Ev.runTop Go.Ev.XA (.str 0 0) 2000 4 Tryz.f4 F)) (show Go.Ev.argF2 (Go.Ev.restC 5 6) (Go.Ev.restC 1 8) = 220175867135046865118617391840394431543597651860764740939701643067290805794195012221361102969381827125444608 from by decide +kernel)).trans Go.Ev.nestDepths_5_1
  | 5, _, 2, _ => exact (congrArg (fun F => Go.Ev.isTr (Go.Ev.runTop Go.Ev.XA (.str 0 0) 2000 4 Tryz.f4 F)) (show Go.Ev.argF2 (Go.Ev.restC 5 6) (Go.Ev.restC 2 8) = 220175867135046865118617391840510223632834968056188311924710330975144075778860652785400560553389740255084544 from by decide +kernel)).trans Go.Ev.nestDepths_5_2
  | 5, _, 3, _ => exact (congrArg (fun F => Go.Ev.isTr (Go.Ev.runTop Go.Ev.XA (.str 0 0) 2000 4 Tryz.f4 F)) (show Go.Ev.argF2 (Go.Ev.restC 5 6) (Go.Ev.restC 3 8) = 220175867135046865118617391840626015722072284251611882909719018882997345763526293349440018137397653384724480 from by decide +kernel)).trans Go.Ev.nestDepths_5_3
  | 5, _, 4, _ => exact (congrArg (fun F => Go.Ev.isTr (Go.Ev.runTop Go.Ev.XA (.str 0 0) 2000 4 Tryz.f4 F)) (show Go.Ev.argF2 (Go.Ev.restC 5 6) (Go.Ev.restC 4 8) = 220175867135046865118617391840741807811309600447035453894727706790850615748191933913479475721405566514364416 from by decide +kernel)).trans Go.Ev.nestDepths_5_4
  | 5, _, 5, _ => exact (congrArg (fun F => Go.Ev.isTr (Go.Ev.runTop Go.Ev.XA (.str 0 0) 2000 4 Tryz.f4 F)) (show Go.Ev.argF2 (Go.Ev.restC 5 6) (Go.Ev.restC 5 8) = 220175867135046865118617391840857599900546916642459024879736394698703885732857574477518933305413479644004352 from by decide +kernel)).trans Go.Ev.nestDepths_5_5
  | 5, _, 6, _ => exact (congrArg (fun F => Go.Ev.isTr (Go.Ev.runTop Go.Ev.XA (.str 0 0) 2000 4 Tryz.f4 F)) (show Go.Ev.argF2 (Go.Ev.restC 5 6) (Go.Ev.restC 6 8) = 220175867135046865118617391840973391989784232837882595864745082606557155717523215041558390889421392773644288 from by decide +kernel)).trans Go.Ev.nestDepths_5_6
  | 5, _, 7, _ => exact (congrArg (fun F => Go.Ev.isTr (Go.Ev.runTop Go.Ev.XA (.str 0 0) 2000 4 Tryz.f4 F)) (show Go.Ev.argF2 (Go.Ev.restC 5 6) (Go.Ev.restC 7 8) = 220175867135046865118617391841089184079021549033306166849753770514410425702188855605597848473429305903284224 from by decide +kernel)).trans Go.Ev.nestDepths_5_7
  | n + 6, h, _, _ => exact absurd h (by omega)
  | _, _, n + 8, h => exact absurd h (by omega)
theorem walk (a0 : Int) (a1 : Int) (w0 : (Lit.int .u8 a0).wf = true) (w1 : (Lit.int .u8 a1).wf = true) (w : World) :
    Calls Tryz.prog 4 #[.int .u8 a0, .int .u8 a1] w fun e w' => e = .returned (.bool true) ∧ Go.Ev.Kept w w' := by
  obtain ⟨x0, rfl, hx0⟩ := Go.Ev.u8_nat w0
  obtain ⟨x1, rfl, hx1⟩ := Go.Ev.u8_nat w1
  exact (Go.Ev.topN Tryz.func4 rfl (runs (x0 % 6) (Nat.mod_lt _ (by decide)) (x1 % 8) (Nat.mod_lt _ (by decide))) (Go.Ev.args2 (Go.Ev.restC_lt (Nat.lt_trans (Nat.mod_lt x0 (show 0 < 6 by decide)) (by decide)) (by decide)) (Go.Ev.restC_lt (Nat.lt_trans (Nat.mod_lt x1 (show 0 < 8 by decide)) (by decide)) (by decide)) (fun σ I => Go.Ev.restC_rel hx0 (by decide) (by decide)) (fun σ I => Go.Ev.restC_rel hx1 (by decide) (by decide))) w).mono fun e w' h => ⟨h.1, h.2⟩

/-! ### THE ROW's STEP: WRITTEN OUT: LEAVE IT -/
set_option maxRecDepth 100000 in
theorem lifted (os : Os) (started : os.Started) (H : Type) (enc : TypeId × Value → H) :
    ReturnsInHanded {} Tryz.checked os 4 .any (fun w args => (Rows.nestDepthsSpec.pre enc Tryz.prog Tryz.f4 [] false w args ∧ laidMetH Tryz.prog laidList w) ∧ sizedMet enc Tryz.prog Tryz.f4 (OpenSpec.ofChange Rows.nestDepthsSpec) false w args)
      (Rows.nestDepthsSpec.post enc Tryz.prog Tryz.f4 false true false false) := by
  refine returnsInHanded_of_change_and (C := Tryz.checked) (X := fun w _ => laidMetH Tryz.prog laidList w) (fun _ _ _ hh h => h.of_heap hh) ownKnobs started (by as_aux_lemma => kernel_rfl) Tryz.func4
    (ChangeSpec.witness_at (enc := enc) (C := Tryz.checked) (os := os) (X := fun w _ => laidMetH Tryz.prog laidList w) false (laidWorld os) #[.int .u8 0, .int .u8 0] 8 rfl (by as_aux_lemma => kernel_rfl) (by as_aux_lemma => kernel_rfl) (by as_aux_lemma => kernel_rfl) (by as_aux_lemma => kernel_rfl) (by as_aux_lemma => kernel_rfl) (laidWorld_met os _)) ?_
  intro W base args ds gs before hval0 hW _ _ hL _
  have hval : ∀ (j : Nat) t v, Tryz.f4.params[j]? = some t → args[j]? = some v → Value.okWide Tryz.prog W .any base t v := hval0
  have hW' := hW
  obtain ⟨p, q, hA0, hV, rfl, hfz, hnd⟩ := hW
  have hA : DataW.TrodAll enc Tryz.prog W 0 (fun _ => true) true Tryz.f4.params.toList args.toList ds p := hA0
  rw [Tryz.params4] at hA hval
  obtain ⟨v0, vs0, d0, ds0, p0, q0, hargs, rfl, rfl, h0, r0⟩ := trodAll_cons hA
  obtain ⟨v1, vs1, d1, ds1, p1, q1, rfl, rfl, rfl, h1, r1⟩ := trodAll_cons r0
  obtain ⟨rfl, rfl, rfl⟩ := trodAll_nil r1
  obtain rfl : args = #[v0, v1] := by cases args; simp_all
  obtain ⟨rfl, rfl⟩ := trodVars_none hV
  obtain ⟨a0, rfl, rfl, rfl, w0⟩ := open_int Tryz.underlying5 (hval 0 5 v0 rfl rfl) h0
  obtain ⟨a1, rfl, rfl, rfl, w1⟩ := open_int Tryz.underlying5 (hval 1 5 v1 rfl rfl) h1
  clear hA0 hval0
  simp only [List.append_nil] at hW'
  refine (walk a0 a1 w0 w1 W).mono fun e W' ⟨he, hg⟩ => ?_
  subst he
  exact ⟨_, rfl, _, _, _, [], _, [], hW', trodAll_mk1 (shut_bool Tryz.underlying4 _), (trodAll_cons_mk (shut_int Tryz.underlying5 w0) (trodAll_cons_mk (shut_int Tryz.underlying5 w1) trodAll_mk0)), rfl, Go.Ev.Kept.frame hg _, fun h => by cases h⟩

theorem over : Rows.nestDepthsRow.holds Tryz.pinned (OpenSpec.ofChange Rows.nestDepthsSpec) :=
  OpenClaim.holds_of_wide 4 Tryz.f4 rfl rfl rfl rfl rfl rfl rfl ⟨rfl, rfl, rfl, rfl, rfl⟩ rfl rfl rfl rfl rfl (by as_aux_lemma => kernel_rfl) Tryz.func4 closed
    (of_decide_eq_true (by as_aux_lemma => kernel_rfl)) (by unfold Func.isWrapper; first | (rw [if_pos (by decide +kernel)]; kernel_rfl) | (rw [if_neg (by decide +kernel)]; exact ⟨rfl, rfl⟩))
    (fun os started H enc _ => lifted os started H enc)

/-- The card: the row, tied to the program's text. -/
theorem proved : Rows.NestDepthsCardSaid :=
  Claim7.holds_tied_plain_at .later [] [.handle] true (true, "1e6ce98f84b5395230a13ba54d306d10c5f587fd047defce14bfd4dcfd346dbe") true
    over (fun _ h => by cases h) (by as_aux_lemma => kernel_rfl) (fun _ h => by cases h) nestDepths_row_tie rfl ⟨rfl, rfl⟩ shMain rfl
    (fun f fn hf hfn => by
      obtain rfl : f = 4 := Option.some.inj ((show Tryz.prog.funcNamed Rows.nestDepthsRow.func = some 4 by as_aux_lemma => kernel_rfl).symm.trans hf) |>.symm
      obtain rfl : fn = Tryz.f4 := (Option.some.inj (Tryz.func4.symm.trans hfn)).symm
      exact ⟨shLooks, fun j t ht => by
        rw [Tryz.params4] at ht
        have h5 : t = 5 ∨ t = 4 := by
          rcases j with _ | _ | _ | j <;> simp at ht <;> first | exact .inl ht.symm | exact .inr ht.symm
        rcases h5 with rfl | rfl
        · exact shW5
        · exact shW4⟩)
    (by as_aux_lemma => kernel_rfl)
#print axioms proved
end Go.Proofs.YtmgppcpmfmaghaaGreatDoor.nestDepths
