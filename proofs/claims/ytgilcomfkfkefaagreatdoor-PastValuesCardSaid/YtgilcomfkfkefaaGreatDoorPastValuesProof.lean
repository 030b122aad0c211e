/-
  PastValues, the tied card: for each rest of the arguments that counts the evaluator runs the program's code, and a theorem says that what it answers is what the program does.
-/
import Derived.Test.YtgilcomfkfkefaaGreatDoorRows
import Derived.Test.YtgilcomfkfkefaaGreatDoorTie
import Derived.Test.YtgilcomfkfkefaaGreatDoorCards
import Derived.Test.YtgilcomfkfkefaaGreatDoorJvSA
import Derived.Test.YtgilcomfkfkefaaGreatDoorPastValuesR0
import Derived.Test.YtgilcomfkfkefaaGreatDoorPastValuesR1
import Derived.Test.YtgilcomfkfkefaaGreatDoorPastValuesR2
import Derived.Test.YtgilcomfkfkefaaGreatDoorPastValuesR3
import Derived.Test.YtgilcomfkfkefaaGreatDoorPastValuesR4
import Derived.Test.YtgilcomfkfkefaaGreatDoorPastValuesR5
import Derived.Test.YtgilcomfkfkefaaGreatDoorPastValuesR6
import Derived.Test.YtgilcomfkfkefaaGreatDoorPastValuesR7
import Derived.Test.YtgilcomfkfkefaaGreatDoorLaid
import Derived.Test.YtgilcomfkfkefaaGreatDoorLaidB
import Derived.Test.YtgilcomfkfkefaaGreatDoorLaidG
import Derived.Test.YtgilcomfkfkefaaGreatDoorPastValuesClosed
import Derived.SevenTiedAt
import Derived.WalkKit
import Derived.ProofKit
import Derived.OpenShut
namespace Go.Proofs.YtgilcomfkfkefaaGreatDoor.pastValues
open Go.ChangeShapes Go.WideShapes Go.ChangeAt Go.RowKit
set_option linter.unusedVariables false


/-! ### The walk: the evaluator's runs, one for each rest. -/
def md : Nat → Nat
  | 0 => 2
  | 1 => 3
  | 2 => 4
  | 3 => 5
  | 4 => 6
  | _ => 7
theorem md_pos (r : Nat) : 0 < md r := by unfold md; split <;> decide
theorem md_lt (r : Nat) : md r < 256 := by unfold md; split <;> decide
theorem runs_0_0 (r2 : Nat) (h2 : r2 < 2) : Go.Ev.isTr (Go.Ev.runTop Go.Ev.XA (.tup 127 4294967359) 5000 4 Tryz.f4 (Go.Ev.argF3 (Go.Ev.restC 0 6) (Go.Ev.restC 0 2) (Go.Ev.restC r2 2))) = true := by
  match r2, h2 with
  | 0, _ => exact (congrArg (fun F => Go.Ev.isTr (Go.Ev.runTop Go.Ev.XA (.tup 127 4294967359) 5000 4 Tryz.f4 F)) (show Go.Ev.argF3 (Go.Ev.restC 0 6) (Go.Ev.restC 0 2) (Go.Ev.restC 0 2) = 74921965207583813553496794171056598620849911928807133258127543681108453635549543108244302483550888935152994970751945158436363488389992361704292352 from by decide +kernel)).trans Go.Ev.pastValues_0_0_0
  | 1, _ => exact (congrArg (fun F => Go.Ev.isTr (Go.Ev.runTop Go.Ev.XA (.tup 127 4294967359) 5000 4 Tryz.f4 F)) (show Go.Ev.argF3 (Go.Ev.restC 0 6) (Go.Ev.restC 0 2) (Go.Ev.restC 1 2) = 74921965207583813553496794171096000627046306408019412298227687294913533374820008554912250776955134656924492181363359424691248404030798989694599168 from by decide +kernel)).trans Go.Ev.pastValues_0_0_1
  | n + 2, h => exact absurd h (by omega)
theorem runs_0_1 (r2 : Nat) (h2 : r2 < 2) : Go.Ev.isTr (Go.Ev.runTop Go.Ev.XA (.tup 127 4294967359) 5000 4 Tryz.f4 (Go.Ev.argF3 (Go.Ev.restC 0 6) (Go.Ev.restC 1 2) (Go.Ev.restC r2 2))) = true := by
  match r2, h2 with
  | 0, _ => exact (congrArg (fun F => Go.Ev.isTr (Go.Ev.runTop Go.Ev.XA (.tup 127 4294967359) 5000 4 Tryz.f4 F)) (show Go.Ev.argF3 (Go.Ev.restC 0 6) (Go.Ev.restC 1 2) (Go.Ev.restC 0 2) = 74921965207583813553496794171056598620849911928807133258127543681108569427638780424439726054535897623060848240736610799000402945974000274833932288 from by decide +kernel)).trans Go.Ev.pastValues_0_1_0
  | 1, _ => exact (congrArg (fun F => Go.Ev.isTr (Go.Ev.runTop Go.Ev.XA (.tup 127 4294967359) 5000 4 Tryz.f4 F)) (show Go.Ev.argF3 (Go.Ev.restC 0 6) (Go.Ev.restC 1 2) (Go.Ev.restC 1 2) = 74921965207583813553496794171096000627046306408019412298227687294913649166909245871107674347940143344832345451348025065255287861614806902824239104 from by decide +kernel)).trans Go.Ev.pastValues_0_1_1
  | n + 2, h => exact absurd h (by omega)
theorem runs_0 (r1 : Nat) (h1 : r1 < 2) (r2 : Nat) (h2 : r2 < 2) : Go.Ev.isTr (Go.Ev.runTop Go.Ev.XA (.tup 127 4294967359) 5000 4 Tryz.f4 (Go.Ev.argF3 (Go.Ev.restC 0 6) (Go.Ev.restC r1 2) (Go.Ev.restC r2 2))) = true := by
  match r1, h1 with
  | 0, _ => exact runs_0_0 r2 h2
  | 1, _ => exact runs_0_1 r2 h2
  | n + 2, h => exact absurd h (by omega)
theorem runs_1_0 (r2 : Nat) (h2 : r2 < 3) : Go.Ev.isTr (Go.Ev.runTop Go.Ev.XA (.tup 127 4294967359) 5000 4 Tryz.f4 (Go.Ev.argF3 (Go.Ev.restC 1 6) (Go.Ev.restC 0 3) (Go.Ev.restC r2 3))) = true := by
  match r2, h2 with
  | 0, _ => exact (congrArg (fun F => Go.Ev.isTr (Go.Ev.runTop Go.Ev.XA (.tup 127 4294967359) 5000 4 Tryz.f4 F)) (show Go.Ev.argF3 (Go.Ev.restC 1 6) (Go.Ev.restC 0 3) (Go.Ev.restC 0 3) = 74921965207583813553666024499066902262181602247663522644324112603183719414328568582082697186947485095835041096624319656272703461540018306573926400 from by decide +kernel)).trans Go.Ev.pastValues_1_0_0
  | 1, _ => exact (congrArg (fun F => Go.Ev.isTr (Go.Ev.runTop Go.Ev.XA (.tup 127 4294967359) 5000 4 Tryz.f4 F)) (show Go.Ev.argF3 (Go.Ev.restC 1 6) (Go.Ev.restC 0 3) (Go.Ev.restC 1 3) = 74921965207583813553666024499106304268377996726875801684424256216988799153599034028750645480351730817606538307235733922527588377180824934564233216 from by decide +kernel)).trans Go.Ev.pastValues_1_0_1
  | 2, _ => exact (congrArg (fun F => Go.Ev.isTr (Go.Ev.runTop Go.Ev.XA (.tup 127 4294967359) 5000 4 Tryz.f4 F)) (show Go.Ev.argF3 (Go.Ev.restC 1 6) (Go.Ev.restC 0 3) (Go.Ev.restC 2 3) = 74921965207583813553666024499145706274574391206088080724524399830793878892869499475418593773755976539378035517847148188782473292821631562554540032 from by decide +kernel)).trans Go.Ev.pastValues_1_0_2
  | n + 3, h => exact absurd h (by omega)
theorem runs_1_1 (r2 : Nat) (h2 : r2 < 3) : Go.Ev.isTr (Go.Ev.runTop Go.Ev.XA (.tup 127 4294967359) 5000 4 Tryz.f4 (Go.Ev.argF3 (Go.Ev.restC 1 6) (Go.Ev.restC 1 3) (Go.Ev.restC r2 3))) = true := by
  match r2, h2 with
  | 0, _ => exact (congrArg (fun F => Go.Ev.isTr (Go.Ev.runTop Go.Ev.XA (.tup 127 4294967359) 5000 4 Tryz.f4 F)) (show Go.Ev.argF3 (Go.Ev.restC 1 6) (Go.Ev.restC 1 3) (Go.Ev.restC 0 3) = 74921965207583813553666024499066902262181602247663522644324112603183835206417805898278120757932493783742894366608985296836742919124026219703566336 from by decide +kernel)).trans Go.Ev.pastValues_1_1_0
  | 1, _ => exact (congrArg (fun F => Go.Ev.isTr (Go.Ev.runTop Go.Ev.XA (.tup 127 4294967359) 5000 4 Tryz.f4 F)) (show Go.Ev.argF3 (Go.Ev.restC 1 6) (Go.Ev.restC 1 3) (Go.Ev.restC 1 3) = 74921965207583813553666024499106304268377996726875801684424256216988914945688271344946069051336739505514391577220399563091627834764832847693873152 from by decide +kernel)).trans Go.Ev.pastValues_1_1_1
  | 2, _ => exact (congrArg (fun F => Go.Ev.isTr (Go.Ev.runTop Go.Ev.XA (.tup 127 4294967359) 5000 4 Tryz.f4 F)) (show Go.Ev.argF3 (Go.Ev.restC 1 6) (Go.Ev.restC 1 3) (Go.Ev.restC 2 3) = 74921965207583813553666024499145706274574391206088080724524399830793994684958736791614017344740985227285888787831813829346512750405639475684179968 from by decide +kernel)).trans Go.Ev.pastValues_1_1_2
  | n + 3, h => exact absurd h (by omega)
theorem runs_1_2 (r2 : Nat) (h2 : r2 < 3) : Go.Ev.isTr (Go.Ev.runTop Go.Ev.XA (.tup 127 4294967359) 5000 4 Tryz.f4 (Go.Ev.argF3 (Go.Ev.restC 1 6) (Go.Ev.restC 2 3) (Go.Ev.restC r2 3))) = true := by
  match r2, h2 with
  | 0, _ => exact (congrArg (fun F => Go.Ev.isTr (Go.Ev.runTop Go.Ev.XA (.tup 127 4294967359) 5000 4 Tryz.f4 F)) (show Go.Ev.argF3 (Go.Ev.restC 1 6) (Go.Ev.restC 2 3) (Go.Ev.restC 0 3) = 74921965207583813553666024499066902262181602247663522644324112603183950998507043214473544328917502471650747636593650937400782376708034132833206272 from by decide +kernel)).trans Go.Ev.pastValues_1_2_0
  | 1, _ => exact (congrArg (fun F => Go.Ev.isTr (Go.Ev.runTop Go.Ev.XA (.tup 127 4294967359) 5000 4 Tryz.f4 F)) (show Go.Ev.argF3 (Go.Ev.restC 1 6) (Go.Ev.restC 2 3) (Go.Ev.restC 1 3) = 74921965207583813553666024499106304268377996726875801684424256216989030737777508661141492622321748193422244847205065203655667292348840760823513088 from by decide +kernel)).trans Go.Ev.pastValues_1_2_1
  | 2, _ => exact (congrArg (fun F => Go.Ev.isTr (Go.Ev.runTop Go.Ev.XA (.tup 127 4294967359) 5000 4 Tryz.f4 F)) (show Go.Ev.argF3 (Go.Ev.restC 1 6) (Go.Ev.restC 2 3) (Go.Ev.restC 2 3) = 74921965207583813553666024499145706274574391206088080724524399830794110477047974107809440915725993915193742057816479469910552207989647388813819904 from by decide +kernel)).trans Go.Ev.pastValues_1_2_2
  | n + 3, h => exact absurd h (by omega)
theorem runs_1 (r1 : Nat) (h1 : r1 < 3) (r2 : Nat) (h2 : r2 < 3) : Go.Ev.isTr (Go.Ev.runTop Go.Ev.XA (.tup 127 4294967359) 5000 4 Tryz.f4 (Go.Ev.argF3 (Go.Ev.restC 1 6) (Go.Ev.restC r1 3) (Go.Ev.restC r2 3))) = true := by
  match r1, h1 with
  | 0, _ => exact runs_1_0 r2 h2
  | 1, _ => exact runs_1_1 r2 h2
  | 2, _ => exact runs_1_2 r2 h2
  | n + 3, h => exact absurd h (by omega)
theorem runs_2_0 (r2 : Nat) (h2 : r2 < 4) : Go.Ev.isTr (Go.Ev.runTop Go.Ev.XA (.tup 127 4294967359) 5000 4 Tryz.f4 (Go.Ev.argF3 (Go.Ev.restC 2 6) (Go.Ev.restC 0 4) (Go.Ev.restC r2 4))) = true := by
  match r2, h2 with
  | 0, _ => exact (congrArg (fun F => Go.Ev.isTr (Go.Ev.runTop Go.Ev.XA (.tup 127 4294967359) 5000 4 Tryz.f4 F)) (show Go.Ev.argF3 (Go.Ev.restC 2 6) (Go.Ev.restC 0 4) (Go.Ev.restC 0 4) = 74921965207583813553835254827077205903513292566519912030520681525258985193107594055921091890344081256517087222496694154109043434690044251443560448 from by decide +kernel)).trans Go.Ev.pastValues_2_0_0
  | 1, _ => exact (congrArg (fun F => Go.Ev.isTr (Go.Ev.runTop Go.Ev.XA (.tup 127 4294967359) 5000 4 Tryz.f4 F)) (show Go.Ev.argF3 (Go.Ev.restC 2 6) (Go.Ev.restC 0 4) (Go.Ev.restC 1 4) = 74921965207583813553835254827116607909709687045732191070620825139064064932378059502589040183748326978288584433108108420363928350330850879433867264 from by decide +kernel)).trans Go.Ev.pastValues_2_0_1
  | 2, _ => exact (congrArg (fun F => Go.Ev.isTr (Go.Ev.runTop Go.Ev.XA (.tup 127 4294967359) 5000 4 Tryz.f4 F)) (show Go.Ev.argF3 (Go.Ev.restC 2 6) (Go.Ev.restC 0 4) (Go.Ev.restC 2 4) = 74921965207583813553835254827156009915906081524944470110720968752869144671648524949256988477152572700060081643719522686618813265971657507424174080 from by decide +kernel)).trans Go.Ev.pastValues_2_0_2
  | 3, _ => exact (congrArg (fun F => Go.Ev.isTr (Go.Ev.runTop Go.Ev.XA (.tup 127 4294967359) 5000 4 Tryz.f4 F)) (show Go.Ev.argF3 (Go.Ev.restC 2 6) (Go.Ev.restC 0 4) (Go.Ev.restC 3 4) = 74921965207583813553835254827195411922102476004156749150821112366674224410918990395924936770556818421831578854330936952873698181612464135414480896 from by decide +kernel)).trans Go.Ev.pastValues_2_0_3
  | n + 4, h => exact absurd h (by omega)
theorem runs_2_1 (r2 : Nat) (h2 : r2 < 4) : Go.Ev.isTr (Go.Ev.runTop Go.Ev.XA (.tup 127 4294967359) 5000 4 Tryz.f4 (Go.Ev.argF3 (Go.Ev.restC 2 6) (Go.Ev.restC 1 4) (Go.Ev.restC r2 4))) = true := by
  match r2, h2 with
  | 0, _ => exact (congrArg (fun F => Go.Ev.isTr (Go.Ev.runTop Go.Ev.XA (.tup 127 4294967359) 5000 4 Tryz.f4 F)) (show Go.Ev.argF3 (Go.Ev.restC 2 6) (Go.Ev.restC 1 4) (Go.Ev.restC 0 4) = 74921965207583813553835254827077205903513292566519912030520681525259100985196831372116515461329089944424940492481359794673082892274052164573200384 from by decide +kernel)).trans Go.Ev.pastValues_2_1_0
  | 1, _ => exact (congrArg (fun F => Go.Ev.isTr (Go.Ev.runTop Go.Ev.XA (.tup 127 4294967359) 5000 4 Tryz.f4 F)) (show Go.Ev.argF3 (Go.Ev.restC 2 6) (Go.Ev.restC 1 4) (Go.Ev.restC 1 4) = 74921965207583813553835254827116607909709687045732191070620825139064180724467296818784463754733335666196437703092774060927967807914858792563507200 from by decide +kernel)).trans Go.Ev.pastValues_2_1_1
  | 2, _ => exact (congrArg (fun F => Go.Ev.isTr (Go.Ev.runTop Go.Ev.XA (.tup 127 4294967359) 5000 4 Tryz.f4 F)) (show Go.Ev.argF3 (Go.Ev.restC 2 6) (Go.Ev.restC 1 4) (Go.Ev.restC 2 4) = 74921965207583813553835254827156009915906081524944470110720968752869260463737762265452412048137581387967934913704188327182852723555665420553814016 from by decide +kernel)).trans Go.Ev.pastValues_2_1_2
  | 3, _ => exact (congrArg (fun F => Go.Ev.isTr (Go.Ev.runTop Go.Ev.XA (.tup 127 4294967359) 5000 4 Tryz.f4 F)) (show Go.Ev.argF3 (Go.Ev.restC 2 6) (Go.Ev.restC 1 4) (Go.Ev.restC 3 4) = 74921965207583813553835254827195411922102476004156749150821112366674340203008227712120360341541827109739432124315602593437737639196472048544120832 from by decide +kernel)).trans Go.Ev.pastValues_2_1_3
  | n + 4, h => exact absurd h (by omega)
theorem runs_2_2 (r2 : Nat) (h2 : r2 < 4) : Go.Ev.isTr (Go.Ev.runTop Go.Ev.XA (.tup 127 4294967359) 5000 4 Tryz.f4 (Go.Ev.argF3 (Go.Ev.restC 2 6) (Go.Ev.restC 2 4) (Go.Ev.restC r2 4))) = true := by
  match r2, h2 with
  | 0, _ => exact (congrArg (fun F => Go.Ev.isTr (Go.Ev.runTop Go.Ev.XA (.tup 127 4294967359) 5000 4 Tryz.f4 F)) (show Go.Ev.argF3 (Go.Ev.restC 2 6) (Go.Ev.restC 2 4) (Go.Ev.restC 0 4) = 74921965207583813553835254827077205903513292566519912030520681525259216777286068688311939032314098632332793762466025435237122349858060077702840320 from by decide +kernel)).trans Go.Ev.pastValues_2_2_0
  | 1, _ => exact (congrArg (fun F => Go.Ev.isTr (Go.Ev.runTop Go.Ev.XA (.tup 127 4294967359) 5000 4 Tryz.f4 F)) (show Go.Ev.argF3 (Go.Ev.restC 2 6) (Go.Ev.restC 2 4) (Go.Ev.restC 1 4) = 74921965207583813553835254827116607909709687045732191070620825139064296516556534134979887325718344354104290973077439701492007265498866705693147136 from by decide +kernel)).trans Go.Ev.pastValues_2_2_1
  | 2, _ => exact (congrArg (fun F => Go.Ev.isTr (Go.Ev.runTop Go.Ev.XA (.tup 127 4294967359) 5000 4 Tryz.f4 F)) (show Go.Ev.argF3 (Go.Ev.restC 2 6) (Go.Ev.restC 2 4) (Go.Ev.restC 2 4) = 74921965207583813553835254827156009915906081524944470110720968752869376255826999581647835619122590075875788183688853967746892181139673333683453952 from by decide +kernel)).trans Go.Ev.pastValues_2_2_2
  | 3, _ => exact (congrArg (fun F => Go.Ev.isTr (Go.Ev.runTop Go.Ev.XA (.tup 127 4294967359) 5000 4 Tryz.f4 F)) (show Go.Ev.argF3 (Go.Ev.restC 2 6) (Go.Ev.restC 2 4) (Go.Ev.restC 3 4) = 74921965207583813553835254827195411922102476004156749150821112366674455995097465028315783912526835797647285394300268234001777096780479961673760768 from by decide +kernel)).trans Go.Ev.pastValues_2_2_3
  | n + 4, h => exact absurd h (by omega)
theorem runs_2_3 (r2 : Nat) (h2 : r2 < 4) : Go.Ev.isTr (Go.Ev.runTop Go.Ev.XA (.tup 127 4294967359) 5000 4 Tryz.f4 (Go.Ev.argF3 (Go.Ev.restC 2 6) (Go.Ev.restC 3 4) (Go.Ev.restC r2 4))) = true := by
  match r2, h2 with
  | 0, _ => exact (congrArg (fun F => Go.Ev.isTr (Go.Ev.runTop Go.Ev.XA (.tup 127 4294967359) 5000 4 Tryz.f4 F)) (show Go.Ev.argF3 (Go.Ev.restC 2 6) (Go.Ev.restC 3 4) (Go.Ev.restC 0 4) = 74921965207583813553835254827077205903513292566519912030520681525259332569375306004507362603299107320240647032450691075801161807442067990832480256 from by decide +kernel)).trans Go.Ev.pastValues_2_3_0
  | 1, _ => exact (congrArg (fun F => Go.Ev.isTr (Go.Ev.runTop Go.Ev.XA (.tup 127 4294967359) 5000 4 Tryz.f4 F)) (show Go.Ev.argF3 (Go.Ev.restC 2 6) (Go.Ev.restC 3 4) (Go.Ev.restC 1 4) = 74921965207583813553835254827116607909709687045732191070620825139064412308645771451175310896703353042012144243062105342056046723082874618822787072 from by decide +kernel)).trans Go.Ev.pastValues_2_3_1
  | 2, _ => exact (congrArg (fun F => Go.Ev.isTr (Go.Ev.runTop Go.Ev.XA (.tup 127 4294967359) 5000 4 Tryz.f4 F)) (show Go.Ev.argF3 (Go.Ev.restC 2 6) (Go.Ev.restC 3 4) (Go.Ev.restC 2 4) = 74921965207583813553835254827156009915906081524944470110720968752869492047916236897843259190107598763783641453673519608310931638723681246813093888 from by decide +kernel)).trans Go.Ev.pastValues_2_3_2
  | 3, _ => exact (congrArg (fun F => Go.Ev.isTr (Go.Ev.runTop Go.Ev.XA (.tup 127 4294967359) 5000 4 Tryz.f4 F)) (show Go.Ev.argF3 (Go.Ev.restC 2 6) (Go.Ev.restC 3 4) (Go.Ev.restC 3 4) = 74921965207583813553835254827195411922102476004156749150821112366674571787186702344511207483511844485555138664284933874565816554364487874803400704 from by decide +kernel)).trans Go.Ev.pastValues_2_3_3
  | n + 4, h => exact absurd h (by omega)
theorem runs_2 (r1 : Nat) (h1 : r1 < 4) (r2 : Nat) (h2 : r2 < 4) : Go.Ev.isTr (Go.Ev.runTop Go.Ev.XA (.tup 127 4294967359) 5000 4 Tryz.f4 (Go.Ev.argF3 (Go.Ev.restC 2 6) (Go.Ev.restC r1 4) (Go.Ev.restC r2 4))) = true := by
  match r1, h1 with
  | 0, _ => exact runs_2_0 r2 h2
  | 1, _ => exact runs_2_1 r2 h2
  | 2, _ => exact runs_2_2 r2 h2
  | 3, _ => exact runs_2_3 r2 h2
  | n + 4, h => exact absurd h (by omega)
theorem runs_3_0 (r2 : Nat) (h2 : r2 < 5) : Go.Ev.isTr (Go.Ev.runTop Go.Ev.XA (.tup 127 4294967359) 5000 4 Tryz.f4 (Go.Ev.argF3 (Go.Ev.restC 3 6) (Go.Ev.restC 0 5) (Go.Ev.restC r2 5))) = true := by
  match r2, h2 with
  | 0, _ => exact (congrArg (fun F => Go.Ev.isTr (Go.Ev.runTop Go.Ev.XA (.tup 127 4294967359) 5000 4 Tryz.f4 F)) (show Go.Ev.argF3 (Go.Ev.restC 3 6) (Go.Ev.restC 0 5) (Go.Ev.restC 0 5) = 74921965207583813554004485155087509544844982885376301416717250447334250971886619529759486593740677417199133348369068651945383407840070196313194496 from by decide +kernel)).trans Go.Ev.pastValues_3_0_0
  | 1, _ => exact (congrArg (fun F => Go.Ev.isTr (Go.Ev.runTop Go.Ev.XA (.tup 127 4294967359) 5000 4 Tryz.f4 F)) (show Go.Ev.argF3 (Go.Ev.restC 3 6) (Go.Ev.restC 0 5) (Go.Ev.restC 1 5) = 74921965207583813554004485155126911551041377364588580456817394061139330711157084976427434887144923138970630558980482918200268323480876824303501312 from by decide +kernel)).trans Go.Ev.pastValues_3_0_1
  | 2, _ => exact (congrArg (fun F => Go.Ev.isTr (Go.Ev.runTop Go.Ev.XA (.tup 127 4294967359) 5000 4 Tryz.f4 F)) (show Go.Ev.argF3 (Go.Ev.restC 3 6) (Go.Ev.restC 0 5) (Go.Ev.restC 2 5) = 74921965207583813554004485155166313557237771843800859496917537674944410450427550423095383180549168860742127769591897184455153239121683452293808128 from by decide +kernel)).trans Go.Ev.pastValues_3_0_2
  | 3, _ => exact (congrArg (fun F => Go.Ev.isTr (Go.Ev.runTop Go.Ev.XA (.tup 127 4294967359) 5000 4 Tryz.f4 F)) (show Go.Ev.argF3 (Go.Ev.restC 3 6) (Go.Ev.restC 0 5) (Go.Ev.restC 3 5) = 74921965207583813554004485155205715563434166323013138537017681288749490189698015869763331473953414582513624980203311450710038154762490080284114944 from by decide +kernel)).trans Go.Ev.pastValues_3_0_3
  | 4, _ => exact (congrArg (fun F => Go.Ev.isTr (Go.Ev.runTop Go.Ev.XA (.tup 127 4294967359) 5000 4 Tryz.f4 F)) (show Go.Ev.argF3 (Go.Ev.restC 3 6) (Go.Ev.restC 0 5) (Go.Ev.restC 4 5) = 74921965207583813554004485155245117569630560802225417577117824902554569928968481316431279767357660304285122190814725716964923070403296708274421760 from by decide +kernel)).trans Go.Ev.pastValues_3_0_4
  | n + 5, h => exact absurd h (by omega)
theorem runs_3_1 (r2 : Nat) (h2 : r2 < 5) : Go.Ev.isTr (Go.Ev.runTop Go.Ev.XA (.tup 127 4294967359) 5000 4 Tryz.f4 (Go.Ev.argF3 (Go.Ev.restC 3 6) (Go.Ev.restC 1 5) (Go.Ev.restC r2 5))) = true := by
  match r2, h2 with
  | 0, _ => exact (congrArg (fun F => Go.Ev.isTr (Go.Ev.runTop Go.Ev.XA (.tup 127 4294967359) 5000 4 Tryz.f4 F)) (show Go.Ev.argF3 (Go.Ev.restC 3 6) (Go.Ev.restC 1 5) (Go.Ev.restC 0 5) = 74921965207583813554004485155087509544844982885376301416717250447334366763975856845954910164725686105106986618353734292509422865424078109442834432 from by decide +kernel)).trans Go.Ev.pastValues_3_1_0
  | 1, _ => exact (congrArg (fun F => Go.Ev.isTr (Go.Ev.runTop Go.Ev.XA (.tup 127 4294967359) 5000 4 Tryz.f4 F)) (show Go.Ev.argF3 (Go.Ev.restC 3 6) (Go.Ev.restC 1 5) (Go.Ev.restC 1 5) = 74921965207583813554004485155126911551041377364588580456817394061139446503246322292622858458129931826878483828965148558764307781064884737433141248 from by decide +kernel)).trans Go.Ev.pastValues_3_1_1
  | 2, _ => exact (congrArg (fun F => Go.Ev.isTr (Go.Ev.runTop Go.Ev.XA (.tup 127 4294967359) 5000 4 Tryz.f4 F)) (show Go.Ev.argF3 (Go.Ev.restC 3 6) (Go.Ev.restC 1 5) (Go.Ev.restC 2 5) = 74921965207583813554004485155166313557237771843800859496917537674944526242516787739290806751534177548649981039576562825019192696705691365423448064 from by decide +kernel)).trans Go.Ev.pastValues_3_1_2
  | 3, _ => exact (congrArg (fun F => Go.Ev.isTr (Go.Ev.runTop Go.Ev.XA (.tup 127 4294967359) 5000 4 Tryz.f4 F)) (show Go.Ev.argF3 (Go.Ev.restC 3 6) (Go.Ev.restC 1 5) (Go.Ev.restC 3 5) = 74921965207583813554004485155205715563434166323013138537017681288749605981787253185958755044938423270421478250187977091274077612346497993413754880 from by decide +kernel)).trans Go.Ev.pastValues_3_1_3
  | 4, _ => exact (congrArg (fun F => Go.Ev.isTr (Go.Ev.runTop Go.Ev.XA (.tup 127 4294967359) 5000 4 Tryz.f4 F)) (show Go.Ev.argF3 (Go.Ev.restC 3 6) (Go.Ev.restC 1 5) (Go.Ev.restC 4 5) = 74921965207583813554004485155245117569630560802225417577117824902554685721057718632626703338342668992192975460799391357528962527987304621404061696 from by decide +kernel)).trans Go.Ev.pastValues_3_1_4
  | n + 5, h => exact absurd h (by omega)
theorem runs_3_2 (r2 : Nat) (h2 : r2 < 5) : Go.Ev.isTr (Go.Ev.runTop Go.Ev.XA (.tup 127 4294967359) 5000 4 Tryz.f4 (Go.Ev.argF3 (Go.Ev.restC 3 6) (Go.Ev.restC 2 5) (Go.Ev.restC r2 5))) = true := by
  match r2, h2 with
  | 0, _ => exact (congrArg (fun F => Go.Ev.isTr (Go.Ev.runTop Go.Ev.XA (.tup 127 4294967359) 5000 4 Tryz.f4 F)) (show Go.Ev.argF3 (Go.Ev.restC 3 6) (Go.Ev.restC 2 5) (Go.Ev.restC 0 5) = 74921965207583813554004485155087509544844982885376301416717250447334482556065094162150333735710694793014839888338399933073462323008086022572474368 from by decide +kernel)).trans Go.Ev.pastValues_3_2_0
  | 1, _ => exact (congrArg (fun F => Go.Ev.isTr (Go.Ev.runTop Go.Ev.XA (.tup 127 4294967359) 5000 4 Tryz.f4 F)) (show Go.Ev.argF3 (Go.Ev.restC 3 6) (Go.Ev.restC 2 5) (Go.Ev.restC 1 5) = 74921965207583813554004485155126911551041377364588580456817394061139562295335559608818282029114940514786337098949814199328347238648892650562781184 from by decide +kernel)).trans Go.Ev.pastValues_3_2_1
  | 2, _ => exact (congrArg (fun F => Go.Ev.isTr (Go.Ev.runTop Go.Ev.XA (.tup 127 4294967359) 5000 4 Tryz.f4 F)) (show Go.Ev.argF3 (Go.Ev.restC 3 6) (Go.Ev.restC 2 5) (Go.Ev.restC 2 5) = 74921965207583813554004485155166313557237771843800859496917537674944642034606025055486230322519186236557834309561228465583232154289699278553088000 from by decide +kernel)).trans Go.Ev.pastValues_3_2_2
  | 3, _ => exact (congrArg (fun F => Go.Ev.isTr (Go.Ev.runTop Go.Ev.XA (.tup 127 4294967359) 5000 4 Tryz.f4 F)) (show Go.Ev.argF3 (Go.Ev.restC 3 6) (Go.Ev.restC 2 5) (Go.Ev.restC 3 5) = 74921965207583813554004485155205715563434166323013138537017681288749721773876490502154178615923431958329331520172642731838117069930505906543394816 from by decide +kernel)).trans Go.Ev.pastValues_3_2_3
  | 4, _ => exact (congrArg (fun F => Go.Ev.isTr (Go.Ev.runTop Go.Ev.XA (.tup 127 4294967359) 5000 4 Tryz.f4 F)) (show Go.Ev.argF3 (Go.Ev.restC 3 6) (Go.Ev.restC 2 5) (Go.Ev.restC 4 5) = 74921965207583813554004485155245117569630560802225417577117824902554801513146955948822126909327677680100828730784056998093001985571312534533701632 from by decide +kernel)).trans Go.Ev.pastValues_3_2_4
  | n + 5, h => exact absurd h (by omega)
theorem runs_3_3 (r2 : Nat) (h2 : r2 < 5) : Go.Ev.isTr (Go.Ev.runTop Go.Ev.XA (.tup 127 4294967359) 5000 4 Tryz.f4 (Go.Ev.argF3 (Go.Ev.restC 3 6) (Go.Ev.restC 3 5) (Go.Ev.restC r2 5))) = true := by
  match r2, h2 with
  | 0, _ => exact (congrArg (fun F => Go.Ev.isTr (Go.Ev.runTop Go.Ev.XA (.tup 127 4294967359) 5000 4 Tryz.f4 F)) (show Go.Ev.argF3 (Go.Ev.restC 3 6) (Go.Ev.restC 3 5) (Go.Ev.restC 0 5) = 74921965207583813554004485155087509544844982885376301416717250447334598348154331478345757306695703480922693158323065573637501780592093935702114304 from by decide +kernel)).trans Go.Ev.pastValues_3_3_0
  | 1, _ => exact (congrArg (fun F => Go.Ev.isTr (Go.Ev.runTop Go.Ev.XA (.tup 127 4294967359) 5000 4 Tryz.f4 F)) (show Go.Ev.argF3 (Go.Ev.restC 3 6) (Go.Ev.restC 3 5) (Go.Ev.restC 1 5) = 74921965207583813554004485155126911551041377364588580456817394061139678087424796925013705600099949202694190368934479839892386696232900563692421120 from by decide +kernel)).trans Go.Ev.pastValues_3_3_1
  | 2, _ => exact (congrArg (fun F => Go.Ev.isTr (Go.Ev.runTop Go.Ev.XA (.tup 127 4294967359) 5000 4 Tryz.f4 F)) (show Go.Ev.argF3 (Go.Ev.restC 3 6) (Go.Ev.restC 3 5) (Go.Ev.restC 2 5) = 74921965207583813554004485155166313557237771843800859496917537674944757826695262371681653893504194924465687579545894106147271611873707191682727936 from by decide +kernel)).trans Go.Ev.pastValues_3_3_2
  | 3, _ => exact (congrArg (fun F => Go.Ev.isTr (Go.Ev.runTop Go.Ev.XA (.tup 127 4294967359) 5000 4 Tryz.f4 F)) (show Go.Ev.argF3 (Go.Ev.restC 3 6) (Go.Ev.restC 3 5) (Go.Ev.restC 3 5) = 74921965207583813554004485155205715563434166323013138537017681288749837565965727818349602186908440646237184790157308372402156527514513819673034752 from by decide +kernel)).trans Go.Ev.pastValues_3_3_3
  | 4, _ => exact (congrArg (fun F => Go.Ev.isTr (Go.Ev.runTop Go.Ev.XA (.tup 127 4294967359) 5000 4 Tryz.f4 F)) (show Go.Ev.argF3 (Go.Ev.restC 3 6) (Go.Ev.restC 3 5) (Go.Ev.restC 4 5) = 74921965207583813554004485155245117569630560802225417577117824902554917305236193265017550480312686368008682000768722638657041443155320447663341568 from by decide +kernel)).trans Go.Ev.pastValues_3_3_4
  | n + 5, h => exact absurd h (by omega)
theorem runs_3_4 (r2 : Nat) (h2 : r2 < 5) : Go.Ev.isTr (Go.Ev.runTop Go.Ev.XA (.tup 127 4294967359) 5000 4 Tryz.f4 (Go.Ev.argF3 (Go.Ev.restC 3 6) (Go.Ev.restC 4 5) (Go.Ev.restC r2 5))) = true := by
  match r2, h2 with
  | 0, _ => exact (congrArg (fun F => Go.Ev.isTr (Go.Ev.runTop Go.Ev.XA (.tup 127 4294967359) 5000 4 Tryz.f4 F)) (show Go.Ev.argF3 (Go.Ev.restC 3 6) (Go.Ev.restC 4 5) (Go.Ev.restC 0 5) = 74921965207583813554004485155087509544844982885376301416717250447334714140243568794541180877680712168830546428307731214201541238176101848831754240 from by decide +kernel)).trans Go.Ev.pastValues_3_4_0
  | 1, _ => exact (congrArg (fun F => Go.Ev.isTr (Go.Ev.runTop Go.Ev.XA (.tup 127 4294967359) 5000 4 Tryz.f4 F)) (show Go.Ev.argF3 (Go.Ev.restC 3 6) (Go.Ev.restC 4 5) (Go.Ev.restC 1 5) = 74921965207583813554004485155126911551041377364588580456817394061139793879514034241209129171084957890602043638919145480456426153816908476822061056 from by decide +kernel)).trans Go.Ev.pastValues_3_4_1
  | 2, _ => exact (congrArg (fun F => Go.Ev.isTr (Go.Ev.runTop Go.Ev.XA (.tup 127 4294967359) 5000 4 Tryz.f4 F)) (show Go.Ev.argF3 (Go.Ev.restC 3 6) (Go.Ev.restC 4 5) (Go.Ev.restC 2 5) = 74921965207583813554004485155166313557237771843800859496917537674944873618784499687877077464489203612373540849530559746711311069457715104812367872 from by decide +kernel)).trans Go.Ev.pastValues_3_4_2
  | 3, _ => exact (congrArg (fun F => Go.Ev.isTr (Go.Ev.runTop Go.Ev.XA (.tup 127 4294967359) 5000 4 Tryz.f4 F)) (show Go.Ev.argF3 (Go.Ev.restC 3 6) (Go.Ev.restC 4 5) (Go.Ev.restC 3 5) = 74921965207583813554004485155205715563434166323013138537017681288749953358054965134545025757893449334145038060141974012966195985098521732802674688 from by decide +kernel)).trans Go.Ev.pastValues_3_4_3
  | 4, _ => exact (congrArg (fun F => Go.Ev.isTr (Go.Ev.runTop Go.Ev.XA (.tup 127 4294967359) 5000 4 Tryz.f4 F)) (show Go.Ev.argF3 (Go.Ev.restC 3 6) (Go.Ev.restC 4 5) (Go.Ev.restC 4 5) = 74921965207583813554004485155245117569630560802225417577117824902555033097325430581212974051297695055916535270753388279221080900739328360792981504 from by decide +kernel)).trans Go.Ev.pastValues_3_4_4
  | n + 5, h => exact absurd h (by omega)
theorem runs_3 (r1 : Nat) (h1 : r1 < 5) (r2 : Nat) (h2 : r2 < 5) : Go.Ev.isTr (Go.Ev.runTop Go.Ev.XA (.tup 127 4294967359) 5000 4 Tryz.f4 (Go.Ev.argF3 (Go.Ev.restC 3 6) (Go.Ev.restC r1 5) (Go.Ev.restC r2 5))) = true := by
  match r1, h1 with
  | 0, _ => exact runs_3_0 r2 h2
  | 1, _ => exact runs_3_1 r2 h2
  | 2, _ => exact runs_3_2 r2 h2
  | 3, _ => exact runs_3_3 r2 h2
  | 4, _ => exact runs_3_4 r2 h2
  | n + 5, h => exact absurd h (by omega)
theorem runs_4_0 (r2 : Nat) (h2 : r2 < 6) : Go.Ev.isTr (Go.Ev.runTop Go.Ev.XA (.tup 127 4294967359) 5000 4 Tryz.f4 (Go.Ev.argF3 (Go.Ev.restC 4 6) (Go.Ev.restC 0 6) (Go.Ev.restC r2 6))) = true := by
  match r2, h2 with
  | 0, _ => exact (congrArg (fun F => Go.Ev.isTr (Go.Ev.runTop Go.Ev.XA (.tup 127 4294967359) 5000 4 Tryz.f4 F)) (show Go.Ev.argF3 (Go.Ev.restC 4 6) (Go.Ev.restC 0 6) (Go.Ev.restC 0 6) = 74921965207583813554173715483097813186176673204232690802913819369409516750665645003597881297137273577881179474241443149781723380990096141182828544 from by decide +kernel)).trans Go.Ev.pastValues_4_0_0
  | 1, _ => exact (congrArg (fun F => Go.Ev.isTr (Go.Ev.runTop Go.Ev.XA (.tup 127 4294967359) 5000 4 Tryz.f4 F)) (show Go.Ev.argF3 (Go.Ev.restC 4 6) (Go.Ev.restC 0 6) (Go.Ev.restC 1 6) = 74921965207583813554173715483137215192373067683444969843013962983214596489936110450265829590541519299652676684852857416036608296630902769173135360 from by decide +kernel)).trans Go.Ev.pastValues_4_0_1
  | 2, _ => exact (congrArg (fun F => Go.Ev.isTr (Go.Ev.runTop Go.Ev.XA (.tup 127 4294967359) 5000 4 Tryz.f4 F)) (show Go.Ev.argF3 (Go.Ev.restC 4 6) (Go.Ev.restC 0 6) (Go.Ev.restC 2 6) = 74921965207583813554173715483176617198569462162657248883114106597019676229206575896933777883945765021424173895464271682291493212271709397163442176 from by decide +kernel)).trans Go.Ev.pastValues_4_0_2
  | 3, _ => exact (congrArg (fun F => Go.Ev.isTr (Go.Ev.runTop Go.Ev.XA (.tup 127 4294967359) 5000 4 Tryz.f4 F)) (show Go.Ev.argF3 (Go.Ev.restC 4 6) (Go.Ev.restC 0 6) (Go.Ev.restC 3 6) = 74921965207583813554173715483216019204765856641869527923214250210824755968477041343601726177350010743195671106075685948546378127912516025153748992 from by decide +kernel)).trans Go.Ev.pastValues_4_0_3
  | 4, _ => exact (congrArg (fun F => Go.Ev.isTr (Go.Ev.runTop Go.Ev.XA (.tup 127 4294967359) 5000 4 Tryz.f4 F)) (show Go.Ev.argF3 (Go.Ev.restC 4 6) (Go.Ev.restC 0 6) (Go.Ev.restC 4 6) = 74921965207583813554173715483255421210962251121081806963314393824629835707747506790269674470754256464967168316687100214801263043553322653144055808 from by decide +kernel)).trans Go.Ev.pastValues_4_0_4
  | 5, _ => exact (congrArg (fun F => Go.Ev.isTr (Go.Ev.runTop Go.Ev.XA (.tup 127 4294967359) 5000 4 Tryz.f4 F)) (show Go.Ev.argF3 (Go.Ev.restC 4 6) (Go.Ev.restC 0 6) (Go.Ev.restC 5 6) = 74921965207583813554173715483294823217158645600294086003414537438434915447017972236937622764158502186738665527298514481056147959194129281134362624 from by decide +kernel)).trans Go.Ev.pastValues_4_0_5
  | n + 6, h => exact absurd h (by omega)
theorem runs_4_1 (r2 : Nat) (h2 : r2 < 6) : Go.Ev.isTr (Go.Ev.runTop Go.Ev.XA (.tup 127 4294967359) 5000 4 Tryz.f4 (Go.Ev.argF3 (Go.Ev.restC 4 6) (Go.Ev.restC 1 6) (Go.Ev.restC r2 6))) = true := by
  match r2, h2 with
  | 0, _ => exact (congrArg (fun F => Go.Ev.isTr (Go.Ev.runTop Go.Ev.XA (.tup 127 4294967359) 5000 4 Tryz.f4 F)) (show Go.Ev.argF3 (Go.Ev.restC 4 6) (Go.Ev.restC 1 6) (Go.Ev.restC 0 6) = 74921965207583813554173715483097813186176673204232690802913819369409632542754882319793304868122282265789032744226108790345762838574104054312468480 from by decide +kernel)).trans Go.Ev.pastValues_4_1_0
  | 1, _ => exact (congrArg (fun F => Go.Ev.isTr (Go.Ev.runTop Go.Ev.XA (.tup 127 4294967359) 5000 4 Tryz.f4 F)) (show Go.Ev.argF3 (Go.Ev.restC 4 6) (Go.Ev.restC 1 6) (Go.Ev.restC 1 6) = 74921965207583813554173715483137215192373067683444969843013962983214712282025347766461253161526527987560529954837523056600647754214910682302775296 from by decide +kernel)).trans Go.Ev.pastValues_4_1_1
  | 2, _ => exact (congrArg (fun F => Go.Ev.isTr (Go.Ev.runTop Go.Ev.XA (.tup 127 4294967359) 5000 4 Tryz.f4 F)) (show Go.Ev.argF3 (Go.Ev.restC 4 6) (Go.Ev.restC 1 6) (Go.Ev.restC 2 6) = 74921965207583813554173715483176617198569462162657248883114106597019792021295813213129201454930773709332027165448937322855532669855717310293082112 from by decide +kernel)).trans Go.Ev.pastValues_4_1_2
  | 3, _ => exact (congrArg (fun F => Go.Ev.isTr (Go.Ev.runTop Go.Ev.XA (.tup 127 4294967359) 5000 4 Tryz.f4 F)) (show Go.Ev.argF3 (Go.Ev.restC 4 6) (Go.Ev.restC 1 6) (Go.Ev.restC 3 6) = 74921965207583813554173715483216019204765856641869527923214250210824871760566278659797149748335019431103524376060351589110417585496523938283388928 from by decide +kernel)).trans Go.Ev.pastValues_4_1_3
  | 4, _ => exact (congrArg (fun F => Go.Ev.isTr (Go.Ev.runTop Go.Ev.XA (.tup 127 4294967359) 5000 4 Tryz.f4 F)) (show Go.Ev.argF3 (Go.Ev.restC 4 6) (Go.Ev.restC 1 6) (Go.Ev.restC 4 6) = 74921965207583813554173715483255421210962251121081806963314393824629951499836744106465098041739265152875021586671765855365302501137330566273695744 from by decide +kernel)).trans Go.Ev.pastValues_4_1_4
  | 5, _ => exact (congrArg (fun F => Go.Ev.isTr (Go.Ev.runTop Go.Ev.XA (.tup 127 4294967359) 5000 4 Tryz.f4 F)) (show Go.Ev.argF3 (Go.Ev.restC 4 6) (Go.Ev.restC 1 6) (Go.Ev.restC 5 6) = 74921965207583813554173715483294823217158645600294086003414537438435031239107209553133046335143510874646518797283180121620187416778137194264002560 from by decide +kernel)).trans Go.Ev.pastValues_4_1_5
  | n + 6, h => exact absurd h (by omega)
theorem runs_4_2 (r2 : Nat) (h2 : r2 < 6) : Go.Ev.isTr (Go.Ev.runTop Go.Ev.XA (.tup 127 4294967359) 5000 4 Tryz.f4 (Go.Ev.argF3 (Go.Ev.restC 4 6) (Go.Ev.restC 2 6) (Go.Ev.restC r2 6))) = true := by
  match r2, h2 with
  | 0, _ => exact (congrArg (fun F => Go.Ev.isTr (Go.Ev.runTop Go.Ev.XA (.tup 127 4294967359) 5000 4 Tryz.f4 F)) (show Go.Ev.argF3 (Go.Ev.restC 4 6) (Go.Ev.restC 2 6) (Go.Ev.restC 0 6) = 74921965207583813554173715483097813186176673204232690802913819369409748334844119635988728439107290953696886014210774430909802296158111967442108416 from by decide +kernel)).trans Go.Ev.pastValues_4_2_0
  | 1, _ => exact (congrArg (fun F => Go.Ev.isTr (Go.Ev.runTop Go.Ev.XA (.tup 127 4294967359) 5000 4 Tryz.f4 F)) (show Go.Ev.argF3 (Go.Ev.restC 4 6) (Go.Ev.restC 2 6) (Go.Ev.restC 1 6) = 74921965207583813554173715483137215192373067683444969843013962983214828074114585082656676732511536675468383224822188697164687211798918595432415232 from by decide +kernel)).trans Go.Ev.pastValues_4_2_1
  | 2, _ => exact (congrArg (fun F => Go.Ev.isTr (Go.Ev.runTop Go.Ev.XA (.tup 127 4294967359) 5000 4 Tryz.f4 F)) (show Go.Ev.argF3 (Go.Ev.restC 4 6) (Go.Ev.restC 2 6) (Go.Ev.restC 2 6) = 74921965207583813554173715483176617198569462162657248883114106597019907813385050529324625025915782397239880435433602963419572127439725223422722048 from by decide +kernel)).trans Go.Ev.pastValues_4_2_2
  | 3, _ => exact (congrArg (fun F => Go.Ev.isTr (Go.Ev.runTop Go.Ev.XA (.tup 127 4294967359) 5000 4 Tryz.f4 F)) (show Go.Ev.argF3 (Go.Ev.restC 4 6) (Go.Ev.restC 2 6) (Go.Ev.restC 3 6) = 74921965207583813554173715483216019204765856641869527923214250210824987552655515975992573319320028119011377646045017229674457043080531851413028864 from by decide +kernel)).trans Go.Ev.pastValues_4_2_3
  | 4, _ => exact (congrArg (fun F => Go.Ev.isTr (Go.Ev.runTop Go.Ev.XA (.tup 127 4294967359) 5000 4 Tryz.f4 F)) (show Go.Ev.argF3 (Go.Ev.restC 4 6) (Go.Ev.restC 2 6) (Go.Ev.restC 4 6) = 74921965207583813554173715483255421210962251121081806963314393824630067291925981422660521612724273840782874856656431495929341958721338479403335680 from by decide +kernel)).trans Go.Ev.pastValues_4_2_4
  | 5, _ => exact (congrArg (fun F => Go.Ev.isTr (Go.Ev.runTop Go.Ev.XA (.tup 127 4294967359) 5000 4 Tryz.f4 F)) (show Go.Ev.argF3 (Go.Ev.restC 4 6) (Go.Ev.restC 2 6) (Go.Ev.restC 5 6) = 74921965207583813554173715483294823217158645600294086003414537438435147031196446869328469906128519562554372067267845762184226874362145107393642496 from by decide +kernel)).trans Go.Ev.pastValues_4_2_5
  | n + 6, h => exact absurd h (by omega)
theorem runs_4_3 (r2 : Nat) (h2 : r2 < 6) : Go.Ev.isTr (Go.Ev.runTop Go.Ev.XA (.tup 127 4294967359) 5000 4 Tryz.f4 (Go.Ev.argF3 (Go.Ev.restC 4 6) (Go.Ev.restC 3 6) (Go.Ev.restC r2 6))) = true := by
  match r2, h2 with
  | 0, _ => exact (congrArg (fun F => Go.Ev.isTr (Go.Ev.runTop Go.Ev.XA (.tup 127 4294967359) 5000 4 Tryz.f4 F)) (show Go.Ev.argF3 (Go.Ev.restC 4 6) (Go.Ev.restC 3 6) (Go.Ev.restC 0 6) = 74921965207583813554173715483097813186176673204232690802913819369409864126933356952184152010092299641604739284195440071473841753742119880571748352 from by decide +kernel)).trans Go.Ev.pastValues_4_3_0
  | 1, _ => exact (congrArg (fun F => Go.Ev.isTr (Go.Ev.runTop Go.Ev.XA (.tup 127 4294967359) 5000 4 Tryz.f4 F)) (show Go.Ev.argF3 (Go.Ev.restC 4 6) (Go.Ev.restC 3 6) (Go.Ev.restC 1 6) = 74921965207583813554173715483137215192373067683444969843013962983214943866203822398852100303496545363376236494806854337728726669382926508562055168 from by decide +kernel)).trans Go.Ev.pastValues_4_3_1
  | 2, _ => exact (congrArg (fun F => Go.Ev.isTr (Go.Ev.runTop Go.Ev.XA (.tup 127 4294967359) 5000 4 Tryz.f4 F)) (show Go.Ev.argF3 (Go.Ev.restC 4 6) (Go.Ev.restC 3 6) (Go.Ev.restC 2 6) = 74921965207583813554173715483176617198569462162657248883114106597020023605474287845520048596900791085147733705418268603983611585023733136552361984 from by decide +kernel)).trans Go.Ev.pastValues_4_3_2
  | 3, _ => exact (congrArg (fun F => Go.Ev.isTr (Go.Ev.runTop Go.Ev.XA (.tup 127 4294967359) 5000 4 Tryz.f4 F)) (show Go.Ev.argF3 (Go.Ev.restC 4 6) (Go.Ev.restC 3 6) (Go.Ev.restC 3 6) = 74921965207583813554173715483216019204765856641869527923214250210825103344744753292187996890305036806919230916029682870238496500664539764542668800 from by decide +kernel)).trans Go.Ev.pastValues_4_3_3
  | 4, _ => exact (congrArg (fun F => Go.Ev.isTr (Go.Ev.runTop Go.Ev.XA (.tup 127 4294967359) 5000 4 Tryz.f4 F)) (show Go.Ev.argF3 (Go.Ev.restC 4 6) (Go.Ev.restC 3 6) (Go.Ev.restC 4 6) = 74921965207583813554173715483255421210962251121081806963314393824630183084015218738855945183709282528690728126641097136493381416305346392532975616 from by decide +kernel)).trans Go.Ev.pastValues_4_3_4
  | 5, _ => exact (congrArg (fun F => Go.Ev.isTr (Go.Ev.runTop Go.Ev.XA (.tup 127 4294967359) 5000 4 Tryz.f4 F)) (show Go.Ev.argF3 (Go.Ev.restC 4 6) (Go.Ev.restC 3 6) (Go.Ev.restC 5 6) = 74921965207583813554173715483294823217158645600294086003414537438435262823285684185523893477113528250462225337252511402748266331946153020523282432 from by decide +kernel)).trans Go.Ev.pastValues_4_3_5
  | n + 6, h => exact absurd h (by omega)
theorem runs_4_4 (r2 : Nat) (h2 : r2 < 6) : Go.Ev.isTr (Go.Ev.runTop Go.Ev.XA (.tup 127 4294967359) 5000 4 Tryz.f4 (Go.Ev.argF3 (Go.Ev.restC 4 6) (Go.Ev.restC 4 6) (Go.Ev.restC r2 6))) = true := by
  match r2, h2 with
  | 0, _ => exact (congrArg (fun F => Go.Ev.isTr (Go.Ev.runTop Go.Ev.XA (.tup 127 4294967359) 5000 4 Tryz.f4 F)) (show Go.Ev.argF3 (Go.Ev.restC 4 6) (Go.Ev.restC 4 6) (Go.Ev.restC 0 6) = 74921965207583813554173715483097813186176673204232690802913819369409979919022594268379575581077308329512592554180105712037881211326127793701388288 from by decide +kernel)).trans Go.Ev.pastValues_4_4_0
  | 1, _ => exact (congrArg (fun F => Go.Ev.isTr (Go.Ev.runTop Go.Ev.XA (.tup 127 4294967359) 5000 4 Tryz.f4 F)) (show Go.Ev.argF3 (Go.Ev.restC 4 6) (Go.Ev.restC 4 6) (Go.Ev.restC 1 6) = 74921965207583813554173715483137215192373067683444969843013962983215059658293059715047523874481554051284089764791519978292766126966934421691695104 from by decide +kernel)).trans Go.Ev.pastValues_4_4_1
  | 2, _ => exact (congrArg (fun F => Go.Ev.isTr (Go.Ev.runTop Go.Ev.XA (.tup 127 4294967359) 5000 4 Tryz.f4 F)) (show Go.Ev.argF3 (Go.Ev.restC 4 6) (Go.Ev.restC 4 6) (Go.Ev.restC 2 6) = 74921965207583813554173715483176617198569462162657248883114106597020139397563525161715472167885799773055586975402934244547651042607741049682001920 from by decide +kernel)).trans Go.Ev.pastValues_4_4_2
  | 3, _ => exact (congrArg (fun F => Go.Ev.isTr (Go.Ev.runTop Go.Ev.XA (.tup 127 4294967359) 5000 4 Tryz.f4 F)) (show Go.Ev.argF3 (Go.Ev.restC 4 6) (Go.Ev.restC 4 6) (Go.Ev.restC 3 6) = 74921965207583813554173715483216019204765856641869527923214250210825219136833990608383420461290045494827084186014348510802535958248547677672308736 from by decide +kernel)).trans Go.Ev.pastValues_4_4_3
  | 4, _ => exact (congrArg (fun F => Go.Ev.isTr (Go.Ev.runTop Go.Ev.XA (.tup 127 4294967359) 5000 4 Tryz.f4 F)) (show Go.Ev.argF3 (Go.Ev.restC 4 6) (Go.Ev.restC 4 6) (Go.Ev.restC 4 6) = 74921965207583813554173715483255421210962251121081806963314393824630298876104456055051368754694291216598581396625762777057420873889354305662615552 from by decide +kernel)).trans Go.Ev.pastValues_4_4_4
  | 5, _ => exact (congrArg (fun F => Go.Ev.isTr (Go.Ev.runTop Go.Ev.XA (.tup 127 4294967359) 5000 4 Tryz.f4 F)) (show Go.Ev.argF3 (Go.Ev.restC 4 6) (Go.Ev.restC 4 6) (Go.Ev.restC 5 6) = 74921965207583813554173715483294823217158645600294086003414537438435378615374921501719317048098536938370078607237177043312305789530160933652922368 from by decide +kernel)).trans Go.Ev.pastValues_4_4_5
  | n + 6, h => exact absurd h (by omega)
theorem runs_4_5 (r2 : Nat) (h2 : r2 < 6) : Go.Ev.isTr (Go.Ev.runTop Go.Ev.XA (.tup 127 4294967359) 5000 4 Tryz.f4 (Go.Ev.argF3 (Go.Ev.restC 4 6) (Go.Ev.restC 5 6) (Go.Ev.restC r2 6))) = true := by
  match r2, h2 with
  | 0, _ => exact (congrArg (fun F => Go.Ev.isTr (Go.Ev.runTop Go.Ev.XA (.tup 127 4294967359) 5000 4 Tryz.f4 F)) (show Go.Ev.argF3 (Go.Ev.restC 4 6) (Go.Ev.restC 5 6) (Go.Ev.restC 0 6) = 74921965207583813554173715483097813186176673204232690802913819369410095711111831584574999152062317017420445824164771352601920668910135706831028224 from by decide +kernel)).trans Go.Ev.pastValues_4_5_0
  | 1, _ => exact (congrArg (fun F => Go.Ev.isTr (Go.Ev.runTop Go.Ev.XA (.tup 127 4294967359) 5000 4 Tryz.f4 F)) (show Go.Ev.argF3 (Go.Ev.restC 4 6) (Go.Ev.restC 5 6) (Go.Ev.restC 1 6) = 74921965207583813554173715483137215192373067683444969843013962983215175450382297031242947445466562739191943034776185618856805584550942334821335040 from by decide +kernel)).trans Go.Ev.pastValues_4_5_1
  | 2, _ => exact (congrArg (fun F => Go.Ev.isTr (Go.Ev.runTop Go.Ev.XA (.tup 127 4294967359) 5000 4 Tryz.f4 F)) (show Go.Ev.argF3 (Go.Ev.restC 4 6) (Go.Ev.restC 5 6) (Go.Ev.restC 2 6) = 74921965207583813554173715483176617198569462162657248883114106597020255189652762477910895738870808460963440245387599885111690500191748962811641856 from by decide +kernel)).trans Go.Ev.pastValues_4_5_2
  | 3, _ => exact (congrArg (fun F => Go.Ev.isTr (Go.Ev.runTop Go.Ev.XA (.tup 127 4294967359) 5000 4 Tryz.f4 F)) (show Go.Ev.argF3 (Go.Ev.restC 4 6) (Go.Ev.restC 5 6) (Go.Ev.restC 3 6) = 74921965207583813554173715483216019204765856641869527923214250210825334928923227924578844032275054182734937455999014151366575415832555590801948672 from by decide +kernel)).trans Go.Ev.pastValues_4_5_3
  | 4, _ => exact (congrArg (fun F => Go.Ev.isTr (Go.Ev.runTop Go.Ev.XA (.tup 127 4294967359) 5000 4 Tryz.f4 F)) (show Go.Ev.argF3 (Go.Ev.restC 4 6) (Go.Ev.restC 5 6) (Go.Ev.restC 4 6) = 74921965207583813554173715483255421210962251121081806963314393824630414668193693371246792325679299904506434666610428417621460331473362218792255488 from by decide +kernel)).trans Go.Ev.pastValues_4_5_4
  | 5, _ => exact (congrArg (fun F => Go.Ev.isTr (Go.Ev.runTop Go.Ev.XA (.tup 127 4294967359) 5000 4 Tryz.f4 F)) (show Go.Ev.argF3 (Go.Ev.restC 4 6) (Go.Ev.restC 5 6) (Go.Ev.restC 5 6) = 74921965207583813554173715483294823217158645600294086003414537438435494407464158817914740619083545626277931877221842683876345247114168846782562304 from by decide +kernel)).trans Go.Ev.pastValues_4_5_5
  | n + 6, h => exact absurd h (by omega)
theorem runs_4 (r1 : Nat) (h1 : r1 < 6) (r2 : Nat) (h2 : r2 < 6) : Go.Ev.isTr (Go.Ev.runTop Go.Ev.XA (.tup 127 4294967359) 5000 4 Tryz.f4 (Go.Ev.argF3 (Go.Ev.restC 4 6) (Go.Ev.restC r1 6) (Go.Ev.restC r2 6))) = true := by
  match r1, h1 with
  | 0, _ => exact runs_4_0 r2 h2
  | 1, _ => exact runs_4_1 r2 h2
  | 2, _ => exact runs_4_2 r2 h2
  | 3, _ => exact runs_4_3 r2 h2
  | 4, _ => exact runs_4_4 r2 h2
  | 5, _ => exact runs_4_5 r2 h2
  | n + 6, h => exact absurd h (by omega)
theorem runs_5_0 (r2 : Nat) (h2 : r2 < 7) : Go.Ev.isTr (Go.Ev.runTop Go.Ev.XA (.tup 127 4294967359) 5000 4 Tryz.f4 (Go.Ev.argF3 (Go.Ev.restC 5 6) (Go.Ev.restC 0 7) (Go.Ev.restC r2 7))) = true := by
  match r2, h2 with
  | 0, _ => exact (congrArg (fun F => Go.Ev.isTr (Go.Ev.runTop Go.Ev.XA (.tup 127 4294967359) 5000 4 Tryz.f4 F)) (show Go.Ev.argF3 (Go.Ev.restC 5 6) (Go.Ev.restC 0 7) (Go.Ev.restC 0 7) = 74921965207583813554342945811108116827508363523089080189110388291484782529444670477436276000533869738563225600113817647618063354140122086052462592 from by decide +kernel)).trans Go.Ev.pastValues_5_0_0
  | 1, _ => exact (congrArg (fun F => Go.Ev.isTr (Go.Ev.runTop Go.Ev.XA (.tup 127 4294967359) 5000 4 Tryz.f4 F)) (show Go.Ev.argF3 (Go.Ev.restC 5 6) (Go.Ev.restC 0 7) (Go.Ev.restC 1 7) = 74921965207583813554342945811147518833704758002301359229210531905289862268715135924104224293938115460334722810725231913872948269780928714042769408 from by decide +kernel)).trans Go.Ev.pastValues_5_0_1
  | 2, _ => exact (congrArg (fun F => Go.Ev.isTr (Go.Ev.runTop Go.Ev.XA (.tup 127 4294967359) 5000 4 Tryz.f4 F)) (show Go.Ev.argF3 (Go.Ev.restC 5 6) (Go.Ev.restC 0 7) (Go.Ev.restC 2 7) = 74921965207583813554342945811186920839901152481513638269310675519094942007985601370772172587342361182106220021336646180127833185421735342033076224 from by decide +kernel)).trans Go.Ev.pastValues_5_0_2
  | 3, _ => exact (congrArg (fun F => Go.Ev.isTr (Go.Ev.runTop Go.Ev.XA (.tup 127 4294967359) 5000 4 Tryz.f4 F)) (show Go.Ev.argF3 (Go.Ev.restC 5 6) (Go.Ev.restC 0 7) (Go.Ev.restC 3 7) = 74921965207583813554342945811226322846097546960725917309410819132900021747256066817440120880746606903877717231948060446382718101062541970023383040 from by decide +kernel)).trans Go.Ev.pastValues_5_0_3
  | 4, _ => exact (congrArg (fun F => Go.Ev.isTr (Go.Ev.runTop Go.Ev.XA (.tup 127 4294967359) 5000 4 Tryz.f4 F)) (show Go.Ev.argF3 (Go.Ev.restC 5 6) (Go.Ev.restC 0 7) (Go.Ev.restC 4 7) = 74921965207583813554342945811265724852293941439938196349510962746705101486526532264108069174150852625649214442559474712637603016703348598013689856 from by decide +kernel)).trans Go.Ev.pastValues_5_0_4
  | 5, _ => exact (congrArg (fun F => Go.Ev.isTr (Go.Ev.runTop Go.Ev.XA (.tup 127 4294967359) 5000 4 Tryz.f4 F)) (show Go.Ev.argF3 (Go.Ev.restC 5 6) (Go.Ev.restC 0 7) (Go.Ev.restC 5 7) = 74921965207583813554342945811305126858490335919150475389611106360510181225796997710776017467555098347420711653170888978892487932344155226003996672 from by decide +kernel)).trans Go.Ev.pastValues_5_0_5
  | 6, _ => exact (congrArg (fun F => Go.Ev.isTr (Go.Ev.runTop Go.Ev.XA (.tup 127 4294967359) 5000 4 Tryz.f4 F)) (show Go.Ev.argF3 (Go.Ev.restC 5 6) (Go.Ev.restC 0 7) (Go.Ev.restC 6 7) = 74921965207583813554342945811344528864686730398362754429711249974315260965067463157443965760959344069192208863782303245147372847984961853994303488 from by decide +kernel)).trans Go.Ev.pastValues_5_0_6
  | n + 7, h => exact absurd h (by omega)
theorem runs_5_1 (r2 : Nat) (h2 : r2 < 7) : Go.Ev.isTr (Go.Ev.runTop Go.Ev.XA (.tup 127 4294967359) 5000 4 Tryz.f4 (Go.Ev.argF3 (Go.Ev.restC 5 6) (Go.Ev.restC 1 7) (Go.Ev.restC r2 7))) = true := by
  match r2, h2 with
  | 0, _ => exact (congrArg (fun F => Go.Ev.isTr (Go.Ev.runTop Go.Ev.XA (.tup 127 4294967359) 5000 4 Tryz.f4 F)) (show Go.Ev.argF3 (Go.Ev.restC 5 6) (Go.Ev.restC 1 7) (Go.Ev.restC 0 7) = 74921965207583813554342945811108116827508363523089080189110388291484898321533907793631699571518878426471078870098483288182102811724129999182102528 from by decide +kernel)).trans Go.Ev.pastValues_5_1_0
  | 1, _ => exact (congrArg (fun F => Go.Ev.isTr (Go.Ev.runTop Go.Ev.XA (.tup 127 4294967359) 5000 4 Tryz.f4 F)) (show Go.Ev.argF3 (Go.Ev.restC 5 6) (Go.Ev.restC 1 7) (Go.Ev.restC 1 7) = 74921965207583813554342945811147518833704758002301359229210531905289978060804373240299647864923124148242576080709897554436987727364936627172409344 from by decide +kernel)).trans Go.Ev.pastValues_5_1_1
  | 2, _ => exact (congrArg (fun F => Go.Ev.isTr (Go.Ev.runTop Go.Ev.XA (.tup 127 4294967359) 5000 4 Tryz.f4 F)) (show Go.Ev.argF3 (Go.Ev.restC 5 6) (Go.Ev.restC 1 7) (Go.Ev.restC 2 7) = 74921965207583813554342945811186920839901152481513638269310675519095057800074838686967596158327369870014073291321311820691872643005743255162716160 from by decide +kernel)).trans Go.Ev.pastValues_5_1_2
  | 3, _ => exact (congrArg (fun F => Go.Ev.isTr (Go.Ev.runTop Go.Ev.XA (.tup 127 4294967359) 5000 4 Tryz.f4 F)) (show Go.Ev.argF3 (Go.Ev.restC 5 6) (Go.Ev.restC 1 7) (Go.Ev.restC 3 7) = 74921965207583813554342945811226322846097546960725917309410819132900137539345304133635544451731615591785570501932726086946757558646549883153022976 from by decide +kernel)).trans Go.Ev.pastValues_5_1_3
  | 4, _ => exact (congrArg (fun F => Go.Ev.isTr (Go.Ev.runTop Go.Ev.XA (.tup 127 4294967359) 5000 4 Tryz.f4 F)) (show Go.Ev.argF3 (Go.Ev.restC 5 6) (Go.Ev.restC 1 7) (Go.Ev.restC 4 7) = 74921965207583813554342945811265724852293941439938196349510962746705217278615769580303492745135861313557067712544140353201642474287356511143329792 from by decide +kernel)).trans Go.Ev.pastValues_5_1_4
  | 5, _ => exact (congrArg (fun F => Go.Ev.isTr (Go.Ev.runTop Go.Ev.XA (.tup 127 4294967359) 5000 4 Tryz.f4 F)) (show Go.Ev.argF3 (Go.Ev.restC 5 6) (Go.Ev.restC 1 7) (Go.Ev.restC 5 7) = 74921965207583813554342945811305126858490335919150475389611106360510297017886235026971441038540107035328564923155554619456527389928163139133636608 from by decide +kernel)).trans Go.Ev.pastValues_5_1_5
  | 6, _ => exact (congrArg (fun F => Go.Ev.isTr (Go.Ev.runTop Go.Ev.XA (.tup 127 4294967359) 5000 4 Tryz.f4 F)) (show Go.Ev.argF3 (Go.Ev.restC 5 6) (Go.Ev.restC 1 7) (Go.Ev.restC 6 7) = 74921965207583813554342945811344528864686730398362754429711249974315376757156700473639389331944352757100062133766968885711412305568969767123943424 from by decide +kernel)).trans Go.Ev.pastValues_5_1_6
  | n + 7, h => exact absurd h (by omega)
theorem runs_5_2 (r2 : Nat) (h2 : r2 < 7) : Go.Ev.isTr (Go.Ev.runTop Go.Ev.XA (.tup 127 4294967359) 5000 4 Tryz.f4 (Go.Ev.argF3 (Go.Ev.restC 5 6) (Go.Ev.restC 2 7) (Go.Ev.restC r2 7))) = true := by
  match r2, h2 with
  | 0, _ => exact (congrArg (fun F => Go.Ev.isTr (Go.Ev.runTop Go.Ev.XA (.tup 127 4294967359) 5000 4 Tryz.f4 F)) (show Go.Ev.argF3 (Go.Ev.restC 5 6) (Go.Ev.restC 2 7) (Go.Ev.restC 0 7) = 74921965207583813554342945811108116827508363523089080189110388291485014113623145109827123142503887114378932140083148928746142269308137912311742464 from by decide +kernel)).trans Go.Ev.pastValues_5_2_0
  | 1, _ => exact (congrArg (fun F => Go.Ev.isTr (Go.Ev.runTop Go.Ev.XA (.tup 127 4294967359) 5000 4 Tryz.f4 F)) (show Go.Ev.argF3 (Go.Ev.restC 5 6) (Go.Ev.restC 2 7) (Go.Ev.restC 1 7) = 74921965207583813554342945811147518833704758002301359229210531905290093852893610556495071435908132836150429350694563195001027184948944540302049280 from by decide +kernel)).trans Go.Ev.pastValues_5_2_1
  | 2, _ => exact (congrArg (fun F => Go.Ev.isTr (Go.Ev.runTop Go.Ev.XA (.tup 127 4294967359) 5000 4 Tryz.f4 F)) (show Go.Ev.argF3 (Go.Ev.restC 5 6) (Go.Ev.restC 2 7) (Go.Ev.restC 2 7) = 74921965207583813554342945811186920839901152481513638269310675519095173592164076003163019729312378557921926561305977461255912100589751168292356096 from by decide +kernel)).trans Go.Ev.pastValues_5_2_2
  | 3, _ => exact (congrArg (fun F => Go.Ev.isTr (Go.Ev.runTop Go.Ev.XA (.tup 127 4294967359) 5000 4 Tryz.f4 F)) (show Go.Ev.argF3 (Go.Ev.restC 5 6) (Go.Ev.restC 2 7) (Go.Ev.restC 3 7) = 74921965207583813554342945811226322846097546960725917309410819132900253331434541449830968022716624279693423771917391727510797016230557796282662912 from by decide +kernel)).trans Go.Ev.pastValues_5_2_3
  | 4, _ => exact (congrArg (fun F => Go.Ev.isTr (Go.Ev.runTop Go.Ev.XA (.tup 127 4294967359) 5000 4 Tryz.f4 F)) (show Go.Ev.argF3 (Go.Ev.restC 5 6) (Go.Ev.restC 2 7) (Go.Ev.restC 4 7) = 74921965207583813554342945811265724852293941439938196349510962746705333070705006896498916316120870001464920982528805993765681931871364424272969728 from by decide +kernel)).trans Go.Ev.pastValues_5_2_4
  | 5, _ => exact (congrArg (fun F => Go.Ev.isTr (Go.Ev.runTop Go.Ev.XA (.tup 127 4294967359) 5000 4 Tryz.f4 F)) (show Go.Ev.argF3 (Go.Ev.restC 5 6) (Go.Ev.restC 2 7) (Go.Ev.restC 5 7) = 74921965207583813554342945811305126858490335919150475389611106360510412809975472343166864609525115723236418193140220260020566847512171052263276544 from by decide +kernel)).trans Go.Ev.pastValues_5_2_5
  | 6, _ => exact (congrArg (fun F => Go.Ev.isTr (Go.Ev.runTop Go.Ev.XA (.tup 127 4294967359) 5000 4 Tryz.f4 F)) (show Go.Ev.argF3 (Go.Ev.restC 5 6) (Go.Ev.restC 2 7) (Go.Ev.restC 6 7) = 74921965207583813554342945811344528864686730398362754429711249974315492549245937789834812902929361445007915403751634526275451763152977680253583360 from by decide +kernel)).trans Go.Ev.pastValues_5_2_6
  | n + 7, h => exact absurd h (by omega)
theorem runs_5_3 (r2 : Nat) (h2 : r2 < 7) : Go.Ev.isTr (Go.Ev.runTop Go.Ev.XA (.tup 127 4294967359) 5000 4 Tryz.f4 (Go.Ev.argF3 (Go.Ev.restC 5 6) (Go.Ev.restC 3 7) (Go.Ev.restC r2 7))) = true := by
  match r2, h2 with
  | 0, _ => exact (congrArg (fun F => Go.Ev.isTr (Go.Ev.runTop Go.Ev.XA (.tup 127 4294967359) 5000 4 Tryz.f4 F)) (show Go.Ev.argF3 (Go.Ev.restC 5 6) (Go.Ev.restC 3 7) (Go.Ev.restC 0 7) = 74921965207583813554342945811108116827508363523089080189110388291485129905712382426022546713488895802286785410067814569310181726892145825441382400 from by decide +kernel)).trans Go.Ev.pastValues_5_3_0
  | 1, _ => exact (congrArg (fun F => Go.Ev.isTr (Go.Ev.runTop Go.Ev.XA (.tup 127 4294967359) 5000 4 Tryz.f4 F)) (show Go.Ev.argF3 (Go.Ev.restC 5 6) (Go.Ev.restC 3 7) (Go.Ev.restC 1 7) = 74921965207583813554342945811147518833704758002301359229210531905290209644982847872690495006893141524058282620679228835565066642532952453431689216 from by decide +kernel)).trans Go.Ev.pastValues_5_3_1
  | 2, _ => exact (congrArg (fun F => Go.Ev.isTr (Go.Ev.runTop Go.Ev.XA (.tup 127 4294967359) 5000 4 Tryz.f4 F)) (show Go.Ev.argF3 (Go.Ev.restC 5 6) (Go.Ev.restC 3 7) (Go.Ev.restC 2 7) = 74921965207583813554342945811186920839901152481513638269310675519095289384253313319358443300297387245829779831290643101819951558173759081421996032 from by decide +kernel)).trans Go.Ev.pastValues_5_3_2
  | 3, _ => exact (congrArg (fun F => Go.Ev.isTr (Go.Ev.runTop Go.Ev.XA (.tup 127 4294967359) 5000 4 Tryz.f4 F)) (show Go.Ev.argF3 (Go.Ev.restC 5 6) (Go.Ev.restC 3 7) (Go.Ev.restC 3 7) = 74921965207583813554342945811226322846097546960725917309410819132900369123523778766026391593701632967601277041902057368074836473814565709412302848 from by decide +kernel)).trans Go.Ev.pastValues_5_3_3
  | 4, _ => exact (congrArg (fun F => Go.Ev.isTr (Go.Ev.runTop Go.Ev.XA (.tup 127 4294967359) 5000 4 Tryz.f4 F)) (show Go.Ev.argF3 (Go.Ev.restC 5 6) (Go.Ev.restC 3 7) (Go.Ev.restC 4 7) = 74921965207583813554342945811265724852293941439938196349510962746705448862794244212694339887105878689372774252513471634329721389455372337402609664 from by decide +kernel)).trans Go.Ev.pastValues_5_3_4
  | 5, _ => exact (congrArg (fun F => Go.Ev.isTr (Go.Ev.runTop Go.Ev.XA (.tup 127 4294967359) 5000 4 Tryz.f4 F)) (show Go.Ev.argF3 (Go.Ev.restC 5 6) (Go.Ev.restC 3 7) (Go.Ev.restC 5 7) = 74921965207583813554342945811305126858490335919150475389611106360510528602064709659362288180510124411144271463124885900584606305096178965392916480 from by decide +kernel)).trans Go.Ev.pastValues_5_3_5
  | 6, _ => exact (congrArg (fun F => Go.Ev.isTr (Go.Ev.runTop Go.Ev.XA (.tup 127 4294967359) 5000 4 Tryz.f4 F)) (show Go.Ev.argF3 (Go.Ev.restC 5 6) (Go.Ev.restC 3 7) (Go.Ev.restC 6 7) = 74921965207583813554342945811344528864686730398362754429711249974315608341335175106030236473914370132915768673736300166839491220736985593383223296 from by decide +kernel)).trans Go.Ev.pastValues_5_3_6
  | n + 7, h => exact absurd h (by omega)
theorem runs_5_4 (r2 : Nat) (h2 : r2 < 7) : Go.Ev.isTr (Go.Ev.runTop Go.Ev.XA (.tup 127 4294967359) 5000 4 Tryz.f4 (Go.Ev.argF3 (Go.Ev.restC 5 6) (Go.Ev.restC 4 7) (Go.Ev.restC r2 7))) = true := by
  match r2, h2 with
  | 0, _ => exact (congrArg (fun F => Go.Ev.isTr (Go.Ev.runTop Go.Ev.XA (.tup 127 4294967359) 5000 4 Tryz.f4 F)) (show Go.Ev.argF3 (Go.Ev.restC 5 6) (Go.Ev.restC 4 7) (Go.Ev.restC 0 7) = 74921965207583813554342945811108116827508363523089080189110388291485245697801619742217970284473904490194638680052480209874221184476153738571022336 from by decide +kernel)).trans Go.Ev.pastValues_5_4_0
  | 1, _ => exact (congrArg (fun F => Go.Ev.isTr (Go.Ev.runTop Go.Ev.XA (.tup 127 4294967359) 5000 4 Tryz.f4 F)) (show Go.Ev.argF3 (Go.Ev.restC 5 6) (Go.Ev.restC 4 7) (Go.Ev.restC 1 7) = 74921965207583813554342945811147518833704758002301359229210531905290325437072085188885918577878150211966135890663894476129106100116960366561329152 from by decide +kernel)).trans Go.Ev.pastValues_5_4_1
  | 2, _ => exact (congrArg (fun F => Go.Ev.isTr (Go.Ev.runTop Go.Ev.XA (.tup 127 4294967359) 5000 4 Tryz.f4 F)) (show Go.Ev.argF3 (Go.Ev.restC 5 6) (Go.Ev.restC 4 7) (Go.Ev.restC 2 7) = 74921965207583813554342945811186920839901152481513638269310675519095405176342550635553866871282395933737633101275308742383991015757766994551635968 from by decide +kernel)).trans Go.Ev.pastValues_5_4_2
  | 3, _ => exact (congrArg (fun F => Go.Ev.isTr (Go.Ev.runTop Go.Ev.XA (.tup 127 4294967359) 5000 4 Tryz.f4 F)) (show Go.Ev.argF3 (Go.Ev.restC 5 6) (Go.Ev.restC 4 7) (Go.Ev.restC 3 7) = 74921965207583813554342945811226322846097546960725917309410819132900484915613016082221815164686641655509130311886723008638875931398573622541942784 from by decide +kernel)).trans Go.Ev.pastValues_5_4_3
  | 4, _ => exact (congrArg (fun F => Go.Ev.isTr (Go.Ev.runTop Go.Ev.XA (.tup 127 4294967359) 5000 4 Tryz.f4 F)) (show Go.Ev.argF3 (Go.Ev.restC 5 6) (Go.Ev.restC 4 7) (Go.Ev.restC 4 7) = 74921965207583813554342945811265724852293941439938196349510962746705564654883481528889763458090887377280627522498137274893760847039380250532249600 from by decide +kernel)).trans Go.Ev.pastValues_5_4_4
  | 5, _ => exact (congrArg (fun F => Go.Ev.isTr (Go.Ev.runTop Go.Ev.XA (.tup 127 4294967359) 5000 4 Tryz.f4 F)) (show Go.Ev.argF3 (Go.Ev.restC 5 6) (Go.Ev.restC 4 7) (Go.Ev.restC 5 7) = 74921965207583813554342945811305126858490335919150475389611106360510644394153946975557711751495133099052124733109551541148645762680186878522556416 from by decide +kernel)).trans Go.Ev.pastValues_5_4_5
  | 6, _ => exact (congrArg (fun F => Go.Ev.isTr (Go.Ev.runTop Go.Ev.XA (.tup 127 4294967359) 5000 4 Tryz.f4 F)) (show Go.Ev.argF3 (Go.Ev.restC 5 6) (Go.Ev.restC 4 7) (Go.Ev.restC 6 7) = 74921965207583813554342945811344528864686730398362754429711249974315724133424412422225660044899378820823621943720965807403530678320993506512863232 from by decide +kernel)).trans Go.Ev.pastValues_5_4_6
  | n + 7, h => exact absurd h (by omega)
theorem runs_5_5 (r2 : Nat) (h2 : r2 < 7) : Go.Ev.isTr (Go.Ev.runTop Go.Ev.XA (.tup 127 4294967359) 5000 4 Tryz.f4 (Go.Ev.argF3 (Go.Ev.restC 5 6) (Go.Ev.restC 5 7) (Go.Ev.restC r2 7))) = true := by
  match r2, h2 with
  | 0, _ => exact (congrArg (fun F => Go.Ev.isTr (Go.Ev.runTop Go.Ev.XA (.tup 127 4294967359) 5000 4 Tryz.f4 F)) (show Go.Ev.argF3 (Go.Ev.restC 5 6) (Go.Ev.restC 5 7) (Go.Ev.restC 0 7) = 74921965207583813554342945811108116827508363523089080189110388291485361489890857058413393855458913178102491950037145850438260642060161651700662272 from by decide +kernel)).trans Go.Ev.pastValues_5_5_0
  | 1, _ => exact (congrArg (fun F => Go.Ev.isTr (Go.Ev.runTop Go.Ev.XA (.tup 127 4294967359) 5000 4 Tryz.f4 F)) (show Go.Ev.argF3 (Go.Ev.restC 5 6) (Go.Ev.restC 5 7) (Go.Ev.restC 1 7) = 74921965207583813554342945811147518833704758002301359229210531905290441229161322505081342148863158899873989160648560116693145557700968279690969088 from by decide +kernel)).trans Go.Ev.pastValues_5_5_1
  | 2, _ => exact (congrArg (fun F => Go.Ev.isTr (Go.Ev.runTop Go.Ev.XA (.tup 127 4294967359) 5000 4 Tryz.f4 F)) (show Go.Ev.argF3 (Go.Ev.restC 5 6) (Go.Ev.restC 5 7) (Go.Ev.restC 2 7) = 74921965207583813554342945811186920839901152481513638269310675519095520968431787951749290442267404621645486371259974382948030473341774907681275904 from by decide +kernel)).trans Go.Ev.pastValues_5_5_2
  | 3, _ => exact (congrArg (fun F => Go.Ev.isTr (Go.Ev.runTop Go.Ev.XA (.tup 127 4294967359) 5000 4 Tryz.f4 F)) (show Go.Ev.argF3 (Go.Ev.restC 5 6) (Go.Ev.restC 5 7) (Go.Ev.restC 3 7) = 74921965207583813554342945811226322846097546960725917309410819132900600707702253398417238735671650343416983581871388649202915388982581535671582720 from by decide +kernel)).trans Go.Ev.pastValues_5_5_3
  | 4, _ => exact (congrArg (fun F => Go.Ev.isTr (Go.Ev.runTop Go.Ev.XA (.tup 127 4294967359) 5000 4 Tryz.f4 F)) (show Go.Ev.argF3 (Go.Ev.restC 5 6) (Go.Ev.restC 5 7) (Go.Ev.restC 4 7) = 74921965207583813554342945811265724852293941439938196349510962746705680446972718845085187029075896065188480792482802915457800304623388163661889536 from by decide +kernel)).trans Go.Ev.pastValues_5_5_4
  | 5, _ => exact (congrArg (fun F => Go.Ev.isTr (Go.Ev.runTop Go.Ev.XA (.tup 127 4294967359) 5000 4 Tryz.f4 F)) (show Go.Ev.argF3 (Go.Ev.restC 5 6) (Go.Ev.restC 5 7) (Go.Ev.restC 5 7) = 74921965207583813554342945811305126858490335919150475389611106360510760186243184291753135322480141786959978003094217181712685220264194791652196352 from by decide +kernel)).trans Go.Ev.pastValues_5_5_5
  | 6, _ => exact (congrArg (fun F => Go.Ev.isTr (Go.Ev.runTop Go.Ev.XA (.tup 127 4294967359) 5000 4 Tryz.f4 F)) (show Go.Ev.argF3 (Go.Ev.restC 5 6) (Go.Ev.restC 5 7) (Go.Ev.restC 6 7) = 74921965207583813554342945811344528864686730398362754429711249974315839925513649738421083615884387508731475213705631447967570135905001419642503168 from by decide +kernel)).trans Go.Ev.pastValues_5_5_6
  | n + 7, h => exact absurd h (by omega)
theorem runs_5_6 (r2 : Nat) (h2 : r2 < 7) : Go.Ev.isTr (Go.Ev.runTop Go.Ev.XA (.tup 127 4294967359) 5000 4 Tryz.f4 (Go.Ev.argF3 (Go.Ev.restC 5 6) (Go.Ev.restC 6 7) (Go.Ev.restC r2 7))) = true := by
  match r2, h2 with
  | 0, _ => exact (congrArg (fun F => Go.Ev.isTr (Go.Ev.runTop Go.Ev.XA (.tup 127 4294967359) 5000 4 Tryz.f4 F)) (show Go.Ev.argF3 (Go.Ev.restC 5 6) (Go.Ev.restC 6 7) (Go.Ev.restC 0 7) = 74921965207583813554342945811108116827508363523089080189110388291485477281980094374608817426443921866010345220021811491002300099644169564830302208 from by decide +kernel)).trans Go.Ev.pastValues_5_6_0
  | 1, _ => exact (congrArg (fun F => Go.Ev.isTr (Go.Ev.runTop Go.Ev.XA (.tup 127 4294967359) 5000 4 Tryz.f4 F)) (show Go.Ev.argF3 (Go.Ev.restC 5 6) (Go.Ev.restC 6 7) (Go.Ev.restC 1 7) = 74921965207583813554342945811147518833704758002301359229210531905290557021250559821276765719848167587781842430633225757257185015284976192820609024 from by decide +kernel)).trans Go.Ev.pastValues_5_6_1
  | 2, _ => exact (congrArg (fun F => Go.Ev.isTr (Go.Ev.runTop Go.Ev.XA (.tup 127 4294967359) 5000 4 Tryz.f4 F)) (show Go.Ev.argF3 (Go.Ev.restC 5 6) (Go.Ev.restC 6 7) (Go.Ev.restC 2 7) = 74921965207583813554342945811186920839901152481513638269310675519095636760521025267944714013252413309553339641244640023512069930925782820810915840 from by decide +kernel)).trans Go.Ev.pastValues_5_6_2
  | 3, _ => exact (congrArg (fun F => Go.Ev.isTr (Go.Ev.runTop Go.Ev.XA (.tup 127 4294967359) 5000 4 Tryz.f4 F)) (show Go.Ev.argF3 (Go.Ev.restC 5 6) (Go.Ev.restC 6 7) (Go.Ev.restC 3 7) = 74921965207583813554342945811226322846097546960725917309410819132900716499791490714612662306656659031324836851856054289766954846566589448801222656 from by decide +kernel)).trans Go.Ev.pastValues_5_6_3
  | 4, _ => exact (congrArg (fun F => Go.Ev.isTr (Go.Ev.runTop Go.Ev.XA (.tup 127 4294967359) 5000 4 Tryz.f4 F)) (show Go.Ev.argF3 (Go.Ev.restC 5 6) (Go.Ev.restC 6 7) (Go.Ev.restC 4 7) = 74921965207583813554342945811265724852293941439938196349510962746705796239061956161280610600060904753096334062467468556021839762207396076791529472 from by decide +kernel)).trans Go.Ev.pastValues_5_6_4
  | 5, _ => exact (congrArg (fun F => Go.Ev.isTr (Go.Ev.runTop Go.Ev.XA (.tup 127 4294967359) 5000 4 Tryz.f4 F)) (show Go.Ev.argF3 (Go.Ev.restC 5 6) (Go.Ev.restC 6 7) (Go.Ev.restC 5 7) = 74921965207583813554342945811305126858490335919150475389611106360510875978332421607948558893465150474867831273078882822276724677848202704781836288 from by decide +kernel)).trans Go.Ev.pastValues_5_6_5
  | 6, _ => exact (congrArg (fun F => Go.Ev.isTr (Go.Ev.runTop Go.Ev.XA (.tup 127 4294967359) 5000 4 Tryz.f4 F)) (show Go.Ev.argF3 (Go.Ev.restC 5 6) (Go.Ev.restC 6 7) (Go.Ev.restC 6 7) = 74921965207583813554342945811344528864686730398362754429711249974315955717602887054616507186869396196639328483690297088531609593489009332772143104 from by decide +kernel)).trans Go.Ev.pastValues_5_6_6
  | n + 7, h => exact absurd h (by omega)
theorem runs_5 (r1 : Nat) (h1 : r1 < 7) (r2 : Nat) (h2 : r2 < 7) : Go.Ev.isTr (Go.Ev.runTop Go.Ev.XA (.tup 127 4294967359) 5000 4 Tryz.f4 (Go.Ev.argF3 (Go.Ev.restC 5 6) (Go.Ev.restC r1 7) (Go.Ev.restC r2 7))) = true := by
  match r1, h1 with
  | 0, _ => exact runs_5_0 r2 h2
  | 1, _ => exact runs_5_1 r2 h2
  | 2, _ => exact runs_5_2 r2 h2
  | 3, _ => exact runs_5_3 r2 h2
  | 4, _ => exact runs_5_4 r2 h2
  | 5, _ => exact runs_5_5 r2 h2
  | 6, _ => exact runs_5_6 r2 h2
  | n + 7, h => exact absurd h (by omega)
theorem runs (r0 : Nat) (h0 : r0 < 6) (r1 : Nat) (h1 : r1 < (md r0)) (r2 : Nat) (h2 : r2 < (md r0)) : Go.Ev.isTr (Go.Ev.runTop Go.Ev.XA (.tup 127 4294967359) 5000 4 Tryz.f4 (Go.Ev.argF3 (Go.Ev.restC r0 6) (Go.Ev.restC r1 (md r0)) (Go.Ev.restC r2 (md r0)))) = true := by
  match r0, h0 with
  | 0, _ => exact runs_0 r1 h1 r2 h2
  | 1, _ => exact runs_1 r1 h1 r2 h2
  | 2, _ => exact runs_2 r1 h1 r2 h2
  | 3, _ => exact runs_3 r1 h1 r2 h2
  | 4, _ => exact runs_4 r1 h1 r2 h2
  | 5, _ => exact runs_5 r1 h1 r2 h2
  | n + 6, h => exact absurd h (by omega)
theorem walk (a0 : Int) (a1 : Int) (a2 : Int) (w0 : (Lit.int .u8 a0).wf = true) (w1 : (Lit.int .u8 a1).wf = true) (w2 : (Lit.int .u8 a2).wf = true) (w : World) (hG : Go.Ev.Grounded (.tup 127 4294967359) w) :
    Calls Tryz.prog 4 #[.int .u8 a0, .int .u8 a1, .int .u8 a2] w fun e w' => e = .returned (.bool true) ∧ Go.Ev.Kept w w' := by
  obtain ⟨x0, rfl, hx0⟩ := Go.Ev.u8_nat w0
  obtain ⟨x1, rfl, hx1⟩ := Go.Ev.u8_nat w1
  obtain ⟨x2, rfl, hx2⟩ := Go.Ev.u8_nat w2
  exact (Go.Ev.topA Tryz.func4 (by decide +kernel) (runs (x0 % 6) (Nat.mod_lt _ (by decide)) (x1 % md (x0 % 6)) (Nat.mod_lt _ (md_pos _)) (x2 % md (x0 % 6)) (Nat.mod_lt _ (md_pos _))) (Go.Ev.args3 (Go.Ev.restC_lt (Nat.lt_trans (Nat.mod_lt x0 (show 0 < 6 by decide)) (by decide)) (by decide)) (Go.Ev.restC_lt (Nat.lt_trans (Nat.mod_lt x1 (md_pos (x0 % 6))) (md_lt _)) (Nat.lt_trans (md_lt _) (by decide))) (Go.Ev.restC_lt (Nat.lt_trans (Nat.mod_lt x2 (md_pos (x0 % 6))) (md_lt _)) (Nat.lt_trans (md_lt _) (by decide))) (fun σ I => Go.Ev.restC_rel hx0 (by decide) (by decide)) (fun σ I => Go.Ev.restC_rel hx1 (md_pos _) (md_lt _)) (fun σ I => Go.Ev.restC_rel hx2 (md_pos _) (md_lt _))) w hG).mono fun e w' h => ⟨h.1, h.2⟩

/-! ### THE ROW's STEP: WRITTEN OUT: LEAVE IT -/
set_option maxRecDepth 100000 in
theorem lifted (os : Os) (started : os.Started) (H : Type) (enc : TypeId × Value → H) :
    ReturnsInHanded {} Tryz.checked os 4 .any (fun w args => (Rows.pastValuesSpec.pre enc Tryz.prog Tryz.f4 [] false w args ∧ laidMetH Tryz.prog laidList w) ∧ sizedMet enc Tryz.prog Tryz.f4 (OpenSpec.ofChange Rows.pastValuesSpec) false w args)
      (Rows.pastValuesSpec.post enc Tryz.prog Tryz.f4 false true false false) := by
  refine returnsInHanded_of_change_and (C := Tryz.checked) (X := fun w _ => laidMetH Tryz.prog laidList w) (fun _ _ _ hh h => h.of_heap hh) ownKnobs started (by as_aux_lemma => kernel_rfl) Tryz.func4
    (ChangeSpec.witness_at (enc := enc) (C := Tryz.checked) (os := os) (X := fun w _ => laidMetH Tryz.prog laidList w) false (laidWorld os) #[.int .u8 0, .int .u8 0, .int .u8 0] 8 rfl (by as_aux_lemma => kernel_rfl) (by as_aux_lemma => kernel_rfl) (by as_aux_lemma => kernel_rfl) (by as_aux_lemma => kernel_rfl) (by as_aux_lemma => kernel_rfl) (laidWorld_met os _)) ?_
  intro W base args ds gs before hval0 hW _ _ hL _
  have hval : ∀ (j : Nat) t v, Tryz.f4.params[j]? = some t → args[j]? = some v → Value.okWide Tryz.prog W .any base t v := hval0
  have hW' := hW
  obtain ⟨p, q, hA0, hV, rfl, hfz, hnd⟩ := hW
  have hA : DataW.TrodAll enc Tryz.prog W 0 (fun _ => true) true Tryz.f4.params.toList args.toList ds p := hA0
  rw [Tryz.params4] at hA hval
  obtain ⟨v0, vs0, d0, ds0, p0, q0, hargs, rfl, rfl, h0, r0⟩ := trodAll_cons hA
  obtain ⟨v1, vs1, d1, ds1, p1, q1, rfl, rfl, rfl, h1, r1⟩ := trodAll_cons r0
  obtain ⟨v2, vs2, d2, ds2, p2, q2, rfl, rfl, rfl, h2, r2⟩ := trodAll_cons r1
  obtain ⟨rfl, rfl, rfl⟩ := trodAll_nil r2
  obtain rfl : args = #[v0, v1, v2] := by cases args; simp_all
  obtain ⟨rfl, rfl⟩ := trodVars_none hV
  obtain ⟨a0, rfl, rfl, rfl, w0⟩ := open_int Tryz.underlying5 (hval 0 5 v0 rfl rfl) h0
  obtain ⟨a1, rfl, rfl, rfl, w1⟩ := open_int Tryz.underlying5 (hval 1 5 v1 rfl rfl) h1
  obtain ⟨a2, rfl, rfl, rfl, w2⟩ := open_int Tryz.underlying5 (hval 2 5 v2 rfl rfl) h2
  clear hA0 hval0
  simp only [List.append_nil] at hW'
  refine (walk a0 a1 a2 w0 w1 w2 W (grounded_of hL)).mono fun e W' ⟨he, hg⟩ => ?_
  subst he
  exact ⟨_, rfl, _, _, _, [], _, [], hW', trodAll_mk1 (shut_bool Tryz.underlying4 _), (trodAll_cons_mk (shut_int Tryz.underlying5 w0) (trodAll_cons_mk (shut_int Tryz.underlying5 w1) (trodAll_cons_mk (shut_int Tryz.underlying5 w2) trodAll_mk0))), rfl, Go.Ev.Kept.frame hg _, fun h => by cases h⟩

theorem over : Rows.pastValuesRow.holds Tryz.pinned (OpenSpec.ofChange Rows.pastValuesSpec) :=
  OpenClaim.holds_of_wide 4 Tryz.f4 rfl rfl rfl rfl rfl rfl rfl ⟨rfl, rfl, rfl, rfl, rfl⟩ rfl rfl rfl rfl rfl (by as_aux_lemma => kernel_rfl) Tryz.func4 closed
    (of_decide_eq_true (by as_aux_lemma => kernel_rfl)) (by unfold Func.isWrapper; first | (rw [if_pos (by decide +kernel)]; kernel_rfl) | (rw [if_neg (by decide +kernel)]; exact ⟨rfl, rfl⟩))
    (fun os started H enc _ => lifted os started H enc)

/-- The card: the row, tied to the program's text. -/
theorem proved : Rows.PastValuesCardSaid :=
  Claim7.holds_tied_plain_at .later [] [.handle] true (true, "dd02136aa56d72b4ed9e372863dfb1f1c7391d8394638ee7427da759d85aae58") true
    over (fun _ h => by cases h) (by as_aux_lemma => kernel_rfl) (fun _ h => by cases h) pastValues_row_tie rfl ⟨rfl, rfl⟩ shMain rfl
    (fun f fn hf hfn => by
      obtain rfl : f = 4 := Option.some.inj ((show Tryz.prog.funcNamed Rows.pastValuesRow.func = some 4 by as_aux_lemma => kernel_rfl).symm.trans hf) |>.symm
      obtain rfl : fn = Tryz.f4 := (Option.some.inj (Tryz.func4.symm.trans hfn)).symm
      exact ⟨shLooks, fun j t ht => by
        rw [Tryz.params4] at ht
        have h5 : t = 5 ∨ t = 4 := by
          rcases j with _ | _ | _ | j <;> simp at ht <;> first | exact .inl ht.symm | exact .inr ht.symm
        rcases h5 with rfl | rfl
        · exact shW5
        · exact shW4⟩)
    (by as_aux_lemma => kernel_rfl)
#print axioms proved
end Go.Proofs.YtgilcomfkfkefaaGreatDoor.pastValues
