/- Part Wd of the proof: what it says stands at its theorems. -/
import Derived.Test.YtjldfkldmfmkiaaDoorWb
set_option linter.unusedVariables false
set_option linter.unusedSimpArgs false
set_option linter.unusedSectionVars false
section
namespace Go.AM.S
open Go Go.AM Go.Proofs NumL
open _root_.Go.AM.G (R)
set_option linter.unusedVariables false
set_option linter.unusedSimpArgs false
set_option maxRecDepth 100000
open Go.Proofs.YtjldfkldmfmkiaaDoor
variable {L : List (Nat × Int × Int)}
/-- the law's digits -/
def dl (n : Nat) (q : Bool) : List Nat := (List.replicate n 55).set 0 (bif q then 48 else 55)
def eD (o : Option Out) : V := match o with | some (.val (.tuple [_, e]) _) => e | _ => .nili
def vD (o : Option Out) : V := match o with | some (.val (.tuple [v, _]) _) => v | _ => .nili
def hD (o : Option Out) : Hp := match o with | some (.val _ h) => h | _ => noHp
noncomputable def xD (L : List (Nat × Int × Int)) (s : Str) : Option Out := fn Pg (kn L) tbl 3000 8 [.str s] noHp
theorem runs_big {f : FuncId} {args : List V} {o : Out} {h : Hp} (hr : ∀ n, fn Pg (kn L) tbl (n + 3000) f args h = some o) : Runs Pg (kn L) tbl f args h o :=
  ⟨3000, fun n hn => by obtain ⟨m, rfl⟩ := Nat.exists_eq_add_of_le hn; rw [Nat.add_comm]; exact hr m⟩
noncomputable def xM (L : List (Nat × Int × Int)) (s : Str) (H : Hp) : Option Out := fn Pg (kn L) tbl 3000 8 [.str s] H
/-- a text that is too long -/
def Many (L : List (Nat × Int × Int)) (s : Str) (H : Hp) : Prop := ∃ v e H', Runs Pg (kn L) tbl 8 [.str s] H (.val (.tuple [v, e]) H') ∧ Runs Pg (kn L) tbl 12 [e] H' (.val (.tuple [.int .i64 (.ofNat 65536), .int .i64 (.ofNat 141)]) H') ∧ H'.dirty = none ∧ Ex1 e
/-- what the digits come to, and what is told of it -/
def DigOk (L : List (Nat × Int × Int)) (n : Nat) (q : Bool) : Prop := ∃ v e H, Runs Pg (kn L) tbl 8 [.str (sl (dl n q))] noHp (.val (.tuple [v, e]) H) ∧ Runs Pg (kn L) tbl 12 [e] H (.val (.tuple [.int .i64 (.ofNat 0), .int .i64 (.ofNat (bif q then 140 else bif Nat.blt 400 n then 141 else 0))]) H) ∧ H.dirty = none ∧ Ex1 e ∧ ∀ v, Many L ⟨65537, v⟩ H ∧ Many L ⟨65538, v⟩ H
def S398_false : Str := ⟨398, 6506219383331958226281406428981884748711469316335494731260089593548268819183188762087131377192701061201577786235378762852881232955937870010062857708082535435253254048709081706594318368434959613794903783589682674949705026095005435022678028776366934025813994651653556886550623919157542658516383306493491491344978766605810779498442105400772639214063154055936109423204153056867620781179071695088446644318881086962229288977130129084799763409872898008222963863587334856746338799268362775697810450980261040906345236347790461011469592297139584266182758027889961444351220884437473467741027971973744277489842684215316585716911316718448010285233891223474937899745610068874934474365268088929429404801779334793941300570107880379557986523422843332226297686483797491358109820519155237997384244936600941713550933591271367675359832854955168328553122610165857324479797299407787053880224865770534605132860326348908595524930553178906905793341651306232814419196417177565112252215⟩
theorem s398_false : sl (dl 398 false) = S398_false := by kernel_rfl
theorem dig398_false : DigOk L 398 false := by
  unfold DigOk
  rw [s398_false]
  refine ⟨vD (xD L S398_false), eD (xD L S398_false), hD (xD L S398_false), runs_big fun n => by kernel_rfl, runs_big fun n => by kernel_rfl, by kernel_rfl, fun st => by kernel_rfl, fun v => ⟨⟨vD (xM L ⟨65537, v⟩ (hD (xD L S398_false))), eD (xM L ⟨65537, v⟩ (hD (xD L S398_false))), hD (xM L ⟨65537, v⟩ (hD (xD L S398_false))), runs_big fun n => by kernel_rfl, runs_big fun n => by kernel_rfl, by kernel_rfl, fun st => by kernel_rfl⟩, ⟨vD (xM L ⟨65538, v⟩ (hD (xD L S398_false))), eD (xM L ⟨65538, v⟩ (hD (xD L S398_false))), hD (xM L ⟨65538, v⟩ (hD (xD L S398_false))), runs_big fun n => by kernel_rfl, runs_big fun n => by kernel_rfl, by kernel_rfl, fun st => by kernel_rfl⟩⟩⟩
def S398_true : Str := ⟨398, 6506219383331958226281406428981884748711469316335494731260089593548268819183188762087131377192701061201577786235378762852881232955937870010062857708082535435253254048709081706594318368434959613794903783589682674949705026095005435022678028776366934025813994651653556886550623919157542658516383306493491491344978766605810779498442105400772639214063154055936109423204153056867620781179071695088446644318881086962229288977130129084799763409872898008222963863587334856746338799268362775697810450980261040906345236347790461011469592297139584266182758027889961444351220884437473467741027971973744277489842684215316585716911316718448010285233891223474937899745610068874934474365268088929429404801779334793941300570107880379557986523422843332226297686483797491358109820519155237997384244936600941713550933591271367675359832854955168328553122610165857324479797299407787053880224865770534605132860326348908595524930553178906905793341651306232814419196417177565112252208⟩
theorem s398_true : sl (dl 398 true) = S398_true := by kernel_rfl
theorem dig398_true : DigOk L 398 true := by
  unfold DigOk
  rw [s398_true]
  refine ⟨vD (xD L S398_true), eD (xD L S398_true), hD (xD L S398_true), runs_big fun n => by kernel_rfl, runs_big fun n => by kernel_rfl, by kernel_rfl, fun st => by kernel_rfl, fun v => ⟨⟨vD (xM L ⟨65537, v⟩ (hD (xD L S398_true))), eD (xM L ⟨65537, v⟩ (hD (xD L S398_true))), hD (xM L ⟨65537, v⟩ (hD (xD L S398_true))), runs_big fun n => by kernel_rfl, runs_big fun n => by kernel_rfl, by kernel_rfl, fun st => by kernel_rfl⟩, ⟨vD (xM L ⟨65538, v⟩ (hD (xD L S398_true))), eD (xM L ⟨65538, v⟩ (hD (xD L S398_true))), hD (xM L ⟨65538, v⟩ (hD (xD L S398_true))), runs_big fun n => by kernel_rfl, runs_big fun n => by kernel_rfl, by kernel_rfl, fun st => by kernel_rfl⟩⟩⟩
def S399_false : Str := ⟨399, 1665592162132981305928040045819362495670136144981886651202582935948356817710896323094305632561331471667603913276256963290337595636720094722576091573269129071424833036469524916888145502319349661131495368598958764787124486680321391365805575366749935110608382630823310562956959723304330920580194126462333821784314564251087559551601178982597795638800167438319644012340263182558110919981842353942642340945633558262330697978145313045708739432927461890105078749078357723327062732612700870578639475450946826472024380505034358018936215628067733572142786055139830129753912546415993207741703160825278535037399727159121045943529297079922690633019876153209584102334876177631983225437508630765933927629255509707248972945947617377166844549996247893049932207739852157787676114052903740927330366703769841078669038999365470124892117210868523092109599388202459475066828108648393485793337565637256858914012243545320600454382221613800167883095462734395600491314282797456668736567095⟩
theorem s399_false : sl (dl 399 false) = S399_false := by kernel_rfl
theorem dig399_false : DigOk L 399 false := by
  unfold DigOk
  rw [s399_false]
  refine ⟨vD (xD L S399_false), eD (xD L S399_false), hD (xD L S399_false), runs_big fun n => by kernel_rfl, runs_big fun n => by kernel_rfl, by kernel_rfl, fun st => by kernel_rfl, fun v => ⟨⟨vD (xM L ⟨65537, v⟩ (hD (xD L S399_false))), eD (xM L ⟨65537, v⟩ (hD (xD L S399_false))), hD (xM L ⟨65537, v⟩ (hD (xD L S399_false))), runs_big fun n => by kernel_rfl, runs_big fun n => by kernel_rfl, by kernel_rfl, fun st => by kernel_rfl⟩, ⟨vD (xM L ⟨65538, v⟩ (hD (xD L S399_false))), eD (xM L ⟨65538, v⟩ (hD (xD L S399_false))), hD (xM L ⟨65538, v⟩ (hD (xD L S399_false))), runs_big fun n => by kernel_rfl, runs_big fun n => by kernel_rfl, by kernel_rfl, fun st => by kernel_rfl⟩⟩⟩
def S399_true : Str := ⟨399, 1665592162132981305928040045819362495670136144981886651202582935948356817710896323094305632561331471667603913276256963290337595636720094722576091573269129071424833036469524916888145502319349661131495368598958764787124486680321391365805575366749935110608382630823310562956959723304330920580194126462333821784314564251087559551601178982597795638800167438319644012340263182558110919981842353942642340945633558262330697978145313045708739432927461890105078749078357723327062732612700870578639475450946826472024380505034358018936215628067733572142786055139830129753912546415993207741703160825278535037399727159121045943529297079922690633019876153209584102334876177631983225437508630765933927629255509707248972945947617377166844549996247893049932207739852157787676114052903740927330366703769841078669038999365470124892117210868523092109599388202459475066828108648393485793337565637256858914012243545320600454382221613800167883095462734395600491314282797456668736567088⟩
theorem s399_true : sl (dl 399 true) = S399_true := by kernel_rfl
theorem dig399_true : DigOk L 399 true := by
  unfold DigOk
  rw [s399_true]
  refine ⟨vD (xD L S399_true), eD (xD L S399_true), hD (xD L S399_true), runs_big fun n => by kernel_rfl, runs_big fun n => by kernel_rfl, by kernel_rfl, fun st => by kernel_rfl, fun v => ⟨⟨vD (xM L ⟨65537, v⟩ (hD (xD L S399_true))), eD (xM L ⟨65537, v⟩ (hD (xD L S399_true))), hD (xM L ⟨65537, v⟩ (hD (xD L S399_true))), runs_big fun n => by kernel_rfl, runs_big fun n => by kernel_rfl, by kernel_rfl, fun st => by kernel_rfl⟩, ⟨vD (xM L ⟨65538, v⟩ (hD (xD L S399_true))), eD (xM L ⟨65538, v⟩ (hD (xD L S399_true))), hD (xM L ⟨65538, v⟩ (hD (xD L S399_true))), runs_big fun n => by kernel_rfl, runs_big fun n => by kernel_rfl, by kernel_rfl, fun st => by kernel_rfl⟩⟩⟩
def S400_false : Str := ⟨400, 426391593506043214317578251729756798891554853115362982707861231602779345333989458712142241935700856746906601798721782602326424483000344248979479442756897042284757257336198378723365248593753513249662814361333443785503868590162276189646227293887983388315745953490767504116981689165908715668529696374357458376784528448278415245209901819545035683532842864209828867159107374734876395515351642609316439282082190915156658682405200139701437294829430243866900159764059577171728059548851422868131705715442387576838241409288795652847671200785339794468553230115796513217001611882494261181876009171271304969574330152734987761543500052460208802053088295221653530197728301473787705712002209476079085473089410485055737074162590048554712204799039460620782645181402152393645085197543357677396573876165079316139273983837560351972382005982341911580057443379829625617107995813988732363094416803137755881987134347602073716321848733132842978072438460005273725776456396148907196561176375⟩
theorem s400_false : sl (dl 400 false) = S400_false := by kernel_rfl
theorem dig400_false : DigOk L 400 false := by
  unfold DigOk
  rw [s400_false]
  refine ⟨vD (xD L S400_false), eD (xD L S400_false), hD (xD L S400_false), runs_big fun n => by kernel_rfl, runs_big fun n => by kernel_rfl, by kernel_rfl, fun st => by kernel_rfl, fun v => ⟨⟨vD (xM L ⟨65537, v⟩ (hD (xD L S400_false))), eD (xM L ⟨65537, v⟩ (hD (xD L S400_false))), hD (xM L ⟨65537, v⟩ (hD (xD L S400_false))), runs_big fun n => by kernel_rfl, runs_big fun n => by kernel_rfl, by kernel_rfl, fun st => by kernel_rfl⟩, ⟨vD (xM L ⟨65538, v⟩ (hD (xD L S400_false))), eD (xM L ⟨65538, v⟩ (hD (xD L S400_false))), hD (xM L ⟨65538, v⟩ (hD (xD L S400_false))), runs_big fun n => by kernel_rfl, runs_big fun n => by kernel_rfl, by kernel_rfl, fun st => by kernel_rfl⟩⟩⟩
def S400_true : Str := ⟨400, 426391593506043214317578251729756798891554853115362982707861231602779345333989458712142241935700856746906601798721782602326424483000344248979479442756897042284757257336198378723365248593753513249662814361333443785503868590162276189646227293887983388315745953490767504116981689165908715668529696374357458376784528448278415245209901819545035683532842864209828867159107374734876395515351642609316439282082190915156658682405200139701437294829430243866900159764059577171728059548851422868131705715442387576838241409288795652847671200785339794468553230115796513217001611882494261181876009171271304969574330152734987761543500052460208802053088295221653530197728301473787705712002209476079085473089410485055737074162590048554712204799039460620782645181402152393645085197543357677396573876165079316139273983837560351972382005982341911580057443379829625617107995813988732363094416803137755881987134347602073716321848733132842978072438460005273725776456396148907196561176368⟩
theorem s400_true : sl (dl 400 true) = S400_true := by kernel_rfl
theorem dig400_true : DigOk L 400 true := by
  unfold DigOk
  rw [s400_true]
  refine ⟨vD (xD L S400_true), eD (xD L S400_true), hD (xD L S400_true), runs_big fun n => by kernel_rfl, runs_big fun n => by kernel_rfl, by kernel_rfl, fun st => by kernel_rfl, fun v => ⟨⟨vD (xM L ⟨65537, v⟩ (hD (xD L S400_true))), eD (xM L ⟨65537, v⟩ (hD (xD L S400_true))), hD (xM L ⟨65537, v⟩ (hD (xD L S400_true))), runs_big fun n => by kernel_rfl, runs_big fun n => by kernel_rfl, by kernel_rfl, fun st => by kernel_rfl⟩, ⟨vD (xM L ⟨65538, v⟩ (hD (xD L S400_true))), eD (xM L ⟨65538, v⟩ (hD (xD L S400_true))), hD (xM L ⟨65538, v⟩ (hD (xD L S400_true))), runs_big fun n => by kernel_rfl, runs_big fun n => by kernel_rfl, by kernel_rfl, fun st => by kernel_rfl⟩⟩⟩
def S401_false : Str := ⟨401, 109156247937547062865300032442817740516238042397532923573212475290311512405501301430308413935539419327208090060472776346195564667648088127738746737345765642824897857878066784953181503640000899391913680476501361609088990359081542704549434187235323747408830964093636481053947312426472631211143602271835509344456839282759274302773734865803529134984407773237716189992731487932128357251930020507985008456213040874280104622695731235763567947476334142429926440899599251755962383244505964254241716663153251219670589800777931687129003827401046987383949626909643907383552412641918530862560258347845454072211028519100156866955136013429813453325590603576743303730618445177289652662272565625876245881110889084174268690985623052430006324428554101918920357166438951012773141810571099565413522912298260304931654139862415450104929793531479529364494705505236384157979646928381115484952170701603265505788706392986130871378393275682007802386544245761350073798772837414120242319661152055⟩
theorem s401_false : sl (dl 401 false) = S401_false := by kernel_rfl
theorem dig401_false : DigOk L 401 false := by
  unfold DigOk
  rw [s401_false]
  refine ⟨vD (xD L S401_false), eD (xD L S401_false), hD (xD L S401_false), runs_big fun n => by kernel_rfl, runs_big fun n => by kernel_rfl, by kernel_rfl, fun st => by kernel_rfl, fun v => ⟨⟨vD (xM L ⟨65537, v⟩ (hD (xD L S401_false))), eD (xM L ⟨65537, v⟩ (hD (xD L S401_false))), hD (xM L ⟨65537, v⟩ (hD (xD L S401_false))), runs_big fun n => by kernel_rfl, runs_big fun n => by kernel_rfl, by kernel_rfl, fun st => by kernel_rfl⟩, ⟨vD (xM L ⟨65538, v⟩ (hD (xD L S401_false))), eD (xM L ⟨65538, v⟩ (hD (xD L S401_false))), hD (xM L ⟨65538, v⟩ (hD (xD L S401_false))), runs_big fun n => by kernel_rfl, runs_big fun n => by kernel_rfl, by kernel_rfl, fun st => by kernel_rfl⟩⟩⟩
def S401_true : Str := ⟨401, 109156247937547062865300032442817740516238042397532923573212475290311512405501301430308413935539419327208090060472776346195564667648088127738746737345765642824897857878066784953181503640000899391913680476501361609088990359081542704549434187235323747408830964093636481053947312426472631211143602271835509344456839282759274302773734865803529134984407773237716189992731487932128357251930020507985008456213040874280104622695731235763567947476334142429926440899599251755962383244505964254241716663153251219670589800777931687129003827401046987383949626909643907383552412641918530862560258347845454072211028519100156866955136013429813453325590603576743303730618445177289652662272565625876245881110889084174268690985623052430006324428554101918920357166438951012773141810571099565413522912298260304931654139862415450104929793531479529364494705505236384157979646928381115484952170701603265505788706392986130871378393275682007802386544245761350073798772837414120242319661152048⟩
theorem s401_true : sl (dl 401 true) = S401_true := by kernel_rfl
theorem dig401_true : DigOk L 401 true := by
  unfold DigOk
  rw [s401_true]
  refine ⟨vD (xD L S401_true), eD (xD L S401_true), hD (xD L S401_true), runs_big fun n => by kernel_rfl, runs_big fun n => by kernel_rfl, by kernel_rfl, fun st => by kernel_rfl, fun v => ⟨⟨vD (xM L ⟨65537, v⟩ (hD (xD L S401_true))), eD (xM L ⟨65537, v⟩ (hD (xD L S401_true))), hD (xM L ⟨65537, v⟩ (hD (xD L S401_true))), runs_big fun n => by kernel_rfl, runs_big fun n => by kernel_rfl, by kernel_rfl, fun st => by kernel_rfl⟩, ⟨vD (xM L ⟨65538, v⟩ (hD (xD L S401_true))), eD (xM L ⟨65538, v⟩ (hD (xD L S401_true))), hD (xM L ⟨65538, v⟩ (hD (xD L S401_true))), runs_big fun n => by kernel_rfl, runs_big fun n => by kernel_rfl, by kernel_rfl, fun st => by kernel_rfl⟩⟩⟩
def S402_false : Str := ⟨402, 27943999472012048093516808305361341572156938853768428434742393674319747175808333166158953967498091347765271055481030744626064554917910560701119164760516004563173851616785096948014464931840230244329902201984348571926781531924874932364655151932242879336660726807970939149810511981176993590052762181589890392180950856386374221510076125645703458556008389948855344638139260910624859456494085250044162164790538463815706783410107196355473394553941540462061168870297408449526370110593526849085879465767232312235670988999150511905024979814668028770291104488868840290189417636331143900815426137048436242486023300889640157940514819438032244051351194515646285755038321965386151081541776800224318945564387605548612784892319501422081619053709850091243611434608371459269924303506201488745861865548354638062503459804778355226862027144058759517310644609340514344442789613665565564147755699610435969481908836604449503072868678574593997410955326914905618892485846378014782033833254926135⟩
theorem s402_false : sl (dl 402 false) = S402_false := by kernel_rfl
theorem dig402_false : DigOk L 402 false := by
  unfold DigOk
  rw [s402_false]
  refine ⟨vD (xD L S402_false), eD (xD L S402_false), hD (xD L S402_false), runs_big fun n => by kernel_rfl, runs_big fun n => by kernel_rfl, by kernel_rfl, fun st => by kernel_rfl, fun v => ⟨⟨vD (xM L ⟨65537, v⟩ (hD (xD L S402_false))), eD (xM L ⟨65537, v⟩ (hD (xD L S402_false))), hD (xM L ⟨65537, v⟩ (hD (xD L S402_false))), runs_big fun n => by kernel_rfl, runs_big fun n => by kernel_rfl, by kernel_rfl, fun st => by kernel_rfl⟩, ⟨vD (xM L ⟨65538, v⟩ (hD (xD L S402_false))), eD (xM L ⟨65538, v⟩ (hD (xD L S402_false))), hD (xM L ⟨65538, v⟩ (hD (xD L S402_false))), runs_big fun n => by kernel_rfl, runs_big fun n => by kernel_rfl, by kernel_rfl, fun st => by kernel_rfl⟩⟩⟩
def S402_true : Str := ⟨402, 27943999472012048093516808305361341572156938853768428434742393674319747175808333166158953967498091347765271055481030744626064554917910560701119164760516004563173851616785096948014464931840230244329902201984348571926781531924874932364655151932242879336660726807970939149810511981176993590052762181589890392180950856386374221510076125645703458556008389948855344638139260910624859456494085250044162164790538463815706783410107196355473394553941540462061168870297408449526370110593526849085879465767232312235670988999150511905024979814668028770291104488868840290189417636331143900815426137048436242486023300889640157940514819438032244051351194515646285755038321965386151081541776800224318945564387605548612784892319501422081619053709850091243611434608371459269924303506201488745861865548354638062503459804778355226862027144058759517310644609340514344442789613665565564147755699610435969481908836604449503072868678574593997410955326914905618892485846378014782033833254926128⟩
theorem s402_true : sl (dl 402 true) = S402_true := by kernel_rfl
theorem dig402_true : DigOk L 402 true := by
  unfold DigOk
  rw [s402_true]
  refine ⟨vD (xD L S402_true), eD (xD L S402_true), hD (xD L S402_true), runs_big fun n => by kernel_rfl, runs_big fun n => by kernel_rfl, by kernel_rfl, fun st => by kernel_rfl, fun v => ⟨⟨vD (xM L ⟨65537, v⟩ (hD (xD L S402_true))), eD (xM L ⟨65537, v⟩ (hD (xD L S402_true))), hD (xM L ⟨65537, v⟩ (hD (xD L S402_true))), runs_big fun n => by kernel_rfl, runs_big fun n => by kernel_rfl, by kernel_rfl, fun st => by kernel_rfl⟩, ⟨vD (xM L ⟨65538, v⟩ (hD (xD L S402_true))), eD (xM L ⟨65538, v⟩ (hD (xD L S402_true))), hD (xM L ⟨65538, v⟩ (hD (xD L S402_true))), runs_big fun n => by kernel_rfl, runs_big fun n => by kernel_rfl, by kernel_rfl, fun st => by kernel_rfl⟩⟩⟩
theorem dig_all (n : Nat) (h1 : 398 ≤ n) (h2 : n ≤ 402) (q : Bool) : DigOk L n q := by
  have h : n = 398 ∨ n = 399 ∨ n = 400 ∨ n = 401 ∨ n = 402 := by omega
  rcases h with rfl | rfl | rfl | rfl | rfl <;> cases q
  · exact dig398_false
  · exact dig398_true
  · exact dig399_false
  · exact dig399_true
  · exact dig400_false
  · exact dig400_true
  · exact dig401_false
  · exact dig401_true
  · exact dig402_false
  · exact dig402_true
theorem told0 (H : Hp) : Runs Pg (kn L) tbl 12 [.nili] H (.val (.tuple [.int .i64 (.ofNat 0), .int .i64 (.ofNat 0)]) H) := runs_any fun n => by kernel_rfl
end Go.AM.S
end

section
namespace Go.AM.S
open Go Go.AM Go.Proofs NumL
open _root_.Go.AM.G (R)
set_option linter.unusedVariables false
set_option linter.unusedSimpArgs false
set_option maxRecDepth 100000
open Go.Proofs.YtjldfkldmfmkiaaDoor
variable {L : List (Nat × Int × Int)}
theorem tbl6 : tbl 6 = some ⟨rc6, [.tmp 6]⟩ := by kernel_rfl
theorem kn6 : kn L 6 = none := by kernel_rfl
theorem kn7 : Runs Pg (kn L) tbl 7 [] noHp (.val (.bool true) noHp) := runs_known (k := cached (.val (.bool true) noHp)) (by kernel_rfl) (fun _ => rfl)
theorem plc (a b : Nat) : Runs Pg (kn [(0, 5, (.ofNat a)), (1, 5, (.ofNat b))]) tbl 11 [.sym 0, .int .i64 (.ofNat 5)] noHp (.val (.int .i64 (.ofNat a)) noHp) := runs_known (k := place [(0, 5, (.ofNat a)), (1, 5, (.ofNat b))]) (by kernel_rfl) (fun _ => rfl)
theorem plc1 (a b : Nat) : Runs Pg (kn [(0, 5, (.ofNat a)), (1, 5, (.ofNat b))]) tbl 11 [.sym 1, .int .i64 (.ofNat 5)] noHp (.val (.int .i64 (.ofNat b)) noHp) := runs_known (k := place [(0, 5, (.ofNat a)), (1, 5, (.ofNat b))]) (by kernel_rfl) (fun _ => rfl)
/-- so many places filled -/
def fl (c i n : Nat) : List Nat := List.replicate i c ++ List.replicate (n - i) 0
theorem fl_len {c i n : Nat} (h : i ≤ n) : (fl c i n).length = n := by simp [fl]; omega
theorem fl_set {c i n : Nat} (h : i < n) : (fl c i n).set i c = fl c (i + 1) n := by
  unfold fl
  rw [show n - i = (n - (i + 1)) + 1 by omega, List.replicate_succ, List.set_append_right _ _ (by simp), List.length_replicate, Nat.sub_self, List.set_cons_zero, List.replicate_succ', List.append_assoc]
  rfl
theorem fl_zero (c n : Nat) : fl c 0 n = List.replicate n 0 := by simp [fl]
theorem fl_full (c n : Nat) : fl c n n = List.replicate n c := by simp [fl]
theorem dg_fill (c n : Nat) (hc : c < 256) : Dg 256 (List.replicate n c) := by intro x hx; rw [List.mem_replicate] at hx; omega
theorem dl_len (n : Nat) (q : Bool) : (dl n q).length = n := by simp [dl]
theorem dl_dg (n : Nat) (q : Bool) : Dg 256 (dl n q) := by
  intro x hx
  rcases List.mem_or_eq_of_mem_set hx with h | h
  · rw [List.mem_replicate] at h; omega
  · subst h; cases q <;> decide
theorem dl_true (n : Nat) : dl n true = (List.replicate n 55).set 0 48 := rfl
theorem dl_false {n : Nat} (h : 0 < n) : dl n false = List.replicate n 55 := by
  obtain ⟨m, rfl⟩ : ∃ m, n = m + 1 := ⟨n - 1, by omega⟩
  rfl
theorem tx11 {l : Lo} {h : Hp} {D : List Nat} {n : Nat} (hn : n = D.length) (hl : lg l 27 = (1, .cells false (nl .u8 D))) (hd : Dg 256 D) (c : CallF) (t : Tm) (j : V → Lo → Hp → R) : go1 Tryd.f6 6 11 1 40 (.arr (.loc 27 1) 0 n (some n) 1 false) c t l h j = j (.str (sl D)) l h := by
  subst hn
  exact gen_text (C := Cg) (gl := Cg.glob 6) (call := c) (tm := t) (loc := l) (hp := h) (j := j) (x := 40) (o := opA Tryd.f6 11 1) (d := 41) (s := 22) (t := 9) (e := 5) (by kernel_rfl) (by kernel_rfl) U22 U9 U5 (by intro q e; cases e) (fun tm => getRow_arr hl) hd
theorem tx25 {l : Lo} {h : Hp} {D : List Nat} {n g : Nat} (hn : n = D.length) (hl : lg l 63 = (g, .cells false (nl .u8 D))) (hd : Dg 256 D) (c : CallF) (t : Tm) (j : V → Lo → Hp → R) : go1 Tryd.f6 6 25 1 73 (.arr (.loc 63 g) 0 n (some n) 1 false) c t l h j = j (.str (sl D)) l h := by
  subst hn
  exact gen_text (C := Cg) (gl := Cg.glob 6) (call := c) (tm := t) (loc := l) (hp := h) (j := j) (x := 73) (o := opA Tryd.f6 25 1) (d := 74) (s := 22) (t := 9) (e := 5) (by kernel_rfl) (by kernel_rfl) U22 U9 U5 (by intro q e; cases e) (fun tm => getRow_arr hl) hd
theorem ia24 (m : Nat) : ia Pg 24 (endT m) (.int .i64 (.ofNat 0)) = some (.iptr [.int .i64 (.ofNat 0), .str ⟨0, 0⟩, .int .i64 (.ofNat m)]) := by kernel_rfl
theorem fa30 (x y z : V) : fa Pg 30 (.iptr [x, y, z]) 2 = some (.iptr [z]) := by kernel_rfl
theorem len24 (m : Nat) : len (Pg.underlying 24) (endT m) = some (.int .i64 (.ofNat 1)) := by kernel_rfl
theorem len24' (m : Nat) : len (some (.slice 30)) (endT m) = some (.int .i64 (.ofNat 1)) := by kernel_rfl
theorem sl_rep (m c : Nat) : sl (List.replicate m c) = ⟨m, vl 256 (List.replicate m c)⟩ := by
  show (⟨(List.replicate m c).length, _⟩ : Str) = _
  rw [List.length_replicate]
theorem lexBounds_run (a b : Nat) (ha : a < 5) (hb : b < 5) (q : Bool) : Runs Pg (kn [(0, 5, (.ofNat a)), (1, 5, (.ofNat b))]) tbl 6 [.sym 0, .sym 1, .bool q] noHp (.val (.bool true) noHp) := by
  refine runs_of_ww kn6 tbl6 ?_
  show WW Pg _ tbl rc6 ⟨startTm [.sym 0, .sym 1, .bool q], .lf, noHp⟩ _ _ _
  obtain ⟨N, hN⟩ : ∃ N, N = 398 + a := ⟨_, rfl⟩
  obtain ⟨M, hM⟩ : ∃ M, M = 65534 + b := ⟨_, rfl⟩
  unfold rc6
  refine sR ?_
  refine ww_seq (ww_seq (ww_call (kn7 (L := [(0, 5, (.ofNat a)), (1, 5, (.ofNat b))])) (fun n hn k => by simp -implicitDefEqProofs (disch := omega) only [go_sem, reduceIte, Nat.reduceEqDiff, clc0 hn]; rfl) ?_))
  refine ww_false (by simp -implicitDefEqProofs (disch := omega) only [go_sem, reduceIte, Nat.reduceEqDiff, Bool.not_true]) (ww_skip ?_)
  refine ww_seq (ww_call ((plc a b).and (plc1 a b)) (fun n hn k => by simp -implicitDefEqProofs (disch := omega) only [go_sem, reduceIte, Nat.reduceEqDiff, gt_start, List.getD_cons_zero, List.getD_cons_succ, clc2 hn.1 (fun _ => rfl) (Ex1.int _ _), clc2 hn.2 (fun _ => rfl) (Ex1.int _ _)]; rfl) ?_)
  rw [← hN, ← hM]
  refine sR ?_
  refine ww_joinX (fun s => gt s.tm 0 = .int .i64 (.ofNat N) ∧ gt s.tm 1 = .int .i64 (.ofNat M) ∧ gt s.tm 2 = .bool q ∧ gt s.tm 7 = .arr (.loc 27 1) 0 N (some N) 1 false ∧ lg s.loc 27 = (1, .cells false (nl .u8 (List.replicate N 55))) ∧ s.hp = noHp) ?_ (fun s ⟨h0, h1, h2, h7, hl, hh⟩ => ?_)
  · refine sR ?_
    refine ww_for (fun k s => ∃ i, k + i = N ∧ gt s.tm 0 = .int .i64 (.ofNat N) ∧ gt s.tm 1 = .int .i64 (.ofNat M) ∧ gt s.tm 2 = .bool q ∧ gt s.tm 7 = .arr (.loc 27 1) 0 N (some N) 1 false ∧ gt s.tm 8 = .int .i64 (.ofNat i) ∧ lg s.loc 27 = (1, .cells false (nl .u8 (fl 55 i N))) ∧ s.hp = noHp) N ⟨0, rfl, sS, sS, sSG, (by simp -implicitDefEqProofs (disch := omega) only [go_sem, reduceIte, Nat.reduceEqDiff, lg_lf]), sS, by rw [fl_zero]; exact (by simp -implicitDefEqProofs (disch := omega) only [go_sem, reduceIte, Nat.reduceEqDiff, lg_lf]), rfl⟩ ?_
    intro k s ⟨i, hk, h0, h1, h2, h7, h8, hl, hh⟩
    refine sQ2 h0 h8 ?_
    refine ww_if (by simp only [gt_pt, reduceIte]; rfl) (fun hi => ww_skip ?_) (fun hi => ww_exit ?_)
    · refine ww_seq (ww_block ?_)
      have hfl := fl_len (c := 55) (show i ≤ N by omega)
      refine ww_reg (fun n k => by simp -implicitDefEqProofs (disch := omega) only [go_sem, reduceIte, Nat.reduceEqDiff, h7, h8, hl, hfl]; rfl) ?_
      refine sE1 h8 ?_
      exact ⟨k - 1, by omega, i + 1, by omega, (sS1 h0), (sS1 h1), (sS1 h2), (sS1 h7), sS, by rw [← fl_set hi]; exact sS, hh⟩
    · rw [if_pos rfl]
      have : i = N := by omega
      subst this
      rw [fl_full] at hl
      exact ⟨(sS1 h0), (sS1 h1), (sS1 h2), (sS1 h7), (sS1 hl), hh⟩
  have h400 : 0 < N := by omega
  refine ww_joinX (fun s => gt s.tm 0 = .int .i64 (.ofNat N) ∧ gt s.tm 1 = .int .i64 (.ofNat M) ∧ gt s.tm 2 = .bool q ∧ gt s.tm 7 = .arr (.loc 27 1) 0 N (some N) 1 false ∧ lg s.loc 27 = (1, .cells false (nl .u8 (dl N q))) ∧ s.hp = noHp) ?_ (fun s ⟨h0, h1, h2, h7, hl, hh⟩ => ?_)
  · cases q with
    | false =>
      refine sR1 h2 ?_
      refine ww_false sS (ww_skip ?_)
      exact ⟨(sS1 h0), (sS1 h1), (sS1 h2), (sS1 h7), by rw [dl_false h400]; exact hl, hh⟩
    | true =>
      refine sR1 h2 ?_
      refine ww_true sS ?_
      have hrl : (List.replicate N 55).length = N := List.length_replicate
      refine sE3 h7 hl hrl ?_
      exact ⟨(sS1 h0), (sS1 h1), (sS1 h2), (sS1 h7), by rw [dl_true]; exact sS, hh⟩
  obtain ⟨v, e, H, t8, t12, hH, he, hmany⟩ := dig_all (L := [(0, 5, (.ofNat a)), (1, 5, (.ofNat b))]) N (by omega) (by omega) q
  obtain ⟨W, hW⟩ : ∃ W, W = (bif q then 140 else bif Nat.blt 400 N then 141 else 0) := ⟨_, rfl⟩
  rw [← hW] at t12
  obtain ⟨tm, loc, hp⟩ := s
  obtain rfl : hp = noHp := hh
  refine ww_seq (ww_call (t8) (fun n hn k => by simp -implicitDefEqProofs (disch := omega) only [go_sem, reduceIte, Nat.reduceEqDiff, h7, tx11 (dl_len N q).symm hl (dl_dg N q), clc1 hn (Ex1.str _)]; rfl) ?_)
  refine ww_seq (ww_call (t12) (fun n hn k => by simp -implicitDefEqProofs (disch := omega) only [go_sem, reduceIte, Nat.reduceEqDiff, clc1 hn he]; rfl) ?_)
  refine sR ?_
  refine ww_joinX (fun s => gt s.tm 1 = .int .i64 (.ofNat M) ∧ gt s.tm 11 = .int .i64 (.ofNat 0) ∧ gt s.tm 12 = .int .i64 (.ofNat W) ∧ gt s.tm 13 = .int .i64 (.ofNat W) ∧ s.loc = loc ∧ s.hp = H) ?_ (fun s ⟨g1, g11, g12, g13, hlo, hh⟩ => ?_)
  · refine ww_block ?_
    cases q with
    | true =>
      refine sR1 h2 ?_
      refine ww_true sS ?_
      refine sE ?_
      obtain rfl : W = 140 := hW
      exact ⟨(sS1 h1), sS, sS, sS, rfl, rfl⟩
    | false =>
      refine sR1 h2 ?_
      refine ww_false sS ?_
      refine sR1 h0 ?_
      refine ww_if (by simp only [gt_pt, reduceIte]; rfl) (fun hi => ?_) (fun hi => ww_skip ?_)
      · have hb4 : Nat.blt 400 N = true := by rw [Nat.blt_eq]; exact hi
        refine sE ?_
        obtain rfl : W = 141 := by rw [hW, hb4]; rfl
        exact ⟨(sS1 h1), sS, sS, sS, rfl, rfl⟩
      · have hb4 : Nat.blt 400 N = false := by rw [← Bool.not_eq_true, Nat.blt_eq]; exact hi
        obtain rfl : W = 0 := by rw [hW, hb4]; rfl
        exact ⟨(sS1 h1), sS, sS, sS, rfl, rfl⟩
  have ed : decide (W ≠ W) = false := decide_eq_false (fun h => h rfl)
  have ez : decide ((0 : Nat) ≠ 0) = false := by decide
  refine ww_seq (ww_seq (ww_reg (fun n k => by simp -implicitDefEqProofs (disch := omega) only [go_sem, reduceIte, Nat.reduceEqDiff, g11, g12, g13, ed, ez, Bool.not_false]; rfl) ?_))
  refine ww_false sS (ww_skip ?_)
  clear h0 h1 h2 h7 hl t8 t12
  refine sR1 g1 ?_
  refine ww_joinX (fun s => ∃ g, gt s.tm 1 = .int .i64 (.ofNat M) ∧ gt s.tm 14 = .arr (.loc 63 g) 0 M (some M) 1 false ∧ lg s.loc 63 = (g, .cells false (nl .u8 (List.replicate M 32))) ∧ s.hp = H) ?_ (fun s ⟨g, h1, h14, hl, hh⟩ => ?_)
  · refine sR ?_
    refine ww_for (fun k s => ∃ i g, k + i = M ∧ gt s.tm 1 = .int .i64 (.ofNat M) ∧ gt s.tm 14 = .arr (.loc 63 g) 0 M (some M) 1 false ∧ gt s.tm 15 = .int .i64 (.ofNat i) ∧ lg s.loc 63 = (g, .cells false (nl .u8 (fl 32 i M))) ∧ s.hp = H) M ⟨0, (lg s.loc 63).1 + 1, rfl, (sS1 g1), sS, sS, by rw [fl_zero]; exact sS, hh⟩ ?_
    intro k s ⟨i, g, hk, h1, h14, h15, hl, hh⟩
    refine sQ2 h1 h15 ?_
    refine ww_if (by simp only [gt_pt, reduceIte]; rfl) (fun hi => ww_skip ?_) (fun hi => ww_exit ?_)
    · refine ww_seq (ww_block ?_)
      have hfl := fl_len (c := 32) (show i ≤ M by omega)
      refine ww_reg (fun n k => by simp -implicitDefEqProofs (disch := omega) only [go_sem, reduceIte, Nat.reduceEqDiff, h14, h15, hl, hfl]; rfl) ?_
      refine sE1 h15 ?_
      exact ⟨k - 1, by omega, i + 1, g, by omega, (sS1 h1), (sS1 h14), sS, by rw [← fl_set hi]; exact sS, hh⟩
    · rw [if_pos rfl]
      have : i = M := by omega
      subst this
      rw [fl_full] at hl
      exact ⟨g, (sS1 h1), (sS1 h14), (sS1 hl), hh⟩
  have hrl : M = (List.replicate M 32).length := List.length_replicate.symm
  have hdg := dg_fill 32 M (by decide)
  obtain ⟨tm2, loc2, hp2⟩ := s
  obtain rfl : hp2 = H := hh
  by_cases hM6 : M ≤ 65536
  · have t8 := tok8 (L := [(0, 5, (.ofNat a)), (1, 5, (.ofNat b))]) hp2 hH (show 0 < M by omega) hM6
    refine ww_seq (ww_call (t8) (fun n hn k => by simp -implicitDefEqProofs (disch := omega) only [go_sem, reduceIte, Nat.reduceEqDiff, h14, tx25 hrl hl hdg, clc1 hn (Ex1.str _)]; rfl) ?_)
    refine ww_seq (ww_call (told0 (L := [(0, 5, (.ofNat a)), (1, 5, (.ofNat b))]) hp2) (fun n hn k => by simp -implicitDefEqProofs (disch := omega) only [go_sem, reduceIte, Nat.reduceEqDiff, clc1 hn (fun _ => rfl)]; rfl) ?_)
    refine sQ1 h1 ?_
    refine ww_false (by rw [show (V.bool false) = .bool (decide (65536 < M)) by rw [decide_eq_false (by omega)]]; exact sS) (ww_skip ?_)
    have e0 : decide ((0 : Nat) = 0) = true := by decide
    have e1 : decide ((1 : Nat) = 1) = true := by decide
    have e2 : decide (M = M) = true := decide_eq_true rfl
    refine ww_seq (ww_reg (fun n k => by simp -implicitDefEqProofs (disch := omega) only [go_sem, reduceIte, Nat.reduceEqDiff, h1, e0, e1, e2, len24, len24', ia24, fa30, Bool.not_true]; rfl) ?_)
    exact ww_ret (fin_tmp (v := .bool true) sS rfl hH rfl)
  · have h2 : M = 65537 ∨ M = 65538 := by omega
    have hm : Many [(0, 5, (.ofNat a)), (1, 5, (.ofNat b))] (sl (List.replicate M 32)) hp2 := by
      rw [sl_rep]
      rcases h2 with h2 | h2 <;> rw [h2]
      · exact (hmany _).1
      · exact (hmany _).2
    obtain ⟨v2, e2, H2, t8, t12, hH2, he2⟩ := hm
    refine ww_seq (ww_call (t8) (fun n hn k => by simp -implicitDefEqProofs (disch := omega) only [go_sem, reduceIte, Nat.reduceEqDiff, h14, tx25 hrl hl hdg, clc1 hn (Ex1.str _)]; rfl) ?_)
    refine ww_seq (ww_call (t12) (fun n hn k => by simp -implicitDefEqProofs (disch := omega) only [go_sem, reduceIte, Nat.reduceEqDiff, clc1 hn he2]; rfl) ?_)
    refine sQ1 h1 ?_
    refine ww_true (by rw [show (V.bool true) = .bool (decide (65536 < M)) by rw [decide_eq_true (by omega)]]; exact sS) ?_
    have e0 : decide ((65536 : Nat) = 65536) = true := by decide
    have e1 : decide ((141 : Nat) = 141) = true := by decide
    refine ww_seq (ww_reg (fun n k => by simp -implicitDefEqProofs (disch := omega) only [go_sem, reduceIte, Nat.reduceEqDiff, e0, e1, Bool.not_true]; rfl) ?_)
    exact ww_ret (fin_tmp (v := .bool true) sS rfl hH2 rfl)
end Go.AM.S
end
