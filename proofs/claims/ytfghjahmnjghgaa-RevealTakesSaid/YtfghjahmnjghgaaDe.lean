import Derived.Test.YtfghjahmnjghgaaDl
import Derived.Test.YtfghjahmnjghgaaDa
import Derived.Lib.Strings
import Derived.Lib.Slices
import Derived.Lib.Walk
import Derived.Test.YtfghjahmnjghgaaDd
set_option linter.unusedSimpArgs false
set_option linter.unusedVariables false
/- LAYER 14: RevealTakes. -/
namespace Go.Proofs.Ytfghjahmnjghgaa
open Go.RowKit Go.Proofs.YtfghjahmnjghgaaW.PrintWords
theorem take_G {α : Type} {d : Kd α} {A : Option Addr} {n k : Nat} {xs : List α} {w : World} (h : d.C w A n xs) : d.C w A (xs.take k).length (xs.take k) := by
  obtain ⟨h1, h2, h3⟩ := h
  refine ⟨rfl, by simp; omega, fun hp => ?_⟩
  obtain ⟨ad, e, hc⟩ := h3 (by simp at hp; omega)
  exact ⟨ad, e, fun j p hj => hc j p (by rw [List.getElem?_take] at hj; split at hj <;> first | exact hj | cases hj)⟩
theorem Out_len {w : World} {v : Value} {xs : List ByteArray} {n : Nat} (h : Out Kd.string w v xs) (hn : xs.length = n) : ∃ A c, v = .slice A n c ∧ n ≤ c ∧ Kd.string.C w A n xs := by
  obtain ⟨A, c, rfl, h1, _, h3⟩ := h
  subst hn
  exact ⟨A, c, rfl, h1, h3⟩
theorem Texts_len (xs : List ByteArray) (n : Nat) (hn : xs.length = n) (A : Option Addr) (c : Nat) (B : Option Addr) (d : Nat) (w : World) (hC : Kd.string.C w A n xs) (hc : n ≤ c) (hD : Kd.string.C w B n xs) (hd : n ≤ d) (hb : n ≤ 1000000) :
    Calls Try.prog 21 #[.slice A n c, .slice B n d] w fun e w' => e = .returned (.bool true) ∧ Below w.heap.size w w' := by
  subst hn
  exact (decide_eq_true (rfl : xs = xs)) ▸ Texts_any xs xs A c B d w hC hc hD hd hb
theorem min_len {α : Type} {xs : List α} {n k : Nat} (h : xs.length = n) : min (n : Int) (k : Int) = (((xs.take k).length : Nat) : Int) := by
  rw [List.length_take]
  omega
attribute [local irreducible] Calls
def s1RT : List Rec3 := [(0, 64, 2097152), (1, 2097152, 4194304), (0, 64, 8388608), (4, 8388608, 16777216), (8, 16777216, 33554432), (16, 33554432, 67108864), (34, 71303168, 134217728), (0, 64, 268435456), (128, 268435456, 536870912), (0, 64, 1073741824), (512, 1073741824, 2147483648), (1024, 2147483648, 4294967296), (2048, 4294967296, 8589934592), (4352, 9126805504, 17179869184), (0, 32, 34359738368), (16384, 34359738368, 68719476736), (2047, 64, 137438953472), (100351, 137573171200, 0), (212991, 64, 274877906944), (475135, 292057776128, 0), (1048575, 68719476736, 32)]
def s13RT : List Rec3 := [(0, 32768, 1361129467683753853853498429727072845824), (1, 1361129467683753853853498429727072845824, 2722258935367507707706996859454145691648), (2, 2722258935367507707706996859454145691648, 5444517870735015415413993718908291383296), (4, 5444517870735015415413993718908291399680, 10889035741470030830827987437816582766592), (4, 5444517870735015415413993718908291383360, 21778071482940061661655974875633165533184), (20, 27222589353675077077069968594541456916480, 43556142965880123323311949751266331066368), (4, 5444517870735015415413993718908292431872, 87112285931760246646623899502532662132736), (100, 136112946768375385385349842972707284582400, 174224571863520493293247799005065324265472), (140, 190558125475725539539489780161790198415360, 348449143727040986586495598010130648530944), (260, 353893661597776002001909591729038939914240, 696898287454081973172991196020261297061888), (768, 696898287454081973172991196020261297061888, 1393796574908163946345982392040522594123776), (1024, 1393796574908163946345982392040522594140160, 2787593149816327892691964784081045188247552), (1024, 1393796574908163946345982392040522594131968, 5575186299632655785383929568162090376495104), (5120, 6968982874540819731729911960202612970618880, 11150372599265311570767859136324180752990208), (11264, 15331762323989803409805806312445748535361536, 22300745198530623141535718272648361505980416), (17408, 23694541773438787087881700664688884100104192, 44601490397061246283071436545296723011960832), (1024, 1393796574908163946345982392040522594123840, 89202980794122492566142873090593446023921664), (66560, 90596777369030656512488855482633968618045440, 178405961588244985132285746181186892047843328), (164864, 224401248560214395361703165118524137653927936, 356811923176489970264571492362373784095686656), (263168, 358205719751398134210917474754414306689810432, 713623846352979940529142984724747568191373312), (786432, 713623846352979940529142984724747568191373312, 1427247692705959881058285969449495136382746624), (1048576, 1427247692705959881058285969449495136382754816, 2854495385411919762116571938898990272765493248), (3145728, 4281743078117879643174857908348485409148239872, 5708990770823839524233143877797980545530986496), (1048576, 1427247692705959881058285969449495136382746688, 11417981541647679048466287755595961091061972992), (9437184, 12845229234353638929524573725045456227444719616, 22835963083295358096932575511191922182123945984), (22020096, 29972201546825157502224005358439397864037679104, 45671926166590716193865151022383844364247891968), (34603008, 47099173859296676074923436991833339500630638592, 91343852333181432387730302044767688728495783936), (68157440, 91343852333181432387730302044767688728495783936, 182687704666362864775460604089535377456991567872), (134217728, 182687704666362864775460604089535377456991576064, 365375409332725729550921208179070754913983135744), (402653184, 548063113999088594326381812268606132370974703616, 730750818665451459101842416358141509827966271488), (134217728, 182687704666362864775460604089535377456991567936, 1461501637330902918203684832716283019655932542976), (1207959552, 1644189341997265782979145436805818397112924110848, 2923003274661805836407369665432566039311865085952), (2818572288, 3836441797993620160284672685880242926596822925312, 5846006549323611672814739330865132078623730171904), (4429185024, 6028694253989974537590199934954667456080721739776, 11692013098647223345629478661730264157247460343808), (8724152320, 11692013098647223345629478661730264157247460343808, 23384026197294446691258957323460528314494920687616), (17179869184, 23384026197294446691258957323460528314494920695808, 46768052394588893382517914646921056628989841375232), (51539607552, 70152078591883340073776871970381584943484762062848, 93536104789177786765035829293842113257979682750464), (17179869184, 23384026197294446691258957323460528314494920687680, 187072209578355573530071658587684226515959365500928), (154618822656, 210456235775650020221330615911144754830454286188544, 374144419156711147060143317175368453031918731001856), (360777252864, 491064550143183380516438103792671094604393334439936, 748288838313422294120286634350736906063837462003712), (566935683072, 771672864510716740811545591674197434378332382691328, 1496577676626844588240573268701473812127674924007424), (1116691496960, 1496577676626844588240573268701473812127674924007424, 2993155353253689176481146537402947624255349848014848), (2199023255552, 2993155353253689176481146537402947624255349848023040, 5986310706507378352962293074805895248510699696029696), (6597069766656, 8979466059761067529443439612208842872766049544044544, 11972621413014756705924586149611790497021399392059392), (2199023255552, 2993155353253689176481146537402947624255349848014912, 23945242826029513411849172299223580994042798784118784), (19791209299968, 26938398179283202588330318836626528618298148632133632, 47890485652059026823698344598447161988085597568237568), (46179488366592, 62856262418327472706104077285461900109362346808311808, 95780971304118053647396689196894323976171195136475136), (72567767433216, 98774126657371742823877835734297271600426544984489984, 191561942608236107294793378393788647952342390272950272), (142936511610880, 191561942608236107294793378393788647952342390272950272, 383123885216472214589586756787577295904684780545900544), (281474976710656, 383123885216472214589586756787577295904684780545908736, 766247770432944429179173513575154591809369561091801088), (844424930131968, 1149371655649416643768760270362731887714054341637701632, 1532495540865888858358347027150309183618739122183602176), (281474976710656, 383123885216472214589586756787577295904684780545900608, 3064991081731777716716694054300618367237478244367204352), (2533274790395904, 3448114966948249931306280811088195663142163024913104896, 6129982163463555433433388108601236734474956488734408704), (5910974510923776, 8045601589545916506381321892539123213998380391463911424, 12259964326927110866866776217202473468949912977468817408), (9288674231451648, 12643088212143583081456362973990050764854597758014717952, 24519928653854221733733552434404946937899825954937634816), (18295873486192640, 24519928653854221733733552434404946937899825954937634816, 49039857307708443467467104868809893875799651909875269632), (36028797018963968, 49039857307708443467467104868809893875799651909875277824, 98079714615416886934934209737619787751599303819750539264), (108086391056891904, 147119571923125330402401314606429681627398955729625808896, 196159429230833773869868419475239575503198607639501078528), (36028797018963968, 49039857307708443467467104868809893875799651909875269696, 392318858461667547739736838950479151006397215279002157056), (324259173170675712, 441358715769375991207203943819289044882196867188877426688, 784637716923335095479473677900958302012794430558004314112), (756604737398243328, 1029837003461877312816809202245007771391792690107380662272, 1569275433846670190958947355801916604025588861116008628224), (1188950301625810944, 1618315291154378634426414460670726497901388513025883897856, 3138550867693340381917894711603833208051177722232017256448), (4611686018427387903, 3138550867693340381917894711603833208051177722232017256448, 4096)]
set_option maxHeartbeats 8000000 in
set_option maxRecDepth 100000 in
theorem RT_arg_f (ow pe ro se re : ByteArray) (st gt pv : Nat) (kept : List Sk.KeptD) (used ks : List ByteArray) (KP : Option Addr) (kn kc : Nat) (U : Option Addr) (un uc : Nat) (A : Option Addr) (n cp : Nat) (mo : Int) (a b c : Nat) (W : World)
    (hK : Kd.C Sk.kK W KP kn kept) (hkc : kn ≤ kc) (hU : Kd.string.C W U un used) (huc : un ≤ uc) (hA : Kd.string.C W A n ks) (hc : n ≤ cp)
    (hs : rightS ⟨ow, pe, ro, se, re, st, gt, pv, kept.take 22, used.take 42⟩ = false) (hf : rightF (keyF a b c (ks.take 34)) = true)  :
    Calls Try.prog 4 #[.agg #[.string ow, .string pe, .string ro, .string se, .string re, .int .u64 (st : Int), .int .u64 (gt : Int), .int .u64 (pv : Int), .slice KP kn kc, .slice U un uc], .int .i64 mo, .int .u64 (a : Int), .int .u64 (b : Int), .int .u64 (c : Int), .slice A n cp] W fun e W' => e = .returned (.bool true) ∧ Below W.heap.size W W' := by
  have hK' := take_G (k := 22) hK
  have hU' := take_G (k := 42) hU
  have hA' := take_G (k := 34) hA
  have HMK := Lib.hid (min_len (k := 22) hK.1)
  have HMU := Lib.hid (min_len (k := 42) hU.1)
  have hkl : (kept.take 22).length ≤ kc := by rw [List.length_take]; have := hK.1; omega
  have hul : (used.take 42).length ≤ uc := by rw [List.length_take]; have := hU.1; omega
  have hal : (ks.take 34).length ≤ cp := by rw [List.length_take]; have := hA.1; omega
  have hk1 : (kept.take 22).length ≤ 1000 := by rw [List.length_take]; omega
  have hu1 : (used.take 42).length ≤ 1000000 := by rw [List.length_take]; omega
  have ha1 : (ks.take 34).length ≤ 1000000 := by rw [List.length_take]; omega
  have hfew := few14 A n cp W hc
  have HF := Lib.hid (fun w1 => up_same (few14 A n cp w1 hc))
  rw [show min n 34 = (ks.take 34).length by rw [List.length_take]; have := hA.1; omega] at HF
  have HRS := Lib.hid (fun w1 (hg : Below W.heap.size W w1) => show Calls Try.prog 19 #[.agg #[.string ow, .string pe, .string ro, .string se, .string re, .int .u64 (st : Int), .int .u64 (gt : Int), .int .u64 (pv : Int), .slice KP (kept.take 22).length kc, .slice U (used.take 42).length uc]] w1 (fun e w' => e = .returned (.bool false) ∧ Below w1.heap.size w1 w') from hs ▸ RSRight_any ⟨ow, pe, ro, se, re, st, gt, pv, kept.take 22, used.take 42⟩ KP kc U uc w1 (Kd.C_below hK' hg) hkl hk1 (Kd.C_below hU' hg) hul hu1)
  have HAl := Lib.hid (fun w1 => alive14 w1)
  have HT := Lib.hid (fun w1 (hg : Below W.heap.size W w1) => show Calls Try.prog 16 #[.agg #[.string ow, .string pe, .string ro, .string se, .string re, .int .u64 (st : Int), .int .u64 (gt : Int), .int .u64 (pv : Int), .slice KP (kept.take 22).length kc, .slice U (used.take 42).length uc], .int .i64 mo] w1 (fun e w' => e = .returned (.tuple #[.agg #[.string ⟨#[]⟩, .string ⟨#[]⟩, .string ⟨#[]⟩, .string ⟨#[]⟩, .string ⟨#[]⟩, .int .u64 0, .int .u64 0, .int .u64 0, .slice none 0 0, .slice none 0 0], .slice none 0 0, .int .i64 1]) ∧ Below w1.heap.size w1 w') from Take_arg ⟨ow, pe, ro, se, re, st, gt, pv, kept.take 22, used.take 42⟩ KP kc U uc w1 (Kd.C_below hK' hg) hkl (Kd.C_below hU' hg) hul hu1 mo hs)
  have HFr := Lib.hid (fun w1 (hg : Below W.heap.size W w1) => RvFrame_yes a b c (ks.take 34) A cp w1 (Kd.C_below hA' hg) hal ha1 hf)
  have HSm := Lib.hid (fun w1 (hg : Below W.heap.size W w1) => show Calls Try.prog 11 #[.agg #[.int .i64 2, .int .u64 (a : Int), .int .u64 (b : Int), .int .u64 (c : Int), .string ⟨#[]⟩, .string ⟨#[]⟩, .int .u64 0, .int .u64 0, .string ⟨#[]⟩, .int .u64 0, .int .u64 0, .string ⟨#[]⟩, .slice A (ks.take 34).length cp], .agg #[.int .i64 2, .int .u64 (a : Int), .int .u64 (b : Int), .int .u64 (c : Int), .string ⟨#[]⟩, .string ⟨#[]⟩, .int .u64 0, .int .u64 0, .string ⟨#[]⟩, .int .u64 0, .int .u64 0, .string ⟨#[]⟩, .slice A (ks.take 34).length cp]] w1 (fun e w' => e = .returned (.bool true) ∧ Below w1.heap.size w1 w') from RSame_self (keyF a b c (ks.take 34)) A cp w1 (Kd.C_below hA' hg) hal ha1)
  have HRF := Lib.hid (fun w1 (hg : Below W.heap.size W w1) => show Calls Try.prog 9 #[.agg #[.int .i64 2, .int .u64 (a : Int), .int .u64 (b : Int), .int .u64 (c : Int), .string ⟨#[]⟩, .string ⟨#[]⟩, .int .u64 0, .int .u64 0, .string ⟨#[]⟩, .int .u64 0, .int .u64 0, .string ⟨#[]⟩, .slice A (ks.take 34).length cp]] w1 (fun e w' => e = .returned (.bool true) ∧ Below w1.heap.size w1 w') from hf ▸ RRight_fr (keyF a b c (ks.take 34)) A cp w1 (Kd.C_below hA' hg) hal ha1)
  clear hs hf hK hkc hU huc hA hc hK' hU' hA' hk1 hu1 ha1 hfew
  have j1 : (((kept.take 22).length : Nat) : Int) ≤ (kc : Int) := by omega
  have j2 : (((used.take 42).length : Nat) : Int) ≤ (uc : Int) := by omega
  generalize hk2 : (kept.take 22).length = k2 at *
  generalize hu2 : (used.take 42).length = u2 at *
  generalize hm2' : (ks.take 34).length = m at *
  have HU2 := Lib.hid hu2
  clear hk2 hu2 hm2' hkl hal
  have j3 : (0 : Int) ≤ (k2 : Int) := by omega
  have j4 : (0 : Int) ≤ (u2 : Int) := by omega
  have HO := (Own.start W).alloc' (.cells #[.string ow, .string pe, .string ro, .string se, .string re, .int .u64 (st : Int), .int .u64 (gt : Int), .int .u64 (pv : Int), .slice KP kn kc, .slice U un uc] 36) rfl
  go_enter Try.func4, Try.ntmps4
  go_wp2_with fail
  refine bstart (fun _ => W.heap.size) (n := 21) (ds := [17, 19]) #[false, false, false, false, false, false, false, false, false, false, false, false, false, false, false, false, false, false, false, false, false] (by kernel_rfl) rfl rfl HO.below.size (fun HBS => ?_)
  refine bseqS (n := 4) s1RT 0 131071 [1, 5, 133, 645, 17029, 17031, 17039, 17055, 17087, 17151, 17407, 18431, 20479, 24575, 32767, 98303, 131071] (by kernel_rfl) (.inl rfl) [(0, true, some 21), (2, true, some 23), (7, true, some 28), (9, true, some 30), (14, true, some 35), (1, false, some 22), (3, false, some 24), (4, true, some 25), (5, true, some 26), (6, true, some 27), (8, false, some 29), (10, false, some 31), (11, true, some 32), (12, true, some 33), (13, true, some 34), (16, true, some 37), (15, false, some 36)] #[true, true, true, true, true, true, true, true, true, true, true, true, true, true, true, true, true, false, false, false, false] HBS (by kernel_rfl) (by kernel_rfl) (by kernel_rfl) (by kernel_rfl) rfl (fun _ _ _ _ _ h => h) ?_
  iterate 5 (refine sP (v := ?_) (a' := ?_) rfl rfl (by rfl) ?_ ?_ ?_; rotate_left 2; (· intro w'; go_simp; with_reducible rfl); (· simp only [Act.put, List.setIfInBounds_toArray, List.set_cons_zero, List.set_cons_succ, kw64, kw32]; rfl))
  iterate 2 (refine sL (v := ?_) (a' := ?_) rfl rfl (by rfl) ?_ ?_ ?_; rotate_left 2; (· intro w1 hg; have c9 := (HO.up hg).cell 0 rfl; go_simp; with_reducible rfl); (· simp only [Act.put, List.setIfInBounds_toArray, List.set_cons_zero, List.set_cons_succ, kw64, kw32]; rfl))
  (refine sP (v := ?_) (a' := ?_) rfl rfl (by rfl) ?_ ?_ ?_; rotate_left 2; (· intro w'; go_simp; with_reducible rfl); (· simp only [Act.put, List.setIfInBounds_toArray, List.set_cons_zero, List.set_cons_succ, kw64, kw32]; rfl))
  (refine sP (v := .int .i64 (k2 : Int)) (a' := ?_) rfl rfl (by rfl) ?_ ?_ ?_; rotate_left 1; (· intro w'; go_simp; exact HMK.out); (· simp only [Act.put, List.setIfInBounds_toArray, List.set_cons_zero, List.set_cons_succ, kw64, kw32]; rfl))
  (refine sP (v := ?_) (a' := ?_) rfl rfl (by rfl) ?_ ?_ ?_; rotate_left 2; (· intro w'; go_simp; with_reducible rfl); (· simp only [Act.put, List.setIfInBounds_toArray, List.set_cons_zero, List.set_cons_succ, kw64, kw32]; rfl))
  iterate 2 (refine sL (v := ?_) (a' := ?_) rfl rfl (by rfl) ?_ ?_ ?_; rotate_left 2; (· intro w1 hg; have c9 := (HO.up hg).cell 0 rfl; go_simp; with_reducible rfl); (· simp only [Act.put, List.setIfInBounds_toArray, List.set_cons_zero, List.set_cons_succ, kw64, kw32]; rfl))
  (refine sP (v := ?_) (a' := ?_) rfl rfl (by rfl) ?_ ?_ ?_; rotate_left 2; (· intro w'; go_simp; with_reducible rfl); (· simp only [Act.put, List.setIfInBounds_toArray, List.set_cons_zero, List.set_cons_succ, kw64, kw32]; rfl))
  (refine sP (v := .int .i64 (u2 : Int)) (a' := ?_) rfl rfl (by rfl) ?_ ?_ ?_; rotate_left 1; (· intro w'; go_simp; exact HMU.out); (· simp only [Act.put, List.setIfInBounds_toArray, List.set_cons_zero, List.set_cons_succ, kw64, kw32]; rfl))
  iterate 2 (refine sP (v := ?_) (a' := ?_) rfl rfl (by rfl) ?_ ?_ ?_; rotate_left 2; (· intro w'; go_simp; with_reducible rfl); (· simp only [Act.put, List.setIfInBounds_toArray, List.set_cons_zero, List.set_cons_succ, kw64, kw32]; rfl))
  (refine sC (v := ?_) (a' := ?_) Try.func15 rfl rfl (by rfl) rfl (by kernel_rfl) rfl (by rfl) ?_ ?_ ?_; rotate_left 2; (· intro w1 hg; exact HF.out w1); (· simp only [Act.put, List.setIfInBounds_toArray, List.set_cons_zero, List.set_cons_succ, kw64, kw32]; rfl))
  refine bone (i := 17) (N := none) #[true, true, true, true, true, true, true, true, true, true, true, true, true, true, true, true, true, true, false, false, false] rfl rfl (by kernel_rfl) HBS (fun w1 hg K hK => ?_)
  rw [if_pos (by rfl)]
  replace HO := HO.up hg
  have c0 := HO.cell 0 rfl 8
  have f0 := HO.frozen 0 rfl 8
  go_simp
  refine hK _ _ (in_ds (by decide) (bel_set (by have := HO.ge 0 rfl; exact this))) (fun HBS => ?_)
  replace HO := HO.set' 0 rfl 8 (.slice KP k2 kc) (L' := [(W.heap.size, .cells #[.string ow, .string pe, .string ro, .string se, .string re, .int .u64 (st : Int), .int .u64 (gt : Int), .int .u64 (pv : Int), .slice KP k2 kc, .slice U un uc] 36 (0, 0))]) rfl
  clear c0 f0 hg K hK
  revert HO HBS
  generalize World.setCell w1 _ _ = wb
  intro HBS HO
  refine bseqS (n := 2) s1RT 262143 524287 [524287] (by kernel_rfl) (.inl rfl) [(18, true, some 38)] #[true, true, true, true, true, true, true, true, true, true, true, true, true, true, true, true, true, true, true, false, false] HBS (by kernel_rfl) (by kernel_rfl) (by kernel_rfl) (by kernel_rfl) rfl (fun _ _ _ _ _ h => h) ?_
  (refine sP (v := ?_) (a' := ?_) rfl rfl (by rfl) ?_ ?_ ?_; rotate_left 2; (· intro w'; go_simp; with_reducible rfl); (· simp only [Act.put, List.setIfInBounds_toArray, List.set_cons_zero, List.set_cons_succ, kw64, kw32]; rfl))
  refine bone (i := 19) (N := none) #[true, true, true, true, true, true, true, true, true, true, true, true, true, true, true, true, true, true, true, true, false] rfl rfl (by kernel_rfl) HBS (fun w1 hg K hK => ?_)
  rw [if_pos (by rfl)]
  replace HO := HO.up hg
  have c0 := HO.cell 0 rfl 9
  have f0 := HO.frozen 0 rfl 9
  go_simp
  refine hK _ _ (in_ds (by decide) (bel_set (by have := HO.ge 0 rfl; exact this))) (fun HBS => ?_)
  replace HO := HO.set' 0 rfl 9 (.slice U u2 uc) (L' := [(W.heap.size, .cells #[.string ow, .string pe, .string ro, .string se, .string re, .int .u64 (st : Int), .int .u64 (gt : Int), .int .u64 (pv : Int), .slice KP k2 kc, .slice U u2 uc] 36 (0, 0))]) rfl
  clear c0 f0 hg K hK
  revert HO HBS
  generalize World.setCell w1 _ _ = wb
  intro HBS HO
  refine bseqS (n := 0) s1RT 1048575 2097151 [2097151] (by kernel_rfl) (.inl rfl) [(20, true, some 5)] #[true, true, true, true, true, true, true, true, true, true, true, true, true, true, true, true, true, true, true, true, true] HBS (by kernel_rfl) (by kernel_rfl) (by kernel_rfl) (by kernel_rfl) rfl (fun _ _ _ _ _ h => h) ?_
  (refine sP (v := ?_) (a' := ?_) rfl rfl (by rfl) ?_ ?_ ?_; rotate_left 2; (· intro w'; go_simp; with_reducible rfl); (· simp only [Act.put, List.setIfInBounds_toArray, List.set_cons_zero, List.set_cons_succ, kw64, kw32]; rfl))
  refine bdone (by kernel_rfl) (fun w1 hg => ?_)
  replace HO := HO.up hg
  clear hg HF HMK HMU HBS
  go_wp2_with (refine wpList_load_row rfl 36 (.tmp 6) rfl W.heap.size (by rfl) _ #[.string ow, .string pe, .string ro, .string se, .string re, .int .u64 (st : Int), .int .u64 (gt : Int), .int .u64 (pv : Int), .slice KP k2 kc, .slice U u2 uc] _ _ (HO.blk 0 rfl) Try.underlying36 rfl (by kernel_rfl) ?_)
  refine (HT.out _ HO.below).mono ?_
  rintro e w2 ⟨rfl, hb⟩
  replace HO := HO.up hb
  clear hb HT
  replace HO := HO.alloc' (.cells #[.string ⟨#[]⟩, .string ⟨#[]⟩, .string ⟨#[]⟩, .string ⟨#[]⟩, .string ⟨#[]⟩, .int .u64 0, .int .u64 0, .int .u64 0, .slice none 0 0, .slice none 0 0] 36) rfl
  go_wp2_with (refine wpList_store_row rfl 36 (.tmp 13) (.tmp 43) rfl w2.heap.size #[.string ⟨#[]⟩, .string ⟨#[]⟩, .string ⟨#[]⟩, .string ⟨#[]⟩, .string ⟨#[]⟩, .int .u64 0, .int .u64 0, .int .u64 0, .slice none 0 0, .slice none 0 0] (by rfl) (by rfl) _ _ (HO.blk 0 rfl) (by kernel_rfl) rfl (sesC_one _ _ _ _ _ 0 0 0 _ _ _ _ _ _) ?_)
  replace HO := HO.setRow 0 rfl #[.string ⟨#[]⟩, .string ⟨#[]⟩, .string ⟨#[]⟩, .string ⟨#[]⟩, .string ⟨#[]⟩, .int .u64 0, .int .u64 0, .int .u64 0, .slice none 0 0, .slice none 0 0] (L' := [(w2.heap.size, .cells #[.string ⟨#[]⟩, .string ⟨#[]⟩, .string ⟨#[]⟩, .string ⟨#[]⟩, .string ⟨#[]⟩, .int .u64 0, .int .u64 0, .int .u64 0, .slice none 0 0, .slice none 0 0] 36 (0, 0)), (W.heap.size, .cells #[.string ow, .string pe, .string ro, .string se, .string re, .int .u64 (st : Int), .int .u64 (gt : Int), .int .u64 (pv : Int), .slice KP k2 kc, .slice U u2 uc] 36 (0, 0))]) rfl
  refine (HFr.out _ HO.below).mono ?_
  rintro e w3 ⟨rfl, hb⟩
  replace HO := HO.up hb
  clear hb HFr
  replace HO := HO.alloc' (.cells #[.int .i64 0, .int .u64 0, .int .u64 0, .int .u64 0, .string ⟨#[]⟩, .string ⟨#[]⟩, .int .u64 0, .int .u64 0, .string ⟨#[]⟩, .int .u64 0, .int .u64 0, .string ⟨#[]⟩, .slice none 0 0] 25) rfl
  go_wp2_with (refine wpList_store_row rfl 25 (.tmp 16) (.tmp 52) rfl w3.heap.size #[.int .i64 2, .int .u64 (a : Int), .int .u64 (b : Int), .int .u64 (c : Int), .string ⟨#[]⟩, .string ⟨#[]⟩, .int .u64 0, .int .u64 0, .string ⟨#[]⟩, .int .u64 0, .int .u64 0, .string ⟨#[]⟩, .slice A m cp] (by rfl) (by rfl) _ _ (HO.blk 0 rfl) (by kernel_rfl) rfl (frC_one _ _ _ _ _ _ _ _ _ _ _ _ _ _ _) ?_)
  replace HO := HO.setRow 0 rfl #[.int .i64 2, .int .u64 (a : Int), .int .u64 (b : Int), .int .u64 (c : Int), .string ⟨#[]⟩, .string ⟨#[]⟩, .int .u64 0, .int .u64 0, .string ⟨#[]⟩, .int .u64 0, .int .u64 0, .string ⟨#[]⟩, .slice A m cp] (L' := [(w3.heap.size, .cells #[.int .i64 2, .int .u64 (a : Int), .int .u64 (b : Int), .int .u64 (c : Int), .string ⟨#[]⟩, .string ⟨#[]⟩, .int .u64 0, .int .u64 0, .string ⟨#[]⟩, .int .u64 0, .int .u64 0, .string ⟨#[]⟩, .slice A m cp] 25 (0, 0)), (w2.heap.size, .cells #[.string ⟨#[]⟩, .string ⟨#[]⟩, .string ⟨#[]⟩, .string ⟨#[]⟩, .string ⟨#[]⟩, .int .u64 0, .int .u64 0, .int .u64 0, .slice none 0 0, .slice none 0 0] 36 (0, 0)), (W.heap.size, .cells #[.string ow, .string pe, .string ro, .string se, .string re, .int .u64 (st : Int), .int .u64 (gt : Int), .int .u64 (pv : Int), .slice KP k2 kc, .slice U u2 uc] 36 (0, 0))]) rfl
  replace HO := HO.alloc' (.cells #[.int .i64 2, .int .u64 (a : Int), .int .u64 (b : Int), .int .u64 (c : Int), .string ⟨#[]⟩, .string ⟨#[]⟩, .int .u64 0, .int .u64 0, .string ⟨#[]⟩, .int .u64 0, .int .u64 0, .string ⟨#[]⟩, .slice A m cp] 25) (show _ = w3.heap.size + 1 by simp [size_setRow])
  refine (HRF.out _ HO.below).mono ?_
  rintro e w4 ⟨rfl, hb⟩
  replace HO := HO.up hb
  clear hb HRF
  have c0 := HO.cell 0 rfl
  have c1 := HO.cell 1 rfl
  go_wp2_with fail
  refine (HSm.out _ HO.below).mono ?_
  rintro e w5 ⟨rfl, hb⟩
  replace HO := HO.up hb
  clear hb HSm c0 c1
  go_wp2_with fail
  refine (HAl.out _).mono ?_
  rintro e w6 ⟨rfl, hb⟩
  replace HO := HO.up hb
  clear hb HAl
  go_wp2_with (refine wpList_load_row rfl 36 (.tmp 6) rfl W.heap.size (by rfl) _ #[.string ow, .string pe, .string ro, .string se, .string re, .int .u64 (st : Int), .int .u64 (gt : Int), .int .u64 (pv : Int), .slice KP k2 kc, .slice U u2 uc] _ _ (HO.blk 3 rfl) Try.underlying36 rfl (by kernel_rfl) ?_)
  refine (HRS.out _ HO.below).mono ?_
  rintro e w7 ⟨rfl, hb⟩
  replace HO := HO.up hb
  clear hb HRS
  have c2 := HO.cell 2 rfl
  go_wp2_with fail
  refine (Same13_zeroR _).mono ?_
  rintro e w8 ⟨rfl, hb⟩
  replace HO := HO.up hb
  go_wp2
  go_ret
  exact ⟨rfl, HO.below⟩
set_option maxHeartbeats 8000000 in
set_option maxRecDepth 100000 in
theorem RT_arg_n (ow pe ro se re : ByteArray) (st gt pv : Nat) (kept : List Sk.KeptD) (used ks : List ByteArray) (KP : Option Addr) (kn kc : Nat) (U : Option Addr) (un uc : Nat) (A : Option Addr) (n cp : Nat) (mo : Int) (a b c : Nat) (W : World)
    (hK : Kd.C Sk.kK W KP kn kept) (hkc : kn ≤ kc) (hU : Kd.string.C W U un used) (huc : un ≤ uc) (hA : Kd.string.C W A n ks) (hc : n ≤ cp)
    (hs : rightS ⟨ow, pe, ro, se, re, st, gt, pv, kept.take 22, used.take 42⟩ = false) (hf : rightF (keyF a b c (ks.take 34)) = false)  :
    Calls Try.prog 4 #[.agg #[.string ow, .string pe, .string ro, .string se, .string re, .int .u64 (st : Int), .int .u64 (gt : Int), .int .u64 (pv : Int), .slice KP kn kc, .slice U un uc], .int .i64 mo, .int .u64 (a : Int), .int .u64 (b : Int), .int .u64 (c : Int), .slice A n cp] W fun e W' => e = .returned (.bool true) ∧ Below W.heap.size W W' := by
  have hK' := take_G (k := 22) hK
  have hU' := take_G (k := 42) hU
  have hA' := take_G (k := 34) hA
  have HMK := Lib.hid (min_len (k := 22) hK.1)
  have HMU := Lib.hid (min_len (k := 42) hU.1)
  have hkl : (kept.take 22).length ≤ kc := by rw [List.length_take]; have := hK.1; omega
  have hul : (used.take 42).length ≤ uc := by rw [List.length_take]; have := hU.1; omega
  have hal : (ks.take 34).length ≤ cp := by rw [List.length_take]; have := hA.1; omega
  have hk1 : (kept.take 22).length ≤ 1000 := by rw [List.length_take]; omega
  have hu1 : (used.take 42).length ≤ 1000000 := by rw [List.length_take]; omega
  have ha1 : (ks.take 34).length ≤ 1000000 := by rw [List.length_take]; omega
  have hfew := few14 A n cp W hc
  have HF := Lib.hid (fun w1 => up_same (few14 A n cp w1 hc))
  rw [show min n 34 = (ks.take 34).length by rw [List.length_take]; have := hA.1; omega] at HF
  have HRS := Lib.hid (fun w1 (hg : Below W.heap.size W w1) => show Calls Try.prog 19 #[.agg #[.string ow, .string pe, .string ro, .string se, .string re, .int .u64 (st : Int), .int .u64 (gt : Int), .int .u64 (pv : Int), .slice KP (kept.take 22).length kc, .slice U (used.take 42).length uc]] w1 (fun e w' => e = .returned (.bool false) ∧ Below w1.heap.size w1 w') from hs ▸ RSRight_any ⟨ow, pe, ro, se, re, st, gt, pv, kept.take 22, used.take 42⟩ KP kc U uc w1 (Kd.C_below hK' hg) hkl hk1 (Kd.C_below hU' hg) hul hu1)
  have HAl := Lib.hid (fun w1 => alive14 w1)
  have HT := Lib.hid (fun w1 (hg : Below W.heap.size W w1) => show Calls Try.prog 16 #[.agg #[.string ow, .string pe, .string ro, .string se, .string re, .int .u64 (st : Int), .int .u64 (gt : Int), .int .u64 (pv : Int), .slice KP (kept.take 22).length kc, .slice U (used.take 42).length uc], .int .i64 mo] w1 (fun e w' => e = .returned (.tuple #[.agg #[.string ⟨#[]⟩, .string ⟨#[]⟩, .string ⟨#[]⟩, .string ⟨#[]⟩, .string ⟨#[]⟩, .int .u64 0, .int .u64 0, .int .u64 0, .slice none 0 0, .slice none 0 0], .slice none 0 0, .int .i64 1]) ∧ Below w1.heap.size w1 w') from Take_arg ⟨ow, pe, ro, se, re, st, gt, pv, kept.take 22, used.take 42⟩ KP kc U uc w1 (Kd.C_below hK' hg) hkl (Kd.C_below hU' hg) hul hu1 mo hs)
  have HFr := Lib.hid (fun w1 (hg : Below W.heap.size W w1) => RvFrame_no a b c (ks.take 34) A cp w1 (Kd.C_below hA' hg) hal ha1 hf)
  have HSm := Lib.hid (fun w1 (hg : Below W.heap.size W w1) => show Calls Try.prog 11 #[.agg #[.int .i64 0, .int .u64 0, .int .u64 0, .int .u64 0, .string ⟨#[]⟩, .string ⟨#[]⟩, .int .u64 0, .int .u64 0, .string ⟨#[]⟩, .int .u64 0, .int .u64 0, .string ⟨#[]⟩, .slice none 0 0], .agg #[.int .i64 0, .int .u64 0, .int .u64 0, .int .u64 0, .string ⟨#[]⟩, .string ⟨#[]⟩, .int .u64 0, .int .u64 0, .string ⟨#[]⟩, .int .u64 0, .int .u64 0, .string ⟨#[]⟩, .slice none 0 0]] w1 (fun e w' => e = .returned (.bool true) ∧ Below w1.heap.size w1 w') from RSame_self (⟨0, 0, 0, 0, ⟨#[]⟩, ⟨#[]⟩, 0, 0, ⟨#[]⟩, 0, 0, ⟨#[]⟩, []⟩ : FrD) none 0 w1 (C_zero _ _ _) (Nat.le_refl 0) (by decide))
  have HRF := Lib.hid (fun w1 (hg : Below W.heap.size W w1) => show Calls Try.prog 9 #[.agg #[.int .i64 2, .int .u64 (a : Int), .int .u64 (b : Int), .int .u64 (c : Int), .string ⟨#[]⟩, .string ⟨#[]⟩, .int .u64 0, .int .u64 0, .string ⟨#[]⟩, .int .u64 0, .int .u64 0, .string ⟨#[]⟩, .slice A (ks.take 34).length cp]] w1 (fun e w' => e = .returned (.bool false) ∧ Below w1.heap.size w1 w') from hf ▸ RRight_fr (keyF a b c (ks.take 34)) A cp w1 (Kd.C_below hA' hg) hal ha1)
  clear hs hf hK hkc hU huc hA hc hK' hU' hA' hk1 hu1 ha1 hfew
  have j1 : (((kept.take 22).length : Nat) : Int) ≤ (kc : Int) := by omega
  have j2 : (((used.take 42).length : Nat) : Int) ≤ (uc : Int) := by omega
  generalize hk2 : (kept.take 22).length = k2 at *
  generalize hu2 : (used.take 42).length = u2 at *
  generalize hm2' : (ks.take 34).length = m at *
  have HU2 := Lib.hid hu2
  clear hk2 hu2 hm2' hkl hal
  have j3 : (0 : Int) ≤ (k2 : Int) := by omega
  have j4 : (0 : Int) ≤ (u2 : Int) := by omega
  have HO := (Own.start W).alloc' (.cells #[.string ow, .string pe, .string ro, .string se, .string re, .int .u64 (st : Int), .int .u64 (gt : Int), .int .u64 (pv : Int), .slice KP kn kc, .slice U un uc] 36) rfl
  go_enter Try.func4, Try.ntmps4
  go_wp2_with fail
  refine bstart (fun _ => W.heap.size) (n := 21) (ds := [17, 19]) #[false, false, false, false, false, false, false, false, false, false, false, false, false, false, false, false, false, false, false, false, false] (by kernel_rfl) rfl rfl HO.below.size (fun HBS => ?_)
  refine bseqS (n := 4) s1RT 0 131071 [1, 5, 133, 645, 17029, 17031, 17039, 17055, 17087, 17151, 17407, 18431, 20479, 24575, 32767, 98303, 131071] (by kernel_rfl) (.inl rfl) [(0, true, some 21), (2, true, some 23), (7, true, some 28), (9, true, some 30), (14, true, some 35), (1, false, some 22), (3, false, some 24), (4, true, some 25), (5, true, some 26), (6, true, some 27), (8, false, some 29), (10, false, some 31), (11, true, some 32), (12, true, some 33), (13, true, some 34), (16, true, some 37), (15, false, some 36)] #[true, true, true, true, true, true, true, true, true, true, true, true, true, true, true, true, true, false, false, false, false] HBS (by kernel_rfl) (by kernel_rfl) (by kernel_rfl) (by kernel_rfl) rfl (fun _ _ _ _ _ h => h) ?_
  iterate 5 (refine sP (v := ?_) (a' := ?_) rfl rfl (by rfl) ?_ ?_ ?_; rotate_left 2; (· intro w'; go_simp; with_reducible rfl); (· simp only [Act.put, List.setIfInBounds_toArray, List.set_cons_zero, List.set_cons_succ, kw64, kw32]; rfl))
  iterate 2 (refine sL (v := ?_) (a' := ?_) rfl rfl (by rfl) ?_ ?_ ?_; rotate_left 2; (· intro w1 hg; have c9 := (HO.up hg).cell 0 rfl; go_simp; with_reducible rfl); (· simp only [Act.put, List.setIfInBounds_toArray, List.set_cons_zero, List.set_cons_succ, kw64, kw32]; rfl))
  (refine sP (v := ?_) (a' := ?_) rfl rfl (by rfl) ?_ ?_ ?_; rotate_left 2; (· intro w'; go_simp; with_reducible rfl); (· simp only [Act.put, List.setIfInBounds_toArray, List.set_cons_zero, List.set_cons_succ, kw64, kw32]; rfl))
  (refine sP (v := .int .i64 (k2 : Int)) (a' := ?_) rfl rfl (by rfl) ?_ ?_ ?_; rotate_left 1; (· intro w'; go_simp; exact HMK.out); (· simp only [Act.put, List.setIfInBounds_toArray, List.set_cons_zero, List.set_cons_succ, kw64, kw32]; rfl))
  (refine sP (v := ?_) (a' := ?_) rfl rfl (by rfl) ?_ ?_ ?_; rotate_left 2; (· intro w'; go_simp; with_reducible rfl); (· simp only [Act.put, List.setIfInBounds_toArray, List.set_cons_zero, List.set_cons_succ, kw64, kw32]; rfl))
  iterate 2 (refine sL (v := ?_) (a' := ?_) rfl rfl (by rfl) ?_ ?_ ?_; rotate_left 2; (· intro w1 hg; have c9 := (HO.up hg).cell 0 rfl; go_simp; with_reducible rfl); (· simp only [Act.put, List.setIfInBounds_toArray, List.set_cons_zero, List.set_cons_succ, kw64, kw32]; rfl))
  (refine sP (v := ?_) (a' := ?_) rfl rfl (by rfl) ?_ ?_ ?_; rotate_left 2; (· intro w'; go_simp; with_reducible rfl); (· simp only [Act.put, List.setIfInBounds_toArray, List.set_cons_zero, List.set_cons_succ, kw64, kw32]; rfl))
  (refine sP (v := .int .i64 (u2 : Int)) (a' := ?_) rfl rfl (by rfl) ?_ ?_ ?_; rotate_left 1; (· intro w'; go_simp; exact HMU.out); (· simp only [Act.put, List.setIfInBounds_toArray, List.set_cons_zero, List.set_cons_succ, kw64, kw32]; rfl))
  iterate 2 (refine sP (v := ?_) (a' := ?_) rfl rfl (by rfl) ?_ ?_ ?_; rotate_left 2; (· intro w'; go_simp; with_reducible rfl); (· simp only [Act.put, List.setIfInBounds_toArray, List.set_cons_zero, List.set_cons_succ, kw64, kw32]; rfl))
  (refine sC (v := ?_) (a' := ?_) Try.func15 rfl rfl (by rfl) rfl (by kernel_rfl) rfl (by rfl) ?_ ?_ ?_; rotate_left 2; (· intro w1 hg; exact HF.out w1); (· simp only [Act.put, List.setIfInBounds_toArray, List.set_cons_zero, List.set_cons_succ, kw64, kw32]; rfl))
  refine bone (i := 17) (N := none) #[true, true, true, true, true, true, true, true, true, true, true, true, true, true, true, true, true, true, false, false, false] rfl rfl (by kernel_rfl) HBS (fun w1 hg K hK => ?_)
  rw [if_pos (by rfl)]
  replace HO := HO.up hg
  have c0 := HO.cell 0 rfl 8
  have f0 := HO.frozen 0 rfl 8
  go_simp
  refine hK _ _ (in_ds (by decide) (bel_set (by have := HO.ge 0 rfl; exact this))) (fun HBS => ?_)
  replace HO := HO.set' 0 rfl 8 (.slice KP k2 kc) (L' := [(W.heap.size, .cells #[.string ow, .string pe, .string ro, .string se, .string re, .int .u64 (st : Int), .int .u64 (gt : Int), .int .u64 (pv : Int), .slice KP k2 kc, .slice U un uc] 36 (0, 0))]) rfl
  clear c0 f0 hg K hK
  revert HO HBS
  generalize World.setCell w1 _ _ = wb
  intro HBS HO
  refine bseqS (n := 2) s1RT 262143 524287 [524287] (by kernel_rfl) (.inl rfl) [(18, true, some 38)] #[true, true, true, true, true, true, true, true, true, true, true, true, true, true, true, true, true, true, true, false, false] HBS (by kernel_rfl) (by kernel_rfl) (by kernel_rfl) (by kernel_rfl) rfl (fun _ _ _ _ _ h => h) ?_
  (refine sP (v := ?_) (a' := ?_) rfl rfl (by rfl) ?_ ?_ ?_; rotate_left 2; (· intro w'; go_simp; with_reducible rfl); (· simp only [Act.put, List.setIfInBounds_toArray, List.set_cons_zero, List.set_cons_succ, kw64, kw32]; rfl))
  refine bone (i := 19) (N := none) #[true, true, true, true, true, true, true, true, true, true, true, true, true, true, true, true, true, true, true, true, false] rfl rfl (by kernel_rfl) HBS (fun w1 hg K hK => ?_)
  rw [if_pos (by rfl)]
  replace HO := HO.up hg
  have c0 := HO.cell 0 rfl 9
  have f0 := HO.frozen 0 rfl 9
  go_simp
  refine hK _ _ (in_ds (by decide) (bel_set (by have := HO.ge 0 rfl; exact this))) (fun HBS => ?_)
  replace HO := HO.set' 0 rfl 9 (.slice U u2 uc) (L' := [(W.heap.size, .cells #[.string ow, .string pe, .string ro, .string se, .string re, .int .u64 (st : Int), .int .u64 (gt : Int), .int .u64 (pv : Int), .slice KP k2 kc, .slice U u2 uc] 36 (0, 0))]) rfl
  clear c0 f0 hg K hK
  revert HO HBS
  generalize World.setCell w1 _ _ = wb
  intro HBS HO
  refine bseqS (n := 0) s1RT 1048575 2097151 [2097151] (by kernel_rfl) (.inl rfl) [(20, true, some 5)] #[true, true, true, true, true, true, true, true, true, true, true, true, true, true, true, true, true, true, true, true, true] HBS (by kernel_rfl) (by kernel_rfl) (by kernel_rfl) (by kernel_rfl) rfl (fun _ _ _ _ _ h => h) ?_
  (refine sP (v := ?_) (a' := ?_) rfl rfl (by rfl) ?_ ?_ ?_; rotate_left 2; (· intro w'; go_simp; with_reducible rfl); (· simp only [Act.put, List.setIfInBounds_toArray, List.set_cons_zero, List.set_cons_succ, kw64, kw32]; rfl))
  refine bdone (by kernel_rfl) (fun w1 hg => ?_)
  replace HO := HO.up hg
  clear hg HF HMK HMU HBS
  go_wp2_with (refine wpList_load_row rfl 36 (.tmp 6) rfl W.heap.size (by rfl) _ #[.string ow, .string pe, .string ro, .string se, .string re, .int .u64 (st : Int), .int .u64 (gt : Int), .int .u64 (pv : Int), .slice KP k2 kc, .slice U u2 uc] _ _ (HO.blk 0 rfl) Try.underlying36 rfl (by kernel_rfl) ?_)
  refine (HT.out _ HO.below).mono ?_
  rintro e w2 ⟨rfl, hb⟩
  replace HO := HO.up hb
  clear hb HT
  replace HO := HO.alloc' (.cells #[.string ⟨#[]⟩, .string ⟨#[]⟩, .string ⟨#[]⟩, .string ⟨#[]⟩, .string ⟨#[]⟩, .int .u64 0, .int .u64 0, .int .u64 0, .slice none 0 0, .slice none 0 0] 36) rfl
  go_wp2_with (refine wpList_store_row rfl 36 (.tmp 13) (.tmp 43) rfl w2.heap.size #[.string ⟨#[]⟩, .string ⟨#[]⟩, .string ⟨#[]⟩, .string ⟨#[]⟩, .string ⟨#[]⟩, .int .u64 0, .int .u64 0, .int .u64 0, .slice none 0 0, .slice none 0 0] (by rfl) (by rfl) _ _ (HO.blk 0 rfl) (by kernel_rfl) rfl (sesC_one _ _ _ _ _ 0 0 0 _ _ _ _ _ _) ?_)
  replace HO := HO.setRow 0 rfl #[.string ⟨#[]⟩, .string ⟨#[]⟩, .string ⟨#[]⟩, .string ⟨#[]⟩, .string ⟨#[]⟩, .int .u64 0, .int .u64 0, .int .u64 0, .slice none 0 0, .slice none 0 0] (L' := [(w2.heap.size, .cells #[.string ⟨#[]⟩, .string ⟨#[]⟩, .string ⟨#[]⟩, .string ⟨#[]⟩, .string ⟨#[]⟩, .int .u64 0, .int .u64 0, .int .u64 0, .slice none 0 0, .slice none 0 0] 36 (0, 0)), (W.heap.size, .cells #[.string ow, .string pe, .string ro, .string se, .string re, .int .u64 (st : Int), .int .u64 (gt : Int), .int .u64 (pv : Int), .slice KP k2 kc, .slice U u2 uc] 36 (0, 0))]) rfl
  refine (HFr.out _ HO.below).mono ?_
  rintro e w3 ⟨rfl, hb⟩
  replace HO := HO.up hb
  clear hb HFr
  replace HO := HO.alloc' (.cells #[.int .i64 0, .int .u64 0, .int .u64 0, .int .u64 0, .string ⟨#[]⟩, .string ⟨#[]⟩, .int .u64 0, .int .u64 0, .string ⟨#[]⟩, .int .u64 0, .int .u64 0, .string ⟨#[]⟩, .slice none 0 0] 25) rfl
  go_wp2_with (refine wpList_store_row rfl 25 (.tmp 16) (.tmp 52) rfl w3.heap.size #[.int .i64 0, .int .u64 0, .int .u64 0, .int .u64 0, .string ⟨#[]⟩, .string ⟨#[]⟩, .int .u64 0, .int .u64 0, .string ⟨#[]⟩, .int .u64 0, .int .u64 0, .string ⟨#[]⟩, .slice none 0 0] (by rfl) (by rfl) _ _ (HO.blk 0 rfl) (by kernel_rfl) rfl (frC_one _ _ _ _ _ _ _ _ _ _ _ _ _ _ _) ?_)
  replace HO := HO.setRow 0 rfl #[.int .i64 0, .int .u64 0, .int .u64 0, .int .u64 0, .string ⟨#[]⟩, .string ⟨#[]⟩, .int .u64 0, .int .u64 0, .string ⟨#[]⟩, .int .u64 0, .int .u64 0, .string ⟨#[]⟩, .slice none 0 0] (L' := [(w3.heap.size, .cells #[.int .i64 0, .int .u64 0, .int .u64 0, .int .u64 0, .string ⟨#[]⟩, .string ⟨#[]⟩, .int .u64 0, .int .u64 0, .string ⟨#[]⟩, .int .u64 0, .int .u64 0, .string ⟨#[]⟩, .slice none 0 0] 25 (0, 0)), (w2.heap.size, .cells #[.string ⟨#[]⟩, .string ⟨#[]⟩, .string ⟨#[]⟩, .string ⟨#[]⟩, .string ⟨#[]⟩, .int .u64 0, .int .u64 0, .int .u64 0, .slice none 0 0, .slice none 0 0] 36 (0, 0)), (W.heap.size, .cells #[.string ow, .string pe, .string ro, .string se, .string re, .int .u64 (st : Int), .int .u64 (gt : Int), .int .u64 (pv : Int), .slice KP k2 kc, .slice U u2 uc] 36 (0, 0))]) rfl
  replace HO := HO.alloc' (.cells #[.int .i64 2, .int .u64 (a : Int), .int .u64 (b : Int), .int .u64 (c : Int), .string ⟨#[]⟩, .string ⟨#[]⟩, .int .u64 0, .int .u64 0, .string ⟨#[]⟩, .int .u64 0, .int .u64 0, .string ⟨#[]⟩, .slice A m cp] 25) (show _ = w3.heap.size + 1 by simp [size_setRow])
  refine (HRF.out _ HO.below).mono ?_
  rintro e w4 ⟨rfl, hb⟩
  replace HO := HO.up hb
  clear hb HRF
  have c0 := HO.cell 0 rfl
  have c1 := HO.cell 1 rfl
  go_wp2_with fail
  refine (HSm.out _ HO.below).mono ?_
  rintro e w5 ⟨rfl, hb⟩
  replace HO := HO.up hb
  clear hb HSm c0 c1
  go_wp2_with fail
  refine (HAl.out _).mono ?_
  rintro e w6 ⟨rfl, hb⟩
  replace HO := HO.up hb
  clear hb HAl
  go_wp2_with (refine wpList_load_row rfl 36 (.tmp 6) rfl W.heap.size (by rfl) _ #[.string ow, .string pe, .string ro, .string se, .string re, .int .u64 (st : Int), .int .u64 (gt : Int), .int .u64 (pv : Int), .slice KP k2 kc, .slice U u2 uc] _ _ (HO.blk 3 rfl) Try.underlying36 rfl (by kernel_rfl) ?_)
  refine (HRS.out _ HO.below).mono ?_
  rintro e w7 ⟨rfl, hb⟩
  replace HO := HO.up hb
  clear hb HRS
  have c2 := HO.cell 2 rfl
  go_wp2_with fail
  refine (Same13_zeroR _).mono ?_
  rintro e w8 ⟨rfl, hb⟩
  replace HO := HO.up hb
  go_wp2
  go_ret
  exact ⟨rfl, HO.below⟩
set_option maxHeartbeats 8000000 in
set_option maxRecDepth 100000 in
theorem RT_lo_f (ow pe ro se re : ByteArray) (st gt pv : Nat) (kept : List Sk.KeptD) (used ks : List ByteArray) (KP : Option Addr) (kn kc : Nat) (U : Option Addr) (un uc : Nat) (A : Option Addr) (n cp : Nat) (mo : Int) (a b c : Nat) (W : World)
    (hK : Kd.C Sk.kK W KP kn kept) (hkc : kn ≤ kc) (hU : Kd.string.C W U un used) (huc : un ≤ uc) (hA : Kd.string.C W A n ks) (hc : n ≤ cp)
    (hs : rightS ⟨ow, pe, ro, se, re, st, gt, pv, kept.take 22, used.take 42⟩ = true) (hf : rightF (keyF a b c (ks.take 34)) = true) (hmo : mo < 0) :
    Calls Try.prog 4 #[.agg #[.string ow, .string pe, .string ro, .string se, .string re, .int .u64 (st : Int), .int .u64 (gt : Int), .int .u64 (pv : Int), .slice KP kn kc, .slice U un uc], .int .i64 mo, .int .u64 (a : Int), .int .u64 (b : Int), .int .u64 (c : Int), .slice A n cp] W fun e W' => e = .returned (.bool true) ∧ Below W.heap.size W W' := by
  have hK' := take_G (k := 22) hK
  have hU' := take_G (k := 42) hU
  have hA' := take_G (k := 34) hA
  have HMK := Lib.hid (min_len (k := 22) hK.1)
  have HMU := Lib.hid (min_len (k := 42) hU.1)
  have hkl : (kept.take 22).length ≤ kc := by rw [List.length_take]; have := hK.1; omega
  have hul : (used.take 42).length ≤ uc := by rw [List.length_take]; have := hU.1; omega
  have hal : (ks.take 34).length ≤ cp := by rw [List.length_take]; have := hA.1; omega
  have hk1 : (kept.take 22).length ≤ 1000 := by rw [List.length_take]; omega
  have hu1 : (used.take 42).length ≤ 1000000 := by rw [List.length_take]; omega
  have ha1 : (ks.take 34).length ≤ 1000000 := by rw [List.length_take]; omega
  have hfew := few14 A n cp W hc
  have HF := Lib.hid (fun w1 => up_same (few14 A n cp w1 hc))
  rw [show min n 34 = (ks.take 34).length by rw [List.length_take]; have := hA.1; omega] at HF
  have HRS := Lib.hid (fun w1 (hg : Below W.heap.size W w1) => show Calls Try.prog 19 #[.agg #[.string ow, .string pe, .string ro, .string se, .string re, .int .u64 (st : Int), .int .u64 (gt : Int), .int .u64 (pv : Int), .slice KP (kept.take 22).length kc, .slice U (used.take 42).length uc]] w1 (fun e w' => e = .returned (.bool true) ∧ Below w1.heap.size w1 w') from hs ▸ RSRight_any ⟨ow, pe, ro, se, re, st, gt, pv, kept.take 22, used.take 42⟩ KP kc U uc w1 (Kd.C_below hK' hg) hkl hk1 (Kd.C_below hU' hg) hul hu1)
  have HAl := Lib.hid (fun w1 => alive14 w1)
  have HT := Lib.hid (fun w1 (hg : Below W.heap.size W w1) => show Calls Try.prog 16 #[.agg #[.string ow, .string pe, .string ro, .string se, .string re, .int .u64 (st : Int), .int .u64 (gt : Int), .int .u64 (pv : Int), .slice KP (kept.take 22).length kc, .slice U (used.take 42).length uc], .int .i64 mo] w1 (fun e w' => e = .returned (.tuple #[.agg #[.string ⟨#[]⟩, .string ⟨#[]⟩, .string ⟨#[]⟩, .string ⟨#[]⟩, .string ⟨#[]⟩, .int .u64 0, .int .u64 0, .int .u64 0, .slice none 0 0, .slice none 0 0], .slice none 0 0, .int .i64 2]) ∧ Below w1.heap.size w1 w') from Take_size ⟨ow, pe, ro, se, re, st, gt, pv, kept.take 22, used.take 42⟩ KP kc U uc w1 (Kd.C_below hK' hg) hkl (Kd.C_below hU' hg) hul hu1 mo hs (.inl hmo))
  have HFr := Lib.hid (fun w1 (hg : Below W.heap.size W w1) => RvFrame_yes a b c (ks.take 34) A cp w1 (Kd.C_below hA' hg) hal ha1 hf)
  have HSm := Lib.hid (fun w1 (hg : Below W.heap.size W w1) => show Calls Try.prog 11 #[.agg #[.int .i64 2, .int .u64 (a : Int), .int .u64 (b : Int), .int .u64 (c : Int), .string ⟨#[]⟩, .string ⟨#[]⟩, .int .u64 0, .int .u64 0, .string ⟨#[]⟩, .int .u64 0, .int .u64 0, .string ⟨#[]⟩, .slice A (ks.take 34).length cp], .agg #[.int .i64 2, .int .u64 (a : Int), .int .u64 (b : Int), .int .u64 (c : Int), .string ⟨#[]⟩, .string ⟨#[]⟩, .int .u64 0, .int .u64 0, .string ⟨#[]⟩, .int .u64 0, .int .u64 0, .string ⟨#[]⟩, .slice A (ks.take 34).length cp]] w1 (fun e w' => e = .returned (.bool true) ∧ Below w1.heap.size w1 w') from RSame_self (keyF a b c (ks.take 34)) A cp w1 (Kd.C_below hA' hg) hal ha1)
  have HRF := Lib.hid (fun w1 (hg : Below W.heap.size W w1) => show Calls Try.prog 9 #[.agg #[.int .i64 2, .int .u64 (a : Int), .int .u64 (b : Int), .int .u64 (c : Int), .string ⟨#[]⟩, .string ⟨#[]⟩, .int .u64 0, .int .u64 0, .string ⟨#[]⟩, .int .u64 0, .int .u64 0, .string ⟨#[]⟩, .slice A (ks.take 34).length cp]] w1 (fun e w' => e = .returned (.bool true) ∧ Below w1.heap.size w1 w') from hf ▸ RRight_fr (keyF a b c (ks.take 34)) A cp w1 (Kd.C_below hA' hg) hal ha1)
  clear hs hf hK hkc hU huc hA hc hK' hU' hA' hk1 hu1 ha1 hfew
  have j1 : (((kept.take 22).length : Nat) : Int) ≤ (kc : Int) := by omega
  have j2 : (((used.take 42).length : Nat) : Int) ≤ (uc : Int) := by omega
  generalize hk2 : (kept.take 22).length = k2 at *
  generalize hu2 : (used.take 42).length = u2 at *
  generalize hm2' : (ks.take 34).length = m at *
  have HU2 := Lib.hid hu2
  clear hk2 hu2 hm2' hkl hal
  have j3 : (0 : Int) ≤ (k2 : Int) := by omega
  have j4 : (0 : Int) ≤ (u2 : Int) := by omega
  have HO := (Own.start W).alloc' (.cells #[.string ow, .string pe, .string ro, .string se, .string re, .int .u64 (st : Int), .int .u64 (gt : Int), .int .u64 (pv : Int), .slice KP kn kc, .slice U un uc] 36) rfl
  go_enter Try.func4, Try.ntmps4
  go_wp2_with fail
  refine bstart (fun _ => W.heap.size) (n := 21) (ds := [17, 19]) #[false, false, false, false, false, false, false, false, false, false, false, false, false, false, false, false, false, false, false, false, false] (by kernel_rfl) rfl rfl HO.below.size (fun HBS => ?_)
  refine bseqS (n := 4) s1RT 0 131071 [1, 5, 133, 645, 17029, 17031, 17039, 17055, 17087, 17151, 17407, 18431, 20479, 24575, 32767, 98303, 131071] (by kernel_rfl) (.inl rfl) [(0, true, some 21), (2, true, some 23), (7, true, some 28), (9, true, some 30), (14, true, some 35), (1, false, some 22), (3, false, some 24), (4, true, some 25), (5, true, some 26), (6, true, some 27), (8, false, some 29), (10, false, some 31), (11, true, some 32), (12, true, some 33), (13, true, some 34), (16, true, some 37), (15, false, some 36)] #[true, true, true, true, true, true, true, true, true, true, true, true, true, true, true, true, true, false, false, false, false] HBS (by kernel_rfl) (by kernel_rfl) (by kernel_rfl) (by kernel_rfl) rfl (fun _ _ _ _ _ h => h) ?_
  iterate 5 (refine sP (v := ?_) (a' := ?_) rfl rfl (by rfl) ?_ ?_ ?_; rotate_left 2; (· intro w'; go_simp; with_reducible rfl); (· simp only [Act.put, List.setIfInBounds_toArray, List.set_cons_zero, List.set_cons_succ, kw64, kw32]; rfl))
  iterate 2 (refine sL (v := ?_) (a' := ?_) rfl rfl (by rfl) ?_ ?_ ?_; rotate_left 2; (· intro w1 hg; have c9 := (HO.up hg).cell 0 rfl; go_simp; with_reducible rfl); (· simp only [Act.put, List.setIfInBounds_toArray, List.set_cons_zero, List.set_cons_succ, kw64, kw32]; rfl))
  (refine sP (v := ?_) (a' := ?_) rfl rfl (by rfl) ?_ ?_ ?_; rotate_left 2; (· intro w'; go_simp; with_reducible rfl); (· simp only [Act.put, List.setIfInBounds_toArray, List.set_cons_zero, List.set_cons_succ, kw64, kw32]; rfl))
  (refine sP (v := .int .i64 (k2 : Int)) (a' := ?_) rfl rfl (by rfl) ?_ ?_ ?_; rotate_left 1; (· intro w'; go_simp; exact HMK.out); (· simp only [Act.put, List.setIfInBounds_toArray, List.set_cons_zero, List.set_cons_succ, kw64, kw32]; rfl))
  (refine sP (v := ?_) (a' := ?_) rfl rfl (by rfl) ?_ ?_ ?_; rotate_left 2; (· intro w'; go_simp; with_reducible rfl); (· simp only [Act.put, List.setIfInBounds_toArray, List.set_cons_zero, List.set_cons_succ, kw64, kw32]; rfl))
  iterate 2 (refine sL (v := ?_) (a' := ?_) rfl rfl (by rfl) ?_ ?_ ?_; rotate_left 2; (· intro w1 hg; have c9 := (HO.up hg).cell 0 rfl; go_simp; with_reducible rfl); (· simp only [Act.put, List.setIfInBounds_toArray, List.set_cons_zero, List.set_cons_succ, kw64, kw32]; rfl))
  (refine sP (v := ?_) (a' := ?_) rfl rfl (by rfl) ?_ ?_ ?_; rotate_left 2; (· intro w'; go_simp; with_reducible rfl); (· simp only [Act.put, List.setIfInBounds_toArray, List.set_cons_zero, List.set_cons_succ, kw64, kw32]; rfl))
  (refine sP (v := .int .i64 (u2 : Int)) (a' := ?_) rfl rfl (by rfl) ?_ ?_ ?_; rotate_left 1; (· intro w'; go_simp; exact HMU.out); (· simp only [Act.put, List.setIfInBounds_toArray, List.set_cons_zero, List.set_cons_succ, kw64, kw32]; rfl))
  iterate 2 (refine sP (v := ?_) (a' := ?_) rfl rfl (by rfl) ?_ ?_ ?_; rotate_left 2; (· intro w'; go_simp; with_reducible rfl); (· simp only [Act.put, List.setIfInBounds_toArray, List.set_cons_zero, List.set_cons_succ, kw64, kw32]; rfl))
  (refine sC (v := ?_) (a' := ?_) Try.func15 rfl rfl (by rfl) rfl (by kernel_rfl) rfl (by rfl) ?_ ?_ ?_; rotate_left 2; (· intro w1 hg; exact HF.out w1); (· simp only [Act.put, List.setIfInBounds_toArray, List.set_cons_zero, List.set_cons_succ, kw64, kw32]; rfl))
  refine bone (i := 17) (N := none) #[true, true, true, true, true, true, true, true, true, true, true, true, true, true, true, true, true, true, false, false, false] rfl rfl (by kernel_rfl) HBS (fun w1 hg K hK => ?_)
  rw [if_pos (by rfl)]
  replace HO := HO.up hg
  have c0 := HO.cell 0 rfl 8
  have f0 := HO.frozen 0 rfl 8
  go_simp
  refine hK _ _ (in_ds (by decide) (bel_set (by have := HO.ge 0 rfl; exact this))) (fun HBS => ?_)
  replace HO := HO.set' 0 rfl 8 (.slice KP k2 kc) (L' := [(W.heap.size, .cells #[.string ow, .string pe, .string ro, .string se, .string re, .int .u64 (st : Int), .int .u64 (gt : Int), .int .u64 (pv : Int), .slice KP k2 kc, .slice U un uc] 36 (0, 0))]) rfl
  clear c0 f0 hg K hK
  revert HO HBS
  generalize World.setCell w1 _ _ = wb
  intro HBS HO
  refine bseqS (n := 2) s1RT 262143 524287 [524287] (by kernel_rfl) (.inl rfl) [(18, true, some 38)] #[true, true, true, true, true, true, true, true, true, true, true, true, true, true, true, true, true, true, true, false, false] HBS (by kernel_rfl) (by kernel_rfl) (by kernel_rfl) (by kernel_rfl) rfl (fun _ _ _ _ _ h => h) ?_
  (refine sP (v := ?_) (a' := ?_) rfl rfl (by rfl) ?_ ?_ ?_; rotate_left 2; (· intro w'; go_simp; with_reducible rfl); (· simp only [Act.put, List.setIfInBounds_toArray, List.set_cons_zero, List.set_cons_succ, kw64, kw32]; rfl))
  refine bone (i := 19) (N := none) #[true, true, true, true, true, true, true, true, true, true, true, true, true, true, true, true, true, true, true, true, false] rfl rfl (by kernel_rfl) HBS (fun w1 hg K hK => ?_)
  rw [if_pos (by rfl)]
  replace HO := HO.up hg
  have c0 := HO.cell 0 rfl 9
  have f0 := HO.frozen 0 rfl 9
  go_simp
  refine hK _ _ (in_ds (by decide) (bel_set (by have := HO.ge 0 rfl; exact this))) (fun HBS => ?_)
  replace HO := HO.set' 0 rfl 9 (.slice U u2 uc) (L' := [(W.heap.size, .cells #[.string ow, .string pe, .string ro, .string se, .string re, .int .u64 (st : Int), .int .u64 (gt : Int), .int .u64 (pv : Int), .slice KP k2 kc, .slice U u2 uc] 36 (0, 0))]) rfl
  clear c0 f0 hg K hK
  revert HO HBS
  generalize World.setCell w1 _ _ = wb
  intro HBS HO
  refine bseqS (n := 0) s1RT 1048575 2097151 [2097151] (by kernel_rfl) (.inl rfl) [(20, true, some 5)] #[true, true, true, true, true, true, true, true, true, true, true, true, true, true, true, true, true, true, true, true, true] HBS (by kernel_rfl) (by kernel_rfl) (by kernel_rfl) (by kernel_rfl) rfl (fun _ _ _ _ _ h => h) ?_
  (refine sP (v := ?_) (a' := ?_) rfl rfl (by rfl) ?_ ?_ ?_; rotate_left 2; (· intro w'; go_simp; with_reducible rfl); (· simp only [Act.put, List.setIfInBounds_toArray, List.set_cons_zero, List.set_cons_succ, kw64, kw32]; rfl))
  refine bdone (by kernel_rfl) (fun w1 hg => ?_)
  replace HO := HO.up hg
  clear hg HF HMK HMU HBS
  go_wp2_with (refine wpList_load_row rfl 36 (.tmp 6) rfl W.heap.size (by rfl) _ #[.string ow, .string pe, .string ro, .string se, .string re, .int .u64 (st : Int), .int .u64 (gt : Int), .int .u64 (pv : Int), .slice KP k2 kc, .slice U u2 uc] _ _ (HO.blk 0 rfl) Try.underlying36 rfl (by kernel_rfl) ?_)
  refine (HT.out _ HO.below).mono ?_
  rintro e w2 ⟨rfl, hb⟩
  replace HO := HO.up hb
  clear hb HT
  replace HO := HO.alloc' (.cells #[.string ⟨#[]⟩, .string ⟨#[]⟩, .string ⟨#[]⟩, .string ⟨#[]⟩, .string ⟨#[]⟩, .int .u64 0, .int .u64 0, .int .u64 0, .slice none 0 0, .slice none 0 0] 36) rfl
  go_wp2_with (refine wpList_store_row rfl 36 (.tmp 13) (.tmp 43) rfl w2.heap.size #[.string ⟨#[]⟩, .string ⟨#[]⟩, .string ⟨#[]⟩, .string ⟨#[]⟩, .string ⟨#[]⟩, .int .u64 0, .int .u64 0, .int .u64 0, .slice none 0 0, .slice none 0 0] (by rfl) (by rfl) _ _ (HO.blk 0 rfl) (by kernel_rfl) rfl (sesC_one _ _ _ _ _ 0 0 0 _ _ _ _ _ _) ?_)
  replace HO := HO.setRow 0 rfl #[.string ⟨#[]⟩, .string ⟨#[]⟩, .string ⟨#[]⟩, .string ⟨#[]⟩, .string ⟨#[]⟩, .int .u64 0, .int .u64 0, .int .u64 0, .slice none 0 0, .slice none 0 0] (L' := [(w2.heap.size, .cells #[.string ⟨#[]⟩, .string ⟨#[]⟩, .string ⟨#[]⟩, .string ⟨#[]⟩, .string ⟨#[]⟩, .int .u64 0, .int .u64 0, .int .u64 0, .slice none 0 0, .slice none 0 0] 36 (0, 0)), (W.heap.size, .cells #[.string ow, .string pe, .string ro, .string se, .string re, .int .u64 (st : Int), .int .u64 (gt : Int), .int .u64 (pv : Int), .slice KP k2 kc, .slice U u2 uc] 36 (0, 0))]) rfl
  refine (HFr.out _ HO.below).mono ?_
  rintro e w3 ⟨rfl, hb⟩
  replace HO := HO.up hb
  clear hb HFr
  replace HO := HO.alloc' (.cells #[.int .i64 0, .int .u64 0, .int .u64 0, .int .u64 0, .string ⟨#[]⟩, .string ⟨#[]⟩, .int .u64 0, .int .u64 0, .string ⟨#[]⟩, .int .u64 0, .int .u64 0, .string ⟨#[]⟩, .slice none 0 0] 25) rfl
  go_wp2_with (refine wpList_store_row rfl 25 (.tmp 16) (.tmp 52) rfl w3.heap.size #[.int .i64 2, .int .u64 (a : Int), .int .u64 (b : Int), .int .u64 (c : Int), .string ⟨#[]⟩, .string ⟨#[]⟩, .int .u64 0, .int .u64 0, .string ⟨#[]⟩, .int .u64 0, .int .u64 0, .string ⟨#[]⟩, .slice A m cp] (by rfl) (by rfl) _ _ (HO.blk 0 rfl) (by kernel_rfl) rfl (frC_one _ _ _ _ _ _ _ _ _ _ _ _ _ _ _) ?_)
  replace HO := HO.setRow 0 rfl #[.int .i64 2, .int .u64 (a : Int), .int .u64 (b : Int), .int .u64 (c : Int), .string ⟨#[]⟩, .string ⟨#[]⟩, .int .u64 0, .int .u64 0, .string ⟨#[]⟩, .int .u64 0, .int .u64 0, .string ⟨#[]⟩, .slice A m cp] (L' := [(w3.heap.size, .cells #[.int .i64 2, .int .u64 (a : Int), .int .u64 (b : Int), .int .u64 (c : Int), .string ⟨#[]⟩, .string ⟨#[]⟩, .int .u64 0, .int .u64 0, .string ⟨#[]⟩, .int .u64 0, .int .u64 0, .string ⟨#[]⟩, .slice A m cp] 25 (0, 0)), (w2.heap.size, .cells #[.string ⟨#[]⟩, .string ⟨#[]⟩, .string ⟨#[]⟩, .string ⟨#[]⟩, .string ⟨#[]⟩, .int .u64 0, .int .u64 0, .int .u64 0, .slice none 0 0, .slice none 0 0] 36 (0, 0)), (W.heap.size, .cells #[.string ow, .string pe, .string ro, .string se, .string re, .int .u64 (st : Int), .int .u64 (gt : Int), .int .u64 (pv : Int), .slice KP k2 kc, .slice U u2 uc] 36 (0, 0))]) rfl
  replace HO := HO.alloc' (.cells #[.int .i64 2, .int .u64 (a : Int), .int .u64 (b : Int), .int .u64 (c : Int), .string ⟨#[]⟩, .string ⟨#[]⟩, .int .u64 0, .int .u64 0, .string ⟨#[]⟩, .int .u64 0, .int .u64 0, .string ⟨#[]⟩, .slice A m cp] 25) (show _ = w3.heap.size + 1 by simp [size_setRow])
  refine (HRF.out _ HO.below).mono ?_
  rintro e w4 ⟨rfl, hb⟩
  replace HO := HO.up hb
  clear hb HRF
  have c0 := HO.cell 0 rfl
  have c1 := HO.cell 1 rfl
  go_wp2_with fail
  refine (HSm.out _ HO.below).mono ?_
  rintro e w5 ⟨rfl, hb⟩
  replace HO := HO.up hb
  clear hb HSm c0 c1
  go_wp2_with fail
  refine (HAl.out _).mono ?_
  rintro e w6 ⟨rfl, hb⟩
  replace HO := HO.up hb
  clear hb HAl
  go_wp2_with (refine wpList_load_row rfl 36 (.tmp 6) rfl W.heap.size (by rfl) _ #[.string ow, .string pe, .string ro, .string se, .string re, .int .u64 (st : Int), .int .u64 (gt : Int), .int .u64 (pv : Int), .slice KP k2 kc, .slice U u2 uc] _ _ (HO.blk 3 rfl) Try.underlying36 rfl (by kernel_rfl) ?_)
  refine (HRS.out _ HO.below).mono ?_
  rintro e w7 ⟨rfl, hb⟩
  replace HO := HO.up hb
  clear hb HRS
  have c2 := HO.cell 2 rfl
  go_wp2_with fail
  refine (Same13_zeroR _).mono ?_
  rintro e w8 ⟨rfl, hb⟩
  replace HO := HO.up hb
  go_wp2
  go_ret
  exact ⟨rfl, HO.below⟩
set_option maxHeartbeats 8000000 in
set_option maxRecDepth 100000 in
theorem RT_lo_n (ow pe ro se re : ByteArray) (st gt pv : Nat) (kept : List Sk.KeptD) (used ks : List ByteArray) (KP : Option Addr) (kn kc : Nat) (U : Option Addr) (un uc : Nat) (A : Option Addr) (n cp : Nat) (mo : Int) (a b c : Nat) (W : World)
    (hK : Kd.C Sk.kK W KP kn kept) (hkc : kn ≤ kc) (hU : Kd.string.C W U un used) (huc : un ≤ uc) (hA : Kd.string.C W A n ks) (hc : n ≤ cp)
    (hs : rightS ⟨ow, pe, ro, se, re, st, gt, pv, kept.take 22, used.take 42⟩ = true) (hf : rightF (keyF a b c (ks.take 34)) = false) (hmo : mo < 0) :
    Calls Try.prog 4 #[.agg #[.string ow, .string pe, .string ro, .string se, .string re, .int .u64 (st : Int), .int .u64 (gt : Int), .int .u64 (pv : Int), .slice KP kn kc, .slice U un uc], .int .i64 mo, .int .u64 (a : Int), .int .u64 (b : Int), .int .u64 (c : Int), .slice A n cp] W fun e W' => e = .returned (.bool true) ∧ Below W.heap.size W W' := by
  have hK' := take_G (k := 22) hK
  have hU' := take_G (k := 42) hU
  have hA' := take_G (k := 34) hA
  have HMK := Lib.hid (min_len (k := 22) hK.1)
  have HMU := Lib.hid (min_len (k := 42) hU.1)
  have hkl : (kept.take 22).length ≤ kc := by rw [List.length_take]; have := hK.1; omega
  have hul : (used.take 42).length ≤ uc := by rw [List.length_take]; have := hU.1; omega
  have hal : (ks.take 34).length ≤ cp := by rw [List.length_take]; have := hA.1; omega
  have hk1 : (kept.take 22).length ≤ 1000 := by rw [List.length_take]; omega
  have hu1 : (used.take 42).length ≤ 1000000 := by rw [List.length_take]; omega
  have ha1 : (ks.take 34).length ≤ 1000000 := by rw [List.length_take]; omega
  have hfew := few14 A n cp W hc
  have HF := Lib.hid (fun w1 => up_same (few14 A n cp w1 hc))
  rw [show min n 34 = (ks.take 34).length by rw [List.length_take]; have := hA.1; omega] at HF
  have HRS := Lib.hid (fun w1 (hg : Below W.heap.size W w1) => show Calls Try.prog 19 #[.agg #[.string ow, .string pe, .string ro, .string se, .string re, .int .u64 (st : Int), .int .u64 (gt : Int), .int .u64 (pv : Int), .slice KP (kept.take 22).length kc, .slice U (used.take 42).length uc]] w1 (fun e w' => e = .returned (.bool true) ∧ Below w1.heap.size w1 w') from hs ▸ RSRight_any ⟨ow, pe, ro, se, re, st, gt, pv, kept.take 22, used.take 42⟩ KP kc U uc w1 (Kd.C_below hK' hg) hkl hk1 (Kd.C_below hU' hg) hul hu1)
  have HAl := Lib.hid (fun w1 => alive14 w1)
  have HT := Lib.hid (fun w1 (hg : Below W.heap.size W w1) => show Calls Try.prog 16 #[.agg #[.string ow, .string pe, .string ro, .string se, .string re, .int .u64 (st : Int), .int .u64 (gt : Int), .int .u64 (pv : Int), .slice KP (kept.take 22).length kc, .slice U (used.take 42).length uc], .int .i64 mo] w1 (fun e w' => e = .returned (.tuple #[.agg #[.string ⟨#[]⟩, .string ⟨#[]⟩, .string ⟨#[]⟩, .string ⟨#[]⟩, .string ⟨#[]⟩, .int .u64 0, .int .u64 0, .int .u64 0, .slice none 0 0, .slice none 0 0], .slice none 0 0, .int .i64 2]) ∧ Below w1.heap.size w1 w') from Take_size ⟨ow, pe, ro, se, re, st, gt, pv, kept.take 22, used.take 42⟩ KP kc U uc w1 (Kd.C_below hK' hg) hkl (Kd.C_below hU' hg) hul hu1 mo hs (.inl hmo))
  have HFr := Lib.hid (fun w1 (hg : Below W.heap.size W w1) => RvFrame_no a b c (ks.take 34) A cp w1 (Kd.C_below hA' hg) hal ha1 hf)
  have HSm := Lib.hid (fun w1 (hg : Below W.heap.size W w1) => show Calls Try.prog 11 #[.agg #[.int .i64 0, .int .u64 0, .int .u64 0, .int .u64 0, .string ⟨#[]⟩, .string ⟨#[]⟩, .int .u64 0, .int .u64 0, .string ⟨#[]⟩, .int .u64 0, .int .u64 0, .string ⟨#[]⟩, .slice none 0 0], .agg #[.int .i64 0, .int .u64 0, .int .u64 0, .int .u64 0, .string ⟨#[]⟩, .string ⟨#[]⟩, .int .u64 0, .int .u64 0, .string ⟨#[]⟩, .int .u64 0, .int .u64 0, .string ⟨#[]⟩, .slice none 0 0]] w1 (fun e w' => e = .returned (.bool true) ∧ Below w1.heap.size w1 w') from RSame_self (⟨0, 0, 0, 0, ⟨#[]⟩, ⟨#[]⟩, 0, 0, ⟨#[]⟩, 0, 0, ⟨#[]⟩, []⟩ : FrD) none 0 w1 (C_zero _ _ _) (Nat.le_refl 0) (by decide))
  have HRF := Lib.hid (fun w1 (hg : Below W.heap.size W w1) => show Calls Try.prog 9 #[.agg #[.int .i64 2, .int .u64 (a : Int), .int .u64 (b : Int), .int .u64 (c : Int), .string ⟨#[]⟩, .string ⟨#[]⟩, .int .u64 0, .int .u64 0, .string ⟨#[]⟩, .int .u64 0, .int .u64 0, .string ⟨#[]⟩, .slice A (ks.take 34).length cp]] w1 (fun e w' => e = .returned (.bool false) ∧ Below w1.heap.size w1 w') from hf ▸ RRight_fr (keyF a b c (ks.take 34)) A cp w1 (Kd.C_below hA' hg) hal ha1)
  clear hs hf hK hkc hU huc hA hc hK' hU' hA' hk1 hu1 ha1 hfew
  have j1 : (((kept.take 22).length : Nat) : Int) ≤ (kc : Int) := by omega
  have j2 : (((used.take 42).length : Nat) : Int) ≤ (uc : Int) := by omega
  generalize hk2 : (kept.take 22).length = k2 at *
  generalize hu2 : (used.take 42).length = u2 at *
  generalize hm2' : (ks.take 34).length = m at *
  have HU2 := Lib.hid hu2
  clear hk2 hu2 hm2' hkl hal
  have j3 : (0 : Int) ≤ (k2 : Int) := by omega
  have j4 : (0 : Int) ≤ (u2 : Int) := by omega
  have HO := (Own.start W).alloc' (.cells #[.string ow, .string pe, .string ro, .string se, .string re, .int .u64 (st : Int), .int .u64 (gt : Int), .int .u64 (pv : Int), .slice KP kn kc, .slice U un uc] 36) rfl
  go_enter Try.func4, Try.ntmps4
  go_wp2_with fail
  refine bstart (fun _ => W.heap.size) (n := 21) (ds := [17, 19]) #[false, false, false, false, false, false, false, false, false, false, false, false, false, false, false, false, false, false, false, false, false] (by kernel_rfl) rfl rfl HO.below.size (fun HBS => ?_)
  refine bseqS (n := 4) s1RT 0 131071 [1, 5, 133, 645, 17029, 17031, 17039, 17055, 17087, 17151, 17407, 18431, 20479, 24575, 32767, 98303, 131071] (by kernel_rfl) (.inl rfl) [(0, true, some 21), (2, true, some 23), (7, true, some 28), (9, true, some 30), (14, true, some 35), (1, false, some 22), (3, false, some 24), (4, true, some 25), (5, true, some 26), (6, true, some 27), (8, false, some 29), (10, false, some 31), (11, true, some 32), (12, true, some 33), (13, true, some 34), (16, true, some 37), (15, false, some 36)] #[true, true, true, true, true, true, true, true, true, true, true, true, true, true, true, true, true, false, false, false, false] HBS (by kernel_rfl) (by kernel_rfl) (by kernel_rfl) (by kernel_rfl) rfl (fun _ _ _ _ _ h => h) ?_
  iterate 5 (refine sP (v := ?_) (a' := ?_) rfl rfl (by rfl) ?_ ?_ ?_; rotate_left 2; (· intro w'; go_simp; with_reducible rfl); (· simp only [Act.put, List.setIfInBounds_toArray, List.set_cons_zero, List.set_cons_succ, kw64, kw32]; rfl))
  iterate 2 (refine sL (v := ?_) (a' := ?_) rfl rfl (by rfl) ?_ ?_ ?_; rotate_left 2; (· intro w1 hg; have c9 := (HO.up hg).cell 0 rfl; go_simp; with_reducible rfl); (· simp only [Act.put, List.setIfInBounds_toArray, List.set_cons_zero, List.set_cons_succ, kw64, kw32]; rfl))
  (refine sP (v := ?_) (a' := ?_) rfl rfl (by rfl) ?_ ?_ ?_; rotate_left 2; (· intro w'; go_simp; with_reducible rfl); (· simp only [Act.put, List.setIfInBounds_toArray, List.set_cons_zero, List.set_cons_succ, kw64, kw32]; rfl))
  (refine sP (v := .int .i64 (k2 : Int)) (a' := ?_) rfl rfl (by rfl) ?_ ?_ ?_; rotate_left 1; (· intro w'; go_simp; exact HMK.out); (· simp only [Act.put, List.setIfInBounds_toArray, List.set_cons_zero, List.set_cons_succ, kw64, kw32]; rfl))
  (refine sP (v := ?_) (a' := ?_) rfl rfl (by rfl) ?_ ?_ ?_; rotate_left 2; (· intro w'; go_simp; with_reducible rfl); (· simp only [Act.put, List.setIfInBounds_toArray, List.set_cons_zero, List.set_cons_succ, kw64, kw32]; rfl))
  iterate 2 (refine sL (v := ?_) (a' := ?_) rfl rfl (by rfl) ?_ ?_ ?_; rotate_left 2; (· intro w1 hg; have c9 := (HO.up hg).cell 0 rfl; go_simp; with_reducible rfl); (· simp only [Act.put, List.setIfInBounds_toArray, List.set_cons_zero, List.set_cons_succ, kw64, kw32]; rfl))
  (refine sP (v := ?_) (a' := ?_) rfl rfl (by rfl) ?_ ?_ ?_; rotate_left 2; (· intro w'; go_simp; with_reducible rfl); (· simp only [Act.put, List.setIfInBounds_toArray, List.set_cons_zero, List.set_cons_succ, kw64, kw32]; rfl))
  (refine sP (v := .int .i64 (u2 : Int)) (a' := ?_) rfl rfl (by rfl) ?_ ?_ ?_; rotate_left 1; (· intro w'; go_simp; exact HMU.out); (· simp only [Act.put, List.setIfInBounds_toArray, List.set_cons_zero, List.set_cons_succ, kw64, kw32]; rfl))
  iterate 2 (refine sP (v := ?_) (a' := ?_) rfl rfl (by rfl) ?_ ?_ ?_; rotate_left 2; (· intro w'; go_simp; with_reducible rfl); (· simp only [Act.put, List.setIfInBounds_toArray, List.set_cons_zero, List.set_cons_succ, kw64, kw32]; rfl))
  (refine sC (v := ?_) (a' := ?_) Try.func15 rfl rfl (by rfl) rfl (by kernel_rfl) rfl (by rfl) ?_ ?_ ?_; rotate_left 2; (· intro w1 hg; exact HF.out w1); (· simp only [Act.put, List.setIfInBounds_toArray, List.set_cons_zero, List.set_cons_succ, kw64, kw32]; rfl))
  refine bone (i := 17) (N := none) #[true, true, true, true, true, true, true, true, true, true, true, true, true, true, true, true, true, true, false, false, false] rfl rfl (by kernel_rfl) HBS (fun w1 hg K hK => ?_)
  rw [if_pos (by rfl)]
  replace HO := HO.up hg
  have c0 := HO.cell 0 rfl 8
  have f0 := HO.frozen 0 rfl 8
  go_simp
  refine hK _ _ (in_ds (by decide) (bel_set (by have := HO.ge 0 rfl; exact this))) (fun HBS => ?_)
  replace HO := HO.set' 0 rfl 8 (.slice KP k2 kc) (L' := [(W.heap.size, .cells #[.string ow, .string pe, .string ro, .string se, .string re, .int .u64 (st : Int), .int .u64 (gt : Int), .int .u64 (pv : Int), .slice KP k2 kc, .slice U un uc] 36 (0, 0))]) rfl
  clear c0 f0 hg K hK
  revert HO HBS
  generalize World.setCell w1 _ _ = wb
  intro HBS HO
  refine bseqS (n := 2) s1RT 262143 524287 [524287] (by kernel_rfl) (.inl rfl) [(18, true, some 38)] #[true, true, true, true, true, true, true, true, true, true, true, true, true, true, true, true, true, true, true, false, false] HBS (by kernel_rfl) (by kernel_rfl) (by kernel_rfl) (by kernel_rfl) rfl (fun _ _ _ _ _ h => h) ?_
  (refine sP (v := ?_) (a' := ?_) rfl rfl (by rfl) ?_ ?_ ?_; rotate_left 2; (· intro w'; go_simp; with_reducible rfl); (· simp only [Act.put, List.setIfInBounds_toArray, List.set_cons_zero, List.set_cons_succ, kw64, kw32]; rfl))
  refine bone (i := 19) (N := none) #[true, true, true, true, true, true, true, true, true, true, true, true, true, true, true, true, true, true, true, true, false] rfl rfl (by kernel_rfl) HBS (fun w1 hg K hK => ?_)
  rw [if_pos (by rfl)]
  replace HO := HO.up hg
  have c0 := HO.cell 0 rfl 9
  have f0 := HO.frozen 0 rfl 9
  go_simp
  refine hK _ _ (in_ds (by decide) (bel_set (by have := HO.ge 0 rfl; exact this))) (fun HBS => ?_)
  replace HO := HO.set' 0 rfl 9 (.slice U u2 uc) (L' := [(W.heap.size, .cells #[.string ow, .string pe, .string ro, .string se, .string re, .int .u64 (st : Int), .int .u64 (gt : Int), .int .u64 (pv : Int), .slice KP k2 kc, .slice U u2 uc] 36 (0, 0))]) rfl
  clear c0 f0 hg K hK
  revert HO HBS
  generalize World.setCell w1 _ _ = wb
  intro HBS HO
  refine bseqS (n := 0) s1RT 1048575 2097151 [2097151] (by kernel_rfl) (.inl rfl) [(20, true, some 5)] #[true, true, true, true, true, true, true, true, true, true, true, true, true, true, true, true, true, true, true, true, true] HBS (by kernel_rfl) (by kernel_rfl) (by kernel_rfl) (by kernel_rfl) rfl (fun _ _ _ _ _ h => h) ?_
  (refine sP (v := ?_) (a' := ?_) rfl rfl (by rfl) ?_ ?_ ?_; rotate_left 2; (· intro w'; go_simp; with_reducible rfl); (· simp only [Act.put, List.setIfInBounds_toArray, List.set_cons_zero, List.set_cons_succ, kw64, kw32]; rfl))
  refine bdone (by kernel_rfl) (fun w1 hg => ?_)
  replace HO := HO.up hg
  clear hg HF HMK HMU HBS
  go_wp2_with (refine wpList_load_row rfl 36 (.tmp 6) rfl W.heap.size (by rfl) _ #[.string ow, .string pe, .string ro, .string se, .string re, .int .u64 (st : Int), .int .u64 (gt : Int), .int .u64 (pv : Int), .slice KP k2 kc, .slice U u2 uc] _ _ (HO.blk 0 rfl) Try.underlying36 rfl (by kernel_rfl) ?_)
  refine (HT.out _ HO.below).mono ?_
  rintro e w2 ⟨rfl, hb⟩
  replace HO := HO.up hb
  clear hb HT
  replace HO := HO.alloc' (.cells #[.string ⟨#[]⟩, .string ⟨#[]⟩, .string ⟨#[]⟩, .string ⟨#[]⟩, .string ⟨#[]⟩, .int .u64 0, .int .u64 0, .int .u64 0, .slice none 0 0, .slice none 0 0] 36) rfl
  go_wp2_with (refine wpList_store_row rfl 36 (.tmp 13) (.tmp 43) rfl w2.heap.size #[.string ⟨#[]⟩, .string ⟨#[]⟩, .string ⟨#[]⟩, .string ⟨#[]⟩, .string ⟨#[]⟩, .int .u64 0, .int .u64 0, .int .u64 0, .slice none 0 0, .slice none 0 0] (by rfl) (by rfl) _ _ (HO.blk 0 rfl) (by kernel_rfl) rfl (sesC_one _ _ _ _ _ 0 0 0 _ _ _ _ _ _) ?_)
  replace HO := HO.setRow 0 rfl #[.string ⟨#[]⟩, .string ⟨#[]⟩, .string ⟨#[]⟩, .string ⟨#[]⟩, .string ⟨#[]⟩, .int .u64 0, .int .u64 0, .int .u64 0, .slice none 0 0, .slice none 0 0] (L' := [(w2.heap.size, .cells #[.string ⟨#[]⟩, .string ⟨#[]⟩, .string ⟨#[]⟩, .string ⟨#[]⟩, .string ⟨#[]⟩, .int .u64 0, .int .u64 0, .int .u64 0, .slice none 0 0, .slice none 0 0] 36 (0, 0)), (W.heap.size, .cells #[.string ow, .string pe, .string ro, .string se, .string re, .int .u64 (st : Int), .int .u64 (gt : Int), .int .u64 (pv : Int), .slice KP k2 kc, .slice U u2 uc] 36 (0, 0))]) rfl
  refine (HFr.out _ HO.below).mono ?_
  rintro e w3 ⟨rfl, hb⟩
  replace HO := HO.up hb
  clear hb HFr
  replace HO := HO.alloc' (.cells #[.int .i64 0, .int .u64 0, .int .u64 0, .int .u64 0, .string ⟨#[]⟩, .string ⟨#[]⟩, .int .u64 0, .int .u64 0, .string ⟨#[]⟩, .int .u64 0, .int .u64 0, .string ⟨#[]⟩, .slice none 0 0] 25) rfl
  go_wp2_with (refine wpList_store_row rfl 25 (.tmp 16) (.tmp 52) rfl w3.heap.size #[.int .i64 0, .int .u64 0, .int .u64 0, .int .u64 0, .string ⟨#[]⟩, .string ⟨#[]⟩, .int .u64 0, .int .u64 0, .string ⟨#[]⟩, .int .u64 0, .int .u64 0, .string ⟨#[]⟩, .slice none 0 0] (by rfl) (by rfl) _ _ (HO.blk 0 rfl) (by kernel_rfl) rfl (frC_one _ _ _ _ _ _ _ _ _ _ _ _ _ _ _) ?_)
  replace HO := HO.setRow 0 rfl #[.int .i64 0, .int .u64 0, .int .u64 0, .int .u64 0, .string ⟨#[]⟩, .string ⟨#[]⟩, .int .u64 0, .int .u64 0, .string ⟨#[]⟩, .int .u64 0, .int .u64 0, .string ⟨#[]⟩, .slice none 0 0] (L' := [(w3.heap.size, .cells #[.int .i64 0, .int .u64 0, .int .u64 0, .int .u64 0, .string ⟨#[]⟩, .string ⟨#[]⟩, .int .u64 0, .int .u64 0, .string ⟨#[]⟩, .int .u64 0, .int .u64 0, .string ⟨#[]⟩, .slice none 0 0] 25 (0, 0)), (w2.heap.size, .cells #[.string ⟨#[]⟩, .string ⟨#[]⟩, .string ⟨#[]⟩, .string ⟨#[]⟩, .string ⟨#[]⟩, .int .u64 0, .int .u64 0, .int .u64 0, .slice none 0 0, .slice none 0 0] 36 (0, 0)), (W.heap.size, .cells #[.string ow, .string pe, .string ro, .string se, .string re, .int .u64 (st : Int), .int .u64 (gt : Int), .int .u64 (pv : Int), .slice KP k2 kc, .slice U u2 uc] 36 (0, 0))]) rfl
  replace HO := HO.alloc' (.cells #[.int .i64 2, .int .u64 (a : Int), .int .u64 (b : Int), .int .u64 (c : Int), .string ⟨#[]⟩, .string ⟨#[]⟩, .int .u64 0, .int .u64 0, .string ⟨#[]⟩, .int .u64 0, .int .u64 0, .string ⟨#[]⟩, .slice A m cp] 25) (show _ = w3.heap.size + 1 by simp [size_setRow])
  refine (HRF.out _ HO.below).mono ?_
  rintro e w4 ⟨rfl, hb⟩
  replace HO := HO.up hb
  clear hb HRF
  have c0 := HO.cell 0 rfl
  have c1 := HO.cell 1 rfl
  go_wp2_with fail
  refine (HSm.out _ HO.below).mono ?_
  rintro e w5 ⟨rfl, hb⟩
  replace HO := HO.up hb
  clear hb HSm c0 c1
  go_wp2_with fail
  refine (HAl.out _).mono ?_
  rintro e w6 ⟨rfl, hb⟩
  replace HO := HO.up hb
  clear hb HAl
  go_wp2_with (refine wpList_load_row rfl 36 (.tmp 6) rfl W.heap.size (by rfl) _ #[.string ow, .string pe, .string ro, .string se, .string re, .int .u64 (st : Int), .int .u64 (gt : Int), .int .u64 (pv : Int), .slice KP k2 kc, .slice U u2 uc] _ _ (HO.blk 3 rfl) Try.underlying36 rfl (by kernel_rfl) ?_)
  refine (HRS.out _ HO.below).mono ?_
  rintro e w7 ⟨rfl, hb⟩
  replace HO := HO.up hb
  clear hb HRS
  have c2 := HO.cell 2 rfl
  go_wp2_with fail
  refine (Same13_zeroR _).mono ?_
  rintro e w8 ⟨rfl, hb⟩
  replace HO := HO.up hb
  go_wp2
  go_ret
  exact ⟨rfl, HO.below⟩
set_option maxHeartbeats 8000000 in
set_option maxRecDepth 100000 in
theorem RT_hi_f (ow pe ro se re : ByteArray) (st gt pv : Nat) (kept : List Sk.KeptD) (used ks : List ByteArray) (KP : Option Addr) (kn kc : Nat) (U : Option Addr) (un uc : Nat) (A : Option Addr) (n cp : Nat) (mo : Int) (a b c : Nat) (W : World)
    (hK : Kd.C Sk.kK W KP kn kept) (hkc : kn ≤ kc) (hU : Kd.string.C W U un used) (huc : un ≤ uc) (hA : Kd.string.C W A n ks) (hc : n ≤ cp)
    (hs : rightS ⟨ow, pe, ro, se, re, st, gt, pv, kept.take 22, used.take 42⟩ = true) (hf : rightF (keyF a b c (ks.take 34)) = true) (hmo : 32 < mo) :
    Calls Try.prog 4 #[.agg #[.string ow, .string pe, .string ro, .string se, .string re, .int .u64 (st : Int), .int .u64 (gt : Int), .int .u64 (pv : Int), .slice KP kn kc, .slice U un uc], .int .i64 mo, .int .u64 (a : Int), .int .u64 (b : Int), .int .u64 (c : Int), .slice A n cp] W fun e W' => e = .returned (.bool true) ∧ Below W.heap.size W W' := by
  have hK' := take_G (k := 22) hK
  have hU' := take_G (k := 42) hU
  have hA' := take_G (k := 34) hA
  have HMK := Lib.hid (min_len (k := 22) hK.1)
  have HMU := Lib.hid (min_len (k := 42) hU.1)
  have hkl : (kept.take 22).length ≤ kc := by rw [List.length_take]; have := hK.1; omega
  have hul : (used.take 42).length ≤ uc := by rw [List.length_take]; have := hU.1; omega
  have hal : (ks.take 34).length ≤ cp := by rw [List.length_take]; have := hA.1; omega
  have hk1 : (kept.take 22).length ≤ 1000 := by rw [List.length_take]; omega
  have hu1 : (used.take 42).length ≤ 1000000 := by rw [List.length_take]; omega
  have ha1 : (ks.take 34).length ≤ 1000000 := by rw [List.length_take]; omega
  have hfew := few14 A n cp W hc
  have HF := Lib.hid (fun w1 => up_same (few14 A n cp w1 hc))
  rw [show min n 34 = (ks.take 34).length by rw [List.length_take]; have := hA.1; omega] at HF
  have HRS := Lib.hid (fun w1 (hg : Below W.heap.size W w1) => show Calls Try.prog 19 #[.agg #[.string ow, .string pe, .string ro, .string se, .string re, .int .u64 (st : Int), .int .u64 (gt : Int), .int .u64 (pv : Int), .slice KP (kept.take 22).length kc, .slice U (used.take 42).length uc]] w1 (fun e w' => e = .returned (.bool true) ∧ Below w1.heap.size w1 w') from hs ▸ RSRight_any ⟨ow, pe, ro, se, re, st, gt, pv, kept.take 22, used.take 42⟩ KP kc U uc w1 (Kd.C_below hK' hg) hkl hk1 (Kd.C_below hU' hg) hul hu1)
  have HAl := Lib.hid (fun w1 => alive14 w1)
  have HT := Lib.hid (fun w1 (hg : Below W.heap.size W w1) => show Calls Try.prog 16 #[.agg #[.string ow, .string pe, .string ro, .string se, .string re, .int .u64 (st : Int), .int .u64 (gt : Int), .int .u64 (pv : Int), .slice KP (kept.take 22).length kc, .slice U (used.take 42).length uc], .int .i64 mo] w1 (fun e w' => e = .returned (.tuple #[.agg #[.string ⟨#[]⟩, .string ⟨#[]⟩, .string ⟨#[]⟩, .string ⟨#[]⟩, .string ⟨#[]⟩, .int .u64 0, .int .u64 0, .int .u64 0, .slice none 0 0, .slice none 0 0], .slice none 0 0, .int .i64 2]) ∧ Below w1.heap.size w1 w') from Take_size ⟨ow, pe, ro, se, re, st, gt, pv, kept.take 22, used.take 42⟩ KP kc U uc w1 (Kd.C_below hK' hg) hkl (Kd.C_below hU' hg) hul hu1 mo hs (.inr hmo))
  have HFr := Lib.hid (fun w1 (hg : Below W.heap.size W w1) => RvFrame_yes a b c (ks.take 34) A cp w1 (Kd.C_below hA' hg) hal ha1 hf)
  have HSm := Lib.hid (fun w1 (hg : Below W.heap.size W w1) => show Calls Try.prog 11 #[.agg #[.int .i64 2, .int .u64 (a : Int), .int .u64 (b : Int), .int .u64 (c : Int), .string ⟨#[]⟩, .string ⟨#[]⟩, .int .u64 0, .int .u64 0, .string ⟨#[]⟩, .int .u64 0, .int .u64 0, .string ⟨#[]⟩, .slice A (ks.take 34).length cp], .agg #[.int .i64 2, .int .u64 (a : Int), .int .u64 (b : Int), .int .u64 (c : Int), .string ⟨#[]⟩, .string ⟨#[]⟩, .int .u64 0, .int .u64 0, .string ⟨#[]⟩, .int .u64 0, .int .u64 0, .string ⟨#[]⟩, .slice A (ks.take 34).length cp]] w1 (fun e w' => e = .returned (.bool true) ∧ Below w1.heap.size w1 w') from RSame_self (keyF a b c (ks.take 34)) A cp w1 (Kd.C_below hA' hg) hal ha1)
  have HRF := Lib.hid (fun w1 (hg : Below W.heap.size W w1) => show Calls Try.prog 9 #[.agg #[.int .i64 2, .int .u64 (a : Int), .int .u64 (b : Int), .int .u64 (c : Int), .string ⟨#[]⟩, .string ⟨#[]⟩, .int .u64 0, .int .u64 0, .string ⟨#[]⟩, .int .u64 0, .int .u64 0, .string ⟨#[]⟩, .slice A (ks.take 34).length cp]] w1 (fun e w' => e = .returned (.bool true) ∧ Below w1.heap.size w1 w') from hf ▸ RRight_fr (keyF a b c (ks.take 34)) A cp w1 (Kd.C_below hA' hg) hal ha1)
  clear hs hf hK hkc hU huc hA hc hK' hU' hA' hk1 hu1 ha1 hfew
  have j1 : (((kept.take 22).length : Nat) : Int) ≤ (kc : Int) := by omega
  have j2 : (((used.take 42).length : Nat) : Int) ≤ (uc : Int) := by omega
  generalize hk2 : (kept.take 22).length = k2 at *
  generalize hu2 : (used.take 42).length = u2 at *
  generalize hm2' : (ks.take 34).length = m at *
  have HU2 := Lib.hid hu2
  clear hk2 hu2 hm2' hkl hal
  have j3 : (0 : Int) ≤ (k2 : Int) := by omega
  have j4 : (0 : Int) ≤ (u2 : Int) := by omega
  have HO := (Own.start W).alloc' (.cells #[.string ow, .string pe, .string ro, .string se, .string re, .int .u64 (st : Int), .int .u64 (gt : Int), .int .u64 (pv : Int), .slice KP kn kc, .slice U un uc] 36) rfl
  go_enter Try.func4, Try.ntmps4
  go_wp2_with fail
  refine bstart (fun _ => W.heap.size) (n := 21) (ds := [17, 19]) #[false, false, false, false, false, false, false, false, false, false, false, false, false, false, false, false, false, false, false, false, false] (by kernel_rfl) rfl rfl HO.below.size (fun HBS => ?_)
  refine bseqS (n := 4) s1RT 0 131071 [1, 5, 133, 645, 17029, 17031, 17039, 17055, 17087, 17151, 17407, 18431, 20479, 24575, 32767, 98303, 131071] (by kernel_rfl) (.inl rfl) [(0, true, some 21), (2, true, some 23), (7, true, some 28), (9, true, some 30), (14, true, some 35), (1, false, some 22), (3, false, some 24), (4, true, some 25), (5, true, some 26), (6, true, some 27), (8, false, some 29), (10, false, some 31), (11, true, some 32), (12, true, some 33), (13, true, some 34), (16, true, some 37), (15, false, some 36)] #[true, true, true, true, true, true, true, true, true, true, true, true, true, true, true, true, true, false, false, false, false] HBS (by kernel_rfl) (by kernel_rfl) (by kernel_rfl) (by kernel_rfl) rfl (fun _ _ _ _ _ h => h) ?_
  iterate 5 (refine sP (v := ?_) (a' := ?_) rfl rfl (by rfl) ?_ ?_ ?_; rotate_left 2; (· intro w'; go_simp; with_reducible rfl); (· simp only [Act.put, List.setIfInBounds_toArray, List.set_cons_zero, List.set_cons_succ, kw64, kw32]; rfl))
  iterate 2 (refine sL (v := ?_) (a' := ?_) rfl rfl (by rfl) ?_ ?_ ?_; rotate_left 2; (· intro w1 hg; have c9 := (HO.up hg).cell 0 rfl; go_simp; with_reducible rfl); (· simp only [Act.put, List.setIfInBounds_toArray, List.set_cons_zero, List.set_cons_succ, kw64, kw32]; rfl))
  (refine sP (v := ?_) (a' := ?_) rfl rfl (by rfl) ?_ ?_ ?_; rotate_left 2; (· intro w'; go_simp; with_reducible rfl); (· simp only [Act.put, List.setIfInBounds_toArray, List.set_cons_zero, List.set_cons_succ, kw64, kw32]; rfl))
  (refine sP (v := .int .i64 (k2 : Int)) (a' := ?_) rfl rfl (by rfl) ?_ ?_ ?_; rotate_left 1; (· intro w'; go_simp; exact HMK.out); (· simp only [Act.put, List.setIfInBounds_toArray, List.set_cons_zero, List.set_cons_succ, kw64, kw32]; rfl))
  (refine sP (v := ?_) (a' := ?_) rfl rfl (by rfl) ?_ ?_ ?_; rotate_left 2; (· intro w'; go_simp; with_reducible rfl); (· simp only [Act.put, List.setIfInBounds_toArray, List.set_cons_zero, List.set_cons_succ, kw64, kw32]; rfl))
  iterate 2 (refine sL (v := ?_) (a' := ?_) rfl rfl (by rfl) ?_ ?_ ?_; rotate_left 2; (· intro w1 hg; have c9 := (HO.up hg).cell 0 rfl; go_simp; with_reducible rfl); (· simp only [Act.put, List.setIfInBounds_toArray, List.set_cons_zero, List.set_cons_succ, kw64, kw32]; rfl))
  (refine sP (v := ?_) (a' := ?_) rfl rfl (by rfl) ?_ ?_ ?_; rotate_left 2; (· intro w'; go_simp; with_reducible rfl); (· simp only [Act.put, List.setIfInBounds_toArray, List.set_cons_zero, List.set_cons_succ, kw64, kw32]; rfl))
  (refine sP (v := .int .i64 (u2 : Int)) (a' := ?_) rfl rfl (by rfl) ?_ ?_ ?_; rotate_left 1; (· intro w'; go_simp; exact HMU.out); (· simp only [Act.put, List.setIfInBounds_toArray, List.set_cons_zero, List.set_cons_succ, kw64, kw32]; rfl))
  iterate 2 (refine sP (v := ?_) (a' := ?_) rfl rfl (by rfl) ?_ ?_ ?_; rotate_left 2; (· intro w'; go_simp; with_reducible rfl); (· simp only [Act.put, List.setIfInBounds_toArray, List.set_cons_zero, List.set_cons_succ, kw64, kw32]; rfl))
  (refine sC (v := ?_) (a' := ?_) Try.func15 rfl rfl (by rfl) rfl (by kernel_rfl) rfl (by rfl) ?_ ?_ ?_; rotate_left 2; (· intro w1 hg; exact HF.out w1); (· simp only [Act.put, List.setIfInBounds_toArray, List.set_cons_zero, List.set_cons_succ, kw64, kw32]; rfl))
  refine bone (i := 17) (N := none) #[true, true, true, true, true, true, true, true, true, true, true, true, true, true, true, true, true, true, false, false, false] rfl rfl (by kernel_rfl) HBS (fun w1 hg K hK => ?_)
  rw [if_pos (by rfl)]
  replace HO := HO.up hg
  have c0 := HO.cell 0 rfl 8
  have f0 := HO.frozen 0 rfl 8
  go_simp
  refine hK _ _ (in_ds (by decide) (bel_set (by have := HO.ge 0 rfl; exact this))) (fun HBS => ?_)
  replace HO := HO.set' 0 rfl 8 (.slice KP k2 kc) (L' := [(W.heap.size, .cells #[.string ow, .string pe, .string ro, .string se, .string re, .int .u64 (st : Int), .int .u64 (gt : Int), .int .u64 (pv : Int), .slice KP k2 kc, .slice U un uc] 36 (0, 0))]) rfl
  clear c0 f0 hg K hK
  revert HO HBS
  generalize World.setCell w1 _ _ = wb
  intro HBS HO
  refine bseqS (n := 2) s1RT 262143 524287 [524287] (by kernel_rfl) (.inl rfl) [(18, true, some 38)] #[true, true, true, true, true, true, true, true, true, true, true, true, true, true, true, true, true, true, true, false, false] HBS (by kernel_rfl) (by kernel_rfl) (by kernel_rfl) (by kernel_rfl) rfl (fun _ _ _ _ _ h => h) ?_
  (refine sP (v := ?_) (a' := ?_) rfl rfl (by rfl) ?_ ?_ ?_; rotate_left 2; (· intro w'; go_simp; with_reducible rfl); (· simp only [Act.put, List.setIfInBounds_toArray, List.set_cons_zero, List.set_cons_succ, kw64, kw32]; rfl))
  refine bone (i := 19) (N := none) #[true, true, true, true, true, true, true, true, true, true, true, true, true, true, true, true, true, true, true, true, false] rfl rfl (by kernel_rfl) HBS (fun w1 hg K hK => ?_)
  rw [if_pos (by rfl)]
  replace HO := HO.up hg
  have c0 := HO.cell 0 rfl 9
  have f0 := HO.frozen 0 rfl 9
  go_simp
  refine hK _ _ (in_ds (by decide) (bel_set (by have := HO.ge 0 rfl; exact this))) (fun HBS => ?_)
  replace HO := HO.set' 0 rfl 9 (.slice U u2 uc) (L' := [(W.heap.size, .cells #[.string ow, .string pe, .string ro, .string se, .string re, .int .u64 (st : Int), .int .u64 (gt : Int), .int .u64 (pv : Int), .slice KP k2 kc, .slice U u2 uc] 36 (0, 0))]) rfl
  clear c0 f0 hg K hK
  revert HO HBS
  generalize World.setCell w1 _ _ = wb
  intro HBS HO
  refine bseqS (n := 0) s1RT 1048575 2097151 [2097151] (by kernel_rfl) (.inl rfl) [(20, true, some 5)] #[true, true, true, true, true, true, true, true, true, true, true, true, true, true, true, true, true, true, true, true, true] HBS (by kernel_rfl) (by kernel_rfl) (by kernel_rfl) (by kernel_rfl) rfl (fun _ _ _ _ _ h => h) ?_
  (refine sP (v := ?_) (a' := ?_) rfl rfl (by rfl) ?_ ?_ ?_; rotate_left 2; (· intro w'; go_simp; with_reducible rfl); (· simp only [Act.put, List.setIfInBounds_toArray, List.set_cons_zero, List.set_cons_succ, kw64, kw32]; rfl))
  refine bdone (by kernel_rfl) (fun w1 hg => ?_)
  replace HO := HO.up hg
  clear hg HF HMK HMU HBS
  go_wp2_with (refine wpList_load_row rfl 36 (.tmp 6) rfl W.heap.size (by rfl) _ #[.string ow, .string pe, .string ro, .string se, .string re, .int .u64 (st : Int), .int .u64 (gt : Int), .int .u64 (pv : Int), .slice KP k2 kc, .slice U u2 uc] _ _ (HO.blk 0 rfl) Try.underlying36 rfl (by kernel_rfl) ?_)
  refine (HT.out _ HO.below).mono ?_
  rintro e w2 ⟨rfl, hb⟩
  replace HO := HO.up hb
  clear hb HT
  replace HO := HO.alloc' (.cells #[.string ⟨#[]⟩, .string ⟨#[]⟩, .string ⟨#[]⟩, .string ⟨#[]⟩, .string ⟨#[]⟩, .int .u64 0, .int .u64 0, .int .u64 0, .slice none 0 0, .slice none 0 0] 36) rfl
  go_wp2_with (refine wpList_store_row rfl 36 (.tmp 13) (.tmp 43) rfl w2.heap.size #[.string ⟨#[]⟩, .string ⟨#[]⟩, .string ⟨#[]⟩, .string ⟨#[]⟩, .string ⟨#[]⟩, .int .u64 0, .int .u64 0, .int .u64 0, .slice none 0 0, .slice none 0 0] (by rfl) (by rfl) _ _ (HO.blk 0 rfl) (by kernel_rfl) rfl (sesC_one _ _ _ _ _ 0 0 0 _ _ _ _ _ _) ?_)
  replace HO := HO.setRow 0 rfl #[.string ⟨#[]⟩, .string ⟨#[]⟩, .string ⟨#[]⟩, .string ⟨#[]⟩, .string ⟨#[]⟩, .int .u64 0, .int .u64 0, .int .u64 0, .slice none 0 0, .slice none 0 0] (L' := [(w2.heap.size, .cells #[.string ⟨#[]⟩, .string ⟨#[]⟩, .string ⟨#[]⟩, .string ⟨#[]⟩, .string ⟨#[]⟩, .int .u64 0, .int .u64 0, .int .u64 0, .slice none 0 0, .slice none 0 0] 36 (0, 0)), (W.heap.size, .cells #[.string ow, .string pe, .string ro, .string se, .string re, .int .u64 (st : Int), .int .u64 (gt : Int), .int .u64 (pv : Int), .slice KP k2 kc, .slice U u2 uc] 36 (0, 0))]) rfl
  refine (HFr.out _ HO.below).mono ?_
  rintro e w3 ⟨rfl, hb⟩
  replace HO := HO.up hb
  clear hb HFr
  replace HO := HO.alloc' (.cells #[.int .i64 0, .int .u64 0, .int .u64 0, .int .u64 0, .string ⟨#[]⟩, .string ⟨#[]⟩, .int .u64 0, .int .u64 0, .string ⟨#[]⟩, .int .u64 0, .int .u64 0, .string ⟨#[]⟩, .slice none 0 0] 25) rfl
  go_wp2_with (refine wpList_store_row rfl 25 (.tmp 16) (.tmp 52) rfl w3.heap.size #[.int .i64 2, .int .u64 (a : Int), .int .u64 (b : Int), .int .u64 (c : Int), .string ⟨#[]⟩, .string ⟨#[]⟩, .int .u64 0, .int .u64 0, .string ⟨#[]⟩, .int .u64 0, .int .u64 0, .string ⟨#[]⟩, .slice A m cp] (by rfl) (by rfl) _ _ (HO.blk 0 rfl) (by kernel_rfl) rfl (frC_one _ _ _ _ _ _ _ _ _ _ _ _ _ _ _) ?_)
  replace HO := HO.setRow 0 rfl #[.int .i64 2, .int .u64 (a : Int), .int .u64 (b : Int), .int .u64 (c : Int), .string ⟨#[]⟩, .string ⟨#[]⟩, .int .u64 0, .int .u64 0, .string ⟨#[]⟩, .int .u64 0, .int .u64 0, .string ⟨#[]⟩, .slice A m cp] (L' := [(w3.heap.size, .cells #[.int .i64 2, .int .u64 (a : Int), .int .u64 (b : Int), .int .u64 (c : Int), .string ⟨#[]⟩, .string ⟨#[]⟩, .int .u64 0, .int .u64 0, .string ⟨#[]⟩, .int .u64 0, .int .u64 0, .string ⟨#[]⟩, .slice A m cp] 25 (0, 0)), (w2.heap.size, .cells #[.string ⟨#[]⟩, .string ⟨#[]⟩, .string ⟨#[]⟩, .string ⟨#[]⟩, .string ⟨#[]⟩, .int .u64 0, .int .u64 0, .int .u64 0, .slice none 0 0, .slice none 0 0] 36 (0, 0)), (W.heap.size, .cells #[.string ow, .string pe, .string ro, .string se, .string re, .int .u64 (st : Int), .int .u64 (gt : Int), .int .u64 (pv : Int), .slice KP k2 kc, .slice U u2 uc] 36 (0, 0))]) rfl
  replace HO := HO.alloc' (.cells #[.int .i64 2, .int .u64 (a : Int), .int .u64 (b : Int), .int .u64 (c : Int), .string ⟨#[]⟩, .string ⟨#[]⟩, .int .u64 0, .int .u64 0, .string ⟨#[]⟩, .int .u64 0, .int .u64 0, .string ⟨#[]⟩, .slice A m cp] 25) (show _ = w3.heap.size + 1 by simp [size_setRow])
  refine (HRF.out _ HO.below).mono ?_
  rintro e w4 ⟨rfl, hb⟩
  replace HO := HO.up hb
  clear hb HRF
  have c0 := HO.cell 0 rfl
  have c1 := HO.cell 1 rfl
  go_wp2_with fail
  refine (HSm.out _ HO.below).mono ?_
  rintro e w5 ⟨rfl, hb⟩
  replace HO := HO.up hb
  clear hb HSm c0 c1
  go_wp2_with fail
  refine (HAl.out _).mono ?_
  rintro e w6 ⟨rfl, hb⟩
  replace HO := HO.up hb
  clear hb HAl
  go_wp2_with (refine wpList_load_row rfl 36 (.tmp 6) rfl W.heap.size (by rfl) _ #[.string ow, .string pe, .string ro, .string se, .string re, .int .u64 (st : Int), .int .u64 (gt : Int), .int .u64 (pv : Int), .slice KP k2 kc, .slice U u2 uc] _ _ (HO.blk 3 rfl) Try.underlying36 rfl (by kernel_rfl) ?_)
  refine (HRS.out _ HO.below).mono ?_
  rintro e w7 ⟨rfl, hb⟩
  replace HO := HO.up hb
  clear hb HRS
  have c2 := HO.cell 2 rfl
  go_wp2_with fail
  refine (Same13_zeroR _).mono ?_
  rintro e w8 ⟨rfl, hb⟩
  replace HO := HO.up hb
  go_wp2
  go_ret
  exact ⟨rfl, HO.below⟩
set_option maxHeartbeats 8000000 in
set_option maxRecDepth 100000 in
theorem RT_hi_n (ow pe ro se re : ByteArray) (st gt pv : Nat) (kept : List Sk.KeptD) (used ks : List ByteArray) (KP : Option Addr) (kn kc : Nat) (U : Option Addr) (un uc : Nat) (A : Option Addr) (n cp : Nat) (mo : Int) (a b c : Nat) (W : World)
    (hK : Kd.C Sk.kK W KP kn kept) (hkc : kn ≤ kc) (hU : Kd.string.C W U un used) (huc : un ≤ uc) (hA : Kd.string.C W A n ks) (hc : n ≤ cp)
    (hs : rightS ⟨ow, pe, ro, se, re, st, gt, pv, kept.take 22, used.take 42⟩ = true) (hf : rightF (keyF a b c (ks.take 34)) = false) (hmo : 32 < mo) :
    Calls Try.prog 4 #[.agg #[.string ow, .string pe, .string ro, .string se, .string re, .int .u64 (st : Int), .int .u64 (gt : Int), .int .u64 (pv : Int), .slice KP kn kc, .slice U un uc], .int .i64 mo, .int .u64 (a : Int), .int .u64 (b : Int), .int .u64 (c : Int), .slice A n cp] W fun e W' => e = .returned (.bool true) ∧ Below W.heap.size W W' := by
  have hK' := take_G (k := 22) hK
  have hU' := take_G (k := 42) hU
  have hA' := take_G (k := 34) hA
  have HMK := Lib.hid (min_len (k := 22) hK.1)
  have HMU := Lib.hid (min_len (k := 42) hU.1)
  have hkl : (kept.take 22).length ≤ kc := by rw [List.length_take]; have := hK.1; omega
  have hul : (used.take 42).length ≤ uc := by rw [List.length_take]; have := hU.1; omega
  have hal : (ks.take 34).length ≤ cp := by rw [List.length_take]; have := hA.1; omega
  have hk1 : (kept.take 22).length ≤ 1000 := by rw [List.length_take]; omega
  have hu1 : (used.take 42).length ≤ 1000000 := by rw [List.length_take]; omega
  have ha1 : (ks.take 34).length ≤ 1000000 := by rw [List.length_take]; omega
  have hfew := few14 A n cp W hc
  have HF := Lib.hid (fun w1 => up_same (few14 A n cp w1 hc))
  rw [show min n 34 = (ks.take 34).length by rw [List.length_take]; have := hA.1; omega] at HF
  have HRS := Lib.hid (fun w1 (hg : Below W.heap.size W w1) => show Calls Try.prog 19 #[.agg #[.string ow, .string pe, .string ro, .string se, .string re, .int .u64 (st : Int), .int .u64 (gt : Int), .int .u64 (pv : Int), .slice KP (kept.take 22).length kc, .slice U (used.take 42).length uc]] w1 (fun e w' => e = .returned (.bool true) ∧ Below w1.heap.size w1 w') from hs ▸ RSRight_any ⟨ow, pe, ro, se, re, st, gt, pv, kept.take 22, used.take 42⟩ KP kc U uc w1 (Kd.C_below hK' hg) hkl hk1 (Kd.C_below hU' hg) hul hu1)
  have HAl := Lib.hid (fun w1 => alive14 w1)
  have HT := Lib.hid (fun w1 (hg : Below W.heap.size W w1) => show Calls Try.prog 16 #[.agg #[.string ow, .string pe, .string ro, .string se, .string re, .int .u64 (st : Int), .int .u64 (gt : Int), .int .u64 (pv : Int), .slice KP (kept.take 22).length kc, .slice U (used.take 42).length uc], .int .i64 mo] w1 (fun e w' => e = .returned (.tuple #[.agg #[.string ⟨#[]⟩, .string ⟨#[]⟩, .string ⟨#[]⟩, .string ⟨#[]⟩, .string ⟨#[]⟩, .int .u64 0, .int .u64 0, .int .u64 0, .slice none 0 0, .slice none 0 0], .slice none 0 0, .int .i64 2]) ∧ Below w1.heap.size w1 w') from Take_size ⟨ow, pe, ro, se, re, st, gt, pv, kept.take 22, used.take 42⟩ KP kc U uc w1 (Kd.C_below hK' hg) hkl (Kd.C_below hU' hg) hul hu1 mo hs (.inr hmo))
  have HFr := Lib.hid (fun w1 (hg : Below W.heap.size W w1) => RvFrame_no a b c (ks.take 34) A cp w1 (Kd.C_below hA' hg) hal ha1 hf)
  have HSm := Lib.hid (fun w1 (hg : Below W.heap.size W w1) => show Calls Try.prog 11 #[.agg #[.int .i64 0, .int .u64 0, .int .u64 0, .int .u64 0, .string ⟨#[]⟩, .string ⟨#[]⟩, .int .u64 0, .int .u64 0, .string ⟨#[]⟩, .int .u64 0, .int .u64 0, .string ⟨#[]⟩, .slice none 0 0], .agg #[.int .i64 0, .int .u64 0, .int .u64 0, .int .u64 0, .string ⟨#[]⟩, .string ⟨#[]⟩, .int .u64 0, .int .u64 0, .string ⟨#[]⟩, .int .u64 0, .int .u64 0, .string ⟨#[]⟩, .slice none 0 0]] w1 (fun e w' => e = .returned (.bool true) ∧ Below w1.heap.size w1 w') from RSame_self (⟨0, 0, 0, 0, ⟨#[]⟩, ⟨#[]⟩, 0, 0, ⟨#[]⟩, 0, 0, ⟨#[]⟩, []⟩ : FrD) none 0 w1 (C_zero _ _ _) (Nat.le_refl 0) (by decide))
  have HRF := Lib.hid (fun w1 (hg : Below W.heap.size W w1) => show Calls Try.prog 9 #[.agg #[.int .i64 2, .int .u64 (a : Int), .int .u64 (b : Int), .int .u64 (c : Int), .string ⟨#[]⟩, .string ⟨#[]⟩, .int .u64 0, .int .u64 0, .string ⟨#[]⟩, .int .u64 0, .int .u64 0, .string ⟨#[]⟩, .slice A (ks.take 34).length cp]] w1 (fun e w' => e = .returned (.bool false) ∧ Below w1.heap.size w1 w') from hf ▸ RRight_fr (keyF a b c (ks.take 34)) A cp w1 (Kd.C_below hA' hg) hal ha1)
  clear hs hf hK hkc hU huc hA hc hK' hU' hA' hk1 hu1 ha1 hfew
  have j1 : (((kept.take 22).length : Nat) : Int) ≤ (kc : Int) := by omega
  have j2 : (((used.take 42).length : Nat) : Int) ≤ (uc : Int) := by omega
  generalize hk2 : (kept.take 22).length = k2 at *
  generalize hu2 : (used.take 42).length = u2 at *
  generalize hm2' : (ks.take 34).length = m at *
  have HU2 := Lib.hid hu2
  clear hk2 hu2 hm2' hkl hal
  have j3 : (0 : Int) ≤ (k2 : Int) := by omega
  have j4 : (0 : Int) ≤ (u2 : Int) := by omega
  have HO := (Own.start W).alloc' (.cells #[.string ow, .string pe, .string ro, .string se, .string re, .int .u64 (st : Int), .int .u64 (gt : Int), .int .u64 (pv : Int), .slice KP kn kc, .slice U un uc] 36) rfl
  go_enter Try.func4, Try.ntmps4
  go_wp2_with fail
  refine bstart (fun _ => W.heap.size) (n := 21) (ds := [17, 19]) #[false, false, false, false, false, false, false, false, false, false, false, false, false, false, false, false, false, false, false, false, false] (by kernel_rfl) rfl rfl HO.below.size (fun HBS => ?_)
  refine bseqS (n := 4) s1RT 0 131071 [1, 5, 133, 645, 17029, 17031, 17039, 17055, 17087, 17151, 17407, 18431, 20479, 24575, 32767, 98303, 131071] (by kernel_rfl) (.inl rfl) [(0, true, some 21), (2, true, some 23), (7, true, some 28), (9, true, some 30), (14, true, some 35), (1, false, some 22), (3, false, some 24), (4, true, some 25), (5, true, some 26), (6, true, some 27), (8, false, some 29), (10, false, some 31), (11, true, some 32), (12, true, some 33), (13, true, some 34), (16, true, some 37), (15, false, some 36)] #[true, true, true, true, true, true, true, true, true, true, true, true, true, true, true, true, true, false, false, false, false] HBS (by kernel_rfl) (by kernel_rfl) (by kernel_rfl) (by kernel_rfl) rfl (fun _ _ _ _ _ h => h) ?_
  iterate 5 (refine sP (v := ?_) (a' := ?_) rfl rfl (by rfl) ?_ ?_ ?_; rotate_left 2; (· intro w'; go_simp; with_reducible rfl); (· simp only [Act.put, List.setIfInBounds_toArray, List.set_cons_zero, List.set_cons_succ, kw64, kw32]; rfl))
  iterate 2 (refine sL (v := ?_) (a' := ?_) rfl rfl (by rfl) ?_ ?_ ?_; rotate_left 2; (· intro w1 hg; have c9 := (HO.up hg).cell 0 rfl; go_simp; with_reducible rfl); (· simp only [Act.put, List.setIfInBounds_toArray, List.set_cons_zero, List.set_cons_succ, kw64, kw32]; rfl))
  (refine sP (v := ?_) (a' := ?_) rfl rfl (by rfl) ?_ ?_ ?_; rotate_left 2; (· intro w'; go_simp; with_reducible rfl); (· simp only [Act.put, List.setIfInBounds_toArray, List.set_cons_zero, List.set_cons_succ, kw64, kw32]; rfl))
  (refine sP (v := .int .i64 (k2 : Int)) (a' := ?_) rfl rfl (by rfl) ?_ ?_ ?_; rotate_left 1; (· intro w'; go_simp; exact HMK.out); (· simp only [Act.put, List.setIfInBounds_toArray, List.set_cons_zero, List.set_cons_succ, kw64, kw32]; rfl))
  (refine sP (v := ?_) (a' := ?_) rfl rfl (by rfl) ?_ ?_ ?_; rotate_left 2; (· intro w'; go_simp; with_reducible rfl); (· simp only [Act.put, List.setIfInBounds_toArray, List.set_cons_zero, List.set_cons_succ, kw64, kw32]; rfl))
  iterate 2 (refine sL (v := ?_) (a' := ?_) rfl rfl (by rfl) ?_ ?_ ?_; rotate_left 2; (· intro w1 hg; have c9 := (HO.up hg).cell 0 rfl; go_simp; with_reducible rfl); (· simp only [Act.put, List.setIfInBounds_toArray, List.set_cons_zero, List.set_cons_succ, kw64, kw32]; rfl))
  (refine sP (v := ?_) (a' := ?_) rfl rfl (by rfl) ?_ ?_ ?_; rotate_left 2; (· intro w'; go_simp; with_reducible rfl); (· simp only [Act.put, List.setIfInBounds_toArray, List.set_cons_zero, List.set_cons_succ, kw64, kw32]; rfl))
  (refine sP (v := .int .i64 (u2 : Int)) (a' := ?_) rfl rfl (by rfl) ?_ ?_ ?_; rotate_left 1; (· intro w'; go_simp; exact HMU.out); (· simp only [Act.put, List.setIfInBounds_toArray, List.set_cons_zero, List.set_cons_succ, kw64, kw32]; rfl))
  iterate 2 (refine sP (v := ?_) (a' := ?_) rfl rfl (by rfl) ?_ ?_ ?_; rotate_left 2; (· intro w'; go_simp; with_reducible rfl); (· simp only [Act.put, List.setIfInBounds_toArray, List.set_cons_zero, List.set_cons_succ, kw64, kw32]; rfl))
  (refine sC (v := ?_) (a' := ?_) Try.func15 rfl rfl (by rfl) rfl (by kernel_rfl) rfl (by rfl) ?_ ?_ ?_; rotate_left 2; (· intro w1 hg; exact HF.out w1); (· simp only [Act.put, List.setIfInBounds_toArray, List.set_cons_zero, List.set_cons_succ, kw64, kw32]; rfl))
  refine bone (i := 17) (N := none) #[true, true, true, true, true, true, true, true, true, true, true, true, true, true, true, true, true, true, false, false, false] rfl rfl (by kernel_rfl) HBS (fun w1 hg K hK => ?_)
  rw [if_pos (by rfl)]
  replace HO := HO.up hg
  have c0 := HO.cell 0 rfl 8
  have f0 := HO.frozen 0 rfl 8
  go_simp
  refine hK _ _ (in_ds (by decide) (bel_set (by have := HO.ge 0 rfl; exact this))) (fun HBS => ?_)
  replace HO := HO.set' 0 rfl 8 (.slice KP k2 kc) (L' := [(W.heap.size, .cells #[.string ow, .string pe, .string ro, .string se, .string re, .int .u64 (st : Int), .int .u64 (gt : Int), .int .u64 (pv : Int), .slice KP k2 kc, .slice U un uc] 36 (0, 0))]) rfl
  clear c0 f0 hg K hK
  revert HO HBS
  generalize World.setCell w1 _ _ = wb
  intro HBS HO
  refine bseqS (n := 2) s1RT 262143 524287 [524287] (by kernel_rfl) (.inl rfl) [(18, true, some 38)] #[true, true, true, true, true, true, true, true, true, true, true, true, true, true, true, true, true, true, true, false, false] HBS (by kernel_rfl) (by kernel_rfl) (by kernel_rfl) (by kernel_rfl) rfl (fun _ _ _ _ _ h => h) ?_
  (refine sP (v := ?_) (a' := ?_) rfl rfl (by rfl) ?_ ?_ ?_; rotate_left 2; (· intro w'; go_simp; with_reducible rfl); (· simp only [Act.put, List.setIfInBounds_toArray, List.set_cons_zero, List.set_cons_succ, kw64, kw32]; rfl))
  refine bone (i := 19) (N := none) #[true, true, true, true, true, true, true, true, true, true, true, true, true, true, true, true, true, true, true, true, false] rfl rfl (by kernel_rfl) HBS (fun w1 hg K hK => ?_)
  rw [if_pos (by rfl)]
  replace HO := HO.up hg
  have c0 := HO.cell 0 rfl 9
  have f0 := HO.frozen 0 rfl 9
  go_simp
  refine hK _ _ (in_ds (by decide) (bel_set (by have := HO.ge 0 rfl; exact this))) (fun HBS => ?_)
  replace HO := HO.set' 0 rfl 9 (.slice U u2 uc) (L' := [(W.heap.size, .cells #[.string ow, .string pe, .string ro, .string se, .string re, .int .u64 (st : Int), .int .u64 (gt : Int), .int .u64 (pv : Int), .slice KP k2 kc, .slice U u2 uc] 36 (0, 0))]) rfl
  clear c0 f0 hg K hK
  revert HO HBS
  generalize World.setCell w1 _ _ = wb
  intro HBS HO
  refine bseqS (n := 0) s1RT 1048575 2097151 [2097151] (by kernel_rfl) (.inl rfl) [(20, true, some 5)] #[true, true, true, true, true, true, true, true, true, true, true, true, true, true, true, true, true, true, true, true, true] HBS (by kernel_rfl) (by kernel_rfl) (by kernel_rfl) (by kernel_rfl) rfl (fun _ _ _ _ _ h => h) ?_
  (refine sP (v := ?_) (a' := ?_) rfl rfl (by rfl) ?_ ?_ ?_; rotate_left 2; (· intro w'; go_simp; with_reducible rfl); (· simp only [Act.put, List.setIfInBounds_toArray, List.set_cons_zero, List.set_cons_succ, kw64, kw32]; rfl))
  refine bdone (by kernel_rfl) (fun w1 hg => ?_)
  replace HO := HO.up hg
  clear hg HF HMK HMU HBS
  go_wp2_with (refine wpList_load_row rfl 36 (.tmp 6) rfl W.heap.size (by rfl) _ #[.string ow, .string pe, .string ro, .string se, .string re, .int .u64 (st : Int), .int .u64 (gt : Int), .int .u64 (pv : Int), .slice KP k2 kc, .slice U u2 uc] _ _ (HO.blk 0 rfl) Try.underlying36 rfl (by kernel_rfl) ?_)
  refine (HT.out _ HO.below).mono ?_
  rintro e w2 ⟨rfl, hb⟩
  replace HO := HO.up hb
  clear hb HT
  replace HO := HO.alloc' (.cells #[.string ⟨#[]⟩, .string ⟨#[]⟩, .string ⟨#[]⟩, .string ⟨#[]⟩, .string ⟨#[]⟩, .int .u64 0, .int .u64 0, .int .u64 0, .slice none 0 0, .slice none 0 0] 36) rfl
  go_wp2_with (refine wpList_store_row rfl 36 (.tmp 13) (.tmp 43) rfl w2.heap.size #[.string ⟨#[]⟩, .string ⟨#[]⟩, .string ⟨#[]⟩, .string ⟨#[]⟩, .string ⟨#[]⟩, .int .u64 0, .int .u64 0, .int .u64 0, .slice none 0 0, .slice none 0 0] (by rfl) (by rfl) _ _ (HO.blk 0 rfl) (by kernel_rfl) rfl (sesC_one _ _ _ _ _ 0 0 0 _ _ _ _ _ _) ?_)
  replace HO := HO.setRow 0 rfl #[.string ⟨#[]⟩, .string ⟨#[]⟩, .string ⟨#[]⟩, .string ⟨#[]⟩, .string ⟨#[]⟩, .int .u64 0, .int .u64 0, .int .u64 0, .slice none 0 0, .slice none 0 0] (L' := [(w2.heap.size, .cells #[.string ⟨#[]⟩, .string ⟨#[]⟩, .string ⟨#[]⟩, .string ⟨#[]⟩, .string ⟨#[]⟩, .int .u64 0, .int .u64 0, .int .u64 0, .slice none 0 0, .slice none 0 0] 36 (0, 0)), (W.heap.size, .cells #[.string ow, .string pe, .string ro, .string se, .string re, .int .u64 (st : Int), .int .u64 (gt : Int), .int .u64 (pv : Int), .slice KP k2 kc, .slice U u2 uc] 36 (0, 0))]) rfl
  refine (HFr.out _ HO.below).mono ?_
  rintro e w3 ⟨rfl, hb⟩
  replace HO := HO.up hb
  clear hb HFr
  replace HO := HO.alloc' (.cells #[.int .i64 0, .int .u64 0, .int .u64 0, .int .u64 0, .string ⟨#[]⟩, .string ⟨#[]⟩, .int .u64 0, .int .u64 0, .string ⟨#[]⟩, .int .u64 0, .int .u64 0, .string ⟨#[]⟩, .slice none 0 0] 25) rfl
  go_wp2_with (refine wpList_store_row rfl 25 (.tmp 16) (.tmp 52) rfl w3.heap.size #[.int .i64 0, .int .u64 0, .int .u64 0, .int .u64 0, .string ⟨#[]⟩, .string ⟨#[]⟩, .int .u64 0, .int .u64 0, .string ⟨#[]⟩, .int .u64 0, .int .u64 0, .string ⟨#[]⟩, .slice none 0 0] (by rfl) (by rfl) _ _ (HO.blk 0 rfl) (by kernel_rfl) rfl (frC_one _ _ _ _ _ _ _ _ _ _ _ _ _ _ _) ?_)
  replace HO := HO.setRow 0 rfl #[.int .i64 0, .int .u64 0, .int .u64 0, .int .u64 0, .string ⟨#[]⟩, .string ⟨#[]⟩, .int .u64 0, .int .u64 0, .string ⟨#[]⟩, .int .u64 0, .int .u64 0, .string ⟨#[]⟩, .slice none 0 0] (L' := [(w3.heap.size, .cells #[.int .i64 0, .int .u64 0, .int .u64 0, .int .u64 0, .string ⟨#[]⟩, .string ⟨#[]⟩, .int .u64 0, .int .u64 0, .string ⟨#[]⟩, .int .u64 0, .int .u64 0, .string ⟨#[]⟩, .slice none 0 0] 25 (0, 0)), (w2.heap.size, .cells #[.string ⟨#[]⟩, .string ⟨#[]⟩, .string ⟨#[]⟩, .string ⟨#[]⟩, .string ⟨#[]⟩, .int .u64 0, .int .u64 0, .int .u64 0, .slice none 0 0, .slice none 0 0] 36 (0, 0)), (W.heap.size, .cells #[.string ow, .string pe, .string ro, .string se, .string re, .int .u64 (st : Int), .int .u64 (gt : Int), .int .u64 (pv : Int), .slice KP k2 kc, .slice U u2 uc] 36 (0, 0))]) rfl
  replace HO := HO.alloc' (.cells #[.int .i64 2, .int .u64 (a : Int), .int .u64 (b : Int), .int .u64 (c : Int), .string ⟨#[]⟩, .string ⟨#[]⟩, .int .u64 0, .int .u64 0, .string ⟨#[]⟩, .int .u64 0, .int .u64 0, .string ⟨#[]⟩, .slice A m cp] 25) (show _ = w3.heap.size + 1 by simp [size_setRow])
  refine (HRF.out _ HO.below).mono ?_
  rintro e w4 ⟨rfl, hb⟩
  replace HO := HO.up hb
  clear hb HRF
  have c0 := HO.cell 0 rfl
  have c1 := HO.cell 1 rfl
  go_wp2_with fail
  refine (HSm.out _ HO.below).mono ?_
  rintro e w5 ⟨rfl, hb⟩
  replace HO := HO.up hb
  clear hb HSm c0 c1
  go_wp2_with fail
  refine (HAl.out _).mono ?_
  rintro e w6 ⟨rfl, hb⟩
  replace HO := HO.up hb
  clear hb HAl
  go_wp2_with (refine wpList_load_row rfl 36 (.tmp 6) rfl W.heap.size (by rfl) _ #[.string ow, .string pe, .string ro, .string se, .string re, .int .u64 (st : Int), .int .u64 (gt : Int), .int .u64 (pv : Int), .slice KP k2 kc, .slice U u2 uc] _ _ (HO.blk 3 rfl) Try.underlying36 rfl (by kernel_rfl) ?_)
  refine (HRS.out _ HO.below).mono ?_
  rintro e w7 ⟨rfl, hb⟩
  replace HO := HO.up hb
  clear hb HRS
  have c2 := HO.cell 2 rfl
  go_wp2_with fail
  refine (Same13_zeroR _).mono ?_
  rintro e w8 ⟨rfl, hb⟩
  replace HO := HO.up hb
  go_wp2
  go_ret
  exact ⟨rfl, HO.below⟩
end Go.Proofs.Ytfghjahmnjghgaa
