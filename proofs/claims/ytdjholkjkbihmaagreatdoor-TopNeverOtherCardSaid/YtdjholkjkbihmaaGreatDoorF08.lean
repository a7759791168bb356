/- Laws and walks of TopNeverOther. -/
import Derived.Shelf.Small.Strs
import Derived.Shelf.Small.Wraps
import Derived.Shelf.Strings.Prefix
import Derived.Shelf.Strings.Repeat
import Derived.Shelf.Strconv.Itoa4
import Derived.Shelf.Strconv.ErrVarParseInt
import Derived.Shelf.Sort.Plain
import Derived.Shelf.Slices.In.SortNone
import Derived.Shelf.Slices.Turned
import Derived.Shelf.Slices.CompactS
import Derived.Shelf.Slices.Cells
import Derived.Test.YtdjholkjkbihmaaGreatDoorRows
import Derived.Test.YtdjholkjkbihmaaGreatDoorF07
namespace Go.Proofs.YtdjholkjkbihmaaGreatDoor
open Go.RowKit
set_option maxRecDepth 100000
set_option maxHeartbeats 4000000
section
open Go.Shelf Go.RowKit
def lren :Go.Shelf.Ren:=⟨fun | 99=>144 | 103=>194 | 105=>156 | 106=>253 | 109=>147 | 110=>87 | 125=>146 | 128=>214 | 129=>215 | 165=>122 | 166=>124 | 169=>61 | 170=>220 | 171=>285 | 173=>173 | 174=>229 | 190=>85 | 194=>86 | 205=>284 | 206=>204 | 210=>239 | 212=>219 | 213=>267 | 240=>121 | 241=>175 | 243=>288 | 245=>257 | 246=>232 | 247=>256 | 258=>145 | 263=>249 | 264=>250 | 265=>279 | 276=>174 | 277=>233 | 279=>270 | 280=>271 | 281=>272 | 282=>273 | 283=>258 | 284=>259 | 285=>260 | 286=>261 | 287=>269 | 302=>205 | 303=>206 | 304=>207 | 305=>208 | 306=>209 | 307=>210 | 308=>211 | 309=>212 | 310=>213 | 316=>283 | 317=>274 | 318=>275 | 319=>276 | 320=>277 | 321=>281 | 322=>282 | 329=>242 | 330=>243 | 333=>241 | 334=>244 | 335=>245 | 336=>246 | 337=>286 | 338=>287 | 344=>265 | n=>n,fun | 0=>0 | 2=>2 | 3=>3 | 4=>4 | 5=>5 | 9=>9 | 20=>20 | 21=>21 | 24=>216 | 31=>48 | 37=>75 | 46=>227 | 51=>124 | 53=>63 | 70=>138 | 72=>140 | 75=>144 | 76=>145 | 80=>147 | 85=>356 | 109=>346 | 127=>228 | 131=>336 | 143=>412 | 145=>414 | 146=>378 | 148=>380 | 164=>298 | 167=>397 | 168=>400 | 171=>388 | 173=>390 | 175=>398 | 182=>331 | 183=>332 | 210=>410 | 212=>404 | 213=>405 | 218=>370 | 222=>374 | 228=>394 | 229=>266 | 232=>22 | 233=>24 | n=>n,fun | 15=>4 | 16=>5 | 17=>3 | 18=>6 | 19=>7 | n=>n⟩
theorem lay106 :Go.Proofs.Lays.n106 Tryz.prog lren:={
 mixed:=by kernel_rfl
 f106:=Tryz.func253.trans (congrArg some (by kernel_rfl))
 f213:=Tryz.func267.trans (congrArg some (by kernel_rfl))
 f265:=Tryz.func279.trans (congrArg some (by kernel_rfl))
 t3:=Tryz.underlying3
 a3:=Tryz.isAgg3
 z3:=Tryz.sizeOf3
 v3:=Tryz.zeroValue3
 t9:=Tryz.underlying9
 a9:=Tryz.isAgg9
 z9:=Tryz.sizeOf9
 v9:=Tryz.zeroValue9 }
theorem lay99 :Go.Proofs.Lays.n99 Tryz.prog lren:={
 mixed:=by kernel_rfl
 f99:=Tryz.func144.trans (congrArg some (by kernel_rfl))
 f206:=Tryz.func204.trans (congrArg some (by kernel_rfl))
 t3:=Tryz.underlying3
 a3:=Tryz.isAgg3
 z3:=Tryz.sizeOf3
 v3:=Tryz.zeroValue3
 t4:=Tryz.underlying4
 a4:=Tryz.isAgg4
 z4:=Tryz.sizeOf4
 v4:=Tryz.zeroValue4
 t9:=Tryz.underlying9
 a9:=Tryz.isAgg9
 z9:=Tryz.sizeOf9
 v9:=Tryz.zeroValue9 }
theorem lay103 :Go.Proofs.Lays.n103 Tryz.prog lren:={
 mixed:=by kernel_rfl
 f103:=Tryz.func194.trans (congrArg some (by kernel_rfl))
 f206:=Tryz.func204.trans (congrArg some (by kernel_rfl))
 f210:=Tryz.func239.trans (congrArg some (by kernel_rfl))
 t3:=Tryz.underlying3
 a3:=Tryz.isAgg3
 z3:=Tryz.sizeOf3
 v3:=Tryz.zeroValue3
 t4:=Tryz.underlying4
 a4:=Tryz.isAgg4
 z4:=Tryz.sizeOf4
 v4:=Tryz.zeroValue4
 t9:=Tryz.underlying9
 a9:=Tryz.isAgg9
 z9:=Tryz.sizeOf9
 v9:=Tryz.zeroValue9
 t24:=Tryz.underlying216
 a24:=Tryz.isAgg216
 z24:=Tryz.sizeOf216
 v24:=Tryz.zeroValue216 }
theorem lay105 :Go.Proofs.Lays.n105 Tryz.prog lren:={
 mixed:=by kernel_rfl
 f99:=Tryz.func144.trans (congrArg some (by kernel_rfl))
 f105:=Tryz.func156.trans (congrArg some (by kernel_rfl))
 f165:=Tryz.func122.trans (congrArg some (by kernel_rfl))
 f166:=Tryz.func124.trans (congrArg some (by kernel_rfl))
 f169:=Tryz.func61.trans (congrArg some (by kernel_rfl))
 f170:=Tryz.func220.trans (congrArg some (by kernel_rfl))
 f206:=Tryz.func204.trans (congrArg some (by kernel_rfl))
 f212:=Tryz.func219.trans (congrArg some (by kernel_rfl))
 f240:=Tryz.func121.trans (congrArg some (by kernel_rfl))
 f241:=Tryz.func175.trans (congrArg some (by kernel_rfl))
 f263:=Tryz.func249.trans (congrArg some (by kernel_rfl))
 f264:=Tryz.func250.trans (congrArg some (by kernel_rfl))
 f276:=Tryz.func174.trans (congrArg some (by kernel_rfl))
 f277:=Tryz.func233.trans (congrArg some (by kernel_rfl))
 t0:=Tryz.underlying0
 a0:=Tryz.isAgg0
 z0:=Tryz.sizeOf0
 v0:=Tryz.zeroValue0
 t3:=Tryz.underlying3
 a3:=Tryz.isAgg3
 z3:=Tryz.sizeOf3
 v3:=Tryz.zeroValue3
 t4:=Tryz.underlying4
 a4:=Tryz.isAgg4
 z4:=Tryz.sizeOf4
 v4:=Tryz.zeroValue4
 t5:=Tryz.underlying5
 a5:=Tryz.isAgg5
 z5:=Tryz.sizeOf5
 v5:=Tryz.zeroValue5
 t9:=Tryz.underlying9
 a9:=Tryz.isAgg9
 z9:=Tryz.sizeOf9
 v9:=Tryz.zeroValue9
 t20:=Tryz.underlying20
 a20:=Tryz.isAgg20
 z20:=Tryz.sizeOf20
 v20:=Tryz.zeroValue20
 t37:=Tryz.underlying75
 a37:=Tryz.isAgg75
 z37:=Tryz.sizeOf75
 v37:=Tryz.zeroValue75
 t46:=Tryz.underlying227
 a46:=Tryz.isAgg227
 z46:=Tryz.sizeOf227
 v46:=Tryz.zeroValue227
 t51:=Tryz.underlying124
 a51:=Tryz.isAgg124
 z51:=Tryz.sizeOf124
 v51:=Tryz.zeroValue124
 t53:=Tryz.underlying63
 a53:=Tryz.isAgg63
 z53:=Tryz.sizeOf63
 v53:=Tryz.zeroValue63
 t70:=Tryz.underlying138
 a70:=Tryz.isAgg138
 z70:=Tryz.sizeOf138
 v70:=Tryz.zeroValue138
 t72:=Tryz.underlying140
 a72:=Tryz.isAgg140
 z72:=Tryz.sizeOf140
 v72:=Tryz.zeroValue140
 t75:=Tryz.underlying144
 a75:=Tryz.isAgg144
 z75:=Tryz.sizeOf144
 v75:=Tryz.zeroValue144
 t76:=Tryz.underlying145
 a76:=Tryz.isAgg145
 z76:=Tryz.sizeOf145
 v76:=Tryz.zeroValue145
 t109:=Tryz.underlying346
 a109:=Tryz.isAgg346
 z109:=Tryz.sizeOf346
 v109:=Tryz.zeroValue346
 t127:=Tryz.underlying228
 a127:=Tryz.isAgg228
 z127:=Tryz.sizeOf228
 v127:=Tryz.zeroValue228
 t146:=Tryz.underlying378
 a146:=Tryz.isAgg378
 z146:=Tryz.sizeOf378
 v146:=Tryz.zeroValue378
 t148:=Tryz.underlying380
 a148:=Tryz.isAgg380
 z148:=Tryz.sizeOf380
 v148:=Tryz.zeroValue380
 t164:=Tryz.underlying298
 a164:=Tryz.isAgg298
 z164:=Tryz.sizeOf298
 v164:=Tryz.zeroValue298 }
theorem lay173 :Go.Proofs.LaysM.n173 Tryz.prog lren:={
 mixed:=by kernel_rfl
 f129:=Tryz.func215.trans (congrArg some (by kernel_rfl))
 f173:=Tryz.func173.trans (congrArg some (by kernel_rfl))
 f246:=Tryz.func232.trans (congrArg some (by kernel_rfl))
 f283:=Tryz.func258.trans (congrArg some (by kernel_rfl))
 f284:=Tryz.func259.trans (congrArg some (by kernel_rfl))
 f285:=Tryz.func260.trans (congrArg some (by kernel_rfl))
 f286:=Tryz.func261.trans (congrArg some (by kernel_rfl))
 f317:=Tryz.func274.trans (congrArg some (by kernel_rfl))
 f318:=Tryz.func275.trans (congrArg some (by kernel_rfl))
 f319:=Tryz.func276.trans (congrArg some (by kernel_rfl))
 f320:=Tryz.func277.trans (congrArg some (by kernel_rfl))
 f337:=Tryz.func286.trans (congrArg some (by kernel_rfl))
 f338:=Tryz.func287.trans (congrArg some (by kernel_rfl))
 t0:=Tryz.underlying0
 a0:=Tryz.isAgg0
 z0:=Tryz.sizeOf0
 v0:=Tryz.zeroValue0
 t2:=Tryz.underlying2
 a2:=Tryz.isAgg2
 z2:=Tryz.sizeOf2
 v2:=Tryz.zeroValue2
 t3:=Tryz.underlying3
 a3:=Tryz.isAgg3
 z3:=Tryz.sizeOf3
 v3:=Tryz.zeroValue3
 t4:=Tryz.underlying4
 a4:=Tryz.isAgg4
 z4:=Tryz.sizeOf4
 v4:=Tryz.zeroValue4
 t5:=Tryz.underlying5
 a5:=Tryz.isAgg5
 z5:=Tryz.sizeOf5
 v5:=Tryz.zeroValue5
 t9:=Tryz.underlying9
 a9:=Tryz.isAgg9
 z9:=Tryz.sizeOf9
 v9:=Tryz.zeroValue9
 t20:=Tryz.underlying20
 a20:=Tryz.isAgg20
 z20:=Tryz.sizeOf20
 v20:=Tryz.zeroValue20
 t37:=Tryz.underlying75
 a37:=Tryz.isAgg75
 z37:=Tryz.sizeOf75
 v37:=Tryz.zeroValue75
 t46:=Tryz.underlying227
 a46:=Tryz.isAgg227
 z46:=Tryz.sizeOf227
 v46:=Tryz.zeroValue227
 t51:=Tryz.underlying124
 a51:=Tryz.isAgg124
 z51:=Tryz.sizeOf124
 v51:=Tryz.zeroValue124
 t53:=Tryz.underlying63
 a53:=Tryz.isAgg63
 z53:=Tryz.sizeOf63
 v53:=Tryz.zeroValue63
 t171:=Tryz.underlying388
 a171:=Tryz.isAgg388
 z171:=Tryz.sizeOf388
 v171:=Tryz.zeroValue388
 t173:=Tryz.underlying390
 a173:=Tryz.isAgg390
 z173:=Tryz.sizeOf390
 v173:=Tryz.zeroValue390
 t212:=Tryz.underlying404
 a212:=Tryz.isAgg404
 z212:=Tryz.sizeOf404
 v212:=Tryz.zeroValue404
 t213:=Tryz.underlying405
 a213:=Tryz.isAgg405
 z213:=Tryz.sizeOf405
 t232:=Tryz.underlying22
 a232:=Tryz.isAgg22
 z232:=Tryz.sizeOf22
 v232:=Tryz.zeroValue22
 t233:=Tryz.underlying24
 a233:=Tryz.isAgg24
 z233:=Tryz.sizeOf24
 v233:=Tryz.zeroValue24
 g17:=by kernel_rfl
 g18:=by kernel_rfl
 g19:=by kernel_rfl
 i0:=by kernel_rfl
 i2:=by kernel_rfl
 i3:=by kernel_rfl
 i4:=by kernel_rfl
 i5:=by kernel_rfl
 i9:=by kernel_rfl
 i20:=by kernel_rfl
 i37:=by kernel_rfl
 i46:=by kernel_rfl
 i51:=by kernel_rfl
 i53:=by kernel_rfl
 i171:=by kernel_rfl
 i173:=by kernel_rfl
 i212:=by kernel_rfl
 i232:=by kernel_rfl
 i233:=by kernel_rfl
 m17:=by kernel_rfl
 m18:=by kernel_rfl
 m19:=by kernel_rfl }
theorem lay174 :Go.Proofs.LaysC.n174 Tryz.prog lren:={
 mixed:=by kernel_rfl
 f129:=Tryz.func215.trans (congrArg some (by kernel_rfl))
 f171:=Tryz.func285.trans (congrArg some (by kernel_rfl))
 f174:=Tryz.func229.trans (congrArg some (by kernel_rfl))
 f205:=Tryz.func284.trans (congrArg some (by kernel_rfl))
 f243:=Tryz.func288.trans (congrArg some (by kernel_rfl))
 f245:=Tryz.func257.trans (congrArg some (by kernel_rfl))
 f246:=Tryz.func232.trans (congrArg some (by kernel_rfl))
 f247:=Tryz.func256.trans (congrArg some (by kernel_rfl))
 f279:=Tryz.func270.trans (congrArg some (by kernel_rfl))
 f280:=Tryz.func271.trans (congrArg some (by kernel_rfl))
 f281:=Tryz.func272.trans (congrArg some (by kernel_rfl))
 f282:=Tryz.func273.trans (congrArg some (by kernel_rfl))
 f283:=Tryz.func258.trans (congrArg some (by kernel_rfl))
 f284:=Tryz.func259.trans (congrArg some (by kernel_rfl))
 f285:=Tryz.func260.trans (congrArg some (by kernel_rfl))
 f286:=Tryz.func261.trans (congrArg some (by kernel_rfl))
 f287:=Tryz.func269.trans (congrArg some (by kernel_rfl))
 f316:=Tryz.func283.trans (congrArg some (by kernel_rfl))
 f317:=Tryz.func274.trans (congrArg some (by kernel_rfl))
 f318:=Tryz.func275.trans (congrArg some (by kernel_rfl))
 f319:=Tryz.func276.trans (congrArg some (by kernel_rfl))
 f320:=Tryz.func277.trans (congrArg some (by kernel_rfl))
 f321:=Tryz.func281.trans (congrArg some (by kernel_rfl))
 f322:=Tryz.func282.trans (congrArg some (by kernel_rfl))
 f337:=Tryz.func286.trans (congrArg some (by kernel_rfl))
 f338:=Tryz.func287.trans (congrArg some (by kernel_rfl))
 t0:=Tryz.underlying0
 a0:=Tryz.isAgg0
 z0:=Tryz.sizeOf0
 v0:=Tryz.zeroValue0
 t2:=Tryz.underlying2
 a2:=Tryz.isAgg2
 z2:=Tryz.sizeOf2
 v2:=Tryz.zeroValue2
 t3:=Tryz.underlying3
 a3:=Tryz.isAgg3
 z3:=Tryz.sizeOf3
 v3:=Tryz.zeroValue3
 t4:=Tryz.underlying4
 a4:=Tryz.isAgg4
 z4:=Tryz.sizeOf4
 v4:=Tryz.zeroValue4
 t5:=Tryz.underlying5
 a5:=Tryz.isAgg5
 z5:=Tryz.sizeOf5
 v5:=Tryz.zeroValue5
 t9:=Tryz.underlying9
 a9:=Tryz.isAgg9
 z9:=Tryz.sizeOf9
 v9:=Tryz.zeroValue9
 t20:=Tryz.underlying20
 a20:=Tryz.isAgg20
 z20:=Tryz.sizeOf20
 v20:=Tryz.zeroValue20
 t21:=Tryz.underlying21
 a21:=Tryz.isAgg21
 z21:=Tryz.sizeOf21
 v21:=Tryz.zeroValue21
 t37:=Tryz.underlying75
 a37:=Tryz.isAgg75
 z37:=Tryz.sizeOf75
 v37:=Tryz.zeroValue75
 t46:=Tryz.underlying227
 a46:=Tryz.isAgg227
 z46:=Tryz.sizeOf227
 v46:=Tryz.zeroValue227
 t51:=Tryz.underlying124
 a51:=Tryz.isAgg124
 z51:=Tryz.sizeOf124
 v51:=Tryz.zeroValue124
 t53:=Tryz.underlying63
 a53:=Tryz.isAgg63
 z53:=Tryz.sizeOf63
 v53:=Tryz.zeroValue63
 t75:=Tryz.underlying144
 a75:=Tryz.isAgg144
 z75:=Tryz.sizeOf144
 v75:=Tryz.zeroValue144
 t85:=Tryz.underlying356
 a85:=Tryz.isAgg356
 z85:=Tryz.sizeOf356
 v85:=Tryz.zeroValue356
 t127:=Tryz.underlying228
 a127:=Tryz.isAgg228
 z127:=Tryz.sizeOf228
 v127:=Tryz.zeroValue228
 t143:=Tryz.underlying412
 a143:=Tryz.isAgg412
 z143:=Tryz.sizeOf412
 v143:=Tryz.zeroValue412
 t145:=Tryz.underlying414
 a145:=Tryz.isAgg414
 z145:=Tryz.sizeOf414
 v145:=Tryz.zeroValue414
 t167:=Tryz.underlying397
 a167:=Tryz.isAgg397
 z167:=Tryz.sizeOf397
 v167:=Tryz.zeroValue397
 t168:=Tryz.underlying400
 a168:=Tryz.isAgg400
 z168:=Tryz.sizeOf400
 v168:=Tryz.zeroValue400
 t171:=Tryz.underlying388
 a171:=Tryz.isAgg388
 z171:=Tryz.sizeOf388
 v171:=Tryz.zeroValue388
 t173:=Tryz.underlying390
 a173:=Tryz.isAgg390
 z173:=Tryz.sizeOf390
 v173:=Tryz.zeroValue390
 t175:=Tryz.underlying398
 a175:=Tryz.isAgg398
 z175:=Tryz.sizeOf398
 v175:=Tryz.zeroValue398
 t210:=Tryz.underlying410
 a210:=Tryz.isAgg410
 z210:=Tryz.sizeOf410
 v210:=Tryz.zeroValue410
 t212:=Tryz.underlying404
 a212:=Tryz.isAgg404
 z212:=Tryz.sizeOf404
 v212:=Tryz.zeroValue404
 t213:=Tryz.underlying405
 a213:=Tryz.isAgg405
 z213:=Tryz.sizeOf405
 t232:=Tryz.underlying22
 a232:=Tryz.isAgg22
 z232:=Tryz.sizeOf22
 v232:=Tryz.zeroValue22
 t233:=Tryz.underlying24
 a233:=Tryz.isAgg24
 z233:=Tryz.sizeOf24
 v233:=Tryz.zeroValue24
 g15:=by kernel_rfl
 g16:=by kernel_rfl
 g17:=by kernel_rfl
 g18:=by kernel_rfl
 g19:=by kernel_rfl
 t80:=Tryz.underlying147
 a80:=Tryz.isAgg147
 z80:=Tryz.sizeOf147
 v80:=Tryz.zeroValue147
 i0:=by kernel_rfl
 i2:=by kernel_rfl
 i3:=by kernel_rfl
 i4:=by kernel_rfl
 i5:=by kernel_rfl
 i9:=by kernel_rfl
 i20:=by kernel_rfl
 i21:=by kernel_rfl
 i37:=by kernel_rfl
 i46:=by kernel_rfl
 i51:=by kernel_rfl
 i53:=by kernel_rfl
 i75:=by kernel_rfl
 i80:=by kernel_rfl
 i85:=by kernel_rfl
 i127:=by kernel_rfl
 i143:=by kernel_rfl
 i145:=by kernel_rfl
 i167:=by kernel_rfl
 i168:=by kernel_rfl
 i171:=by kernel_rfl
 i173:=by kernel_rfl
 i175:=by kernel_rfl
 i210:=by kernel_rfl
 i212:=by kernel_rfl
 i232:=by kernel_rfl
 i233:=by kernel_rfl
 m15:=by kernel_rfl
 m16:=by kernel_rfl
 m17:=by kernel_rfl
 m18:=by kernel_rfl
 m19:=by kernel_rfl
 c0:=by kernel_rfl
 c2:=by kernel_rfl
 c3:=by kernel_rfl
 c4:=by kernel_rfl
 c5:=by kernel_rfl
 c9:=by kernel_rfl
 c20:=by kernel_rfl
 c21:=by kernel_rfl
 c37:=by kernel_rfl
 c46:=by kernel_rfl
 c51:=by kernel_rfl
 c53:=by kernel_rfl
 c75:=by kernel_rfl
 c80:=by kernel_rfl
 c85:=by kernel_rfl
 c127:=by kernel_rfl
 c143:=by kernel_rfl
 c145:=by kernel_rfl
 c167:=by kernel_rfl
 c168:=by kernel_rfl
 c171:=by kernel_rfl
 c173:=by kernel_rfl
 c175:=by kernel_rfl
 c210:=by kernel_rfl
 c212:=by kernel_rfl
 c213:=by kernel_rfl
 c232:=by kernel_rfl
 c233:=by kernel_rfl }
theorem lay190 :Go.Proofs.Lays.n190 Tryz.prog lren:={
 mixed:=by kernel_rfl
 f125:=Tryz.func146.trans (congrArg some (by kernel_rfl))
 f128:=Tryz.func214.trans (congrArg some (by kernel_rfl))
 f129:=Tryz.func215.trans (congrArg some (by kernel_rfl))
 f190:=Tryz.func85.trans (congrArg some (by kernel_rfl))
 f258:=Tryz.func145.trans (congrArg some (by kernel_rfl))
 f302:=Tryz.func205.trans (congrArg some (by kernel_rfl))
 f303:=Tryz.func206.trans (congrArg some (by kernel_rfl))
 f304:=Tryz.func207.trans (congrArg some (by kernel_rfl))
 f305:=Tryz.func208.trans (congrArg some (by kernel_rfl))
 f306:=Tryz.func209.trans (congrArg some (by kernel_rfl))
 f307:=Tryz.func210.trans (congrArg some (by kernel_rfl))
 f308:=Tryz.func211.trans (congrArg some (by kernel_rfl))
 f309:=Tryz.func212.trans (congrArg some (by kernel_rfl))
 f310:=Tryz.func213.trans (congrArg some (by kernel_rfl))
 f329:=Tryz.func242.trans (congrArg some (by kernel_rfl))
 f330:=Tryz.func243.trans (congrArg some (by kernel_rfl))
 f333:=Tryz.func241.trans (congrArg some (by kernel_rfl))
 f334:=Tryz.func244.trans (congrArg some (by kernel_rfl))
 f335:=Tryz.func245.trans (congrArg some (by kernel_rfl))
 f336:=Tryz.func246.trans (congrArg some (by kernel_rfl))
 f344:=Tryz.func265.trans (congrArg some (by kernel_rfl))
 t0:=Tryz.underlying0
 a0:=Tryz.isAgg0
 z0:=Tryz.sizeOf0
 v0:=Tryz.zeroValue0
 t3:=Tryz.underlying3
 a3:=Tryz.isAgg3
 z3:=Tryz.sizeOf3
 v3:=Tryz.zeroValue3
 t4:=Tryz.underlying4
 a4:=Tryz.isAgg4
 z4:=Tryz.sizeOf4
 v4:=Tryz.zeroValue4
 t5:=Tryz.underlying5
 a5:=Tryz.isAgg5
 z5:=Tryz.sizeOf5
 v5:=Tryz.zeroValue5
 t9:=Tryz.underlying9
 a9:=Tryz.isAgg9
 z9:=Tryz.sizeOf9
 v9:=Tryz.zeroValue9
 t31:=Tryz.underlying48
 a31:=Tryz.isAgg48
 z31:=Tryz.sizeOf48
 v31:=Tryz.zeroValue48
 t46:=Tryz.underlying227
 a46:=Tryz.isAgg227
 z46:=Tryz.sizeOf227
 v46:=Tryz.zeroValue227
 t51:=Tryz.underlying124
 a51:=Tryz.isAgg124
 z51:=Tryz.sizeOf124
 v51:=Tryz.zeroValue124
 t53:=Tryz.underlying63
 a53:=Tryz.isAgg63
 z53:=Tryz.sizeOf63
 v53:=Tryz.zeroValue63
 t131:=Tryz.underlying336
 a131:=Tryz.isAgg336
 z131:=Tryz.sizeOf336
 v131:=Tryz.zeroValue336
 t182:=Tryz.underlying331
 a182:=Tryz.isAgg331
 z182:=Tryz.sizeOf331
 v182:=Tryz.zeroValue331
 t183:=Tryz.underlying332
 a183:=Tryz.isAgg332
 z183:=Tryz.sizeOf332
 v183:=Tryz.zeroValue332
 t218:=Tryz.underlying370
 a218:=Tryz.isAgg370
 z218:=Tryz.sizeOf370
 v218:=Tryz.zeroValue370
 t222:=Tryz.underlying374
 a222:=Tryz.isAgg374
 z222:=Tryz.sizeOf374
 v222:=Tryz.zeroValue374
 t228:=Tryz.underlying394
 a228:=Tryz.isAgg394
 z228:=Tryz.sizeOf394
 v228:=Tryz.zeroValue394
 t229:=Tryz.underlying266
 a229:=Tryz.isAgg266
 z229:=Tryz.sizeOf266
 v229:=Tryz.zeroValue266 }
theorem lay194 :Go.Proofs.Lays.n194 Tryz.prog lren:={
 mixed:=by kernel_rfl
 f194:=Tryz.func86.trans (congrArg some (by kernel_rfl))
 t0:=Tryz.underlying0
 a0:=Tryz.isAgg0
 z0:=Tryz.sizeOf0
 v0:=Tryz.zeroValue0
 t3:=Tryz.underlying3
 a3:=Tryz.isAgg3
 z3:=Tryz.sizeOf3
 v3:=Tryz.zeroValue3
 t4:=Tryz.underlying4
 a4:=Tryz.isAgg4
 z4:=Tryz.sizeOf4
 v4:=Tryz.zeroValue4
 t9:=Tryz.underlying9
 a9:=Tryz.isAgg9
 z9:=Tryz.sizeOf9
 v9:=Tryz.zeroValue9
 t31:=Tryz.underlying48
 a31:=Tryz.isAgg48
 z31:=Tryz.sizeOf48
 v31:=Tryz.zeroValue48 }
theorem str_cmp (a b:List UInt8)(w:World):Calls Tryz.prog 253 #[.string ⟨a.toArray⟩,.string ⟨b.toArray⟩] w fun e w'=>e = .returned (.int .i64 (Lib.compareBytes a b))/\Below w.heap.size w w' :=
 (Any.strings_Compare lay106 _ _ w).mono fun _ _ h=>⟨h.1,h.2▸Below.refl _ _⟩
theorem str_pre (a b:List UInt8)(w:World):Calls Tryz.prog 144 #[.string ⟨a.toArray⟩,.string ⟨b.toArray⟩] w fun e w'=>e = .returned (.bool (Lib.hasPrefix a b))/\Below w.heap.size w w' :=
 (Any.strings_HasPrefix lay99 _ _ w).mono fun _ _ h=>⟨h.1,h.2▸Below.refl _ _⟩
theorem str_cut (a b:List UInt8)(w:World):Calls Tryz.prog 194 #[.string ⟨a.toArray⟩,.string ⟨b.toArray⟩] w fun e w'=>e = .returned (.tuple #[.string ⟨(Lib.trimPrefix a b).toArray⟩,.bool (Lib.hasPrefix a b)])/\Below w.heap.size w w' :=
 (Any.strings_CutPrefix lay103 _ _ w).mono fun _ _ h=>⟨h.1,h.2▸Below.refl _ _⟩
end
theorem sf1 (o:Ob)(nm:List UInt8)(w:World):RV 252 #[.agg #[sv o.nm,sv o.da,sv o.wa,.bool o.had],sv nm] w (i6 (Lib.compareBytes o.nm nm)):=by
 refine enter Tryz.func252 ?_
 refine rg (ba (fun g0=>?_))
 exact p1 .as (en (rg (p3 .fa .ld .mv (cl (fun _ _ h=>str_cmp _ _ _) (p1 .as (en (rt q1)))))))
theorem cvU {x:Int}(h:0<=x/\x<=9223372036854775807):IntKind.u64.wrap x=x:=by rw[IntKind.wrap_u64];omega
theorem getD_at {l:List Ob}{i:Nat}(h:i<l.length):l[i]?=some (l.getD i noOb):=by rw[List.getD_eq_getElem?_getD,List.getElem?_eq_getElem h];rfl
theorem beq_decide (a b:Int):(a==b)=decide (a=b):=by by_cases h:a=b <;> simp[h]
theorem bsf {u:Value}{l:List Ob}{w:World}(nm:List UInt8)(hV:Sl w u 4 l.length (obs l))(hl:l.length<2^36):RV 251 #[u,sv nm,.func (.func 252) #[] #[]] w (.tuple #[i6 (findI l nm:Int),.bool (findB l nm)]):=by
 refine enter Tryz.func251 ?_
 refine r2 .as .as (rg (p1 .mv (pp (PR.lr) (p1 .as (en (r3 .mv .as .as (se (bl (lo2 (fun i j=>i<=j/\j<=l.length/\bsS (fun i=>decide (cmpO l nm i<0)) i j=findI l nm) (fun i j=>j-i) (fun i j=>[(0,u),(1,sv nm),(2,.func (.func 252) #[] #[]),(8,i6 (l.length:Int)),(9,i6 (i:Int)),(10,i6 (j:Int))]) (fun i j=>[]) (fun i j=>[]) 0 l.length ⟨Nat.zero_le _,Nat.le_refl _,rfl⟩ su (fun i j ⟨hij0,hj,hS⟩=>?_))))))))))
 refine se (r3 .mv .mv .lss (sd (fun hij=>?_) (fun hij=>?_)))
 ·skip
  refine sk (nN (bl (rg (p2 .mv .mv (pp (PR.ad ((i+j:Nat):Int)) (pp (PR.cv (k:=.i64) (k2:=.u64) (p:=((i+j:Nat):Int)) (r:=((i+j:Nat):Int)) (cvU (by omega))) (pp (PR.shr (((i+j)/2:Nat):Int) (h:=by rw[show(1:Int).toNat=1 from rfl];omega)) (pp (PR.cv (k:=.u64) (k2:=.i64) (p:=(((i+j)/2:Nat):Int)) (r:=(((i+j)/2:Nat):Int)) wX) (p1 .as (en ?_))))))))))
  have hlt:(i+j)/2<l.length:=by omega
  obtain⟨o,ho⟩:∃ o,l[(i+j)/2]?=some o:=⟨_,List.getElem?_eq_getElem hlt⟩
  have hcm:Lib.compareBytes o.nm nm=cmpO l nm ((i+j)/2):=by rw[cmpO,List.getD_eq_getElem?_getD,ho];rfl
  refine rg (p3 .mv .mv .mv (pp (PR.ix (i:=(i+j)/2)) (pp (PR.lq (ys:=obC o) fun q u hq=>obs_at ho q hq) (p1 .mv (clF (fun _ _ h=>sf1 o nm _) ?_)))))
  refine p1 .lss (en (sd (fun hc=>?_) (fun hc=>?_)))
  ·skip
   exact rg0 (p1 .mv (pp (PR.ad (((i+j)/2+1:Nat):Int)) (p1 .as (en0 (bN (nN (bk2 ((i+j)/2+1) j ⟨by omega,hj,(bsS_yes (p:=(fun i=>decide (cmpO l nm i<0))) (i:=i) (j:=j) (by omega) (decide_eq_true (by rw[←hcm];exact hc))).symm.trans hS⟩ (by omega) su)))))))
  ·skip
   exact rg0 (p2 .mv .as (en0 (bN (nN (bk2 i ((i+j)/2) ⟨by omega,by omega,(bsS_no (p:=(fun i=>decide (cmpO l nm i<0))) (i:=i) (j:=j) (by omega) (decide_eq_false (by rw[←hcm];exact hc))).symm.trans hS⟩ (by omega) su)))))
 ·have e0:i=findI l nm:=by rw[←hS,bsS_end _ (by omega)]
  subst e0
  refine xt (nX (nX (bH (nN ?_))))
  have hle:=findI_le l nm
  have hfb:findB l nm=(decide ((findI l nm:Int)<(l.length:Int))&&decide (Lib.compareBytes (l.getD (findI l nm) noOb).nm nm=0)):=by
   rw[findB,beq_decide]
   congr 1
   exact decide_eq_decide.2 (by omega)
  generalize findI l nm=F at hle hfb ⊢
  refine rg (p5 (k:=gTt ?_))
  refine gTt ?_
  refine gTt ?_
  refine gTt (hp:=PR.gd fun hl=>PR.ix (i:=F)) ?_
  refine gTt (hp:=PR.gd fun hl=>PR.lq (ys:=obC (l.getD (F) noOb)) (fun q u hq=>obs_at (getD_at (by omega)) q hq) (hn:=by omega)) ?_
  refine gTt ?_
  refine gcF (fun _ _ _ _=>sf1 (l.getD (F) noOb) nm _) ?_
  refine gTt ?_
  exact p3 (k:=en (rt (q2 (by rw[hfb]))))
theorem sfind {u v:Value}{s:Shf}{w:World}(nm:List UInt8)(hS:ShfIn w u v s):RV 225 #[.agg #[u,v],sv nm] w (.tuple #[i6 (findI s.objs nm:Int),.bool (findB s.objs nm)]):=by
 refine enter Tryz.func225 ?_
 refine rg (ba (fun g0=>?_))
 exact p2 .as .as (en (rg (p3 .fa .ld .mv (cl (fun _ _ h=>bsf nm (hS.o.below h.m.below) hS.ho) (p4 .ext .ext .as .as (en (rt qv)))))))
theorem Sl.one {w:World}{v:Value}{m n:Nat}{cs:List Value}(h:Sl w v m n cs):v.oneCell'=true:=by
 obtain⟨_,_,rfl⟩:=h.len
 rfl
theorem one2 {u v:Value}(h:u.oneCell'=true)(h2:v.oneCell'=true):(#[u,v].all fun x=>x.oneCell')=true:=allA (by simp[h,h2])
theorem ShfIn.one {u v:Value}{s:Shf}{w:World}(h:ShfIn w u v s):(#[u,v].all fun x=>x.oneCell')=true:=one2 h.o.one h.f.one
def tkV (s:Shf)(v:Value):Value:=if s.fates.length=0 then v else slOf 1 s.fates.length 1 v
theorem tkV_in {u v:Value}{s:Shf}{w:World}(hS:ShfIn w u v s)(hc:CapOk v):ShfIn w u (tkV s v) ⟨s.objs,s.fates.drop 1⟩/\CapOk (tkV s v):=by
 unfold tkV
 split
 ·rename_i h
  have h2:s.fates = []:=List.eq_nil_of_length_eq_zero h
  refine⟨⟨hS.o,?_,hS.ho,by simp[h2]⟩,hc⟩
  have:=hS.f
  rw[h2] at this ⊢
  exact this
 ·rename_i h
  obtain⟨h1,h2⟩:=hS.f.part hc (i:=1) (j:=s.fates.length) (by omega) (Nat.le_refl _)
  refine⟨⟨hS.o,?_,hS.ho,by rw[List.length_drop];have:=hS.hf;omega⟩,h2⟩
  have e:((nts s.fates).drop (1*1)).take ((s.fates.length-1)*1)=nts (s.fates.drop 1):=by
   rw[Nat.mul_one,Nat.mul_one,nts,←List.map_drop,List.take_of_length_le (by simp)]
  rw[e] at h1
  rw[List.length_drop]
  exact h1
theorem nts_hd {l:List Int}(h:0<l.length):(nts l)[0*1]?=some (i6 (l.headD 0)):=by
 cases l with
 | nil=>simp at h
 | cons a l=>rfl
theorem staken {u v:Value}{s:Shf}{w:World}(hS:ShfIn w u v s):RV 143 #[.agg #[u,v]] w (.tuple #[.agg #[u,tkV s v],i6 (s.fates.headD 0)]):=by
 refine enter Tryz.func143 ?_
 have hf:=hS.f
 have ho:=hS.o
 have h1:=hS.one
 refine rg (ba (fun g0=>?_))
 refine aa Tryz.zeroValue28 (fun g1=>p1 .as (en (se (rg (p2 .fa .ld (pp (PR.lr) (p1 .eqi (en (sd (fun hz=>?_) (fun hz=>?_))))))))))
 ·have e1:tkV s v=v:=by unfold tkV;rw[if_pos (by omega)]
  have e2:s.fates.headD 0=0:=by rw[List.eq_nil_of_length_eq_zero (by omega:s.fates.length=0)];rfl
  rw[e1,e2]
  refine rg (p1 .lw (sw 0 ?_))
  exact p1 .as (en (rt (nR qv)))
 ·have e1:tkV s v=slOf 1 s.fates.length 1 v:=by unfold tkV;rw[if_neg (by omega)]
  have h2:(slOf 1 s.fates.length 1 v).oneCell'=true:=by obtain⟨_,_,rfl⟩:=hf.len;rfl
  have h3:=one2 ho.one h2
  rw[e1]
  refine sk (nN (rg (p2 .fa .ld (pp (PR.ix (i:=0)) (pp (PR.lp (v2:=i6 (s.fates.headD 0)) (by exact nts_hd (l:=s.fates) (by omega))) (p1 .as (en (rg (p2 .fa .ld (pp (PR.sF (i:=1) (n:=s.fates.length) (m:=1)) (p1 .fa (s1 1 (cs:=#[u,slOf 1 s.fates.length 1 v]) ?_))))))))))))
  refine en (rg (p2 .lw .mv (sw 0 ?_)))
  exact p1 .as (en (rt qv))
theorem sflip {d:List UInt8}{w:World}(hl:d.length<2^61):RV 224 #[sv d] w (sv (flipL d)):=by
 refine enter Tryz.func224 ?_
 refine r1 .as (se (r2 .mv .eqs (sd (fun hz=>?_) (fun hz=>?_))))
 ·subst hz
  exact r1 .as (rt (nR (q1' rfl rfl (by unfold flipL;split <;> first | rfl | contradiction))))
 ·have hn:0<d.length:=List.length_pos_iff.2 hz
  refine sk (nN (rg (p2 .mv .ln (pp (PR.sb ((d.length-1:Nat):Int)) (p1 .as (en (dr [_,_,_,_,_,_,_,.tel [5] (.row 5 1 1 [cb (bt d (d.length-1)^^^1)] fun v=>.ret v),_,_,_] [] [] [] [2] trivial (fun Bs=>⟨kv (oP (PR.mv ez)),kv (oP (PR.mv ez)),kv (oP (PR.st (i:=d.length-1))),kv (oP (PR.mv ez)),kv (oP (PR.mv ez)),kv (oP (PR.sa (i:=d.length-1))),kv (oP (PR.xor8 (c:=1) (hy:=EV.to EV.k rfl))),kv (oS #[cb (bt d (d.length-1)^^^1)] (fun _ _ h=>h.size)),kv (oO1 (s:=16) (fun _ _ h=>h) fun v=>oP (PR.b2s (l:=[bt d (d.length-1)^^^1]) (List.mem_singleton.2 rfl))),kv (oP (PR.cat (h:=by have:=hl;rw[List.length_take];simp;omega))),kv (oP (PR.as ed)),trivial⟩) ?_)))))))
  exact rt (q1' rfl rfl (by unfold flipL;split <;> first | rfl | contradiction))
section
section
variable {l:List Ob}{i:Nat}{o q:Ob}
theorem chkE {a:Option Ob}{k x y:Int}(h:x=if chkO a o=0 then y else chkO a o)(h2:chkO a o=k)(hk:k≠0:=by decide):k=x:=by rw[h,h2,if_neg hk]
variable (hp:0<i->ahO l i=some q)(h0:i=0->ahO l i=none)(b1:(!decide (1<=o.nm.length/\o.nm.length<=100))=false)(b2:(decide (0<(i:Int))&&decide (o.nm=q.nm))=false)(b3:(decide (0<(i:Int))&&Op.bytesLess o.nm q.nm)=false)(b4:(decide (65536<(o.da.length:Int))||decide (65536<(o.wa.length:Int)))=false)
theorem chk7 (b1:(!decide (1<=o.nm.length/\o.nm.length<=100))=true):chkO (ahO l i) o=7:=by
 unfold chkO
 rw[if_pos (by simpa using b1 |> fun h=>by simp at h;omega)]
include hp b1 in
theorem chk8 (b2:(decide (0<(i:Int))&&decide (o.nm=q.nm))=true):chkO (ahO l i) o=8:=by
 simp at b1 b2
 unfold chkO
 rw[if_neg (by omega),if_pos (by rw[hp (by omega)];simp[b2.2])]
include hp b1 b2 in
theorem chk2 (b3:(decide (0<(i:Int))&&Op.bytesLess o.nm q.nm)=true):chkO (ahO l i) o=2:=by
 simp at b1 b2 b3
 unfold chkO
 rw[if_neg (by omega),if_neg (by rw[hp (by omega)];simp[b2 (by omega)]),if_pos (by rw[hp (by omega)];simp[b3.2])]
include hp h0 b2 b3 in
theorem chkN :¬ (ahO l i).any (fun q=>o.nm==q.nm)=true ∧ ¬ (ahO l i).any (fun q=>Op.bytesLess o.nm q.nm)=true:=by
 simp at b2 b3
 rcases Nat.eq_zero_or_pos i with h | h
 ·rw[h0 h];simp
 ·rw[hp h];simp[b2 h,b3 h]
include hp h0 b1 b2 b3 in
theorem chk6 (b4:(decide (65536<(o.da.length:Int))||decide (65536<(o.wa.length:Int)))=true):chkO (ahO l i) o=6:=by
 obtain⟨h1,h2⟩:=chkN hp h0 b2 b3
 simp at b1 b4
 unfold chkO
 rw[if_neg (by omega),if_neg h1,if_neg h2,if_pos (by omega)]
include hp h0 b1 b2 b3 b4 in
theorem chk3 (b5:(!o.had&&decide (o.wa ≠ []))=true):chkO (ahO l i) o=3:=by
 obtain⟨h1,h2⟩:=chkN hp h0 b2 b3
 simp at b1 b4 b5
 unfold chkO
 rw[if_neg (by omega),if_neg h1,if_neg h2,if_neg (by omega),if_pos b5]
include hp h0 b1 b2 b3 b4 in
theorem chk0 (b5:(!o.had&&decide (o.wa ≠ []))=false):chkO (ahO l i) o=0:=by
 obtain⟨h1,h2⟩:=chkN hp h0 b2 b3
 simp at b1 b4 b5
 unfold chkO
 rw[if_neg (by omega),if_neg h1,if_neg h2,if_neg (by omega),if_neg (by simpa using b5)]
end
theorem scheck {u v:Value}{s:Shf}{w:World}(hS:ShfIn w u v s):RV 142 #[.agg #[u,v]] w (i6 (chkS s.objs)):=by
 refine enter Tryz.func142 ?_
 have hV:=hS.o
 have hlen:=hS.ho
 refine rg (ba (fun g0=>?_))
 refine p1 .as (en (se (rg (p2 .fa .ld (pp (PR.lr) (p1 .mv (en (bl (lo (A:=Nat) (fun i=>i<=s.objs.length/\chkF (ahO s.objs i) (s.objs.drop i)=chkS s.objs) (fun i=>s.objs.length-i) (fun i=>[(1,pt g0),(2,i6 0),(6,u),(7,i6 (s.objs.length:Int)),(8,i6 (i:Int))]) (fun i=>[(g0,isB 28 #[u,v])]) (fun i=>[]) 0 ⟨Nat.zero_le _,rfl⟩ su (fun i ⟨hi,hI⟩=>?_))))))))))
 refine r1 .lss (se (sd (fun hc=>?_) (fun hc=>?_)))
 ·skip
  refine sk (nN (se (bl ?_)))
  have hlt:i<s.objs.length:=by omega
  obtain⟨o,ho⟩:∃ o,s.objs[i]?=some o:=⟨_,List.getElem?_eq_getElem hlt⟩
  have hst:=chkF_step s.objs ho
  rw[hI] at hst
  have hp:0<i->ahO s.objs i=some (s.objs.getD (i-1) noOb):=fun h=>by
   rw[ahO,if_neg (by omega)];exact getD_at (by omega)
  have h0:i=0->ahO s.objs i=none:=fun h=>by rw[ahO,if_pos h]
  refine rg (p1 .mv (pp (PR.ix (i:=i)) (pp (PR.lq (ys:=obC o) fun q u hq=>obs_at ho q hq) (aa Tryz.zeroValue73 (fun g1=>p1 .as (sw 0 ?_))))))
  refine en (bl (rg (p2 .fa .ld (cl (fun _ _ h=>smay o.nm _) (p2 .not .as (en (cs (fun b1=>?_) (fun b1=>?_))))))))
  ·skip
   exact r1 .as (rt (bR (bR (nR (nR (bR (nR (q1 (congrArg (Value.int .i64) (chkE hst (chk7 b1)))))))))))
  ·skip
   refine dr [_,_,_,_,_,_,_,_,_,_,_,_,_,_,_] [] [] [] [18] trivial (fun Bs=>⟨kv (oP (PR.mv ez)),kv (oP (PR.gtr ed EV.k)),kv (oP (PR.mv ed)),kv (oT (hp:=PR.fa (EV.u ez))),kv (oT (hp:=PR.ld (EV.b ed) (MB.u (mk' 0)))),kv (oT (hp:=PR.fa (EV.u ez))),kv (oT (hp:=PR.ld (EV.b ed) (MB.u (mk' 1)))),kv (oT (hp:=PR.mv (EV.u ez))),kv (oT (hp:=PR.gd fun hg=>PR.sb (((i-1:Nat):Int)))),kv (oT (hp:=PR.gd fun hg=>PR.ix (i:=i-1))),kv (oT (hp:=PR.gd fun hg=>PR.fs)),kv (oT (hp:=PR.gd fun hg=>PR.lp (v2:=.string ⟨(s.objs.getD (i-1) noOb).nm.toArray⟩) (obs_at (getD_at (by omega)) 0 rfl))),kv (oT (hp:=PR.eqs (EV.b ed) (EV.b ed))),kv (oP (PR.pand ed ed)),kv (oP (PR.as ed)),trivial⟩) ?_
   refine cs (fun b2=>?_) (fun b2=>?_)
   ·skip
    exact r1 .as (rt (bR (bR (nR (nR (bR (nR (q1 (congrArg (Value.int .i64) (chkE hst (chk8 hp b1 b2)))))))))))
   ·skip
    refine dr [_,_,_,_,_,_,_,_,_,_,_,_,_,_,_] [] [] [] [33] trivial (fun Bs=>⟨kv (oP (PR.mv ez)),kv (oP (PR.gtr ed EV.k)),kv (oP (PR.mv ed)),kv (oT (hp:=PR.fa (EV.u ez))),kv (oT (hp:=PR.ld (EV.b ed) (MB.u (mk' 0)))),kv (oT (hp:=PR.fa (EV.u ez))),kv (oT (hp:=PR.ld (EV.b ed) (MB.u (mk' 1)))),kv (oT (hp:=PR.mv (EV.u ez))),kv (oT (hp:=PR.gd fun hg=>PR.sb (((i-1:Nat):Int)))),kv (oT (hp:=PR.gd fun hg=>PR.ix (i:=i-1))),kv (oT (hp:=PR.gd fun hg=>PR.fs)),kv (oT (hp:=PR.gd fun hg=>PR.lp (v2:=.string ⟨(s.objs.getD (i-1) noOb).nm.toArray⟩) (obs_at (getD_at (by omega)) 0 rfl))),kv (oT (hp:=PR.lst (EV.b ed) (EV.b ed))),kv (oP (PR.pand ed ed)),kv (oP (PR.as ed)),trivial⟩) ?_
    refine cs (fun b3=>?_) (fun b3=>?_)
    ·skip
     exact r1 .as (rt (bR (bR (nR (nR (bR (nR (q1 (congrArg (Value.int .i64) (chkE hst (chk2 hp b1 b2 b3)))))))))))
    ·skip
     refine rg (p5 .fa .ld .ln .gtr .mv (gFf (hp:=PR.fa) ?_))
     refine gFf (hp:=PR.ld) ?_
     refine gFf (hp:=PR.ln) ?_
     refine gFf (hp:=PR.gtr) ?_
     refine p2 .por .as (en (cs (fun b4=>?_) (fun b4=>?_)))
     ·skip
      exact r1 .as (rt (bR (bR (nR (nR (bR (nR (q1 (congrArg (Value.int .i64) (chkE hst (chk6 hp h0 b1 b2 b3 b4)))))))))))
     ·skip
      refine rg (p4 .fa .ld .not .mv (gTt (hp:=PR.fa) ?_))
      refine gTt (hp:=PR.ld) ?_
      refine gTt (hp:=PR.nes) ?_
      refine p2 .pand .as (en (cs (fun b5=>?_) (fun b5=>?_)))
      ·skip
       exact r1 .as (rt (bR (bR (nR (nR (bR (nR (q1 (congrArg (Value.int .i64) (chkE hst (chk3 hp h0 b1 b2 b3 b4 b5)))))))))))
      ·skip
       refine sk (bN (bN (nN (rg0 (pp (PR.ad ((i+1:Nat):Int)) (p1 .mv (en0 (nN ?_))))))))
       have hz:chkO (ahO s.objs i) o=0:=chk0 hp h0 b1 b2 b3 b4 b5
       rw[if_pos hz] at hst
       exact bk (i+1) ⟨by omega,hst.symm⟩ (by omega) su
 ·have hz:chkS s.objs=0:=by rw[←hI];exact chkF_end _ _ (by omega)
  exact xt (nX (nX (bH (nN (r1 .as (rt (q1 (by rw[hz]))))))))
theorem sasked {u v:Value}{s:Shf}{w:World}(nm:List UInt8)(hS:ShfIn w u v s):RV 223 #[.agg #[u,v],sv nm] w (i6 (askS s.objs nm)):=by
 refine enter Tryz.func223 ?_
 have h1:=hS.one
 refine rg (ba (fun g0=>?_))
 refine p1 .as (en (se (rg (p1 .lw (cl (fun _ _ h=>scheck (hS.below h.m.below)) (p1 .as (en (r2 .mv .nei (sd (fun hc=>?_) (fun hc=>?_))))))))))
 ·have e:askS s.objs nm=chkS s.objs:=if_pos hc
  rw[e]
  exact r2 .mv .as (rt (nR q1))
 ·have e:askS s.objs nm=if nm.length<1\/100<nm.length then 7 else 0:=if_neg hc
  rw[e]
  refine sk (nN (se (rg (p1 .mv (cl (fun _ _ h=>smay nm _) (p1 .not (en (cs (fun hd=>?_) (fun hd=>?_)))))))))
  ·have hd:=of_decide_eq_false ((by cases h:decide (1<=nm.length/\nm.length<=100) <;> simp_all):decide (1<=nm.length/\nm.length<=100)=false)
   rw[if_pos (by omega)]
   exact r1 .as (rt (nR q1))
  ·have hd:=of_decide_eq_true ((by cases h:decide (1<=nm.length/\nm.length<=100) <;> simp_all):decide (1<=nm.length/\nm.length<=100)=true)
   rw[if_neg (by omega)]
   exact sk (nN (r1 .as (rt q1)))
end
def tgR (s:Shf)(took:Bool)(d:List UInt8)(e:Int):Tele:=.row 73 4 s.objs.length (obs s.objs) fun x=>.row 3 1 s.fates.length (nts s.fates) fun y=>.ret (.tuple #[.agg #[x,cond took (tkV s y) y],sv d,i6 e])
def tgT (s:Shf)(nm:List UInt8):Tele:=tgR s (decide (askS s.objs nm=0)) (toldS s nm).1 (toldS s nm).2
theorem tkV_one {s:Shf}{v:Value}(h:v.oneCell'=true):(tkV s v).oneCell'=true:=by
 unfold tkV
 split
 ·exact h
 ·cases v <;> first | exact h | rfl
theorem stold {u v:Value}{s:Shf}{w:World}(nm:List UInt8)(hS:ShfIn w u v s)(hD:∀ i,(s.objs.getD i noOb).da.length<2^61):RT 165 #[.agg #[u,v],sv nm] w (tgT s nm):=by
 refine enter Tryz.func165 ?_
 have o1:=hS.one
 refine rg (ba (fun g0=>?_))
 refine aa Tryz.zeroValue28 (fun g1=>p2 .as .as (en (rg (p1 .lw (ce (fun _ _ h=>scop (hS.below h.m.below)) (fun x y=>?_))))))
 refine os 0 (fun ox cx=>?_)
 refine os 1 (fun oy cy=>?_)
 refine sw 1 ?_
 refine en (se (rg (p2 .lw .mv (cl (fun _ _ h=>sasked nm ⟨h.s 0,h.s 1,hS.ho,hS.hf⟩) (p1 .as (en (r2 .mv .nei (sd (fun ha=>?_) (fun ha=>?_)))))))))
 ·rw[show tgT s nm=tgR s false [] (askS s.objs nm) from by unfold tgT toldS;rw[if_pos ha,decide_eq_false ha]]
  refine rg (p2 .lw .mv (sw 0 ?_))
  exact p2 .as .as (en (rt (nR (et [0,1]))))
 ·have ha:askS s.objs nm=0:=by omega
  have hT:tgT s nm=tgR s true (toldS s nm).1 (toldS s nm).2:=by unfold tgT;rw[decide_eq_true ha]
  rw[hT]
  have ha2:¬ askS s.objs nm≠0:=fun h=>h ha
  refine sk (nN (rg (p1 .lw (cl (fun _ _ h=>staken ⟨h.s 0,h.s 1,hS.ho,hS.hf⟩) ?_))))
  have ok:=tkV_one (s:=s) oy
  refine p3 .mv .ext .ext (sw 1 ?_)
  refine p1 .as (en (rg (p2 .lw .mv (cl (fun _ _ h=>sfind nm (tkV_in ⟨h.s 0,h.s 1,hS.ho,hS.hf⟩ cy).1) (p5 .mv .ext .ext .as .as (en (se (bl ?_))))))))
  have hfl:findB s.objs nm=true->s.objs[findI s.objs nm]?=some (s.objs.getD (findI s.objs nm) noOb):=fun h=>getD_at (findB_lt h)
  have hfn:findB s.objs nm=true->findI s.objs nm<s.objs.length:=findB_lt
  have hD2:=hD (findI s.objs nm)
  unfold toldS at *
  generalize findI s.objs nm=F at *
  generalize findB s.objs nm=fb at *
  generalize s.fates.headD 0=ft at *
  generalize s.objs.getD F noOb=O at *
  refine r3 .mv .eqi .as (sd (fun h4=>?_) (fun h4=>?_))
  ·rw[if_neg ha2,if_pos h4]
   refine rg (p1 .lw (sw 0 ?_))
   exact p2 .as .as (en (rt (bR (nR (et [0,1])))))
  ·skip
   refine rg (p3 .mv .eqi .mv (gFf (hp:=PR.mv) ?_))
   refine gFf (hp:=PR.not) ?_
   refine p2 .por .mv (gFf (hp:=PR.mv) ?_)
   refine gFf (hp:=PR.eqi) ?_
   refine gFf (hp:=PR.mv) ?_
   refine hTt (hp:=PR.fa) ?_
   refine hTt (hp:=PR.ld) ?_
   refine hTt (hp:=PR.mv) ?_
   refine hTt (hp:=PR.gb fun hg=>PR.ix (i:=F) (hi:=hfn (by simp at hg;exact hg.1.2))) ?_
   refine hTt (hp:=PR.gb fun hg=>PR.fs (hn:=by have:=hfn (by simp at hg;exact hg.1.2);omega)) ?_
   refine hTt (hp:=PR.gb fun hg=>PR.lp (v2:=.bool O.had) (obs_at (hfl (by simp at hg;exact hg.1.2)) 3 rfl)) ?_
   refine hTt (hp:=PR.not) ?_
   refine gFf (hp:=PR.pand) ?_
   refine p2 .por .as (en (cs (fun h9=>?_) (fun h9=>?_)))
   ·rw[if_neg ha2,if_neg h4,if_pos (by simpa[or_assoc] using h9)]
    refine rg (p1 .lw (sw 0 ?_))
    exact p2 .as .as (en (rt (bR (nR (et [0,1])))))
   ·have hfb:fb=true:=by simp at h9;exact h9.1.2
    have hFn:=hfn hfb
    have h9n:¬ (ft=1\/fb=false\/(ft=3/\O.had=false)):=by simp at h9 ⊢;exact⟨h9.1.1,h9.1.2,h9.2⟩
    refine r3 .mv .eqi .as (sd (fun h3=>?_) (fun h3=>?_))
    ·rw[if_neg ha2,if_neg h4,if_neg h9n,if_pos h3]
     refine dr [_,_,_,_,_,_,_,.any,_,_] [] [⟨7,_,_,_,0,.val (.agg #[x,(tkV s y)])⟩] [0] [5,6] ⟨rfl,trivial⟩ (fun Bs=>⟨kv (oP (PR.lw ez (mk' 1))),kv (oP (PR.fa ez)),kv (oP (PR.ld ed (mk' 1))),kv (oP (PR.mv ez)),kv (oP (PR.ix (i:=F))),kv (oP PR.fs),kv (oP (PR.lp (v2:=sv (O.wa)) (obs_at (hfl hfb) 2 rfl))),ks 0,kv (oP (PR.as ed)),kv (oP (PR.as EV.k)),trivial⟩) ?_
     exact rt (bR (nR (et [0,1])))
    ·skip
     refine r3 .mv .eqi .as (sd (fun h2=>?_) (fun h2=>?_))
     ·rw[if_neg ha2,if_neg h4,if_neg h9n,if_neg h3,if_pos h2]
      refine dr [_,_,_,_,_,_,_,_,.any,_,_] [] [⟨8,_,_,_,0,.val (.agg #[x,(tkV s y)])⟩] [0] [5,6] ⟨rfl,trivial⟩ (fun Bs=>⟨kv (oP (PR.lw ez (mk' 1))),kv (oP (PR.fa ez)),kv (oP (PR.ld ed (mk' 1))),kv (oP (PR.mv ez)),kv (oP (PR.ix (i:=F))),kv (oP PR.fs),kv (oP (PR.lp (v2:=sv (O.da)) (obs_at (hfl hfb) 1 rfl))),kv (oC (fun _ _ h=>sflip hD2)),ks 0,kv (oP (PR.as ed)),kv (oP (PR.as EV.k)),trivial⟩) ?_
      exact rt (bR (nR (et [0,1])))
     ·rw[if_neg ha2,if_neg h4,if_neg h9n,if_neg h3,if_neg h2]
      refine sk (bN (nN (dr [_,_,_,_,_,_,_,.any,_,_] [] [⟨7,_,_,_,0,.val (.agg #[x,(tkV s y)])⟩] [0] [5,6] ⟨rfl,trivial⟩ (fun Bs=>⟨kv (oP (PR.lw ez (mk' 1))),kv (oP (PR.fa ez)),kv (oP (PR.ld ed (mk' 1))),kv (oP (PR.mv ez)),kv (oP (PR.ix (i:=F))),kv (oP PR.fs),kv (oP (PR.lp (v2:=sv (O.da)) (obs_at (hfl hfb) 1 rfl))),ks 0,kv (oP (PR.as ed)),kv (oP (PR.as EV.k)),trivial⟩) ?_)))
      exact rt (et [0,1])
def nmS (l:List Ob)(p:List UInt8):List (List UInt8):=(l.filter fun o=>Lib.hasPrefix o.nm p).map (·.nm)
theorem nmS_step {l:List Ob}{i:Nat}{o:Ob}(h:l[i]?=some o)(p:List UInt8):nmS (l.take (i+1)) p=nmS (l.take i) p++if Lib.hasPrefix o.nm p=true then [o.nm] else []:=by
 obtain⟨hl,rfl⟩:=List.getElem?_eq_some_iff.1 h
 rw[List.take_succ_eq_append_getElem hl,nmS,List.filter_append,List.map_append,nmS]
 congr 1
 by_cases hb:Lib.hasPrefix l[i].nm p=true <;> simp[hb]
theorem nmS_le (l:List Ob)(p:List UInt8):(nmS l p).length<=l.length:=by
 unfold nmS
 rw[List.length_map];exact List.length_filter_le _ _
theorem take_le {α:Type}(l:List α)(i:Nat):(l.take i).length<=i:=by rw[List.length_take];omega
abbrev txs (l:List (List UInt8)):List Value:=l.map tx
def nmT (s:Shf)(p:List UInt8):Tele:=.row 73 4 s.objs.length (obs s.objs) fun x=>.row 3 1 s.fates.length (nts s.fates) fun y=>.row 9 1 (nmS s.objs p).length (txs (nmS s.objs p)) fun z=>.ret (.tuple #[.agg #[x,y],z,i6 0])
theorem snames {u v:Value}{s:Shf}{w:World}(p:List UInt8)(hS:ShfIn w u v s)(hf:s.fates = [])(hc:chkS s.objs=0):RT 84 #[.agg #[u,v],sv p] w (nmT s p):=by
 refine enter Tryz.func84 ?_
 have o1:=hS.one
 have hlen:=hS.ho
 refine rg (ba (fun g0=>?_))
 refine aa Tryz.zeroValue28 (fun g1=>p2 .as .as (en (rg (p1 .lw (ce (fun _ _ h=>scop (hS.below h.m.below)) (fun x y=>?_))))))
 refine os 0 (fun ox cx=>?_)
 refine os 1 (fun oy cy=>?_)
 refine sw 1 ?_
 refine en (se (rg (p1 .lw (cl (fun _ _ h=>scheck ⟨h.s 0,h.s 1,hS.ho,hS.hf⟩) (p1 .as (en (r2 .mv .nei (cf (hb:=(decide_eq_false (by rw[hc];decide))) (sk (nN ?_))))))))))
 have htk:(.tuple #[.agg #[x,tkV s y],i6 (s.fates.headD 0)]:Value) = .tuple #[.agg #[x,y],i6 0]:=by rw[tkV,if_pos (by rw[hf];rfl),hf];rfl
 refine rg (p1 .lw (cl (fun _ _ h=>htk▸staken ⟨h.s 0,h.s 1,hS.ho,hS.hf⟩) (p3 .mv .ext .ext (sw 1 ?_))))
 refine p1 .as (en (se (r1 .mv (bl (r2 .eqi .as (cf (r2 .eqi .as (cf (sk (bN (nN (r1 .as (se (nr 9 1 ?_))))))))))))))
 refine rg (p2 .fa .ld (pp (PR.lr) (p1 .mv (en (bl (lo2 (fun i l=>i<=s.objs.length) (fun i l=>s.objs.length-i) (fun i l=>[(1,sv p),(2,pt g0),(4,pt g1),(5,nv),(6,i6 0),(8,i6 (0:Int)),(9,l),(33,x),(34,i6 (s.objs.length:Int)),(35,i6 (i:Int))]) (fun i l=>[(g1,isB 28 #[nv,nv]),(g0,isB 28 #[x,y])]) (fun i l=>[⟨l,9,1,(nmS (s.objs.take i) p).length,txs (nmS (s.objs.take i) p)⟩,⟨x,73,4,s.objs.length,obs s.objs⟩,⟨y,3,1,s.fates.length,nts s.fates⟩]) 0 (nv) (Nat.zero_le _) su (fun i l hi=>?_)))))))
 refine r1 .lss (se (sd (fun hlt0=>?_) (fun hlt0=>?_)))
 ·skip
  refine sk (nN (se (bl ?_)))
  have hlt:i<s.objs.length:=by omega
  obtain⟨o,ho⟩:∃ o,s.objs[i]?=some o:=⟨_,List.getElem?_eq_getElem hlt⟩
  have hst:=nmS_step ho p
  have hle:=nmS_le (s.objs.take i) p
  have hle2:=take_le s.objs i
  refine rg (pp (PR.ix (i:=i)) (pp (PR.lq (ys:=obC o) fun q u hq=>obs_at ho q hq) (aa Tryz.zeroValue73 (fun g2=>sw 0 ?_))))
  refine en (rg (p3 .fa .ld .mv (cl (fun _ _ h=>str_pre o.nm p _) (p1 .mv (gTt (hp:=PR.mv) ?_)))))
  refine gTt (hp:=PR.nei) ?_
  refine gTt (hp:=PR.mv) ?_
  refine hFf (hp:=PR.fa) ?_
  refine hFf (hp:=PR.ld) ?_
  refine gTt (hp:=PR.por) ?_
  refine p1 .pand (en (cs (fun hb=>?_) (fun hb=>?_)))
  ·have hb2:Lib.hasPrefix o.nm p=true:=by simpa using hb
   rw[if_pos hb2] at hst
   refine rg0 (p3 .mv .fa .ld (bs #[sv o.nm] (fun g3=>?_)))
   refine ap 0 (fun v0=>?_)
   refine p1 .as (en0 (bN (nN (rg0 (pp (PR.ad ((i+1:Nat):Int)) (p1 .mv (en0 (nN (rc 0 (nmS (s.objs.take (i+1)) p).length (txs (nmS (s.objs.take (i+1)) p)) (hn:=by rw[hst];simp) (hx:=by rw[hst];simp[txs,tx]) (h:=?_))))))))))
   exact bk2 (i+1) v0 (by omega) (by omega) su
  ·have hb2:¬ Lib.hasPrefix o.nm p=true:=by simpa using hb
   rw[if_neg hb2,List.append_nil] at hst
   refine sk (bN (nN (rg0 (pp (PR.ad ((i+1:Nat):Int)) (p1 .mv (en0 (nN (rc 0 (nmS (s.objs.take (i+1)) p).length (txs (nmS (s.objs.take (i+1)) p)) (hn:=by rw[hst]) (hx:=by rw[hst]) (h:=?_)))))))))
   exact bk2 (i+1) l (by omega) (by omega) su
 ·have hil:i=s.objs.length:=by omega
  subst hil
  refine xt (nX (nX (bH (nN (rg (p2 .lw .mv (sw 0 ?_)))))))
  refine p2 .as .as (en (rt (rc 0 (nmS s.objs p).length (txs (nmS s.objs p)) (hn:=by rw[List.take_length]) (hx:=by rw[List.take_length]) (h:=?_))))
  exact et [1,2,0]
end Go.Proofs.YtdjholkjkbihmaaGreatDoor
