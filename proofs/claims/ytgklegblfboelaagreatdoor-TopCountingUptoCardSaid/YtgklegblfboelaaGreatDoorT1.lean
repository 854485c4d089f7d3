/- What the logic asks of the types of the translation. -/
import Derived.Test.YtgklegblfboelaaGreatDoorProg
import Derived.KernelRfl
import Derived.Test.YtgklegblfboelaaGreatDoorA2
set_option linter.unusedVariables false
set_option linter.unusedSimpArgs false
namespace Go.Proofs.YtgklegblfboelaaGreatDoor.Ty
open Go Go.Ab
attribute [go_sem] Tryz.underlying1 Tryz.underlying2
@[go_sem] theorem cellsOf2:Tryz.prog.cellsOf 2=1:=by kernel_rfl
@[go_sem] theorem isAgg2:qaq Tryz.prog 2=some false:=by kernel_rfl
@[go_sem] theorem ok2:qmv Tryz.prog 2=true:=by kernel_rfl
@[go_sem] theorem bytes2:Tryz.prog.bytesOf 2=8:=by kernel_rfl
@[go_sem] theorem zero2:qbo Tryz.prog 2=some (.p (.int .i64 0)):=by kernel_rfl
@[go_sem] theorem zeroLen2:qb8.zeroLen Tryz.prog 2=1:=by kernel_rfl
attribute [go_sem] Tryz.underlying3
@[go_sem] theorem cellsOf3:Tryz.prog.cellsOf 3=1:=by kernel_rfl
@[go_sem] theorem isAgg3:qaq Tryz.prog 3=some false:=by kernel_rfl
@[go_sem] theorem ok3:qmv Tryz.prog 3=true:=by kernel_rfl
@[go_sem] theorem bytes3:Tryz.prog.bytesOf 3=8:=by kernel_rfl
@[go_sem] theorem zero3:qbo Tryz.prog 3=some (.p (.int .i64 0)):=by kernel_rfl
attribute [go_sem] Tryz.underlying4
@[go_sem] theorem cellsOf4:Tryz.prog.cellsOf 4=1:=by kernel_rfl
@[go_sem] theorem isAgg4:qaq Tryz.prog 4=some false:=by kernel_rfl
@[go_sem] theorem zero4:qbo Tryz.prog 4=some (.p (.bool false)):=by kernel_rfl
attribute [go_sem] Tryz.underlying5
@[go_sem] theorem cellsOf5:Tryz.prog.cellsOf 5=1:=by kernel_rfl
@[go_sem] theorem isAgg5:qaq Tryz.prog 5=some false:=by kernel_rfl
@[go_sem] theorem ok5:qmv Tryz.prog 5=true:=by kernel_rfl
attribute [go_sem] Tryz.underlying6 Tryz.underlying7 Tryz.underlying8 Tryz.underlying9 Tryz.underlying10 Tryz.underlying11 Tryz.underlying12 Tryz.underlying13 Tryz.underlying14 Tryz.underlying15 Tryz.underlying16 Tryz.underlying17 Tryz.underlying18 Tryz.underlying19 Tryz.underlying20 Tryz.underlying21 Tryz.underlying22
@[go_sem] theorem vde:Tryz.prog.cellsOf 22=1:=by kernel_rfl
@[go_sem] theorem isAgg22:qaq Tryz.prog 22=some false:=by kernel_rfl
attribute [go_sem] Tryz.underlying23 Tryz.underlying24
@[go_sem] theorem vdf:Tryz.prog.cellsOf 24=2:=by kernel_rfl
@[go_sem] theorem isAgg24:qaq Tryz.prog 24=some true:=by kernel_rfl
@[go_sem] theorem vdg:qe7 Tryz.prog 24 0=some 0:=by kernel_rfl
@[go_sem] theorem vdh:qe7 Tryz.prog 24 1=some 1:=by kernel_rfl
attribute [go_sem] Tryz.underlying25
@[go_sem] theorem vdi:Tryz.prog.cellsOf 25=1:=by kernel_rfl
@[go_sem] theorem isAgg25:qaq Tryz.prog 25=some false:=by kernel_rfl
@[go_sem] theorem ok25:qmv Tryz.prog 25=true:=by kernel_rfl
@[go_sem] theorem bytes25:Tryz.prog.bytesOf 25=24:=by kernel_rfl
@[go_sem] theorem zero25:qbo Tryz.prog 25=some (.nils):=by kernel_rfl
@[go_sem] theorem vdj:qb8.zeroLen Tryz.prog 25=1:=by kernel_rfl
attribute [go_sem] Tryz.underlying26
@[go_sem] theorem vdk:Tryz.prog.cellsOf 26=1:=by kernel_rfl
@[go_sem] theorem isAgg26:qaq Tryz.prog 26=some false:=by kernel_rfl
attribute [go_sem] Tryz.underlying27 Tryz.underlying28
@[go_sem] theorem vdl:Tryz.prog.cellsOf 28=2:=by kernel_rfl
@[go_sem] theorem isAgg28:qaq Tryz.prog 28=some true:=by kernel_rfl
@[go_sem] theorem ok28:qmv Tryz.prog 28=true:=by kernel_rfl
@[go_sem] theorem bytes28:Tryz.prog.bytesOf 28=48:=by kernel_rfl
@[go_sem] theorem vdm:qbo Tryz.prog 28=some (.agg [.nils,.nils]):=by kernel_rfl
@[go_sem] theorem vdn:qb8.zeroLen Tryz.prog 28=2:=by kernel_rfl
@[go_sem] theorem vdo:qe7 Tryz.prog 28 0=some 0:=by kernel_rfl
@[go_sem] theorem vdp:qe7 Tryz.prog 28 1=some 1:=by kernel_rfl
@[go_sem] theorem build28 (parts:List (Nat×AV)):qk6 Tryz.prog 28 parts=(qm4 (fun j=>[(0,1),(1,1)][j]?) [.nils,.nils] parts).map qme :=
  qte _ _ vdm rfl (by kernel_rfl) (by kernel_rfl) (by funext j;exact qqj _ _ (by kernel_rfl) j)
attribute [go_sem] Tryz.underlying30 Tryz.underlying31 Tryz.underlying32 Tryz.underlying34 Tryz.underlying36 Tryz.underlying38 Tryz.underlying40 Tryz.underlying42 Tryz.underlying43 Tryz.underlying44 Tryz.underlying45 Tryz.underlying46 Tryz.underlying47 Tryz.underlying48 Tryz.underlying49 Tryz.underlying50
@[go_sem] theorem isAgg50:qaq Tryz.prog 50=some false:=by kernel_rfl
attribute [go_sem] Tryz.underlying51 Tryz.underlying52 Tryz.underlying53 Tryz.underlying54 Tryz.underlying55 Tryz.underlying56 Tryz.underlying57 Tryz.underlying58 Tryz.underlying59 Tryz.underlying60 Tryz.underlying61 Tryz.underlying62 Tryz.underlying63 Tryz.underlying64 Tryz.underlying65 Tryz.underlying66 Tryz.underlying67 Tryz.underlying69 Tryz.underlying70 Tryz.underlying71 Tryz.underlying72 Tryz.underlying73 Tryz.underlying75 Tryz.underlying76 Tryz.underlying77
@[go_sem] theorem vdq:Tryz.prog.cellsOf 77=1:=by kernel_rfl
@[go_sem] theorem isAgg77:qaq Tryz.prog 77=some false:=by kernel_rfl
@[go_sem] theorem zero77:qbo Tryz.prog 77=some (.nils):=by kernel_rfl
attribute [go_sem] Tryz.underlying78 Tryz.underlying79 Tryz.underlying80 Tryz.underlying81 Tryz.underlying82 Tryz.underlying83 Tryz.underlying84 Tryz.underlying85 Tryz.underlying86 Tryz.underlying87 Tryz.underlying88 Tryz.underlying89 Tryz.underlying91 Tryz.underlying92 Tryz.underlying93
@[go_sem] theorem vdr:Tryz.prog.cellsOf 93=1:=by kernel_rfl
@[go_sem] theorem isAgg93:qaq Tryz.prog 93=some false:=by kernel_rfl
@[go_sem] theorem ok93:qmv Tryz.prog 93=true:=by kernel_rfl
@[go_sem] theorem bytes93:Tryz.prog.bytesOf 93=24:=by kernel_rfl
@[go_sem] theorem zero93:qbo Tryz.prog 93=some (.nils):=by kernel_rfl
@[go_sem] theorem vds:qb8.zeroLen Tryz.prog 93=1:=by kernel_rfl
attribute [go_sem] Tryz.underlying95 Tryz.underlying96
@[go_sem] theorem vdt:Tryz.prog.cellsOf 96=1:=by kernel_rfl
@[go_sem] theorem isAgg96:qaq Tryz.prog 96=some false:=by kernel_rfl
@[go_sem] theorem ok96:qmv Tryz.prog 96=true:=by kernel_rfl
@[go_sem] theorem bytes96:Tryz.prog.bytesOf 96=8:=by kernel_rfl
@[go_sem] theorem zero96:qbo Tryz.prog 96=some (.p (.int .u64 0)):=by kernel_rfl
@[go_sem] theorem vdu:qb8.zeroLen Tryz.prog 96=1:=by kernel_rfl
attribute [go_sem] Tryz.underlying97 Tryz.underlying98 Tryz.underlying99 Tryz.underlying101 Tryz.underlying102 Tryz.underlying103 Tryz.underlying104 Tryz.underlying105 Tryz.underlying106 Tryz.underlying107
@[go_sem] theorem vbk:Tryz.prog.cellsOf 107=1:=by kernel_rfl
@[go_sem] theorem isAgg107:qaq Tryz.prog 107=some false:=by kernel_rfl
attribute [go_sem] Tryz.underlying108 Tryz.underlying109
@[go_sem] theorem vbl:Tryz.prog.cellsOf 109=3:=by kernel_rfl
@[go_sem] theorem isAgg109:qaq Tryz.prog 109=some true:=by kernel_rfl
@[go_sem] theorem vai:qbo Tryz.prog 109=some (.agg [.p (.int .i64 0),.nils,.p .nilf]):=by kernel_rfl
@[go_sem] theorem vbm:qe7 Tryz.prog 109 0=some 0:=by kernel_rfl
@[go_sem] theorem vbn:qe7 Tryz.prog 109 1=some 1:=by kernel_rfl
@[go_sem] theorem vbo:qe7 Tryz.prog 109 2=some 2:=by kernel_rfl
@[go_sem] theorem build109 (parts:List (Nat×AV)):qk6 Tryz.prog 109 parts=(qm4 (fun j=>[(0,1),(1,1),(2,1)][j]?) [.p (.int .i64 0),.nils,.p .nilf] parts).map qme :=
  qte _ _ vai rfl (by kernel_rfl) (by kernel_rfl) (by funext j;exact qqj _ _ (by kernel_rfl) j)
attribute [go_sem] Tryz.underlying110 Tryz.underlying111 Tryz.underlying112 Tryz.underlying114 Tryz.underlying115 Tryz.underlying116 Tryz.underlying117 Tryz.underlying118 Tryz.underlying119 Tryz.underlying120 Tryz.underlying121 Tryz.underlying122 Tryz.underlying123 Tryz.underlying125 Tryz.underlying127 Tryz.underlying129 Tryz.underlying130 Tryz.underlying132 Tryz.underlying133 Tryz.underlying134 Tryz.underlying135 Tryz.underlying137 Tryz.underlying138 Tryz.underlying139 Tryz.underlying140 Tryz.underlying141 Tryz.underlying142 Tryz.underlying143 Tryz.underlying145 Tryz.underlying146 Tryz.underlying147 Tryz.underlying148 Tryz.underlying149 Tryz.underlying150 Tryz.underlying151 Tryz.underlying152 Tryz.underlying153 Tryz.underlying154 Tryz.underlying155 Tryz.underlying157 Tryz.underlying158 Tryz.underlying159 Tryz.underlying160 Tryz.underlying161 Tryz.underlying162 Tryz.underlying163 Tryz.underlying164 Tryz.underlying165 Tryz.underlying166 Tryz.underlying167 Tryz.underlying168 Tryz.underlying169 Tryz.underlying170 Tryz.underlying171 Tryz.underlying172 Tryz.underlying173 Tryz.underlying174 Tryz.underlying175 Tryz.underlying176 Tryz.underlying177 Tryz.underlying178 Tryz.underlying179 Tryz.underlying180 Tryz.underlying181 Tryz.underlying182 Tryz.underlying183 Tryz.underlying184 Tryz.underlying186 Tryz.underlying187 Tryz.underlying188 Tryz.underlying189 Tryz.underlying190 Tryz.underlying191 Tryz.underlying192 Tryz.underlying193 Tryz.underlying194 Tryz.underlying195 Tryz.underlying196 Tryz.underlying197 Tryz.underlying198 Tryz.underlying199 Tryz.underlying200 Tryz.underlying201 Tryz.underlying202 Tryz.underlying203 Tryz.underlying204 Tryz.underlying205 Tryz.underlying206 Tryz.underlying207 Tryz.underlying208 Tryz.underlying209 Tryz.underlying210 Tryz.underlying211 Tryz.underlying212 Tryz.underlying213 Tryz.underlying214 Tryz.underlying215 Tryz.underlying216 Tryz.underlying217 Tryz.underlying218 Tryz.underlying220 Tryz.underlying221 Tryz.underlying222 Tryz.underlying223 Tryz.underlying224 Tryz.underlying225 Tryz.underlying226 Tryz.underlying227 Tryz.underlying228 Tryz.underlying229 Tryz.underlying230 Tryz.underlying231 Tryz.underlying232 Tryz.underlying234 Tryz.underlying235 Tryz.underlying236 Tryz.underlying237 Tryz.underlying238 Tryz.underlying239 Tryz.underlying240 Tryz.underlying241 Tryz.underlying242 Tryz.underlying243 Tryz.underlying244 Tryz.underlying245 Tryz.underlying246 Tryz.underlying247 Tryz.underlying248 Tryz.underlying249 Tryz.underlying250 Tryz.underlying251 Tryz.underlying252 Tryz.underlying253 Tryz.underlying254 Tryz.underlying255 Tryz.underlying256 Tryz.underlying257 Tryz.underlying258 Tryz.underlying259 Tryz.underlying260 Tryz.underlying261 Tryz.underlying262 Tryz.underlying263 Tryz.underlying264 Tryz.underlying265 Tryz.underlying266 Tryz.underlying267 Tryz.underlying268 Tryz.underlying269 Tryz.underlying270 Tryz.underlying271 Tryz.underlying272 Tryz.underlying273 Tryz.underlying274 Tryz.underlying275 Tryz.underlying276 Tryz.underlying277 Tryz.underlying278 Tryz.underlying279 Tryz.underlying280 Tryz.underlying281 Tryz.underlying282 Tryz.underlying283 Tryz.underlying284 Tryz.underlying285 Tryz.underlying286 Tryz.underlying287 Tryz.underlying288 Tryz.underlying289 Tryz.underlying290 Tryz.underlying291 Tryz.underlying292 Tryz.underlying293 Tryz.underlying294 Tryz.underlying295 Tryz.underlying296 Tryz.underlying297 Tryz.underlying298 Tryz.underlying299 Tryz.underlying300 Tryz.underlying301 Tryz.underlying302 Tryz.underlying303 Tryz.underlying304 Tryz.underlying305 Tryz.underlying306 Tryz.underlying307 Tryz.underlying308 Tryz.underlying309 Tryz.underlying310 Tryz.underlying311 Tryz.underlying312 Tryz.underlying313 Tryz.underlying314 Tryz.underlying315 Tryz.underlying316 Tryz.underlying318 Tryz.underlying319 Tryz.underlying320 Tryz.underlying321 Tryz.underlying322 Tryz.underlying323 Tryz.underlying324 Tryz.underlying325 Tryz.underlying326 Tryz.underlying327 Tryz.underlying328 Tryz.underlying329 Tryz.underlying330 Tryz.underlying331 Tryz.underlying332 Tryz.underlying333 Tryz.underlying334 Tryz.underlying335 Tryz.underlying336 Tryz.underlying337 Tryz.underlying338 Tryz.underlying339 Tryz.underlying340 Tryz.underlying341 Tryz.underlying342 Tryz.underlying343 Tryz.underlying344 Tryz.underlying345 Tryz.underlying346 Tryz.underlying347 Tryz.underlying348 Tryz.underlying349
end Go.Proofs.YtgklegblfboelaaGreatDoor.Ty
