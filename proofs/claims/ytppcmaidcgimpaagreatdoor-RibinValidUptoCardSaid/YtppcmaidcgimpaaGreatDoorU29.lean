/-
  Texts of one proof, packed.
-/
import Derived.Test.YtppcmaidcgimpaaGreatDoorU15
import Derived.Test.YtppcmaidcgimpaaGreatDoorU16
import Derived.Test.YtppcmaidcgimpaaGreatDoorU18
import Derived.Test.YtppcmaidcgimpaaGreatDoorU28
import Derived.IntWalk
import Derived.Shelf.Lays
import Derived.Shelf.SlIter.Nil
import Derived.Shelf.SlIterI.Nil
import Derived.Shelf.SlSortCmp.NoneTotal
import Derived.Shelf.SortM.Plain
import Derived.Shelf.SortM.SortNone
set_option linter.all false
set_option maxRecDepth 100000
set_option maxHeartbeats 4000000
open List renaming length_map→X10,length_append→X11,length_drop→X17,length_take→X18,length_replicate→X20,length_set→X21
open Nat renaming le_of_ble_eq_true→X29
open Int renaming toNat→Wo
open List renaming map→Xa1,replicate→Xav
open Go.Proofs.Tryz renaming prog→Xa9,underlying3→Xc0,underlying4→Xc8,underlying0→Xdh,zeroValue0→Xdq,underlying9→Xdx,zeroValue3→Xe5,zeroValue9→Xe6,sizeOf0→Xei
open Go.Shelf renaming Ren→Xe9
open Go.Fence renaming wide→Xef
section
namespace Go.Proofs
open Go.Shelf
def Tryz.zO:Xe9:=⟨λ| 6=>242|15=>161|14=>294|28=>225|29=>226|20=>321|21=>322|22=>323|23=>324|24=>325|25=>326|26=>327|27=>328|46=>343|47=>280|48=>281|49=>344|50=>345|57=>358|n=>n,λ| 22=>35|24=>96|25=>271|3=>3|39=>86|0=>0|53=>262|55=>30|4=>4|46=>256|45=>255|50=>107|5=>5|9=>9|66=>284|70=>288|76=>303|77=>114|n=>n,λ| n=>n⟩
theorem Tryz.Kn:Go.Proofs.SlLaysF0.n6 Xa9 Tryz.zO:={
 mixed:=by kernel_rfl
 f6:=⟨Tryz.f242.name,by decide,Tryz.func242.trans (Xa4 some (by kernel_rfl))⟩
 f14:=⟨Tryz.f294.name,by decide,Tryz.func294.trans (Xa4 some (by kernel_rfl))⟩
 f15:=Tryz.func161.trans (Xa4 some (by kernel_rfl))
 f20:=⟨Tryz.f321.name,by decide,Tryz.func321.trans (Xa4 some (by kernel_rfl))⟩
 f21:=⟨Tryz.f322.name,by decide,Tryz.func322.trans (Xa4 some (by kernel_rfl))⟩
 f22:=⟨Tryz.f323.name,by decide,Tryz.func323.trans (Xa4 some (by kernel_rfl))⟩
 f23:=⟨Tryz.f324.name,by decide,Tryz.func324.trans (Xa4 some (by kernel_rfl))⟩
 f24:=⟨Tryz.f325.name,by decide,Tryz.func325.trans (Xa4 some (by kernel_rfl))⟩
 f25:=⟨Tryz.f326.name,by decide,Tryz.func326.trans (Xa4 some (by kernel_rfl))⟩
 f26:=⟨Tryz.f327.name,by decide,Tryz.func327.trans (Xa4 some (by kernel_rfl))⟩
 f27:=⟨Tryz.f328.name,by decide,Tryz.func328.trans (Xa4 some (by kernel_rfl))⟩
 f28:=Tryz.func225.trans (Xa4 some (by kernel_rfl))
 f29:=Tryz.func226.trans (Xa4 some (by kernel_rfl))
 f46:=⟨Tryz.f343.name,by decide,Tryz.func343.trans (Xa4 some (by kernel_rfl))⟩
 f47:=Tryz.func280.trans (Xa4 some (by kernel_rfl))
 f48:=Tryz.func281.trans (Xa4 some (by kernel_rfl))
 f49:=⟨Tryz.f344.name,by decide,Tryz.func344.trans (Xa4 some (by kernel_rfl))⟩
 f50:=⟨Tryz.f345.name,by decide,Tryz.func345.trans (Xa4 some (by kernel_rfl))⟩
 f57:=⟨Tryz.f358.name,by decide,Tryz.func358.trans (Xa4 some (by kernel_rfl))⟩
 t0:=Xdh
 a0:=Tryz.isAgg0
 z0:=Xei
 v0:=Xdq
 t3:=Xc0
 a3:=Tryz.isAgg3
 z3:=Tryz.sizeOf3
 v3:=Xe5
 t4:=Xc8
 a4:=Tryz.isAgg4
 z4:=Tryz.sizeOf4
 v4:=Tryz.zeroValue4
 t5:=Tryz.underlying5
 a5:=Tryz.isAgg5
 z5:=Tryz.sizeOf5
 v5:=Tryz.zeroValue5
 t9:=Xdx
 a9:=Tryz.isAgg9
 z9:=Tryz.sizeOf9
 v9:=Xe6
 t22:=Tryz.underlying35
 a22:=Tryz.isAgg35
 z22:=Tryz.sizeOf35
 v22:=Tryz.zeroValue35
 t25:=Tryz.underlying271
 a25:=Tryz.isAgg271
 z25:=Tryz.sizeOf271
 v25:=Tryz.zeroValue271
 t39:=Tryz.underlying86
 a39:=Tryz.isAgg86
 z39:=Tryz.sizeOf86
 v39:=Tryz.zeroValue86
 t45:=Tryz.underlying255
 a45:=Tryz.isAgg255
 z45:=Tryz.sizeOf255
 v45:=Tryz.zeroValue255
 t46:=Tryz.underlying256
 a46:=Tryz.isAgg256
 z46:=Tryz.sizeOf256
 v46:=Tryz.zeroValue256
 t50:=Tryz.underlying107
 a50:=Tryz.isAgg107
 z50:=Tryz.sizeOf107
 v50:=Tryz.zeroValue107
 t53:=Tryz.underlying262
 a53:=Tryz.isAgg262
 z53:=Tryz.sizeOf262
 v53:=Tryz.zeroValue262
 t55:=Tryz.underlying30
 a55:=Tryz.isAgg30
 z55:=Tryz.sizeOf30
 v55:=Tryz.zeroValue30
 t66:=Tryz.underlying284
 a66:=Tryz.isAgg284
 z66:=Tryz.sizeOf284
 v66:=Tryz.zeroValue284
 t70:=Tryz.underlying288
 a70:=Tryz.isAgg288
 z70:=Tryz.sizeOf288
 v70:=Tryz.zeroValue288
 t76:=Tryz.underlying303
 a76:=Tryz.isAgg303
 z76:=Tryz.sizeOf303
 v76:=Tryz.zeroValue303
 t77:=Tryz.underlying114
 a77:=Tryz.isAgg114
 z77:=Tryz.sizeOf114
 v77:=Tryz.zeroValue114 }
def Tryz.zN:Xe9:=⟨λ| 160=>284|232=>315|231=>314|227=>316|234=>318|233=>317|236=>320|235=>319|228=>339|271=>342|151=>341|197=>340|120=>357|152=>356|260=>355|137=>364|119=>365|224=>366|225=>367|217=>394|266=>405|n=>n,λ| 9=>9|4=>4|3=>3|5=>5|117=>308|116=>307|0=>0|124=>311|21=>21|105=>332|46=>86|119=>347|139=>350|138=>349|n=>n,λ| 3=>1|4=>2|n=>n⟩
theorem Tryz.Ki:Go.Proofs.Lays.n160 Xa9 Tryz.zN:={
 mixed:=by kernel_rfl
 f119:=Tryz.func365.trans (Xa4 some (by kernel_rfl))
 f120:=Tryz.func357.trans (Xa4 some (by kernel_rfl))
 f137:=Tryz.func364.trans (Xa4 some (by kernel_rfl))
 f151:=Tryz.func341.trans (Xa4 some (by kernel_rfl))
 f152:=Tryz.func356.trans (Xa4 some (by kernel_rfl))
 f160:=Tryz.func284.trans (Xa4 some (by kernel_rfl))
 f197:=Tryz.func340.trans (Xa4 some (by kernel_rfl))
 f217:=Tryz.func394.trans (Xa4 some (by kernel_rfl))
 f224:=Tryz.func366.trans (Xa4 some (by kernel_rfl))
 f225:=Tryz.func367.trans (Xa4 some (by kernel_rfl))
 f227:=Tryz.func316.trans (Xa4 some (by kernel_rfl))
 f228:=Tryz.func339.trans (Xa4 some (by kernel_rfl))
 f231:=Tryz.func314.trans (Xa4 some (by kernel_rfl))
 f232:=Tryz.func315.trans (Xa4 some (by kernel_rfl))
 f233:=Tryz.func317.trans (Xa4 some (by kernel_rfl))
 f234:=Tryz.func318.trans (Xa4 some (by kernel_rfl))
 f235:=Tryz.func319.trans (Xa4 some (by kernel_rfl))
 f236:=Tryz.func320.trans (Xa4 some (by kernel_rfl))
 f260:=Tryz.func355.trans (Xa4 some (by kernel_rfl))
 f266:=Tryz.func405.trans (Xa4 some (by kernel_rfl))
 f271:=Tryz.func342.trans (Xa4 some (by kernel_rfl))
 t0:=Xdh
 a0:=Tryz.isAgg0
 z0:=Xei
 v0:=Xdq
 t3:=Xc0
 a3:=Tryz.isAgg3
 z3:=Tryz.sizeOf3
 v3:=Xe5
 t4:=Xc8
 a4:=Tryz.isAgg4
 z4:=Tryz.sizeOf4
 v4:=Tryz.zeroValue4
 t5:=Tryz.underlying5
 a5:=Tryz.isAgg5
 z5:=Tryz.sizeOf5
 v5:=Tryz.zeroValue5
 t9:=Xdx
 a9:=Tryz.isAgg9
 z9:=Tryz.sizeOf9
 v9:=Xe6
 t21:=Tryz.underlying21
 a21:=Tryz.isAgg21
 z21:=Tryz.sizeOf21
 v21:=Tryz.zeroValue21
 t46:=Tryz.underlying86
 a46:=Tryz.isAgg86
 z46:=Tryz.sizeOf86
 v46:=Tryz.zeroValue86
 t105:=Tryz.underlying332
 a105:=Tryz.isAgg332
 z105:=Tryz.sizeOf332
 v105:=Tryz.zeroValue332
 t116:=Tryz.underlying307
 a116:=Tryz.isAgg307
 z116:=Tryz.sizeOf307
 t117:=Tryz.underlying308
 a117:=Tryz.isAgg308
 z117:=Tryz.sizeOf308
 v117:=Tryz.zeroValue308
 t119:=Tryz.underlying347
 a119:=Tryz.isAgg347
 z119:=Tryz.sizeOf347
 t124:=Tryz.underlying311
 a124:=Tryz.isAgg311
 z124:=Tryz.sizeOf311
 v124:=Tryz.zeroValue311
 t138:=Tryz.underlying349
 a138:=Tryz.isAgg349
 z138:=Tryz.sizeOf349
 v138:=Tryz.zeroValue349
 t139:=Tryz.underlying350
 a139:=Tryz.isAgg350
 z139:=Tryz.sizeOf350
 v139:=Tryz.zeroValue350
 g3:=by kernel_rfl
 g4:=by kernel_rfl }
def Tryz.yZ:Xe9:=⟨λ| 6=>331|8=>346|9=>347|11=>359|13=>161|12=>360|23=>225|24=>226|14=>368|15=>369|16=>370|17=>371|18=>372|19=>373|20=>374|21=>375|22=>376|25=>395|26=>280|27=>281|28=>396|29=>397|30=>209|31=>406|n=>n,λ| 26=>3|28=>324|24=>40|0=>0|3=>3|37=>86|48=>262|50=>30|4=>4|40=>256|39=>255|45=>107|5=>5|9=>9|51=>284|55=>288|57=>303|58=>114|33=>151|n=>n,λ| n=>n⟩
theorem Tryz.L4:Go.Proofs.SlLaysZI.n6 Xa9 Tryz.yZ:={
 mixed:=by kernel_rfl
 f6:=⟨Tryz.f331.name,by decide,Tryz.func331.trans (Xa4 some (by kernel_rfl))⟩
 f8:=⟨Tryz.f346.name,by decide,Tryz.func346.trans (Xa4 some (by kernel_rfl))⟩
 f11:=⟨Tryz.f359.name,by decide,Tryz.func359.trans (Xa4 some (by kernel_rfl))⟩
 t0:=Xdh
 a0:=Tryz.isAgg0
 z0:=Xei
 v0:=Xdq
 t24:=Tryz.underlying40
 a24:=Tryz.isAgg40
 z24:=Tryz.sizeOf40
 v24:=Tryz.zeroValue40
 t26:=Xc0
 a26:=Tryz.isAgg3
 z26:=Tryz.sizeOf3
 v26:=Xe5
 t28:=Tryz.underlying324
 a28:=Tryz.isAgg324
 z28:=Tryz.sizeOf324
 v28:=Tryz.zeroValue324
 i26:=by kernel_rfl }
def Tryz.zW:Xe9:=⟨λ| 7=>332|10=>348|n=>n,λ| 23=>321|26=>3|3=>4|28=>324|0=>0|27=>323|33=>151|4=>4|n=>n,λ| n=>n⟩
theorem Tryz.Gd:Go.Proofs.SlLaysZI.n7 Xa9 Tryz.zW:={
 mixed:=by kernel_rfl
 f7:=⟨Tryz.f332.name,by decide,Tryz.func332.trans (Xa4 some (by kernel_rfl))⟩
 f10:=⟨Tryz.f348.name,by decide,Tryz.func348.trans (Xa4 some (by kernel_rfl))⟩
 t0:=Xdh
 a0:=Tryz.isAgg0
 z0:=Xei
 v0:=Xdq
 t4:=Xc8
 a4:=Tryz.isAgg4
 z4:=Tryz.sizeOf4
 v4:=Tryz.zeroValue4
 t23:=Tryz.underlying321
 a23:=Tryz.isAgg321
 z23:=Tryz.sizeOf321
 v23:=Tryz.zeroValue321
 t26:=Xc0
 a26:=Tryz.isAgg3
 z26:=Tryz.sizeOf3
 v26:=Xe5
 t27:=Tryz.underlying323
 a27:=Tryz.isAgg323
 z27:=Tryz.sizeOf323
 v27:=Tryz.zeroValue323
 t28:=Tryz.underlying324
 a28:=Tryz.isAgg324
 z28:=Tryz.sizeOf324
 v28:=Tryz.zeroValue324
 t33:=Tryz.underlying151
 a33:=Tryz.isAgg151
 z33:=Tryz.sizeOf151
 v33:=Tryz.zeroValue151 }
def Tryz.zP:Xe9:=⟨λ| 5=>347|8=>161|7=>360|19=>225|20=>226|10=>368|11=>369|12=>370|13=>371|14=>372|15=>373|16=>374|17=>375|18=>376|30=>395|31=>280|32=>281|33=>396|34=>397|35=>209|40=>406|n=>n,λ| 23=>40|25=>3|3=>3|32=>86|22=>40|0=>0|44=>262|46=>30|4=>4|36=>256|35=>255|41=>107|5=>5|9=>9|53=>284|57=>288|63=>303|64=>114|n=>n,λ| n=>n⟩
theorem Tryz.HR:Go.Proofs.SlLaysM.n5 Xa9 Tryz.zP:={
 mixed:=by kernel_rfl
 f5:=⟨Tryz.f347.name,by decide,Tryz.func347.trans (Xa4 some (by kernel_rfl))⟩
 f7:=⟨Tryz.f360.name,by decide,Tryz.func360.trans (Xa4 some (by kernel_rfl))⟩
 f8:=Tryz.func161.trans (Xa4 some (by kernel_rfl))
 f10:=⟨Tryz.f368.name,by decide,Tryz.func368.trans (Xa4 some (by kernel_rfl))⟩
 f11:=⟨Tryz.f369.name,by decide,Tryz.func369.trans (Xa4 some (by kernel_rfl))⟩
 f12:=⟨Tryz.f370.name,by decide,Tryz.func370.trans (Xa4 some (by kernel_rfl))⟩
 f13:=⟨Tryz.f371.name,by decide,Tryz.func371.trans (Xa4 some (by kernel_rfl))⟩
 f14:=⟨Tryz.f372.name,by decide,Tryz.func372.trans (Xa4 some (by kernel_rfl))⟩
 f15:=⟨Tryz.f373.name,by decide,Tryz.func373.trans (Xa4 some (by kernel_rfl))⟩
 f16:=⟨Tryz.f374.name,by decide,Tryz.func374.trans (Xa4 some (by kernel_rfl))⟩
 f17:=⟨Tryz.f375.name,by decide,Tryz.func375.trans (Xa4 some (by kernel_rfl))⟩
 f18:=⟨Tryz.f376.name,by decide,Tryz.func376.trans (Xa4 some (by kernel_rfl))⟩
 f19:=Tryz.func225.trans (Xa4 some (by kernel_rfl))
 f20:=Tryz.func226.trans (Xa4 some (by kernel_rfl))
 f30:=⟨Tryz.f395.name,by decide,Tryz.func395.trans (Xa4 some (by kernel_rfl))⟩
 f31:=Tryz.func280.trans (Xa4 some (by kernel_rfl))
 f32:=Tryz.func281.trans (Xa4 some (by kernel_rfl))
 f33:=⟨Tryz.f396.name,by decide,Tryz.func396.trans (Xa4 some (by kernel_rfl))⟩
 f34:=⟨Tryz.f397.name,by decide,Tryz.func397.trans (Xa4 some (by kernel_rfl))⟩
 f35:=⟨Tryz.f209.name,by decide,Tryz.func209.trans (Xa4 some (by kernel_rfl))⟩
 f40:=⟨Tryz.f406.name,by decide,Tryz.func406.trans (Xa4 some (by kernel_rfl))⟩
 t0:=Xdh
 a0:=Tryz.isAgg0
 z0:=Xei
 v0:=Xdq
 t3:=Xc0
 a3:=Tryz.isAgg3
 z3:=Tryz.sizeOf3
 v3:=Xe5
 t4:=Xc8
 a4:=Tryz.isAgg4
 z4:=Tryz.sizeOf4
 v4:=Tryz.zeroValue4
 t5:=Tryz.underlying5
 a5:=Tryz.isAgg5
 z5:=Tryz.sizeOf5
 v5:=Tryz.zeroValue5
 t9:=Xdx
 a9:=Tryz.isAgg9
 z9:=Tryz.sizeOf9
 v9:=Xe6
 t22:=Tryz.underlying40
 a22:=Tryz.isAgg40
 z22:=Tryz.sizeOf40
 v22:=Tryz.zeroValue40
 t23:=Tryz.underlying40
 a23:=Tryz.isAgg40
 z23:=Tryz.sizeOf40
 v23:=Tryz.zeroValue40
 t25:=Xc0
 a25:=Tryz.isAgg3
 z25:=Tryz.sizeOf3
 v25:=Xe5
 t32:=Tryz.underlying86
 a32:=Tryz.isAgg86
 z32:=Tryz.sizeOf86
 v32:=Tryz.zeroValue86
 t35:=Tryz.underlying255
 a35:=Tryz.isAgg255
 z35:=Tryz.sizeOf255
 v35:=Tryz.zeroValue255
 t36:=Tryz.underlying256
 a36:=Tryz.isAgg256
 z36:=Tryz.sizeOf256
 v36:=Tryz.zeroValue256
 t41:=Tryz.underlying107
 a41:=Tryz.isAgg107
 z41:=Tryz.sizeOf107
 v41:=Tryz.zeroValue107
 t44:=Tryz.underlying262
 a44:=Tryz.isAgg262
 z44:=Tryz.sizeOf262
 v44:=Tryz.zeroValue262
 t46:=Tryz.underlying30
 a46:=Tryz.isAgg30
 z46:=Tryz.sizeOf30
 v46:=Tryz.zeroValue30
 t53:=Tryz.underlying284
 a53:=Tryz.isAgg284
 z53:=Tryz.sizeOf284
 v53:=Tryz.zeroValue284
 t57:=Tryz.underlying288
 a57:=Tryz.isAgg288
 z57:=Tryz.sizeOf288
 v57:=Tryz.zeroValue288
 t63:=Tryz.underlying303
 a63:=Tryz.isAgg303
 z63:=Tryz.sizeOf303
 v63:=Tryz.zeroValue303
 t64:=Tryz.underlying114
 a64:=Tryz.isAgg114
 z64:=Tryz.sizeOf114
 v64:=Tryz.zeroValue114 }
def Tryz.yV:Xe9:=⟨λ| 6=>333|8=>349|9=>350|11=>361|13=>161|12=>362|23=>225|24=>226|14=>377|15=>378|16=>379|17=>380|18=>381|19=>382|20=>383|21=>384|22=>385|25=>398|26=>280|27=>281|28=>399|29=>400|30=>401|31=>407|n=>n,λ| 26=>9|28=>328|24=>141|0=>0|3=>3|37=>86|48=>262|50=>30|4=>4|40=>256|39=>255|45=>107|5=>5|9=>9|51=>284|55=>288|57=>303|58=>114|33=>227|n=>n,λ| n=>n⟩
theorem Tryz.Kg:Go.Proofs.SlLaysZ.n6 Xa9 Tryz.yV:={
 mixed:=by kernel_rfl
 f6:=⟨Tryz.f333.name,by decide,Tryz.func333.trans (Xa4 some (by kernel_rfl))⟩
 f8:=⟨Tryz.f349.name,by decide,Tryz.func349.trans (Xa4 some (by kernel_rfl))⟩
 f11:=⟨Tryz.f361.name,by decide,Tryz.func361.trans (Xa4 some (by kernel_rfl))⟩
 t0:=Xdh
 a0:=Tryz.isAgg0
 z0:=Xei
 v0:=Xdq
 t24:=Tryz.underlying141
 a24:=Tryz.isAgg141
 z24:=Tryz.sizeOf141
 v24:=Tryz.zeroValue141
 t26:=Xdx
 a26:=Tryz.isAgg9
 z26:=Tryz.sizeOf9
 v26:=Xe6
 t28:=Tryz.underlying328
 a28:=Tryz.isAgg328
 z28:=Tryz.sizeOf328
 v28:=Tryz.zeroValue328
 i26:=by kernel_rfl }
def Tryz.AF:Xe9:=⟨λ| 7=>334|10=>351|n=>n,λ| 23=>212|26=>9|3=>4|28=>328|0=>0|27=>327|33=>227|4=>4|n=>n,λ| n=>n⟩
theorem Tryz.Hd:Go.Proofs.SlLaysZ.n7 Xa9 Tryz.AF:={
 mixed:=by kernel_rfl
 f7:=⟨Tryz.f334.name,by decide,Tryz.func334.trans (Xa4 some (by kernel_rfl))⟩
 f10:=⟨Tryz.f351.name,by decide,Tryz.func351.trans (Xa4 some (by kernel_rfl))⟩
 t0:=Xdh
 a0:=Tryz.isAgg0
 z0:=Xei
 v0:=Xdq
 t4:=Xc8
 a4:=Tryz.isAgg4
 z4:=Tryz.sizeOf4
 v4:=Tryz.zeroValue4
 t23:=Tryz.underlying212
 a23:=Tryz.isAgg212
 z23:=Tryz.sizeOf212
 v23:=Tryz.zeroValue212
 t26:=Xdx
 a26:=Tryz.isAgg9
 z26:=Tryz.sizeOf9
 v26:=Xe6
 t27:=Tryz.underlying327
 a27:=Tryz.isAgg327
 z27:=Tryz.sizeOf327
 v27:=Tryz.zeroValue327
 t28:=Tryz.underlying328
 a28:=Tryz.isAgg328
 z28:=Tryz.sizeOf328
 v28:=Tryz.zeroValue328
 t33:=Tryz.underlying227
 a33:=Tryz.isAgg227
 z33:=Tryz.sizeOf227
 v33:=Tryz.zeroValue227 }
def Tryz.B4:Xe9:=⟨λ| 6=>350|8=>161|9=>362|19=>225|20=>226|21=>377|22=>378|23=>379|24=>380|25=>381|26=>382|27=>383|28=>384|29=>385|36=>398|31=>280|32=>281|37=>399|38=>400|39=>401|41=>407|n=>n,λ| 27=>141|29=>9|3=>3|32=>86|26=>141|0=>0|44=>262|46=>30|4=>4|36=>256|35=>255|41=>107|5=>5|9=>9|53=>284|57=>288|63=>303|64=>114|n=>n,λ| n=>n⟩
theorem Tryz.FE:Go.Proofs.SlLaysM.n6 Xa9 Tryz.B4:={
 mixed:=by kernel_rfl
 f6:=⟨Tryz.f350.name,by decide,Tryz.func350.trans (Xa4 some (by kernel_rfl))⟩
 f8:=Tryz.func161.trans (Xa4 some (by kernel_rfl))
 f9:=⟨Tryz.f362.name,by decide,Tryz.func362.trans (Xa4 some (by kernel_rfl))⟩
 f19:=Tryz.func225.trans (Xa4 some (by kernel_rfl))
 f20:=Tryz.func226.trans (Xa4 some (by kernel_rfl))
 f21:=⟨Tryz.f377.name,by decide,Tryz.func377.trans (Xa4 some (by kernel_rfl))⟩
 f22:=⟨Tryz.f378.name,by decide,Tryz.func378.trans (Xa4 some (by kernel_rfl))⟩
 f23:=⟨Tryz.f379.name,by decide,Tryz.func379.trans (Xa4 some (by kernel_rfl))⟩
 f24:=⟨Tryz.f380.name,by decide,Tryz.func380.trans (Xa4 some (by kernel_rfl))⟩
 f25:=⟨Tryz.f381.name,by decide,Tryz.func381.trans (Xa4 some (by kernel_rfl))⟩
 f26:=⟨Tryz.f382.name,by decide,Tryz.func382.trans (Xa4 some (by kernel_rfl))⟩
 f27:=⟨Tryz.f383.name,by decide,Tryz.func383.trans (Xa4 some (by kernel_rfl))⟩
 f28:=⟨Tryz.f384.name,by decide,Tryz.func384.trans (Xa4 some (by kernel_rfl))⟩
 f29:=⟨Tryz.f385.name,by decide,Tryz.func385.trans (Xa4 some (by kernel_rfl))⟩
 f31:=Tryz.func280.trans (Xa4 some (by kernel_rfl))
 f32:=Tryz.func281.trans (Xa4 some (by kernel_rfl))
 f36:=⟨Tryz.f398.name,by decide,Tryz.func398.trans (Xa4 some (by kernel_rfl))⟩
 f37:=⟨Tryz.f399.name,by decide,Tryz.func399.trans (Xa4 some (by kernel_rfl))⟩
 f38:=⟨Tryz.f400.name,by decide,Tryz.func400.trans (Xa4 some (by kernel_rfl))⟩
 f39:=⟨Tryz.f401.name,by decide,Tryz.func401.trans (Xa4 some (by kernel_rfl))⟩
 f41:=⟨Tryz.f407.name,by decide,Tryz.func407.trans (Xa4 some (by kernel_rfl))⟩
 t0:=Xdh
 a0:=Tryz.isAgg0
 z0:=Xei
 v0:=Xdq
 t3:=Xc0
 a3:=Tryz.isAgg3
 z3:=Tryz.sizeOf3
 v3:=Xe5
 t4:=Xc8
 a4:=Tryz.isAgg4
 z4:=Tryz.sizeOf4
 v4:=Tryz.zeroValue4
 t5:=Tryz.underlying5
 a5:=Tryz.isAgg5
 z5:=Tryz.sizeOf5
 v5:=Tryz.zeroValue5
 t9:=Xdx
 a9:=Tryz.isAgg9
 z9:=Tryz.sizeOf9
 v9:=Xe6
 t26:=Tryz.underlying141
 a26:=Tryz.isAgg141
 z26:=Tryz.sizeOf141
 v26:=Tryz.zeroValue141
 t27:=Tryz.underlying141
 a27:=Tryz.isAgg141
 z27:=Tryz.sizeOf141
 v27:=Tryz.zeroValue141
 t29:=Xdx
 a29:=Tryz.isAgg9
 z29:=Tryz.sizeOf9
 v29:=Xe6
 t32:=Tryz.underlying86
 a32:=Tryz.isAgg86
 z32:=Tryz.sizeOf86
 v32:=Tryz.zeroValue86
 t35:=Tryz.underlying255
 a35:=Tryz.isAgg255
 z35:=Tryz.sizeOf255
 v35:=Tryz.zeroValue255
 t36:=Tryz.underlying256
 a36:=Tryz.isAgg256
 z36:=Tryz.sizeOf256
 v36:=Tryz.zeroValue256
 t41:=Tryz.underlying107
 a41:=Tryz.isAgg107
 z41:=Tryz.sizeOf107
 v41:=Tryz.zeroValue107
 t44:=Tryz.underlying262
 a44:=Tryz.isAgg262
 z44:=Tryz.sizeOf262
 v44:=Tryz.zeroValue262
 t46:=Tryz.underlying30
 a46:=Tryz.isAgg30
 z46:=Tryz.sizeOf30
 v46:=Tryz.zeroValue30
 t53:=Tryz.underlying284
 a53:=Tryz.isAgg284
 z53:=Tryz.sizeOf284
 v53:=Tryz.zeroValue284
 t57:=Tryz.underlying288
 a57:=Tryz.isAgg288
 z57:=Tryz.sizeOf288
 v57:=Tryz.zeroValue288
 t63:=Tryz.underlying303
 a63:=Tryz.isAgg303
 z63:=Tryz.sizeOf303
 v63:=Tryz.zeroValue303
 t64:=Tryz.underlying114
 a64:=Tryz.isAgg114
 z64:=Tryz.sizeOf114
 v64:=Tryz.zeroValue114 }
def Tryz.zQ:Xe9:=⟨λ| 6=>352|15=>161|14=>363|28=>225|29=>226|20=>386|21=>387|22=>388|23=>389|24=>390|25=>391|26=>392|27=>393|46=>402|47=>280|48=>281|49=>403|50=>404|57=>408|n=>n,λ| 22=>48|24=>140|25=>301|3=>3|39=>86|0=>0|53=>262|55=>30|4=>4|46=>256|45=>255|50=>107|5=>5|9=>9|66=>284|70=>288|76=>303|77=>114|n=>n,λ| n=>n⟩
theorem Tryz.Kh:Go.Proofs.SlLaysF0.n6 Xa9 Tryz.zQ:={
 mixed:=by kernel_rfl
 f6:=⟨Tryz.f352.name,by decide,Tryz.func352.trans (Xa4 some (by kernel_rfl))⟩
 f14:=⟨Tryz.f363.name,by decide,Tryz.func363.trans (Xa4 some (by kernel_rfl))⟩
 f15:=Tryz.func161.trans (Xa4 some (by kernel_rfl))
 f20:=⟨Tryz.f386.name,by decide,Tryz.func386.trans (Xa4 some (by kernel_rfl))⟩
 f21:=⟨Tryz.f387.name,by decide,Tryz.func387.trans (Xa4 some (by kernel_rfl))⟩
 f22:=⟨Tryz.f388.name,by decide,Tryz.func388.trans (Xa4 some (by kernel_rfl))⟩
 f23:=⟨Tryz.f389.name,by decide,Tryz.func389.trans (Xa4 some (by kernel_rfl))⟩
 f24:=⟨Tryz.f390.name,by decide,Tryz.func390.trans (Xa4 some (by kernel_rfl))⟩
 f25:=⟨Tryz.f391.name,by decide,Tryz.func391.trans (Xa4 some (by kernel_rfl))⟩
 f26:=⟨Tryz.f392.name,by decide,Tryz.func392.trans (Xa4 some (by kernel_rfl))⟩
 f27:=⟨Tryz.f393.name,by decide,Tryz.func393.trans (Xa4 some (by kernel_rfl))⟩
 f28:=Tryz.func225.trans (Xa4 some (by kernel_rfl))
 f29:=Tryz.func226.trans (Xa4 some (by kernel_rfl))
 f46:=⟨Tryz.f402.name,by decide,Tryz.func402.trans (Xa4 some (by kernel_rfl))⟩
 f47:=Tryz.func280.trans (Xa4 some (by kernel_rfl))
 f48:=Tryz.func281.trans (Xa4 some (by kernel_rfl))
 f49:=⟨Tryz.f403.name,by decide,Tryz.func403.trans (Xa4 some (by kernel_rfl))⟩
 f50:=⟨Tryz.f404.name,by decide,Tryz.func404.trans (Xa4 some (by kernel_rfl))⟩
 f57:=⟨Tryz.f408.name,by decide,Tryz.func408.trans (Xa4 some (by kernel_rfl))⟩
 t0:=Xdh
 a0:=Tryz.isAgg0
 z0:=Xei
 v0:=Xdq
 t3:=Xc0
 a3:=Tryz.isAgg3
 z3:=Tryz.sizeOf3
 v3:=Xe5
 t4:=Xc8
 a4:=Tryz.isAgg4
 z4:=Tryz.sizeOf4
 v4:=Tryz.zeroValue4
 t5:=Tryz.underlying5
 a5:=Tryz.isAgg5
 z5:=Tryz.sizeOf5
 v5:=Tryz.zeroValue5
 t9:=Xdx
 a9:=Tryz.isAgg9
 z9:=Tryz.sizeOf9
 v9:=Xe6
 t22:=Tryz.underlying48
 a22:=Tryz.isAgg48
 z22:=Tryz.sizeOf48
 v22:=Tryz.zeroValue48
 t25:=Tryz.underlying301
 a25:=Tryz.isAgg301
 z25:=Tryz.sizeOf301
 v25:=Tryz.zeroValue301
 t39:=Tryz.underlying86
 a39:=Tryz.isAgg86
 z39:=Tryz.sizeOf86
 v39:=Tryz.zeroValue86
 t45:=Tryz.underlying255
 a45:=Tryz.isAgg255
 z45:=Tryz.sizeOf255
 v45:=Tryz.zeroValue255
 t46:=Tryz.underlying256
 a46:=Tryz.isAgg256
 z46:=Tryz.sizeOf256
 v46:=Tryz.zeroValue256
 t50:=Tryz.underlying107
 a50:=Tryz.isAgg107
 z50:=Tryz.sizeOf107
 v50:=Tryz.zeroValue107
 t53:=Tryz.underlying262
 a53:=Tryz.isAgg262
 z53:=Tryz.sizeOf262
 v53:=Tryz.zeroValue262
 t55:=Tryz.underlying30
 a55:=Tryz.isAgg30
 z55:=Tryz.sizeOf30
 v55:=Tryz.zeroValue30
 t66:=Tryz.underlying284
 a66:=Tryz.isAgg284
 z66:=Tryz.sizeOf284
 v66:=Tryz.zeroValue284
 t70:=Tryz.underlying288
 a70:=Tryz.isAgg288
 z70:=Tryz.sizeOf288
 v70:=Tryz.zeroValue288
 t76:=Tryz.underlying303
 a76:=Tryz.isAgg303
 z76:=Tryz.sizeOf303
 v76:=Tryz.zeroValue303
 t77:=Tryz.underlying114
 a77:=Tryz.isAgg114
 z77:=Tryz.sizeOf114
 v77:=Tryz.zeroValue114 }
end Go.Proofs
namespace Go.Maps
end Go.Maps
namespace Go.AX.Q25
open Go Go.AX Go.Proofs Go.Maps Go.Sort Go.Shelf Go.RowKit
theorem S8 {wl:WL}{X:Type}{f:X->D}{cmp:X->X->Option Int}{g:Nat}(J :∀args w,(callFunc g args).run Tryz.prog w=.ok (.enter g args) w)(F :∀{a b r},cmp a b=some r->Ao wl.low Tryz.prog g [.d (f a),.d (f b)] [] (.d (D.i r)) []){l r:List X}(h:Gv cmp l=some r)(H :∀x,(f x).isAgg=true:=by exact λ_=>rfl):Ao wl Tryz.prog 242 [.own 0 (List.map f l).length,.fn g []] [.row 96 3 (List.map f l) .no] (.wx []) [.row 96 3 (List.map f r) .no]:=
 Y4 Tryz.Kn (X8 Tryz.func242 (by kernel_rfl) (by kernel_rfl)) Tryz.isAgg96 Tryz.sizeOf96 J H F h
theorem cR {wl:WL}{s cut r:T}(h:XP s cut=some r):Ao wl Xa9 284 [.d (D.s s),.d (D.s cut)] [] (.d (D.s r)) []:=
 mc Tryz.Ki (X8 Tryz.func284 (by kernel_rfl) (by kernel_rfl)) (by kernel_rfl) h
theorem mY (m:Nat):AnyZI.SortsIn Xa9 Tryz.yZ Xef m:=
 ⟨λJ K F M W P H w8=>callsIn_wide.2 (AnyM.slices_Sort_int Tryz.HR J K F M W P H w8),λp F W=>callsIn_wide.2 (AnyM.slices_Sort_int_none Tryz.HR p F W)⟩
theorem YE {G:Nat->O (I (D×D))}{V:Type}{ev:V->D}{m:I (Int×V)}{r:I Int}(h:SC m=some r){k e:Nat}:Ao ⟨True,G⟩ Xa9 331 [.it 348 0] [.map k e (Am D.i ev m)] (.own 1 (Xa1 D.i r).length) [.map k e (Am D.i ev m),.row 3 1 (Xa1 D.i r) .no]:=
 Un (wl:=⟨True,G⟩) Tryz.Gd Tryz.L4 (X8 Tryz.func331 (by kernel_rfl) (by kernel_rfl)) mY (enters_of Tryz.func347 (by kernel_rfl) rfl) (enters_of Tryz.func348 (by kernel_rfl) rfl) h
theorem eB {wl:WL}{k e:Nat}{es:I (D×D)}:Ao wl Xa9 332 [.mp 0] [.map k e es] (.it 348 0) [.map k e es]:=
 W0 (X8 Tryz.func332 (by kernel_rfl) (by kernel_rfl)) λb w=>callsIn_wide.1 (AnyZI.keys_in Tryz.Gd Xef 5 trivial rfl (some b) w)
theorem lz (m:Nat):AnyZ.SortsIn Xa9 Tryz.yV Xef m:=
 ⟨λJ K F M W P H w8=>callsIn_wide.2 (AnyM.slices_Sort_string Tryz.FE J K F M W P H w8),λp F W=>callsIn_wide.2 (AnyM.slices_Sort_string_none Tryz.FE p F W)⟩
theorem YM {G:Nat->O (I (D×D))}{V:Type}{ev:V->D}{m:I (T×V)}{r:I T}(h:SK m=some r){k e:Nat}:Ao ⟨True,G⟩ Xa9 333 [.it 351 0] [.map k e (Am D.s ev m)] (.own 1 (Xa1 D.s r).length) [.map k e (Am D.s ev m),.row 9 1 (Xa1 D.s r) .no]:=
 Uy (wl:=⟨True,G⟩) Tryz.Hd Tryz.Kg (X8 Tryz.func333 (by kernel_rfl) (by kernel_rfl)) lz (enters_of Tryz.func350 (by kernel_rfl) rfl) (enters_of Tryz.func351 (by kernel_rfl) rfl) h
theorem bI {wl:WL}{k e:Nat}{es:I (D×D)}:Ao wl Xa9 334 [.mp 0] [.map k e es] (.it 351 0) [.map k e es]:=
 W0 (X8 Tryz.func334 (by kernel_rfl) (by kernel_rfl)) λb w=>callsIn_wide.1 (AnyZ.keys_in Tryz.Hd Xef 5 trivial rfl (some b) w)
theorem ZI {wl:WL}{X:Type}{f:X->D}{cmp:X->X->Option Int}{g:Nat}(J :∀args w,(callFunc g args).run Tryz.prog w=.ok (.enter g args) w)(F :∀{a b r},cmp a b=some r->Ao wl.low Tryz.prog g [.d (f a),.d (f b)] [] (.d (D.i r)) []){l r:List X}(h:Gv cmp l=some r)(H :∀x,(f x).isAgg=true:=by exact λ_=>rfl):Ao wl Tryz.prog 352 [.own 0 (List.map f l).length,.fn g []] [.row 140 6 (List.map f l) .no] (.wx []) [.row 140 6 (List.map f r) .no]:=
 Y4 Tryz.Kh (X8 Tryz.func352 (by kernel_rfl) (by kernel_rfl)) Tryz.isAgg140 Tryz.sizeOf140 J H F h
end Go.AX.Q25
end
section
namespace Go.AX.Q25
open Go Go.AX Go.Proofs
variable {wl:Prop}
instance {F:I oB}:CK (AW F) 213 [ed F,AV.fn 214 [],AV.fn 215 []] [] ed oN:=Wf 0 Tryz.f213 λh=>by unfold AW at h;exact Wg (.y 39 39 (.a (.f 9 3 oB.fv (λH _=>⟨[(0,y5 F),(1,AV.fn 214 []),(2,AV.fn 215 []),(9,y5 F),(10,yi (F.length:Int)),(11,yi (H:Int))],[]⟩) (λ_ H K=>.g (.k (λJ=>⟨[(34,yb J)],[]⟩)))) (λ_=>⟨[(0,y5 F)],[]⟩))) h
instance {F:I oB}:CK (CJ F) 156 [ed F] [] ed oN:=Wf 0 Tryz.f156 λh=>by unfold CJ at h;exact Wg .z h
instance {F:Int}:CK (EN F) 216 [ed F] [] ed oN:=Wf 0 Tryz.f216 λh=>by unfold EN at h;exact Wg (.y 15 15 (.k (λv1=>⟨[(2,yb v1)],[]⟩))) h
instance {F:I gH}:CK (Dt F) 157 [ed F] [] ed oN:=Wf 0 Tryz.f157 λh=>by unfold Dt at h;exact Wg (.y 52 52 (.a (.f 5 3 gH.fv (λH _=>⟨[(0,y6 F),(5,y6 F),(6,yi (F.length:Int)),(7,yi (H:Int))],[]⟩) (λ_ H K=>.g (.k (λJ=>⟨[(47,yb J)],[]⟩)))) (λ_=>⟨[(0,y6 F)],[]⟩))) h
instance O5 {F:gE}:CK (Bt F) 77 [ed F] [] ed oN:=Wf 0 Tryz.f77 λh=>by unfold Bt at h;exact Wg (.y 51 51 (.k (λv1=>⟨[(2,yb v1)],[]⟩))) h
instance Nz {F:ls}:CK (E0 F) 26 [ed F] [] ed oN:=Wf 0 Tryz.f26 λh=>by unfold E0 at h;exact Wg (.y 104 104 (.d (λv1=>⟨[(1,yr 1 0),(34,yb v1)],[(1,yB (ls.av F))]⟩) λv1=>.b .z (.a (.f 36 18 gD.fv (λH _=>⟨[(34,X),(36,AV.d (D.l 18 gD.fv F.gD)),(37,yi (F.gD.length:Int)),(38,yi (H:Int))],[]⟩) (λ_ H K=>.g (.k (λJ=>⟨[(100,yb J)],[]⟩)))) (λ_=>⟨[(34,X)],[]⟩)))) h
instance {F:fI}:CK (F8 F) 90 [ed F] [] ed oN:=Wf 0 Tryz.f90 λh=>by unfold F8 at h;exact Wg .z h
instance {F:wz}:CK (GK F) 93 [ed F] [] ed oN:=Wf 0 Tryz.f93 λh=>by unfold GK at h;exact Wg (.y 18 18 (.k (λv1=>⟨[(2,yb v1)],[]⟩))) h
instance {F:Int}:CK (GI F) 95 [ed F] [] ed oN:=Wf 0 Tryz.f95 λh=>by unfold GI at h;exact Wg .z h
instance {F:Addr}:CK (GY F) 97 [ed F] [] ed oN:=Wf 0 Tryz.f97 λh=>by unfold GY at h;exact Wg .z h
instance {F:kI}:CK (GF F) 96 [ed F] [] ed oN:=Wf 0 Tryz.f96 λh=>by unfold GF at h;exact Wg (.y 26 26 (.k (λv1=>⟨[(2,yb v1)],[]⟩))) h
instance {F:Int}:CK (OP F) 235 [ed F] [] ed oN:=Wf 0 Tryz.f235 λh=>by unfold OP at h;exact Wg .z h
instance {F:Int} {H:Int} {J:Int}:CK (Gu F H J) 285 [ed F,ed H,ed J] [] ed oN:=Wf 0 Tryz.f285 λh=>by unfold Gu at h;exact Wg (.y 15 15 (.k (λv1=>⟨[(6,yb v1)],[]⟩))) h
instance {F:T}:CK (GP F) 237 [ed F] [] ed oN:=Wf 0 Tryz.f237 λh=>by refine⟨rfl,?_⟩;unfold GP at h;(conv=>whnf);refine Ah h (λ_ g=>cR g) λ_ h=>?_;exact Wg (.y 13 13 (.k (λv1=>⟨[(2,yb v1)],[]⟩))) h
instance {F:T}:CK (OU F) 236 [ed F] [] ed oN:=Wf 0 Tryz.f236 λh=>by unfold OU at h;exact Wg .z h
instance {F:I Int}:CK (BX F) 167 [ed F,AV.fn 235 []] [] ed oN:=Wf 0 Tryz.f167 λh=>by unfold BX at h;exact Wg (.y 19 19 (.a (.f0 6 1 D.i (λH _=>⟨[(0,y2 F),(1,AV.fn 235 []),(6,y2 F),(7,yi (F.length:Int)),(8,yi (H:Int))],[]⟩)) (λ_=>⟨[],[]⟩))) h
instance {F:I Int}:CK (A9 F) 94 [ed F,AV.fn 235 []] [] ed oN:=Wf 0 Tryz.f94 λh=>by unfold A9 at h;exact Wg .z h
instance {F:I T}:CK (BH F) 286 [ed F,AV.fn 236 []] [] ed oN:=Wf 0 Tryz.f286 λh=>by unfold BH at h;exact Wg (.y 19 19 (.a (.f0 6 1 D.s (λH _=>⟨[(0,y7 F),(1,AV.fn 236 []),(6,y7 F),(7,yi (F.length:Int)),(8,yi (H:Int))],[]⟩)) (λ_=>⟨[],[]⟩))) h
instance {F:I T}:CK (Av F) 238 [ed F,AV.fn 236 []] [] ed oN:=Wf 0 Tryz.f238 λh=>by unfold Av at h;exact Wg .z h
instance {F:Set}:CK (QO F) 169 [ed F] [] ed oN:=Wf 0 Tryz.f169 λh=>by unfold QO at h;exact Wg (.y 34 34 (.k (λv1=>⟨[(2,yb v1)],[]⟩))) h
instance {F:fI}:CK (Lc F) 170 [ed F] [] ed oN:=Wf 0 Tryz.f170 λh=>by unfold Lc at h;exact Wg .z h
instance Qs {F:we}:CK (IK F) 99 [ed F] [] ed oN:=Wf 0 Tryz.f99 λh=>by unfold IK at h;exact Wg (.y 73 73 (.c (.f 10 3 Set.fv (λK v2=>⟨[(1,yr 1 0),(3,AV.mp 8),(10,AV.d (D.l 3 Set.fv F.ph)),(11,yi (F.ph.length:Int)),(12,yi (K:Int))],[(1,yB (we.av F)),(8,some (OB.map 9 4 (Am D.s D.b v2)))]⟩) (λv2 K P=>.g (.k (λQ=>⟨[(5,yr 5 0),(24,yb Q)],[(5,yB (Set.av P))]⟩)))) (λ_=>⟨[(1,yr 1 0)],[(1,yB (we.av F))]⟩) λ_=>.c (.f 30 6 kI.fv (λM _=>⟨[(30,AV.d (D.l 6 kI.fv F.pk)),(31,yi (F.pk.length:Int)),(32,yi (M:Int))],[]⟩) (λ_ M U=>.g (.k (λH=>⟨[(61,yb H)],[]⟩)))) (λ_=>⟨[],[]⟩) λ_=>.k (λJ=>⟨[(1,X),(2,yb J)],[(1,N)]⟩))) h
instance {F:I fI}:CK (As F) 162 [ed F,AV.fn 90 []] [] ed oN:=Wf 0 Tryz.f162 λh=>by unfold As at h;exact Wg (.y 19 19 (.a (.f0 6 4 fI.fv (λH _=>⟨[(0,y8 F),(1,AV.fn 90 []),(6,y8 F),(7,yi (F.length:Int)),(8,yi (H:Int))],[]⟩)) (λ_=>⟨[],[]⟩))) h
instance {F:I fI}:CK (AS F) 91 [ed F,AV.fn 90 []] [] ed oN:=Wf 0 Tryz.f91 λh=>by unfold AS at h;exact Wg .z h
instance {F:I wz}:CK (A1 F) 166 [ed F,AV.fn 93 []] [] ed oN:=Wf 0 Tryz.f166 λh=>by unfold A1 at h;exact Wg (.y 19 19 (.a (.f0 6 2 wz.fv (λH _=>⟨[(0,y9 F),(1,AV.fn 93 []),(6,y9 F),(7,yi (F.length:Int)),(8,yi (H:Int))],[]⟩)) (λ_=>⟨[],[]⟩))) h
instance {F:I wz}:CK (Af F) 92 [ed F,AV.fn 93 []] [] ed oN:=Wf 0 Tryz.f92 λh=>by unfold Af at h;exact Wg .z h
instance {F:I Int}:CK (BI F) 167 [ed F,AV.fn 95 []] [] ed oN:=Wf 0 Tryz.f167 λh=>by unfold BI at h;exact Wg (.y 19 19 (.a (.f0 6 1 D.i (λH _=>⟨[(0,y2 F),(1,AV.fn 95 []),(6,y2 F),(7,yi (F.length:Int)),(8,yi (H:Int))],[]⟩)) (λ_=>⟨[],[]⟩))) h
instance {F:I Int}:CK (Az F) 94 [ed F,AV.fn 95 []] [] ed oN:=Wf 0 Tryz.f94 λh=>by unfold Az at h;exact Wg .z h
instance {F:I kI}:CK (Ar F) 168 [ed F,AV.fn 96 []] [] ed oN:=Wf 0 Tryz.f168 λh=>by unfold Ar at h;exact Wg (.y 19 19 (.a (.f0 6 6 kI.fv (λH _=>⟨[(0,zd F),(1,AV.fn 96 []),(6,zd F),(7,yi (F.length:Int)),(8,yi (H:Int))],[]⟩)) (λ_=>⟨[],[]⟩))) h
instance {F:I kI}:CK (Ab F) 98 [ed F,AV.fn 96 []] [] ed oN:=Wf 0 Tryz.f98 λh=>by unfold Ab at h;exact Wg .z h
instance T8 {F:vV}:CK (H4 F) 48 [ed F] [] ed oN:=Wf 0 Tryz.f48 λh=>by unfold H4 at h;exact Wg (.y 117 117 (.d (λv1=>⟨[(1,yr 1 0),(38,yb v1)],[(1,yB (vV.av F))]⟩) λv1=>.b .z (.d (λv2=>⟨[(38,X),(88,yb v2)],[]⟩) λv2=>.b .z (.d (λH=>⟨[(88,X),(98,yb H)],[]⟩) λH=>.b .z (.d (λJ=>⟨[(98,X),(106,yb J)],[]⟩) λJ=>.b .z (.k (λK=>⟨[(1,X),(2,yb K),(106,X)],[(1,N)]⟩))))))) h
instance {F:fI}:CK (GH F) 100 [ed F] [] ed oN:=Wf 0 Tryz.f100 λh=>by unfold GH at h;exact Wg .z h
instance {F:gE}:CK (Ho F) 171 [ed F] [] ed oN:=Wf 2 Tryz.f171 λh=>by unfold Ho at h;exact Wg (.y 56 58 (.c (.i Tryz.f239 56 .z) (λ_=>⟨[(1,yr 1 0),(4,AV.d (D.agg [D.i (-1),D.nil 2,D.b false,D.u64 (0:j),D.u64 (0:j),D.i (-1),D.i (-1),D.i (-1),D.nil 2,D.nil 3,D.nil 3]))],[(1,yB (gE.av F))]⟩) λ_=>.k (λv1=>⟨[(1,X),(2,yb v1),(4,X)],[(1,N)]⟩))) h
instance {F:fI} {H:tT}:CK (FT F H) 172 [ed F,.ref 0 0] [.box (tT.av H)] (λr=>.d (D.b r.1)) (λr=>[.box (tT.av r.2)]):=Wf 0 Tryz.f172 λh=>by unfold FT at h;exact Wg .z h
instance {H:I fI} {F:tT}:CK (Au H F) 162 [ed H,AV.fn 172 [.ref 0 0]] [.box (tT.av F)] (λr=>.d (D.i r.1)) (λr=>[.box (tT.av r.2)]):=Wf 0 Tryz.f162 λh=>by unfold Au at h;exact Wg (.y 19 20 (.a (.f0 6 4 fI.fv (λJ K=>⟨[(0,y8 H),(1,AV.fn 172 [yr 0 0]),(6,y8 H),(7,yi (H.length:Int)),(8,yi (J:Int))],[(0,yB (tT.av K))]⟩)) (λv1=>⟨[],[(0,yB (tT.av v1))]⟩))) h
instance {H:I fI} {F:tT}:CK (Ad H F) 91 [ed H,AV.fn 172 [.ref 0 0]] [.box (tT.av F)] (λr=>.d (D.b r.1)) (λr=>[.box (tT.av r.2)]):=Wf 0 Tryz.f91 λh=>by unfold Ad at h;exact Wg .z h
instance {F:tT}:CK (Iu F) 101 [ed F] [] ed oN:=Wf 0 Tryz.f101 λh=>by unfold Iu at h;exact Wg (.b .z (.y 35 35 (.k (λv1=>⟨[(2,yb v1)],[]⟩)))) h
instance {F:I gH}:CK (GG F) 173 [ed F] [] e2 oN:=Wf 0 Tryz.f173 λh=>by unfold GG at h;exact Wg (.y 80 80 (.c (.f 11 3 gH.fv (λM _=>⟨[(0,y6 F),(11,y6 F),(12,yi (F.length:Int)),(13,yi (M:Int))],[]⟩) (λ_ M V=>.g (.k (λU=>⟨[(32,yb U)],[]⟩)))) (λ_=>⟨[(0,y6 F)],[]⟩) λ_=>.a (.f 34 3 gH.fv (λP J=>⟨[(0,X),(6,yO 6 D.u8 J),(34,y6 F),(35,yi (F.length:Int)),(36,yi (P:Int))],[(6,yR 5 1 D.u8 J)]⟩) (λJ P K=>.g (.k (λH=>⟨[(6,yO 6 D.u8 H),(8,yr 8 0)],[(6,yR 5 1 D.u8 H),(8,yB (gH.av K))]⟩)))) (λQ=>⟨[(0,X),(6,yO 6 D.u8 Q)],[(6,yR 5 1 D.u8 Q)]⟩))) h
instance {F:Addr}:CK (Ba F) 241 [ed F] [] ed oN:=Wf 0 Tryz.f241 λh=>by
 refine⟨rfl,?_⟩;unfold Ba at h;(conv=>whnf);refine Ah h (λ_=>WC.ok) λ_ h=>?_;refine vX ?_;refine CN h ?_ ?_<;>intro h
 ·exact Wg .z h
 refine Ap h (λv1=>⟨X::yr 1 0::X::yi v1::dd 34 ([]),N::yB (Addr.av F)::nn 36 ([])⟩) ?_ ?_
 ·intro _ h;exact Wg .z h
 rintro v1 h;obtain⟨_,K,h⟩:=AY h;refine⟨rN K (X29 rfl),D.u8 (0:S),rfl,(Xa1 D.u8 (Xav (Wo v1) (0:S))),List.map_replicate.symm,?_⟩;exact Wg (.y 38 38 (.a (.w0 (u3 λM P H=>⟨[(1,yr 1 0),(4,yO 12 D.u8 H),(5,yi M)],[(1,yB (Addr.av P)),(12,yR 5 1 D.u8 H)]⟩)) (λJ=>⟨[(4,yO 12 D.u8 J)],[(12,yR 5 1 D.u8 J)]⟩))) h
instance {H:I S} {F:I fI} {J:C}:CK (E7 H F J) 175 [AV.own 0 (Xa1 D.u8 H).length,ed F,ed J] [.row 5 1 (Xa1 D.u8 H) .no] (λr=>AV.own 0 (Xa1 D.u8 r).length) (λr=>[.row 5 1 (Xa1 D.u8 r) .no]):=Wf 0 Tryz.f175 λh=>by unfold E7 at h;exact Wg (.y 37 38 (.a (.f 9 4 fI.fv (λM K=>⟨[(0,yO 0 D.u8 K),(2,yb J),(9,y8 F),(10,yi (F.length:Int)),(11,yi (M:Int))],[(0,yR 5 1 D.u8 K)]⟩) (λK M Q=>.g (.k (λP=>⟨[(0,yO 0 D.u8 P)],[(0,yR 5 1 D.u8 P)]⟩)))) (λv1=>⟨[(0,yO 0 D.u8 v1)],[(0,yR 5 1 D.u8 v1)]⟩))) h
instance {H:I S} {F:I Int}:CK (Dh H F) 289 [AV.own 0 (Xa1 D.u8 H).length,ed F] [.row 5 1 (Xa1 D.u8 H) .no] (λr=>AV.own 0 (Xa1 D.u8 r).length) (λr=>[.row 5 1 (Xa1 D.u8 r) .no]):=Wf 0 Tryz.f289 λh=>by unfold Dh at h;exact Wg (.y 29 30 (.a (.f0 7 1 D.i (λK J=>⟨[(0,yO 0 D.u8 J),(7,y2 F),(8,yi (F.length:Int)),(9,yi (K:Int))],[(0,yR 5 1 D.u8 J)]⟩)) (λv1=>⟨[(0,yO 0 D.u8 v1)],[(0,yR 5 1 D.u8 v1)]⟩))) h
instance {F:I oF}:CK (Bn F) 288 [ed F] [] ed oN:=Wf 0 Tryz.f288 λh=>by unfold Bn at h;exact Wg (.y 28 28 (.a (.f 7 2 oF.fv (λJ H=>⟨[(3,yO 3 D.u8 H),(7,y3 F),(8,yi (F.length:Int)),(9,yi (J:Int))],[(3,yR 5 1 D.u8 H)]⟩) (λH J K=>.g (.k (λM=>⟨[(5,yr 5 0),(6,yv M)],[(5,yB (oF.av K))]⟩)))) (λv1=>⟨[(3,yO 3 D.u8 v1)],[(3,yR 5 1 D.u8 v1)]⟩))) h
instance Kv {F:I qv}:CK (B7 F) 290 [ed F] [] ed oN:=Wf 0 Tryz.f290 λh=>by unfold B7 at h;exact Wg (.y 23 23 (.a (.f0 6 2 qv.fv (λJ H=>⟨[(3,yO 3 D.u8 H),(6,y4 F),(7,yi (F.length:Int)),(8,yi (J:Int))],[(3,yR 5 1 D.u8 H)]⟩)) (λv1=>⟨[(3,yO 3 D.u8 v1)],[(3,yR 5 1 D.u8 v1)]⟩))) h
instance O8 {F:I oB}:CK (EG F) 291 [ed F] [] ed oN:=Wf 0 Tryz.f291 λh=>by unfold EG at h;exact Wg (.y 23 23 (.a (.f0 6 3 oB.fv (λJ H=>⟨[(3,yO 3 D.u8 H),(6,y5 F),(7,yi (F.length:Int)),(8,yi (J:Int))],[(3,yR 5 1 D.u8 H)]⟩)) (λv1=>⟨[(3,yO 3 D.u8 v1)],[(3,yR 5 1 D.u8 v1)]⟩))) h
instance {F:I S}:CK (B1 F) 292 [ed F] [] ed oN:=Wf 0 Tryz.f292 λh=>by
 refine⟨rfl,?_⟩;unfold B1 at h;refine⟨?_,λH=>?_⟩
 ·exact Wg .z h
 obtain rfl:F=[]:=(by simpa using H);replace h:=aL h;exact Wg .z h
instance Nj {F:gH}{H:gH}:CK (B2 F H) 293 [ed F,ed H] [] ed oN:=Wf 0 Tryz.f293 λh=>by unfold B2 at h;exact Wg .z h
instance Fo {F:I Int}:CK (BV F) 289 [.d (D.nil 1),ed F] [] ed oN:=Wf 0 Tryz.f289 λh=>by unfold BV at h;exact Wg (.y 29 29 (.a (.f0 7 1 D.i (λJ H=>⟨[(0,yO 26 D.u8 H),(7,y2 F),(8,yi (F.length:Int)),(9,yi (J:Int))],[(26,yR 5 1 D.u8 H)]⟩)) (λv1=>⟨[(0,yO 26 D.u8 v1)],[(26,yR 5 1 D.u8 v1)]⟩))) h
instance RQ {F:gH}{H:gH}:CK (Gw F H) 243 [ed F,ed H] [] ed oN:=Wf 0 Tryz.f243 λh=>by unfold Gw at h;exact Wg .z h
instance Oh {F:I fI}{H:C}:CK (Es F H) 175 [.d (D.nil 1),ed F,ed H] [] ed oN:=Wf 0 Tryz.f175 λh=>by unfold Es at h;exact Wg (.y 37 37 (.a (.f 9 4 fI.fv (λK J=>⟨[(0,yO 25 D.u8 J),(2,yb H),(9,y8 F),(10,yi (F.length:Int)),(11,yi (K:Int))],[(25,yR 5 1 D.u8 J)]⟩) (λJ K P=>.g (.k (λM=>⟨[(0,yO 25 D.u8 M)],[(25,yR 5 1 D.u8 M)]⟩)))) (λv1=>⟨[(0,yO 25 D.u8 v1)],[(25,yR 5 1 D.u8 v1)]⟩))) h
end Go.AX.Q25
end
