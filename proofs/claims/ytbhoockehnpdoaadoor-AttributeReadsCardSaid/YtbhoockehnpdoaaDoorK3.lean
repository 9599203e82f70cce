/-
  Texts of one proof, packed: AxB6 Q18B Q18P0 L18G2 AxT AxV AxW AxU L18A L18B L18C AxX L18D L18E L18F L18G L18H L18I L18J L18K L18L L18M L18N L18O.
-/
import Derived.Test.YtbhoockehnpdoaaDoorK2
import Derived.IntWalk
import Derived.LaidSub
import Derived.MapKept
import Derived.Shelf.SlSortCmp.NoneTotal
import Derived.Shelf.SortM.Plain
import Derived.Shelf.SortM.SortNone
import Derived.Test.YtbhoockehnpdoaaDoorRows
set_option linter.all false
section
namespace Go.AX
open Go.Proofs Go.Sort Go.Shelf Go.RowKit
theorem putRow_heap {α:Type} [Inhabited α] (enc:α→Value) (w:World) (blk off n:Nat) (d:Array α) (os:Array Obj) (hb:blk < w.heap.size) :
  (∀b,b < w.heap.size→b ≠ blk→(grow (putRow enc (Sort.ahead w n) blk off d) os).heap[b]?=w.heap[b]?)∧w.heap.size ≤ (grow (putRow enc (Sort.ahead w n) blk off d) os).heap.size∧
  (∀vs e fr,w.heap[blk]?=some (.cells vs e fr)→(grow (putRow enc (Sort.ahead w n) blk off d) os).heap[blk]?=some (.cells (putCells enc off d vs) e fr))∧
  (grow (putRow enc (Sort.ahead w n) blk off d) os).os=w.os∧(grow (putRow enc (Sort.ahead w n) blk off d) os).output=w.output∧(grow (putRow enc (Sort.ahead w n) blk off d) os).tape=w.tape∧w.drawn ≤ (grow (putRow enc (Sort.ahead w n) blk off d) os).drawn:=by
 have hh:(grow (putRow enc (Sort.ahead w n) blk off d) os).heap=(w.heap.modify blk (onCells (putCells enc off d))) ++ os:=rfl
 refine ⟨fun b h1 h2=>?_,?_,fun vs e fr h=>?_,rfl,rfl,rfl,Nat.le_add_right _ _⟩
 ·rw [hh,Array.getElem?_append_left (by simpa using h1),Array.getElem?_modify,if_neg (Ne.symm h2)]
 ·rw [hh];simp
 ·rw [hh,Array.getElem?_append_left (by simpa using hb),Array.getElem?_modify,if_pos rfl,h]
  rfl
theorem sortI_ok {wl:WL} {P:Program} {ρ:Ren} {e:Nat} (L:SlLaysM.n5 P ρ) (hf:FnOK P (ρ.f 5)) {l r:List Int} (h:sortI l=some r) :
  CallsOK wl P (ρ.f 5) [.own 0 (List.map D.i l).length] [.row e 1 (List.map D.i l) .no] (.tup []) [.row e 1 (List.map D.i r) .no]:=by
 unfold sortI at h
 split at h
 rotate_left
 ·simp at h
 rename_i hsz
 obtain rfl:=Option.some.inj h
 refine ⟨hf,fun w S φ gb hg vals hs hr hn m=>?_⟩
 have r0:=(hr 0 (by simp)).1
 simp only [List.getElem_cons_zero] at r0
 generalize hv:vals.getD 0 undef=v0 at r0
 have hv:vals=#[v0]:=by
  match vals,hs with
  | ⟨[a]⟩,_=>simp at hv;rw [hv]
 cases r0 with | own _ _ _ kk c a0 hv0 hk0 h1 hb=>
 have hob:ofL [OB.row e 1 (List.map D.i l) .no] 0=some (.row e 1 (List.map D.i l) .no):=rfl
 obtain ⟨_,hown⟩:=h1 _ _ _ _ hob
 have hown:=hown rfl
 obtain ⟨g0,g1,g2,g3⟩:=m.obj 0 _ hob
 have hol :∀r',ofL [OB.row e 1 (List.map D.i r') .no]=upd (ofL [OB.row e 1 (List.map D.i l) .no]) 0 (some (.row e 1 (List.map D.i r') .no)):=by
  intro r'
  funext q
  match q with
  | 0=>simp [ofL]
  | q + 1=>simp [ofL,upd]
 have none :∀(p:Option Addr) (cap:Nat),v0=.slice p 0 cap→l=[]→Calls P (ρ.f 5) vals w fun e' w'=>∃v,e'=.returned v∧∃S' φ',Mem ⟨w,S,PBof φ ([OB.row e 1 (List.map D.i l) .no]).length,wl,gb,hg⟩ w' S' φ' (ofL [OB.row e 1 (List.map D.i (l.mergeSort fun x y=>decide (x ≤ y))) .no])∧
   Kept w S φ (ofL [OB.row e 1 (List.map D.i l) .no]) w' S' φ' (ofL [OB.row e 1 (List.map D.i (l.mergeSort fun x y=>decide (x ≤ y))) .no])∧RepA S' w' φ' (ofL [OB.row e 1 (List.map D.i (l.mergeSort fun x y=>decide (x ≤ y))) .no]) (.tup []) v∧Closed (ofL [OB.row e 1 (List.map D.i (l.mergeSort fun x y=>decide (x ≤ y))) .no]) (.tup []):=by
  intro p cap hp hl
  subst hl
  rw [hv,hp]
  refine (AnyM.slices_Sort_int_none L p cap w).mono fun e' w' ⟨he,hw⟩=>?_
  subst hw
  refine ⟨_,he,S,φ,by simpa using m,by simpa using .refl _ _ _ _,.tup [] #[] (fun _=>undef) rfl (fun i hi=>by simp at hi) (fun i hi=>by simp at hi),fun q hq=>by simp [AV.refs,AV.refs.refsL] at hq⟩
 rcases hown with ⟨a1,a2,a3,a4⟩ | ⟨b,cap,a1,a4⟩
 ·exact none _ _ a4 (List.eq_nil_of_length_eq_zero (by simpa using a2))
 rcases g3 with ⟨f1,_⟩ | ⟨b',cap',vs,f0,f1,f2,f3,f4,f5,f6,f7,f8⟩
 ·rw [a1] at f1;simp at f1
 rw [a1] at f1
 simp only [Option.some.injEq,Prod.mk.injEq] at f1
 obtain ⟨rfl,rfl⟩:=f1
 have hbl:b < w.heap.size:=(m.ow 0 b cap (by simp [ofL]) a1).1
 have hcell :∀i (hi:i < l.length),f0 i 0=.int .i64 l[i]:=by
  intro i hi
  have:=f7 i (by simpa using hi) 0 (by simp [D.cells])
  simp only [List.getElem_map,D.cells,List.getElem_cons_zero] at this
  revert this
  generalize f0 i 0=u
  intro h
  cases h
  rfl
 have hH:Holds (Value.int .i64) w b cap.2 l.toArray:=by
  intro j hj
  have hj':j < l.length:=by simpa using hj
  have h6:=f6 j 0 (by simpa using hj') (by decide)
  rw [hcell j hj'] at h6
  have hb2:w.cell? ⟨b,cap.2 + j,Option.none⟩=some (.int .i64 l[j]):=by
   have:cellAt w b (cap.2 + j)=some (.int .i64 l[j]):=by rw [cellAt_heap f2];simpa using h6
   exact this
  refine ⟨by simpa [hj'] using hb2,?_⟩
  simp [World.frozen?,f2]
 rw [hv,a4]
 have hc:=AnyM.slices_Sort_int L b cap.2 cap.1 l w hH hbl hsz
 have hlen:(List.map D.i l).length=l.length:=by simp
 rw [hlen]
 refine hc.mono fun e' w' ⟨he,n,os,hw⟩=>?_
 obtain ⟨w1,w2,w3,w4,w5,w6,w7⟩:=putRow_heap (Value.int .i64) w b cap.2 n (l.mergeSort fun x y=>decide (x ≤ y)).toArray os hbl
 rw [← hw] at w1 w2 w3 w4 w5 w6 w7
 obtain ⟨m2,k2⟩:=m.rowSet (es':=List.map D.i (l.mergeSort fun x y=>decide (x ≤ y))) (w':=w') hob a1 f2 (by simp)
  (fun i hi=>by simp [D.cells]) (fun i hi j hj=>by
   have h0:j=0:=by simp [D.cells] at hj;exact hj
   subst h0
   simp [D.cells,D.isAgg]) (w3 _ _ _ f2) (by simp [putCells]) (fun b' h1 h2=>w1 b' h1 h2) w2 ⟨w4,w5,w6,w7⟩ (fun i _=>.int .i64 ((l.mergeSort fun x y=>decide (x ≤ y)).getD i 0))
  (fun i j hi hj=>by
   have h0:j=0:=by omega
   subst h0
   have hi':i < l.length:=by simpa using hi
   have hbig:cap.2 + i < vs.size:=by
    have h3:l.length ≤ cap.1:=by simpa using f3
    omega
   simp only [putCells,Nat.mul_one,Nat.add_zero,Array.getElem?_mapIdx,Array.getElem?_eq_getElem hbig,Option.map_some]
   rw [if_pos ⟨by omega,by simp;omega⟩,show cap.2 + i - cap.2=i by omega]
   have hi2:i < (l.mergeSort fun x y=>decide (x ≤ y)).length:=by simpa using hi'
   simp [hi2])
  (fun i hi j hj=>by
   have h0:j=0:=by simp [D.cells] at hj;exact hj
   subst h0
   have hi2:i < (l.mergeSort fun x y=>decide (x ≤ y)).length:=by simpa using hi
   simp only [List.getElem_map,D.cells,List.getElem_cons_zero,List.getD_eq_getElem?_getD,List.getElem?_eq_getElem hi2,Option.getD_some]
   exact .val _ rfl)
 rw [← hol] at m2 k2
 exact ⟨_,he,S,φ,m2,k2,.tup [] #[] (fun _=>undef) rfl (fun i hi=>by simp at hi) (fun i hi=>by simp at hi),fun q hq=>by simp [AV.refs,AV.refs.refsL] at hq⟩
end Go.AX
end
section
set_option maxRecDepth 100000
namespace Go.Proofs
open Go.Shelf
def Tryd.l39_ren:Go.Shelf.Ren:=⟨fun | 6=>39 | 15=>76 | 14=>75 | 28=>101 | 29=>102 | 20=>93 | 21=>94 | 22=>95 | 23=>96 | 24=>97 | 25=>98 | 26=>99 | 27=>100 | 46=>112 | 47=>113 | 48=>114 | 49=>115 | 50=>116 | 57=>119 | n=>n,fun | 22=>25 | 24=>30 | 25=>77 | 3=>3 | 39=>85 | 0=>0 | 53=>141 | 55=>33 | 4=>4 | 46=>134 | 45=>133 | 50=>138 | 5=>5 | 9=>9 | 66=>150 | 70=>154 | 76=>157 | 77=>158 | n=>n,fun | n=>n⟩
theorem Tryd.l39:Go.Proofs.SlLaysF0.n6 Tryd.prog Tryd.l39_ren:={
 mixed:=by kernel_rfl
 f6:=⟨Tryd.f39.name,by decide,Tryd.func39.trans (congrArg some (by kernel_rfl))⟩
 f14:=⟨Tryd.f75.name,by decide,Tryd.func75.trans (congrArg some (by kernel_rfl))⟩
 f15:=Tryd.func76.trans (congrArg some (by kernel_rfl))
 f20:=⟨Tryd.f93.name,by decide,Tryd.func93.trans (congrArg some (by kernel_rfl))⟩
 f21:=⟨Tryd.f94.name,by decide,Tryd.func94.trans (congrArg some (by kernel_rfl))⟩
 f22:=⟨Tryd.f95.name,by decide,Tryd.func95.trans (congrArg some (by kernel_rfl))⟩
 f23:=⟨Tryd.f96.name,by decide,Tryd.func96.trans (congrArg some (by kernel_rfl))⟩
 f24:=⟨Tryd.f97.name,by decide,Tryd.func97.trans (congrArg some (by kernel_rfl))⟩
 f25:=⟨Tryd.f98.name,by decide,Tryd.func98.trans (congrArg some (by kernel_rfl))⟩
 f26:=⟨Tryd.f99.name,by decide,Tryd.func99.trans (congrArg some (by kernel_rfl))⟩
 f27:=⟨Tryd.f100.name,by decide,Tryd.func100.trans (congrArg some (by kernel_rfl))⟩
 f28:=Tryd.func101.trans (congrArg some (by kernel_rfl))
 f29:=Tryd.func102.trans (congrArg some (by kernel_rfl))
 f46:=⟨Tryd.f112.name,by decide,Tryd.func112.trans (congrArg some (by kernel_rfl))⟩
 f47:=Tryd.func113.trans (congrArg some (by kernel_rfl))
 f48:=Tryd.func114.trans (congrArg some (by kernel_rfl))
 f49:=⟨Tryd.f115.name,by decide,Tryd.func115.trans (congrArg some (by kernel_rfl))⟩
 f50:=⟨Tryd.f116.name,by decide,Tryd.func116.trans (congrArg some (by kernel_rfl))⟩
 f57:=⟨Tryd.f119.name,by decide,Tryd.func119.trans (congrArg some (by kernel_rfl))⟩
 t0:=Tryd.underlying0
 a0:=Tryd.isAgg0
 z0:=Tryd.sizeOf0
 v0:=Tryd.zeroValue0
 t3:=Tryd.underlying3
 a3:=Tryd.isAgg3
 z3:=Tryd.sizeOf3
 v3:=Tryd.zeroValue3
 t4:=Tryd.underlying4
 a4:=Tryd.isAgg4
 z4:=Tryd.sizeOf4
 v4:=Tryd.zeroValue4
 t5:=Tryd.underlying5
 a5:=Tryd.isAgg5
 z5:=Tryd.sizeOf5
 v5:=Tryd.zeroValue5
 t9:=Tryd.underlying9
 a9:=Tryd.isAgg9
 z9:=Tryd.sizeOf9
 v9:=Tryd.zeroValue9
 t22:=Tryd.underlying25
 a22:=Tryd.isAgg25
 z22:=Tryd.sizeOf25
 v22:=Tryd.zeroValue25
 t25:=Tryd.underlying77
 a25:=Tryd.isAgg77
 z25:=Tryd.sizeOf77
 v25:=Tryd.zeroValue77
 t39:=Tryd.underlying85
 a39:=Tryd.isAgg85
 z39:=Tryd.sizeOf85
 v39:=Tryd.zeroValue85
 t45:=Tryd.underlying133
 a45:=Tryd.isAgg133
 z45:=Tryd.sizeOf133
 v45:=Tryd.zeroValue133
 t46:=Tryd.underlying134
 a46:=Tryd.isAgg134
 z46:=Tryd.sizeOf134
 v46:=Tryd.zeroValue134
 t50:=Tryd.underlying138
 a50:=Tryd.isAgg138
 z50:=Tryd.sizeOf138
 v50:=Tryd.zeroValue138
 t53:=Tryd.underlying141
 a53:=Tryd.isAgg141
 z53:=Tryd.sizeOf141
 v53:=Tryd.zeroValue141
 t55:=Tryd.underlying33
 a55:=Tryd.isAgg33
 z55:=Tryd.sizeOf33
 v55:=Tryd.zeroValue33
 t66:=Tryd.underlying150
 a66:=Tryd.isAgg150
 z66:=Tryd.sizeOf150
 v66:=Tryd.zeroValue150
 t70:=Tryd.underlying154
 a70:=Tryd.isAgg154
 z70:=Tryd.sizeOf154
 v70:=Tryd.zeroValue154
 t76:=Tryd.underlying157
 a76:=Tryd.isAgg157
 z76:=Tryd.sizeOf157
 v76:=Tryd.zeroValue157
 t77:=Tryd.underlying158
 a77:=Tryd.isAgg158
 z77:=Tryd.sizeOf158
 v77:=Tryd.zeroValue158 }
def Tryd.l147_ren:Go.Shelf.Ren:=⟨fun | 5=>147 | 8=>76 | 7=>154 | 19=>101 | 20=>102 | 10=>159 | 11=>160 | 12=>161 | 13=>162 | 14=>163 | 15=>164 | 16=>165 | 17=>166 | 18=>167 | 30=>170 | 31=>113 | 32=>114 | 33=>171 | 34=>172 | 35=>77 | 40=>189 | n=>n,fun | 23=>22 | 25=>3 | 3=>3 | 32=>85 | 22=>22 | 0=>0 | 44=>141 | 46=>33 | 4=>4 | 36=>134 | 35=>133 | 41=>138 | 5=>5 | 9=>9 | 53=>150 | 57=>154 | 63=>157 | 64=>158 | n=>n,fun | n=>n⟩
theorem Tryd.l147:Go.Proofs.SlLaysM.n5 Tryd.prog Tryd.l147_ren:={
 mixed:=by kernel_rfl
 f5:=⟨Tryd.f147.name,by decide,Tryd.func147.trans (congrArg some (by kernel_rfl))⟩
 f7:=⟨Tryd.f154.name,by decide,Tryd.func154.trans (congrArg some (by kernel_rfl))⟩
 f8:=Tryd.func76.trans (congrArg some (by kernel_rfl))
 f10:=⟨Tryd.f159.name,by decide,Tryd.func159.trans (congrArg some (by kernel_rfl))⟩
 f11:=⟨Tryd.f160.name,by decide,Tryd.func160.trans (congrArg some (by kernel_rfl))⟩
 f12:=⟨Tryd.f161.name,by decide,Tryd.func161.trans (congrArg some (by kernel_rfl))⟩
 f13:=⟨Tryd.f162.name,by decide,Tryd.func162.trans (congrArg some (by kernel_rfl))⟩
 f14:=⟨Tryd.f163.name,by decide,Tryd.func163.trans (congrArg some (by kernel_rfl))⟩
 f15:=⟨Tryd.f164.name,by decide,Tryd.func164.trans (congrArg some (by kernel_rfl))⟩
 f16:=⟨Tryd.f165.name,by decide,Tryd.func165.trans (congrArg some (by kernel_rfl))⟩
 f17:=⟨Tryd.f166.name,by decide,Tryd.func166.trans (congrArg some (by kernel_rfl))⟩
 f18:=⟨Tryd.f167.name,by decide,Tryd.func167.trans (congrArg some (by kernel_rfl))⟩
 f19:=Tryd.func101.trans (congrArg some (by kernel_rfl))
 f20:=Tryd.func102.trans (congrArg some (by kernel_rfl))
 f30:=⟨Tryd.f170.name,by decide,Tryd.func170.trans (congrArg some (by kernel_rfl))⟩
 f31:=Tryd.func113.trans (congrArg some (by kernel_rfl))
 f32:=Tryd.func114.trans (congrArg some (by kernel_rfl))
 f33:=⟨Tryd.f171.name,by decide,Tryd.func171.trans (congrArg some (by kernel_rfl))⟩
 f34:=⟨Tryd.f172.name,by decide,Tryd.func172.trans (congrArg some (by kernel_rfl))⟩
 f35:=⟨Tryd.f77.name,by decide,Tryd.func77.trans (congrArg some (by kernel_rfl))⟩
 f40:=⟨Tryd.f189.name,by decide,Tryd.func189.trans (congrArg some (by kernel_rfl))⟩
 t0:=Tryd.underlying0
 a0:=Tryd.isAgg0
 z0:=Tryd.sizeOf0
 v0:=Tryd.zeroValue0
 t3:=Tryd.underlying3
 a3:=Tryd.isAgg3
 z3:=Tryd.sizeOf3
 v3:=Tryd.zeroValue3
 t4:=Tryd.underlying4
 a4:=Tryd.isAgg4
 z4:=Tryd.sizeOf4
 v4:=Tryd.zeroValue4
 t5:=Tryd.underlying5
 a5:=Tryd.isAgg5
 z5:=Tryd.sizeOf5
 v5:=Tryd.zeroValue5
 t9:=Tryd.underlying9
 a9:=Tryd.isAgg9
 z9:=Tryd.sizeOf9
 v9:=Tryd.zeroValue9
 t22:=Tryd.underlying22
 a22:=Tryd.isAgg22
 z22:=Tryd.sizeOf22
 v22:=Tryd.zeroValue22
 t23:=Tryd.underlying22
 a23:=Tryd.isAgg22
 z23:=Tryd.sizeOf22
 v23:=Tryd.zeroValue22
 t25:=Tryd.underlying3
 a25:=Tryd.isAgg3
 z25:=Tryd.sizeOf3
 v25:=Tryd.zeroValue3
 t32:=Tryd.underlying85
 a32:=Tryd.isAgg85
 z32:=Tryd.sizeOf85
 v32:=Tryd.zeroValue85
 t35:=Tryd.underlying133
 a35:=Tryd.isAgg133
 z35:=Tryd.sizeOf133
 v35:=Tryd.zeroValue133
 t36:=Tryd.underlying134
 a36:=Tryd.isAgg134
 z36:=Tryd.sizeOf134
 v36:=Tryd.zeroValue134
 t41:=Tryd.underlying138
 a41:=Tryd.isAgg138
 z41:=Tryd.sizeOf138
 v41:=Tryd.zeroValue138
 t44:=Tryd.underlying141
 a44:=Tryd.isAgg141
 z44:=Tryd.sizeOf141
 v44:=Tryd.zeroValue141
 t46:=Tryd.underlying33
 a46:=Tryd.isAgg33
 z46:=Tryd.sizeOf33
 v46:=Tryd.zeroValue33
 t53:=Tryd.underlying150
 a53:=Tryd.isAgg150
 z53:=Tryd.sizeOf150
 v53:=Tryd.zeroValue150
 t57:=Tryd.underlying154
 a57:=Tryd.isAgg154
 z57:=Tryd.sizeOf154
 v57:=Tryd.zeroValue154
 t63:=Tryd.underlying157
 a63:=Tryd.isAgg157
 z63:=Tryd.sizeOf157
 v63:=Tryd.zeroValue157
 t64:=Tryd.underlying158
 a64:=Tryd.isAgg158
 z64:=Tryd.sizeOf158
 v64:=Tryd.zeroValue158 }
def Tryd.l155_ren:Go.Shelf.Ren:=⟨fun | 6=>155 | 15=>76 | 14=>168 | 28=>101 | 29=>102 | 20=>173 | 21=>174 | 22=>175 | 23=>176 | 24=>177 | 25=>178 | 26=>179 | 27=>180 | 46=>190 | 47=>113 | 48=>114 | 49=>191 | 50=>192 | 57=>196 | n=>n,fun | 22=>36 | 24=>106 | 25=>127 | 3=>3 | 39=>85 | 0=>0 | 53=>141 | 55=>33 | 4=>4 | 46=>134 | 45=>133 | 50=>138 | 5=>5 | 9=>9 | 66=>150 | 70=>154 | 76=>157 | 77=>158 | n=>n,fun | n=>n⟩
theorem Tryd.l155:Go.Proofs.SlLaysF0.n6 Tryd.prog Tryd.l155_ren:={
 mixed:=by kernel_rfl
 f6:=⟨Tryd.f155.name,by decide,Tryd.func155.trans (congrArg some (by kernel_rfl))⟩
 f14:=⟨Tryd.f168.name,by decide,Tryd.func168.trans (congrArg some (by kernel_rfl))⟩
 f15:=Tryd.func76.trans (congrArg some (by kernel_rfl))
 f20:=⟨Tryd.f173.name,by decide,Tryd.func173.trans (congrArg some (by kernel_rfl))⟩
 f21:=⟨Tryd.f174.name,by decide,Tryd.func174.trans (congrArg some (by kernel_rfl))⟩
 f22:=⟨Tryd.f175.name,by decide,Tryd.func175.trans (congrArg some (by kernel_rfl))⟩
 f23:=⟨Tryd.f176.name,by decide,Tryd.func176.trans (congrArg some (by kernel_rfl))⟩
 f24:=⟨Tryd.f177.name,by decide,Tryd.func177.trans (congrArg some (by kernel_rfl))⟩
 f25:=⟨Tryd.f178.name,by decide,Tryd.func178.trans (congrArg some (by kernel_rfl))⟩
 f26:=⟨Tryd.f179.name,by decide,Tryd.func179.trans (congrArg some (by kernel_rfl))⟩
 f27:=⟨Tryd.f180.name,by decide,Tryd.func180.trans (congrArg some (by kernel_rfl))⟩
 f28:=Tryd.func101.trans (congrArg some (by kernel_rfl))
 f29:=Tryd.func102.trans (congrArg some (by kernel_rfl))
 f46:=⟨Tryd.f190.name,by decide,Tryd.func190.trans (congrArg some (by kernel_rfl))⟩
 f47:=Tryd.func113.trans (congrArg some (by kernel_rfl))
 f48:=Tryd.func114.trans (congrArg some (by kernel_rfl))
 f49:=⟨Tryd.f191.name,by decide,Tryd.func191.trans (congrArg some (by kernel_rfl))⟩
 f50:=⟨Tryd.f192.name,by decide,Tryd.func192.trans (congrArg some (by kernel_rfl))⟩
 f57:=⟨Tryd.f196.name,by decide,Tryd.func196.trans (congrArg some (by kernel_rfl))⟩
 t0:=Tryd.underlying0
 a0:=Tryd.isAgg0
 z0:=Tryd.sizeOf0
 v0:=Tryd.zeroValue0
 t3:=Tryd.underlying3
 a3:=Tryd.isAgg3
 z3:=Tryd.sizeOf3
 v3:=Tryd.zeroValue3
 t4:=Tryd.underlying4
 a4:=Tryd.isAgg4
 z4:=Tryd.sizeOf4
 v4:=Tryd.zeroValue4
 t5:=Tryd.underlying5
 a5:=Tryd.isAgg5
 z5:=Tryd.sizeOf5
 v5:=Tryd.zeroValue5
 t9:=Tryd.underlying9
 a9:=Tryd.isAgg9
 z9:=Tryd.sizeOf9
 v9:=Tryd.zeroValue9
 t22:=Tryd.underlying36
 a22:=Tryd.isAgg36
 z22:=Tryd.sizeOf36
 v22:=Tryd.zeroValue36
 t25:=Tryd.underlying127
 a25:=Tryd.isAgg127
 z25:=Tryd.sizeOf127
 v25:=Tryd.zeroValue127
 t39:=Tryd.underlying85
 a39:=Tryd.isAgg85
 z39:=Tryd.sizeOf85
 v39:=Tryd.zeroValue85
 t45:=Tryd.underlying133
 a45:=Tryd.isAgg133
 z45:=Tryd.sizeOf133
 v45:=Tryd.zeroValue133
 t46:=Tryd.underlying134
 a46:=Tryd.isAgg134
 z46:=Tryd.sizeOf134
 v46:=Tryd.zeroValue134
 t50:=Tryd.underlying138
 a50:=Tryd.isAgg138
 z50:=Tryd.sizeOf138
 v50:=Tryd.zeroValue138
 t53:=Tryd.underlying141
 a53:=Tryd.isAgg141
 z53:=Tryd.sizeOf141
 v53:=Tryd.zeroValue141
 t55:=Tryd.underlying33
 a55:=Tryd.isAgg33
 z55:=Tryd.sizeOf33
 v55:=Tryd.zeroValue33
 t66:=Tryd.underlying150
 a66:=Tryd.isAgg150
 z66:=Tryd.sizeOf150
 v66:=Tryd.zeroValue150
 t70:=Tryd.underlying154
 a70:=Tryd.isAgg154
 z70:=Tryd.sizeOf154
 v70:=Tryd.zeroValue154
 t76:=Tryd.underlying157
 a76:=Tryd.isAgg157
 z76:=Tryd.sizeOf157
 v76:=Tryd.zeroValue157
 t77:=Tryd.underlying158
 a77:=Tryd.isAgg158
 z77:=Tryd.sizeOf158
 v77:=Tryd.zeroValue158 }
def Tryd.l157_ren:Go.Shelf.Ren:=⟨fun | 6=>157 | 15=>76 | 14=>169 | 28=>101 | 29=>102 | 20=>181 | 21=>182 | 22=>183 | 23=>184 | 24=>185 | 25=>186 | 26=>187 | 27=>188 | 46=>193 | 47=>113 | 48=>114 | 49=>194 | 50=>195 | 57=>197 | n=>n,fun | 22=>37 | 24=>108 | 25=>130 | 3=>3 | 39=>85 | 0=>0 | 53=>141 | 55=>33 | 4=>4 | 46=>134 | 45=>133 | 50=>138 | 5=>5 | 9=>9 | 66=>150 | 70=>154 | 76=>157 | 77=>158 | n=>n,fun | n=>n⟩
theorem Tryd.l157:Go.Proofs.SlLaysF0.n6 Tryd.prog Tryd.l157_ren:={
 mixed:=by kernel_rfl
 f6:=⟨Tryd.f157.name,by decide,Tryd.func157.trans (congrArg some (by kernel_rfl))⟩
 f14:=⟨Tryd.f169.name,by decide,Tryd.func169.trans (congrArg some (by kernel_rfl))⟩
 f15:=Tryd.func76.trans (congrArg some (by kernel_rfl))
 f20:=⟨Tryd.f181.name,by decide,Tryd.func181.trans (congrArg some (by kernel_rfl))⟩
 f21:=⟨Tryd.f182.name,by decide,Tryd.func182.trans (congrArg some (by kernel_rfl))⟩
 f22:=⟨Tryd.f183.name,by decide,Tryd.func183.trans (congrArg some (by kernel_rfl))⟩
 f23:=⟨Tryd.f184.name,by decide,Tryd.func184.trans (congrArg some (by kernel_rfl))⟩
 f24:=⟨Tryd.f185.name,by decide,Tryd.func185.trans (congrArg some (by kernel_rfl))⟩
 f25:=⟨Tryd.f186.name,by decide,Tryd.func186.trans (congrArg some (by kernel_rfl))⟩
 f26:=⟨Tryd.f187.name,by decide,Tryd.func187.trans (congrArg some (by kernel_rfl))⟩
 f27:=⟨Tryd.f188.name,by decide,Tryd.func188.trans (congrArg some (by kernel_rfl))⟩
 f28:=Tryd.func101.trans (congrArg some (by kernel_rfl))
 f29:=Tryd.func102.trans (congrArg some (by kernel_rfl))
 f46:=⟨Tryd.f193.name,by decide,Tryd.func193.trans (congrArg some (by kernel_rfl))⟩
 f47:=Tryd.func113.trans (congrArg some (by kernel_rfl))
 f48:=Tryd.func114.trans (congrArg some (by kernel_rfl))
 f49:=⟨Tryd.f194.name,by decide,Tryd.func194.trans (congrArg some (by kernel_rfl))⟩
 f50:=⟨Tryd.f195.name,by decide,Tryd.func195.trans (congrArg some (by kernel_rfl))⟩
 f57:=⟨Tryd.f197.name,by decide,Tryd.func197.trans (congrArg some (by kernel_rfl))⟩
 t0:=Tryd.underlying0
 a0:=Tryd.isAgg0
 z0:=Tryd.sizeOf0
 v0:=Tryd.zeroValue0
 t3:=Tryd.underlying3
 a3:=Tryd.isAgg3
 z3:=Tryd.sizeOf3
 v3:=Tryd.zeroValue3
 t4:=Tryd.underlying4
 a4:=Tryd.isAgg4
 z4:=Tryd.sizeOf4
 v4:=Tryd.zeroValue4
 t5:=Tryd.underlying5
 a5:=Tryd.isAgg5
 z5:=Tryd.sizeOf5
 v5:=Tryd.zeroValue5
 t9:=Tryd.underlying9
 a9:=Tryd.isAgg9
 z9:=Tryd.sizeOf9
 v9:=Tryd.zeroValue9
 t22:=Tryd.underlying37
 a22:=Tryd.isAgg37
 z22:=Tryd.sizeOf37
 v22:=Tryd.zeroValue37
 t25:=Tryd.underlying130
 a25:=Tryd.isAgg130
 z25:=Tryd.sizeOf130
 v25:=Tryd.zeroValue130
 t39:=Tryd.underlying85
 a39:=Tryd.isAgg85
 z39:=Tryd.sizeOf85
 v39:=Tryd.zeroValue85
 t45:=Tryd.underlying133
 a45:=Tryd.isAgg133
 z45:=Tryd.sizeOf133
 v45:=Tryd.zeroValue133
 t46:=Tryd.underlying134
 a46:=Tryd.isAgg134
 z46:=Tryd.sizeOf134
 v46:=Tryd.zeroValue134
 t50:=Tryd.underlying138
 a50:=Tryd.isAgg138
 z50:=Tryd.sizeOf138
 v50:=Tryd.zeroValue138
 t53:=Tryd.underlying141
 a53:=Tryd.isAgg141
 z53:=Tryd.sizeOf141
 v53:=Tryd.zeroValue141
 t55:=Tryd.underlying33
 a55:=Tryd.isAgg33
 z55:=Tryd.sizeOf33
 v55:=Tryd.zeroValue33
 t66:=Tryd.underlying150
 a66:=Tryd.isAgg150
 z66:=Tryd.sizeOf150
 v66:=Tryd.zeroValue150
 t70:=Tryd.underlying154
 a70:=Tryd.isAgg154
 z70:=Tryd.sizeOf154
 v70:=Tryd.zeroValue154
 t76:=Tryd.underlying157
 a76:=Tryd.isAgg157
 z76:=Tryd.sizeOf157
 v76:=Tryd.zeroValue157
 t77:=Tryd.underlying158
 a77:=Tryd.isAgg158
 z77:=Tryd.sizeOf158
 v77:=Tryd.zeroValue158 }
end Go.Proofs
namespace Go.Maps
end Go.Maps
namespace Go.AX.Q18
open Go Go.AX Go.Proofs Go.Maps Go.Sort Go.Shelf Go.RowKit
theorem sortf39_ok {wl:WL} {X:Type} {f:X→D} {cmp:X→X→Option Int} {g:Nat} (eg :∀args w,(callFunc g args).run Tryd.prog w=.ok (.enter g args) w) (hcmp :∀{a b r},cmp a b=some r→CallsOK wl.low Tryd.prog g [.d (f a),.d (f b)] [] (.d (D.i r)) []) {l r:List X} (h:sortF cmp l=some r) (hagg :∀x,(f x).isAgg=true:=by exact fun _=>rfl):CallsOK wl Tryd.prog 39 [.own 0 (List.map f l).length,.fn g []] [.row 30 3 (List.map f l) .no] (.tup []) [.row 30 3 (List.map f r) .no]:=
 sortF_ok Tryd.l39 (fnOK Tryd.func39 (by kernel_rfl) (by kernel_rfl)) Tryd.isAgg30 Tryd.sizeOf30 eg hagg hcmp h
theorem sorti147_ok {wl:WL} {l r:List Int} (h:sortI l=some r):CallsOK wl Tryd.prog 147 [.own 0 (List.map D.i l).length] [.row 3 1 (List.map D.i l) .no] (.tup []) [.row 3 1 (List.map D.i r) .no]:=
 sortI_ok Tryd.l147 (fnOK Tryd.func147 (by kernel_rfl) (by kernel_rfl)) h
theorem sortf155_ok {wl:WL} {X:Type} {f:X→D} {cmp:X→X→Option Int} {g:Nat} (eg :∀args w,(callFunc g args).run Tryd.prog w=.ok (.enter g args) w) (hcmp :∀{a b r},cmp a b=some r→CallsOK wl.low Tryd.prog g [.d (f a),.d (f b)] [] (.d (D.i r)) []) {l r:List X} (h:sortF cmp l=some r) (hagg :∀x,(f x).isAgg=true:=by exact fun _=>rfl):CallsOK wl Tryd.prog 155 [.own 0 (List.map f l).length,.fn g []] [.row 106 2 (List.map f l) .no] (.tup []) [.row 106 2 (List.map f r) .no]:=
 sortF_ok Tryd.l155 (fnOK Tryd.func155 (by kernel_rfl) (by kernel_rfl)) Tryd.isAgg106 Tryd.sizeOf106 eg hagg hcmp h
theorem sortf157_ok {wl:WL} {X:Type} {f:X→D} {cmp:X→X→Option Int} {g:Nat} (eg :∀args w,(callFunc g args).run Tryd.prog w=.ok (.enter g args) w) (hcmp :∀{a b r},cmp a b=some r→CallsOK wl.low Tryd.prog g [.d (f a),.d (f b)] [] (.d (D.i r)) []) {l r:List X} (h:sortF cmp l=some r) (hagg :∀x,(f x).isAgg=true:=by exact fun _=>rfl):CallsOK wl Tryd.prog 157 [.own 0 (List.map f l).length,.fn g []] [.row 108 3 (List.map f l) .no] (.tup []) [.row 108 3 (List.map f r) .no]:=
 sortF_ok Tryd.l157 (fnOK Tryd.func157 (by kernel_rfl) (by kernel_rfl)) Tryd.isAgg108 Tryd.sizeOf108 eg hagg hcmp h
end Go.AX.Q18
end
section
namespace Go.AX.Q18
open Go Go.AX Go.Proofs
set_option maxRecDepth 100000
set_option maxHeartbeats 4000000
set_option linter.unusedVariables false
def keep:FuncId→List Bool:=fun f=>(match Nat.beq f 39 with | true=>[true] | false=>(match Nat.beq f 157 with | true=>[true] | false=>(match Nat.beq f 155 with | true=>[true] | false=>(match Nat.beq f 147 with | true=>[true] | false=>(match Nat.beq f 32 with | true=>[true] | false=>(match Nat.beq f 12 with | true=>[true] | false=>(match Nat.beq f 158 with | true=>[true] | false=>(match Nat.beq f 156 with | true=>[true] | false=>(match Nat.beq f 148 with | true=>[true] | false=>(match Nat.beq f 60 with | true=>[true] | false=>[]))))))))))
def inlf:FuncId→Bool:=fun f=>(match Nat.beq f 152 with | true=>true | false=>(match Nat.beq f 150 with | true=>true | false=>(match Nat.beq f 145 with | true=>true | false=>(match Nat.beq f 144 with | true=>true | false=>(match Nat.beq f 143 with | true=>true | false=>(match Nat.beq f 142 with | true=>true | false=>(match Nat.beq f 141 with | true=>true | false=>(match Nat.beq f 140 with | true=>true | false=>(match Nat.beq f 139 with | true=>true | false=>(match Nat.beq f 138 with | true=>true | false=>(match Nat.beq f 137 with | true=>true | false=>(match Nat.beq f 73 with | true=>true | false=>(match Nat.beq f 57 with | true=>true | false=>(match Nat.beq f 46 with | true=>true | false=>(match Nat.beq f 44 with | true=>true | false=>(match Nat.beq f 36 with | true=>true | false=>false))))))))))))))))
def seatG:Nat→Option (List (D×D)):=fun g=>(match Nat.beq g 1 with | true=>some ([(D.i 1,D.val (.func (.func 137) #[] #[])),(D.i 2,D.val (.func (.func 138) #[] #[])),(D.i 3,D.val (.func (.func 139) #[] #[])),(D.i 4,D.val (.func (.func 140) #[] #[])),(D.i 5,D.val (.func (.func 142) #[] #[])),(D.i 8,D.val (.func (.func 143) #[] #[])),(D.i 32,D.val (.func (.func 144) #[] #[])),(D.i 35,D.val (.func (.func 145) #[] #[]))]) | false=>(match Nat.beq g 0 with | true=>some (entsD D.i D.i glob0) | false=>none))
abbrev Wl (p:Prop):WL:=⟨p,seatG⟩
theorem ok {wl:Prop} {f:FuncId} (fn:Func) {args:List AV} {objs:List OB} {res:AV} {objs':List OB}
    (hf : Tryd.prog.funcs[f]? = some fn) (hn : (fn.name == "runtime.NumGoroutine") = false) (h : funK (mcx (Wl wl) Tryd.prog tt keep inlf 0 objs.length) fn args objs fun r o => r = res ∧ o = objs') : CallsOK (Wl wl) Tryd.prog f args objs res objs' :=
  fn_ok tabOk (by kernel_rfl) keep inlf 0 hf hn h
theorem okx {wl:Prop} {f:FuncId} (ex:Nat) (fn:Func) {args:List AV} {objs:List OB} {res:AV} {objs':List OB}
    (hf : Tryd.prog.funcs[f]? = some fn) (hn : (fn.name == "runtime.NumGoroutine") = false) (h : funK (mcx (Wl wl) Tryd.prog tt keep inlf ex objs.length) fn args objs fun r o => r = res ∧ o = objs') : CallsOK (Wl wl) Tryd.prog f args objs res objs' :=
  fn_ok tabOk (by kernel_rfl) keep inlf ex hf hn h
theorem inl {wl:Prop} {f:FuncId} (fn:Func) (np:Nat) {args:List AV} {ob:List (Option OB)} {K:AV→List (Option OB)→Prop}
    (hf : Tryd.prog.funcs[f]? = some fn) (hn : (fn.name == "runtime.NumGoroutine") = false) (h : funI (mcx (Wl wl) Tryd.prog tt keep inlf 0 np) fn args ob K) : InlOK (Wl wl) Tryd.prog f args ob K :=
  inl_ok tabOk (by kernel_rfl) keep inlf np hf hn h
abbrev X:AV:=.dead
abbrev N:Option OB:=none
def dd:Nat→List AV→List AV
  | 0,l=>l
  | n + 1,l=>.dead::dd n l
def nn:Nat→List (Option OB)→List (Option OB)
  | 0,l=>l
  | n + 1,l=>none::nn n l
end Go.AX.Q18
end
section
namespace Go.AX.Q18
open Go Go.AX Go.Proofs Go.Proofs.YtbhoockehnpdoaaDoor
set_option maxRecDepth 100000
def fnOf (n:Int):FuncId:=if n=1 then 137 else if n=2 then 138 else if n=3 then 139 else if n=4 then 140 else if n=5 then 142 else if n=8 then 143 else if n=32 then 144 else 145
def D2f {H:Type}:Lit×DataW H→D×D
 | (.int k n,.lit (.int k' m))=>(.val (.int k n),.val (.int k' m))
 | _=>(D.i 0,D.i 0)
def D2r {H:Type}:Lit×DataW H→D×D
 | (.int k n,_)=>(.val (.int k n),.val (.func (.func (fnOf n)) #[] #[]))
 | _=>(D.i 0,D.i 0)
theorem glob_ok {W:World} {p:Prop} (h:laidMetH Tryd.prog Rows.attributeReadsRow.laid W) :∃gb:Nat→Prop,(Wl p).gf gb W∧∀b,gb b→b < W.heap.size:=by
 obtain ⟨h1,_⟩:=laidMetH_iff.1 h
 have e1 : (Rows.attributeReadsRow.laid.filter fun x => x.2.handleName?.isNone) = [("exchangepoint/attribute.flags", Rows.laid_exchangepoint_attribute_flags)] := by kernel_rfl
 rw [e1] at h1
 obtain ⟨ps,⟨g0,t0,cs0,f0,p0,q0,hg0,ht0,hv0,hd0,_⟩,_,_⟩:=h1
 obtain rfl := Option.some.inj ((show Tryd.prog.globalNamed "exchangepoint/attribute.flags" = some 0 by kernel_rfl).symm.trans hg0)
 obtain rfl:=Option.some.inj ((show (Tryd.prog.globals[0]?).map (·.type)=some 90 by kernel_rfl).symm.trans ht0)
 obtain ⟨b0,a0,c0,hc0,hb0,hp0,ho0⟩:=map_read (kd:=.i64) Tryd.underlying90 Tryd.underlying3 hd0 D2f (fun n v d m q hm hv hf=>by
  obtain ⟨j,h1,h2,_⟩:=DataW.trod_int Tryd.underlying3 hv
  simp only [Prod.mk.injEq] at h2
  obtain ⟨rfl,_⟩:=h2
  have hv:v=.int .i64 j:=by
   unfold Value.formed at hf
   rw [Tryd.underlying3] at hf
   cases v<;>simp_all [Value.cells]
  subst hv
  exact ⟨rfl,rfl⟩)
 obtain ⟨g1, t1, cs1, f1, p1, hg1, ht1, hv1, hd1⟩ := h.funcs (n := "exchangepoint/attribute.readers") (List.mem_cons_of_mem _ (List.mem_singleton.2 rfl))
 obtain rfl := Option.some.inj ((show Tryd.prog.globalNamed "exchangepoint/attribute.readers" = some 1 by kernel_rfl).symm.trans hg1)
 obtain rfl:=Option.some.inj ((show (Tryd.prog.globals[1]?).map (·.type)=some 114 by kernel_rfl).symm.trans ht1)
 have hd1:DataW.trod (funcToken Tryd.prog) Tryd.prog W 0 (fun _=>true) true f1 114 cs1.toList=some (.map [(.int .i64 1,.held [101,120,99,104,97,110,103,101,112,111,105,110,116,47,97,116,116,114,105,98,117,116,101,46,114,101,97,100,79,114,105,103,105,110]),(.int .i64 2,.held [101,120,99,104,97,110,103,101,112,111,105,110,116,47,97,116,116,114,105,98,117,116,101,46,114,101,97,100,80,97,116,104]),(.int .i64 3,.held [101,120,99,104,97,110,103,101,112,111,105,110,116,47,97,116,116,114,105,98,117,116,101,46,114,101,97,100,78,101,120,116]),(.int .i64 4,.held [101,120,99,104,97,110,103,101,112,111,105,110,116,47,97,116,116,114,105,98,117,116,101,46,114,101,97,100,101,114,115,36,49]),(.int .i64 5,.held [101,120,99,104,97,110,103,101,112,111,105,110,116,47,97,116,116,114,105,98,117,116,101,46,114,101,97,100,101,114,115,36,50]),(.int .i64 8,.held [101,120,99,104,97,110,103,101,112,111,105,110,116,47,97,116,116,114,105,98,117,116,101,46,114,101,97,100,67,111,109,109,117,110,105,116,105,101,115]),(.int .i64 32,.held [101,120,99,104,97,110,103,101,112,111,105,110,116,47,97,116,116,114,105,98,117,116,101,46,114,101,97,100,76,97,114,103,101]),(.int .i64 35,.held [101,120,99,104,97,110,103,101,112,111,105,110,116,47,97,116,116,114,105,98,117,116,101,46,114,101,97,100,101,114,115,36,51])],p1):=hd1
 obtain ⟨b1,a1,c1,hc1,hb1,hp1,ho1⟩:=map_read (kd:=.i64) Tryd.underlying114 Tryd.underlying3 hd1 D2r (fun n v d m q hm hv hf=>by
  have hv1:v.cells.toList=[v]:=by
   unfold Value.formed at hf
   rw [Tryd.underlying112] at hf
   cases v<;>simp_all [Value.cells]
  rw [hv1] at hv
  simp only [List.mem_cons,List.not_mem_nil,or_false,Prod.mk.injEq,Lit.int.injEq,true_and] at hm
  rcases hm with ⟨rfl,rfl⟩ | ⟨rfl,rfl⟩ | ⟨rfl,rfl⟩ | ⟨rfl,rfl⟩ | ⟨rfl,rfl⟩ | ⟨rfl,rfl⟩ | ⟨rfl,rfl⟩ | ⟨rfl,rfl⟩
  ·obtain rfl:=func_of_trod (f0:=137) Tryd.underlying112 (by kernel_rfl) hv
   exact ⟨rfl,rfl⟩
  ·obtain rfl:=func_of_trod (f0:=138) Tryd.underlying112 (by kernel_rfl) hv
   exact ⟨rfl,rfl⟩
  ·obtain rfl:=func_of_trod (f0:=139) Tryd.underlying112 (by kernel_rfl) hv
   exact ⟨rfl,rfl⟩
  ·obtain rfl:=func_of_trod (f0:=140) Tryd.underlying112 (by kernel_rfl) hv
   exact ⟨rfl,rfl⟩
  ·obtain rfl:=func_of_trod (f0:=142) Tryd.underlying112 (by kernel_rfl) hv
   exact ⟨rfl,rfl⟩
  ·obtain rfl:=func_of_trod (f0:=143) Tryd.underlying112 (by kernel_rfl) hv
   exact ⟨rfl,rfl⟩
  ·obtain rfl:=func_of_trod (f0:=144) Tryd.underlying112 (by kernel_rfl) hv
   exact ⟨rfl,rfl⟩
  ·obtain rfl:=func_of_trod (f0:=145) Tryd.underlying112 (by kernel_rfl) hv
   exact ⟨rfl,rfl⟩)
 have cell :∀{g:Nat} {n:String} {cs:Array Value} {v:Value},Tryd.prog.globalNamed n=some g→W.var? Tryd.prog n=some cs→cs.toList=[v]→cellAt W g 0=some v∧g < W.heap.size:=by
  intro g n cs v hg hv hc
  have h1:=World.var?_cell hg hv 0
  rw [Array.eq_one_of_toList hc] at h1
  have h1:W.cell? ⟨g,0,none⟩=some v:=by simpa using h1
  refine ⟨h1,?_⟩
  unfold World.var? at hv
  rw [hg,Option.bind_some] at hv
  cases hh:W.heap[g]? with
  | none=>rw [hh] at hv;cases hv
  | some o=>exact (Array.getElem?_eq_some_iff.1 hh).1
 obtain ⟨k0,s0⟩:=cell hg0 hv0 hc0
 obtain ⟨k1,s1⟩:=cell hg1 hv1 hc1
 refine ⟨fun b=>b=0 ∨ b=1 ∨ b=b0 ∨ b=b1,fun g es hg=>?_,fun b hb=>?_⟩
 rotate_left
 ·rcases hb with rfl | rfl | rfl | rfl
  ·exact s0
  ·exact s1
  ·exact (Array.getElem?_eq_some_iff.1 hb0).1
  ·exact (Array.getElem?_eq_some_iff.1 hb1).1
 match g,hg with
 | 0,hg=>
  obtain rfl:entsD D.i D.i glob0=es:=Option.some.inj hg
  refine ⟨.inl rfl,b0,a0,c0,_,.inr (.inr (.inl rfl)),k0,hb0,fun tk x q hq=>?_,entsOK_of ho0⟩
  refine mapGet_perm (l:=entsD D.i D.i glob0) (hp0.symm) ?_ (by unfold glob0 entsD;simp [D.i]) hq
  intro q hq
  obtain ⟨z,_,rfl⟩:=List.mem_map.1 hq
  exact ⟨_,rfl⟩
 | 1,hg=>
  obtain rfl:=Option.some.inj hg
  refine ⟨.inr (.inl rfl),b1,a1,c1,_,.inr (.inr (.inr rfl)),k1,hb1,fun tk x q hq=>?_,entsOK_of ho1⟩
  refine mapGet_perm (hp1.symm) ?_ (by simp [D2r]) hq
  intro q hq
  obtain ⟨z,hz,rfl⟩:=List.mem_map.1 hq
  simp only [List.mem_cons,List.not_mem_nil,or_false] at hz
  rcases hz with rfl | rfl | rfl | rfl | rfl | rfl | rfl | rfl<;>exact ⟨_,rfl⟩
 | g + 2,hg=>cases hg
end Go.AX.Q18
end
section
namespace Go.AX
class Tt {ρ:Type} (m:Option ρ):Prop where
 h :∃r,m=some r
def Ok {ρ:Type} (m:Option ρ) (Q:ρ→Prop):Prop:=∃r,m=some r∧Q r
theorem Ok.ret {ρ:Type} {Q:ρ→Prop} {r:ρ} (h:Q r):Ok (some r) Q:=⟨r,rfl,h⟩
theorem Ok.of {ρ:Type} {m:Option ρ} [t:Tt m]:Ok m fun r=>m=some r:=by
 obtain ⟨r,h⟩:=t.h
 exact ⟨r,h,h⟩
theorem Ok.imp {ρ:Type} {m:Option ρ} {P Q:ρ→Prop} (h:Ok m P) (k :∀r,P r→Q r):Ok m Q:=by
 obtain ⟨r,h1,h2⟩:=h
 exact ⟨r,h1,k r h2⟩
theorem Ok.tt {ρ:Type} {m:Option ρ} {Q:ρ→Prop} (h:Ok m Q):Tt m:=by
 obtain ⟨r,h1,_⟩:=h
 exact ⟨r,h1⟩
theorem Ok.bind {α ρ:Type} {m:Option α} {f:α→Option ρ} {P:α→Prop} {Q:ρ→Prop} (h:Ok m P) (k :∀a,P a→Ok (f a) Q):Ok (Option.bind m f) Q:=by
 obtain ⟨a,h1,h2⟩:=h
 rw [h1]
 exact k a h2
theorem Ok.join {τ ρ:Type} {m:(τ→Option ρ)→Option ρ} {k:τ→Option ρ} {Q:ρ→Prop} (J:τ→Prop) (h1 :∀k',(∀v,J v→Ok (k' v) Q)→Ok (m k') Q) (h2 :∀v,J v→Ok (k v) Q):Ok (joinP m k) Q:=h1 k h2
theorem Ok.forX {α σ ρ:Type} {done:σ→Option ρ} {body:(σ→Option ρ)→α→Nat→σ→Option ρ} {Q:ρ→Prop} {l:List α} {s0:σ} (I:Nat→σ→Prop) (h0:I 0 s0) (hd :∀s,I l.length s→Ok (done s) Q)
  (hs :∀(next:σ→Option ρ) x i s,l[i]?=some x→I i s→(∀s',I (i + 1) s'→Ok (next s') Q)→Ok (body next x i s) Q):Ok (forR done body l 0 s0) Q:=by
 have key :∀(t:List α) (i:Nat) (s:σ),(∃p,l=p ++ t∧p.length=i)→I i s→Ok (forR done body t i s) Q:=by
  intro t
  induction t with
  | nil=>intro i s ⟨p,hp,hl⟩ hi;exact hd s (by rw [hp];simpa [hl] using hi)
  | cons x t ih=>
   intro i s ⟨p,hp,hl⟩ hi
   exact hs _ x i s (by rw [hp,← hl];simp) hi fun s' h'=>ih (i + 1) s' ⟨p ++ [x],by simp [hp],by simp [hl]⟩ h'
 exact key l 0 s0 ⟨[],rfl,rfl⟩ h0
theorem Ok.forI {α σ ρ:Type} {done:σ→Option ρ} {body:(σ→Option ρ)→α→Nat→σ→Option ρ} {Q:ρ→Prop} {l:List α} {s0:σ} (I:Nat→σ→Prop) (h0:I 0 s0) (hd :∀s,I l.length s→Ok (done s) Q)
  (hs :∀(next:σ→Option ρ) x i s,i < l.length→x ∈ l→I i s→(∀s',I (i + 1) s'→Ok (next s') Q)→Ok (body next x i s) Q):Ok (forR done body l 0 s0) Q:=
 .forX I h0 hd fun n x i s hx=>hs n x i s (List.getElem?_eq_some_iff.1 hx).1 (List.mem_of_getElem? hx)
theorem Ok.for_ {α σ ρ:Type} {done:σ→Option ρ} {body:(σ→Option ρ)→α→Nat→σ→Option ρ} {Q:ρ→Prop} {l:List α} {s0:σ} (hd :∀s,Ok (done s) Q)
  (hs :∀(next:σ→Option ρ) x i s,i < l.length→x ∈ l→(∀s',Ok (next s') Q)→Ok (body next x i s) Q):Ok (forR done body l 0 s0) Q:=
 .forI (fun _ _=>True) trivial (fun s _=>hd s) fun n x i s h1 h2 _ h3=>hs n x i s h1 h2 fun s'=>h3 s' trivial
theorem Ok.whileI {σ ρ:Type} {body:(σ→Option ρ)→σ→Option ρ} {n:Nat} {s:σ} {Q:ρ→Prop} (I:σ→Prop) (μ:σ→Nat) (h0:I s) (hm:μ s < n)
  (hs :∀(next:σ→Option ρ) s,I s→(∀s',I s'→μ s' < μ s→Ok (next s') Q)→Ok (body next s) Q):Ok (whileR body n s) Q:=
 whileR_ex I μ Q (fun next s h k=>hs next s h k) n s h0 hm
theorem Ok.ite {ρ:Type} {p:Prop} [Decidable p] {x y:Option ρ} {Q:ρ→Prop} (h1:p→Ok x Q) (h2:¬ p→Ok y Q):Ok (if p then x else y) Q:=by
 split
 ·exact h1 ‹_›
 ·exact h2 ‹_›
theorem Ok.geti {α:Type} {l:List α} {i:Int} (h:0 ≤ i∧i < l.length):Ok (geti l i) fun x=>x ∈ l∧geti l i=some x:=by
 have h2:i.toNat < l.length:=by omega
 have h3:Go.AX.geti l i=some l[i.toNat]:=by
  unfold Go.AX.geti
  rw [if_pos h]
  simp [h2]
 exact ⟨_,h3,List.getElem_mem h2,h3⟩
theorem Ok.seti {α:Type} {l:List α} {i:Int} {x:α} (h:0 ≤ i∧i < l.length):Ok (seti l i x) fun l'=>l'=l.set i.toNat x∧l'.length=l.length:=by
 refine ⟨_,?_,rfl,by simp⟩
 unfold Go.AX.seti
 rw [if_pos h]
theorem Ok.apnd {α:Type} {b:Nat} {l m:List α} (hb:Nat.ble b 65536=true) (h:l.length + m.length ≤ 1000000000):Ok (apnd b l m) fun l'=>l'=l ++ m:=⟨_,apnd_some hb h,rfl⟩
theorem Ok.part {α:Type} {l:List α} {a b:Int} (h:0 ≤ a∧a ≤ b∧b ≤ l.length):Ok (part l a b) fun l'=>l'=(l.drop a.toNat).take (b.toNat - a.toNat)∧(l'.length:Int)=b - a:=by
 refine ⟨_,?_,rfl,by simp;omega⟩
 unfold Go.AX.part
 rw [if_pos h]
theorem Ok.chk {p:Prop} [Decidable p] (h:p):Ok (chk p) fun _=>True:=by
 refine ⟨(),?_,trivial⟩
 unfold Go.AX.chk
 rw [if_pos h]
theorem Tt.auto {ρ:Type} {m:Option ρ} (h:Ok m fun _=>True:=by
  repeat' (first
   | exact Ok.ret trivial
   | assumption
   | (refine Ok.bind Ok.of ?_;intros)
   | (refine Ok.ite ?_ ?_<;>intros)
   | (refine Ok.join (fun _=>True) ?_ ?_<;>intros)
   | (refine Ok.for_ ?_ ?_<;>intros)
   | (refine Ok.bind (Ok.geti ?_) ?_<;>intros)
   | (refine Ok.bind (Ok.chk ?_) ?_<;>intros)
   | exact ‹∀v,True→Ok _ _› _ trivial
   | exact ‹∀v,Ok _ _› _
   | solve_by_elim
   | (constructor<;>first | omega | (simp_all;done) | (simp_all;omega))
   | omega
   | decide)):Tt m:=h.tt
theorem Ok.q {ρ:Type} {m:Option ρ} {Q:ρ→Prop} (h:Ok m Q:=by
  repeat' (first
   | assumption
   | refine Ok.ret ?_
   | exact trivial
   | (refine Ok.bind Ok.of ?_;intros)
   | (refine Ok.ite ?_ ?_<;>intros)
   | (refine Ok.bind (Ok.chk ?_) ?_<;>intros)
   | (refine Ok.bind (Ok.geti ?_) ?_<;>intros)
   | (refine Ok.bind (Ok.seti ?_) ?_<;>intros)
   | (refine Ok.bind (Ok.apnd (by decide) ?_) ?_<;>intros)
   | refine ‹∀v,_→_→Ok _ _› _ ?_ ?_
   | refine ‹∀v,_→Ok _ _› _ ?_
   | exact ‹∀v,Ok _ _› _
   | (refine Ok.join (τ:=Bool) (fun _=>True) ?_ ?_<;>intros)
   | (refine Ok.join (τ:=Unit) (fun _=>True) ?_ ?_<;>intros)
   | omega
   | solve_by_elim
   | (simp_all;done)
   | (simp_all;omega)
   | (simp only [List.length_append,List.length_cons,List.length_nil,List.length_set,decide_eq_true_eq,beq_iff_eq,bne_iff_ne,Bool.not_eq_true'] at *;(try subst_vars);(try simp only [List.length_append,List.length_cons,List.length_nil]);omega))):Ok m Q:=h
theorem Ok.pos {ρ:Type} {Q:ρ→Prop} {n:Nat} {g:(Bool→Option ρ)→Int→Option ρ} {k:Int→Option ρ} (hn:n ≤ 1000000000)
  (hg :∀(k':Bool→Option ρ) (v:Int),0 ≤ v→v ≤ n→(∀c,(c=true→v < n)→Ok (k' c) Q)→Ok (g k' v) Q) (hk :∀v:Int,0 ≤ v→v ≤ n→Ok (k v) Q) :
  Ok (joinP (fun k1=>whileR (fun next v=>joinP (fun k2=>g k2 v) (fun c=>if c=true then next (i64w (v + 1)) else k1 v)) fuel 0) k) Q:=by
 refine .join (fun v:Int=>0 ≤ v∧v ≤ n) (fun k1 hk1=>?_) fun v hv=>hk v hv.1 hv.2
 refine .whileI (fun v:Int=>0 ≤ v∧v ≤ n) (fun v=>(n - v).toNat) (by omega) (lt_fuel (by omega)) fun next v hv hnx=>?_
 refine .join (fun c=>c=true→v < n) (fun k2 hk2=>hg k2 v hv.1 hv.2 hk2) fun c hc=>.ite (fun h=>?_) fun _=>hk1 v hv
 have:=hc h
 rw [i64w_id (by omega)]
 exact hnx _ (by omega) (by omega)
end Go.AX
end
section
namespace Go.AX
theorem allR {α ρ:Type} {g:α→Bool} {body:(Unit→Option ρ)→α→Nat→Unit→Option ρ} {K:Unit→Option ρ} {r0:Option ρ} :
  ∀{l:List α} {i:Nat},(∀next x i,x ∈ l→body next x i ()=cond (g x) (next ()) r0)→forR K body l i ()=cond (l.all g) (K ()) r0
 | [],_,_=>rfl
 | x::t,i,h=>by
  show body (fun s=>forR K body t (i + 1) s) x i ()=_
  rw [h _ x i (by simp),List.all_cons]
  cases g x
  ·rfl
  ·exact allR fun next y j hy=>h next y j (List.mem_cons_of_mem _ hy)
theorem idxR {α:Type} {f:α→Option Bool} {q:α→Bool} :∀{l:List α} {i:Nat},(∀x ∈ l,f x=some (q x))→
  forR (fun _=>some (-1)) (fun next x i _=>Option.bind (f x) fun v=>if v then some (i:Int) else next ()) l i ()=some (match l.findIdx? q with | some j=>((i + j:Nat):Int) | none=>-1)
 | [],_,_=>rfl
 | x::t,i,h=>by
  show Option.bind (f x) (fun v=>if v then some (i:Int) else forR (fun _=>some (-1)) _ t (i + 1) ())=_
  rw [h x (by simp),some_bind',List.findIdx?_cons]
  by_cases hq:q x=true
  ·rw [if_pos hq,if_pos hq];simp
  ·rw [if_neg hq,if_neg hq,idxR fun y hy=>h y (List.mem_cons_of_mem _ hy)]
   cases t.findIdx? q with
   | none=>rfl
   | some j=>simp only [Option.map_some];rw [show i + 1 + j=i + (j + 1) by omega]
theorem contR {α:Type} {f:α→Option Bool} {q:α→Bool} {l:List α} (h :∀x ∈ l,f x=some (q x)) :
  (Option.bind (joinP (τ:=Unit) (fun k1=>forR (fun _=>k1 ()) (fun next x i _=>Option.bind (f x) fun v=>if v then some (i:Int) else next ()) l 0 ()) fun _=>some (-1)) fun v1=>some (decide (v1 ≥ 0)))=some (l.any q):=by
 rw [joinP_def,idxR h,some_bind']
 congr 1
 cases hf:l.findIdx? q with
 | none=>
  have:l.any q=false:=by
   rw [List.findIdx?_eq_none_iff] at hf
   simp only [List.any_eq_false]
   intro x hx
   simp [hf x hx]
  rw [this];rfl
 | some j=>
  have h1:=List.findIdx?_eq_some_iff_getElem.1 hf
  obtain ⟨hj,hq,_⟩:=h1
  have:l.any q=true:=List.any_eq_true.2 ⟨_,List.getElem_mem hj,hq⟩
  rw [this]
  simp
theorem ba_eq_of_beq {a b:ByteArray} (h:(a == b)=true):a=b:=(Go.MapKept.bytes_beq a b).1 h
theorem ba_rfl {a:ByteArray}:(a == a)=true:=(Go.MapKept.bytes_beq a a).2 rfl
instance:LawfulBEq ByteArray:={ eq_of_beq:=ba_eq_of_beq,rfl:=ba_rfl }
section
variable {K V:Type} [BEq K] [LawfulBEq K]
theorem mget_mset (l:List (K×V)) (k:K) (v:V) (k':K):mget (mset l k v) k'=if k' == k then some v else mget l k':=by
 induction l with
 | nil=>
  unfold mset
  simp only [mget]
 | cons p l ih=>
  unfold mset
  by_cases hp:(k == p.1)=true
  ·rw [if_pos hp]
   have:=eq_of_beq hp
   simp only [mget]
   by_cases hk:(k' == k)=true
   ·rw [if_pos hk,if_pos hk]
   ·rw [if_neg hk,if_neg hk,if_neg (by rw [← this];exact hk)]
  ·rw [if_neg hp]
   simp only [mget,ih]
   by_cases hk:(k' == k)=true
   ·have:=eq_of_beq hk
    subst this
    rw [if_neg hp,if_pos hk,if_pos hk]
   ·rw [if_neg hk,if_neg hk]
end
theorem takeWhile_len_le {α:Type} (p:α→Bool) (l:List α):(l.takeWhile p).length ≤ l.length:=(List.takeWhile_prefix p).length_le
theorem takeWhile_at {α:Type} {p:α→Bool} :∀{l:List α} {k:Nat} (hk:k < l.length),k ≤ (l.takeWhile p).length→(k < (l.takeWhile p).length ↔ p l[k]=true)
 | [],_,hk,_=>by simp at hk
 | x::t,k,hk,h=>by
  rw [List.takeWhile_cons] at h ⊢
  by_cases hp:p x=true
  ·rw [if_pos hp] at h ⊢
   cases k with
   | zero=>simp [hp]
   | succ k=>simpa using takeWhile_at (p:=p) (l:=t) (k:=k) (by simpa using hk) (by simpa using h)
  ·rw [if_neg hp] at h ⊢
   have:k=0:=by simpa using h
   subst this
   simp [hp]
theorem posR {α ρ:Type} {l:List α} {p:α→Bool} (g:α→(Bool→Option ρ)→Option ρ) {K:Int→Option ρ} (hl:l.length ≤ 1000000000000) (hg :∀x ∈ l,∀k,g x k=k (p x)) :
  joinP (fun k1=>whileR (fun next v=>joinP (fun k2=>if decide (v < (l.length:Int)) then Option.bind (geti l v) fun x=>g x k2 else k2 false) (fun c=>if c=true then next (i64w (v + 1)) else k1 v)) fuel 0) K=K ((l.takeWhile p).length:Int):=by
 have ht:=takeWhile_len_le p l
 rw [joinP_def,whileR_eq (fun v:Int=>0 ≤ v∧v ≤ ((l.takeWhile p).length:Int)) (fun v=>(l.length - v).toNat) (fun _=>K ((l.takeWhile p).length:Int)) ?_ fuel 0 (by omega) (lt_fuel (by omega))]
 intro next v hv hn
 obtain ⟨k,rfl⟩ :∃k:Nat,v=k:=⟨v.toNat,by omega⟩
 rw [joinP_def]
 by_cases hk:k < l.length
 ·rw [if_pos (by simpa using hk),geti_nat hk,some_bind',hg _ (List.getElem_mem hk)]
  have h:=takeWhile_at (p:=p) hk (by omega)
  by_cases hp:p l[k]=true
  ·rw [if_pos hp,i64w_id (by omega)]
   have:=h.2 hp
   exact hn _ (by omega) (by omega)
  ·rw [if_neg hp]
   have:¬ k < (l.takeWhile p).length:=fun q=>hp (h.1 q)
   have:k=(l.takeWhile p).length:=by omega
   rw [this]
 ·rw [if_neg (by simpa using hk)]
  have:k=(l.takeWhile p).length:=by omega
  subst this
  rfl
theorem nodup_len {α:Type} [DecidableEq α] :∀{l m:List α},l.Nodup→(∀x ∈ l,x ∈ m)→l.length ≤ m.length
 | [],_,_,_=>Nat.zero_le _
 | x::t,m,h,hs=>by
  obtain ⟨h1,h2⟩:=List.nodup_cons.1 h
  have hx:=hs x (by simp)
  have:=nodup_len (m:=m.erase x) h2 fun y hy=>(List.mem_erase_of_ne (fun e=>h1 (by rw [← e];exact hy))).2 (hs y (List.mem_cons_of_mem _ hy))
  rw [List.length_erase_of_mem hx] at this
  have:0 < m.length:=List.length_pos_of_mem hx
  simp only [List.length_cons]
  omega
theorem sorted_ext {α:Type} {lt:α→α→Prop} (hirr :∀a,¬ lt a a) (htr :∀a b c,lt a b→lt b c→lt a c) :∀{l m:List α},l.Pairwise lt→m.Pairwise lt→(∀x,x ∈ l ↔ x ∈ m)→l=m
 | [],[],_,_,_=>rfl
 | [],y::m,_,_,h=>by have:=(h y).2 (by simp);simp at this
 | x::l,[],_,_,h=>by have:=(h x).1 (by simp);simp at this
 | x::l,y::m,h1,h2,h=>by
  obtain ⟨a1,a2⟩:=List.pairwise_cons.1 h1
  obtain ⟨b1,b2⟩:=List.pairwise_cons.1 h2
  have hxy:x=y:=by
   rcases List.mem_cons.1 ((h x).1 (by simp)) with e | e
   ·exact e
   ·rcases List.mem_cons.1 ((h y).2 (by simp)) with e' | e'
    ·exact e'.symm
    ·exact absurd (htr _ _ _ (a1 y e') (b1 x e)) (hirr x)
  subst hxy
  congr 1
  refine sorted_ext hirr htr a2 b2 fun z=>?_
  constructor
  ·intro hz
   rcases List.mem_cons.1 ((h z).1 (List.mem_cons_of_mem _ hz)) with e | e
   ·subst e;exact absurd (a1 z hz) (hirr z)
   ·exact e
  ·intro hz
   rcases List.mem_cons.1 ((h z).2 (List.mem_cons_of_mem _ hz)) with e | e
   ·subst e;exact absurd (b1 z hz) (hirr z)
   ·exact e
def insS {α:Type} (lt:α→α→Bool) (l:List α) (x:α):List α:=l.takeWhile (lt · x) ++ x::l.dropWhile (lt · x)
theorem insS_mem {α:Type} {lt:α→α→Bool} {l:List α} {x y:α}:y ∈ insS lt l x ↔ y ∈ l ∨ y=x:=by
 unfold insS
 have:y ∈ l ↔ y ∈ l.takeWhile (lt · x) ∨ y ∈ l.dropWhile (lt · x):=by
  rw [← List.mem_append,List.takeWhile_append_dropWhile]
 rw [this,List.mem_append,List.mem_cons]
 constructor
 ·rintro (h | h | h)
  ·exact .inl (.inl h)
  ·exact .inr h
  ·exact .inl (.inr h)
 ·rintro ((h | h) | h)
  ·exact .inl h
  ·exact .inr (.inr h)
  ·exact .inr (.inl h)
theorem insS_len {α:Type} (lt:α→α→Bool) (l:List α) (x:α):(insS lt l x).length=l.length + 1:=by
 unfold insS
 have:=congrArg List.length (List.takeWhile_append_dropWhile (p:=(lt · x)) (l:=l))
 simp only [List.length_append,List.length_cons] at this ⊢
 omega
theorem takeWhile_all {α:Type} (p:α→Bool) {l:List α} {x:α} (h:x ∈ l.takeWhile p):p x=true:=by
 induction l with
 | nil=>simp at h
 | cons y t ih=>
  rw [List.takeWhile_cons] at h
  split at h
  ·rcases List.mem_cons.1 h with rfl | h
   ·assumption
   ·exact ih h
  ·simp at h
theorem insS_sorted {α:Type} {lt:α→α→Bool} (htr :∀a b c,lt a b=true→lt b c=true→lt a c=true) (htot :∀a b,lt a b=false→a=b ∨ lt b a=true) {l:List α} {x:α} (h:l.Pairwise fun a b=>lt a b=true) (hx:x ∉ l) :
  (insS lt l x).Pairwise fun a b=>lt a b=true:=by
 have h0:=h
 rw [← List.takeWhile_append_dropWhile (p:=(lt · x)) (l:=l),List.pairwise_append] at h
 obtain ⟨h1,h2,h3⟩:=h
 have hd :∀b ∈ l.dropWhile (lt · x),lt x b=true:=by
  cases hl:l.dropWhile (lt · x) with
  | nil=>intro b hb;simp at hb
  | cons y t=>
   have hy:lt y x=false:=by
    have:=List.head?_dropWhile_not (lt · x) l
    rw [hl] at this
    simpa using this
   have hyl:y ∈ l:=by
    have:y ∈ l.dropWhile (lt · x):=by rw [hl];simp
    exact List.dropWhile_subset _ this
   have hxy:lt x y=true:=by
    rcases htot _ _ hy with e | e
    ·subst e;exact absurd hyl hx
    ·exact e
   rw [hl] at h2
   intro b hb
   rcases List.mem_cons.1 hb with rfl | hb
   ·exact hxy
   ·exact htr _ _ _ hxy ((List.pairwise_cons.1 h2).1 b hb)
 unfold insS
 rw [List.pairwise_append]
 refine ⟨h1,List.pairwise_cons.2 ⟨hd,h2⟩,fun a ha b hb=>?_⟩
 rcases List.mem_cons.1 hb with e | hb
 ·rw [e];exact takeWhile_all (lt · x) ha
 ·exact h3 a ha b hb
theorem takeWhile_take {α:Type} (p:α→Bool) (l:List α):l.take (l.takeWhile p).length=l.takeWhile p∧l.drop (l.takeWhile p).length=l.dropWhile p:=by
 have h:=List.takeWhile_append_dropWhile (p:=p) (l:=l)
 constructor
 ·conv=>lhs;arg 2;rw [← h]
  rw [List.take_left']
  rfl
 ·conv=>lhs;arg 2;rw [← h]
  rw [List.drop_left']
  rfl
end Go.AX
end
section
namespace Go.AX
set_option maxRecDepth 8000
def cmpI (a b:Int):Int:=if a < b then -1 else if b < a then 1 else 0
def orI:List Int→Int
 | []=>0
 | x::t=>if x=0 then orI t else x
def lexC:List Int→List Int→Int
 | x::s,y::t=>if x < y then -1 else if y < x then 1 else lexC s t
 | _,_=>0
theorem orI_cons (x:Int) (t:List Int):orI (x::t)=if x=0 then orI t else x:=rfl
theorem orI_cmp (x y:Int) (t:List Int):orI (cmpI x y::t)=if x < y then -1 else if y < x then 1 else orI t:=by
 rw [orI_cons]
 unfold cmpI
 split
 ·rfl
 ·split<;>simp
theorem lexC_cons (x y:Int) (s t:List Int):lexC (x::s) (y::t)=if x < y then -1 else if y < x then 1 else lexC s t:=rfl
theorem lexC_nil:lexC [] []=0:=rfl
theorem lexC_self :∀a:List Int,lexC a a=0
 | []=>rfl
 | x::t=>by unfold lexC;simp [lexC_self t]
theorem lexC_zero :∀{a b:List Int},a.length=b.length→lexC a b=0→a=b
 | [],[],_,_=>rfl
 | [],_::_,h,_=>by simp at h
 | _::_,[],h,_=>by simp at h
 | x::s,y::t,h,e=>by
  unfold lexC at e
  split at e
  ·simp at e
  ·split at e
   ·simp at e
   ·rw [lexC_zero (by simpa using h) e,show x=y by omega]
theorem lexC_neg :∀a b:List Int,lexC b a=- lexC a b
 | [],[]=>rfl
 | [],_::_=>rfl
 | _::_,[]=>rfl
 | x::s,y::t=>by
  unfold lexC
  have:=lexC_neg s t
  split<;>split<;>first | omega | (split<;>omega)
theorem lexC_tr :∀{a b c:List Int},a.length=b.length→b.length=c.length→lexC a b < 0→lexC b c < 0→lexC a c < 0
 | [],_,_,_,_,h,_=>by simp [lexC] at h
 | _::_,[],_,h,_,_,_=>by simp at h
 | _::_,_::_,[],_,h,_,_=>by simp at h
 | x::s,y::t,z::u,h1,h2,h3,h4=>by
  have ih:=@lexC_tr s t u (by simpa using h1) (by simpa using h2)
  unfold lexC at h3 h4 ⊢
  by_cases a1:x < y
  ·by_cases a2:y < z
   ·rw [if_pos (by omega)];omega
   ·rw [if_neg a2] at h4
    by_cases a3:z < y
    ·rw [if_pos a3] at h4;omega
    ·rw [if_pos (by omega)];omega
  ·rw [if_neg a1] at h3
   by_cases a4:y < x
   ·rw [if_pos a4] at h3;omega
   ·rw [if_neg a4] at h3
    have:x=y:=by omega
    subst this
    by_cases a2:x < z
    ·rw [if_pos a2];omega
    ·rw [if_neg a2] at h4 ⊢
     by_cases a3:z < x
     ·rw [if_pos a3] at h4;omega
     ·rw [if_neg a3] at h4 ⊢
      exact ih h3 h4
section
variable {X:Type} {key:X→List Int}
def ltK (key:X→List Int) (a b:X):Bool:=decide (lexC (key a) (key b) < 0)
theorem ltK_irr (a:X):ltK key a a=false:=by unfold ltK;rw [lexC_self];rfl
theorem ltK_tr (hl :∀a b:X,(key a).length=(key b).length) (a b c:X) (h1:ltK key a b=true) (h2:ltK key b c=true):ltK key a c=true:=by
 unfold ltK at *
 simp only [decide_eq_true_eq] at *
 exact lexC_tr (hl _ _) (hl _ _) h1 h2
theorem ltK_tot (hl :∀a b:X,(key a).length=(key b).length) (a b:X) (h:ltK key a b=false):key a=key b ∨ ltK key b a=true:=by
 unfold ltK at *
 simp only [decide_eq_false_iff_not,decide_eq_true_eq] at *
 have:=lexC_neg (key a) (key b)
 by_cases h0:lexC (key a) (key b)=0
 ·exact .inl (lexC_zero (hl _ _) h0)
 ·exact .inr (by omega)
theorem ltK_asym (hl :∀a b:X,(key a).length=(key b).length) (a b:X) (h:ltK key a b=true):ltK key b a=false:=by
 cases h1:ltK key b a
 ·rfl
 ·have:=ltK_tr hl _ _ _ h h1
  rw [ltK_irr] at this;simp at this
theorem ltK_neg (hl :∀a b:X,(key a).length=(key b).length) (a b c:X) (h1:ltK key a b=false) (h2:ltK key b c=false):ltK key a c=false:=by
 rcases ltK_tot hl _ _ h1 with e | h1
 ·unfold ltK at *;rw [e];exact h2
 ·rcases ltK_tot hl _ _ h2 with e | h2
  ·refine ltK_asym hl _ _ ?_
   unfold ltK at *;rw [← e];exact h1
  ·exact ltK_asym hl _ _ (ltK_tr hl _ _ _ h2 h1)
variable {cmp:X→X→Option Int}
theorem ltC_K (hc :∀a b,cmp a b=some (lexC (key a) (key b))) (a b:X):ltC cmp a b=ltK key a b:=by unfold ltC;rw [hc];rfl
theorem sortF_K (hl :∀a b:X,(key a).length=(key b).length) (hc :∀a b,cmp a b=some (lexC (key a) (key b))) {l:List X} (hn:l.length ≤ 1000000000) :
  Ok (sortF cmp l) fun r=>r.Perm l∧r.Pairwise fun a b=>ltK key b a=false:=by
 obtain ⟨r,hr⟩:=sortF_some (cmp:=cmp) (l:=l) (swoB_of (fun a _ b _=>⟨_,hc a b⟩) (fun a _=>by rw [ltC_K hc,ltK_irr])
  (fun a _ b _ c _ h1 h2=>by rw [ltC_K hc] at *;exact ltK_tr hl _ _ _ h1 h2) (fun a _ b _ c _ h1 h2=>by rw [ltC_K hc] at *;exact ltK_neg hl _ _ _ h1 h2) hn)
 obtain ⟨h1,h2⟩:=sortF_spec hr
 exact ⟨r,hr,h1,h2.imp fun h=>by rw [ltC_K hc] at h;exact h⟩
theorem strict_of {l:List X} (hl :∀a b:X,(key a).length=(key b).length) (h1:l.Pairwise fun a b=>ltK key b a=false) (h2:l.Pairwise fun a b=>key a ≠ key b):l.Pairwise fun a b=>ltK key a b=true:=
 (h1.and h2).imp fun {a b} h=>(ltK_tot hl b a h.1).resolve_left fun e=>h.2 e.symm
theorem ltK_ext (hl :∀a b:X,(key a).length=(key b).length) {l m:List X} (h1:l.Pairwise fun a b=>ltK key a b=true) (h2:m.Pairwise fun a b=>ltK key a b=true) (h :∀x,x ∈ l ↔ x ∈ m):l=m:=
 sorted_ext (lt:=fun a b=>ltK key a b=true) (fun a h=>by rw [ltK_irr] at h;simp at h) (fun a b c=>ltK_tr hl a b c) h1 h2 h
end
theorem ins_here {α:Type} {lt:α→α→Bool} (htr :∀a b c,lt a b=true→lt b c=true→lt a c=true) (hirr :∀a,lt a a=false) {l:List α} {x:α} (hs:l.Pairwise fun a b=>lt a b=true) :
  x ∈ l ↔ l[(l.takeWhile (lt · x)).length]?=some x:=by
 constructor
 ·intro hx
  rw [← List.takeWhile_append_dropWhile (p:=(lt · x)) (l:=l),List.mem_append] at hx
  rcases hx with hx | hx
  ·have:=takeWhile_all (lt · x) hx
   rw [hirr] at this
   simp at this
  ·have h2:=(takeWhile_take (lt · x) l).2
   cases hd:l.dropWhile (lt · x) with
   | nil=>rw [hd] at hx;simp at hx
   | cons y t=>
    have hy:lt y x=false:=by
     have:=List.head?_dropWhile_not (lt · x) l
     rw [hd] at this
     simpa using this
    have hp:(y::t).Pairwise fun a b=>lt a b=true:=by
     rw [← hd]
     exact hs.sublist (List.dropWhile_sublist _)
    rw [hd] at hx
    have hxy:x=y:=by
     rcases List.mem_cons.1 hx with e | e
     ·exact e
     ·have:=(List.pairwise_cons.1 hp).1 x e
      rw [hy] at this;simp at this
    have h3:(l.drop (l.takeWhile (lt · x)).length)[0]?=some x:=by rw [h2,hd,hxy];rfl
    rw [List.getElem?_drop] at h3
    simpa using h3
 ·intro h
  exact List.mem_of_getElem? h
def compactP {α:Type} (e:α→α→Bool) (z:α) (a0:List α):Option (List α):=
 if (decide ((a0.length:Int) < 2)) then
  some a0
 else
  joinP (τ:=Unit) (fun k1=>
   whileR (σ:=Int) (fun next2 v3=>
    if (decide (v3 < (a0.length:Int))) then
     joinP (τ:=Unit) (fun k4=>
      Option.bind (geti a0 v3) fun v5=>
      Option.bind (geti a0 (i64w (v3 - 1))) fun v6=>
      if (e v5 v6) then
       Option.bind (chk (0 ≤ v3∧v3 ≤ (a0.length:Int)∧(a0.length:Int) ≤ (a0.length:Int))) fun _=>
       joinP (τ:=Int×(List α)) (fun k7=>
        whileR (σ:=Int×Int×(List α)) (fun next8 (v9,v10,v11)=>
         if (decide (v10 < (((Int.toNat (a0.length:Int) - Int.toNat v3):Nat):Int))) then
          Option.bind (geti (List.take (Int.toNat (a0.length:Int) - Int.toNat v3) (List.drop (Int.toNat v3) v11)) v10) fun v12=>
          Option.bind (geti (List.take (Int.toNat (a0.length:Int) - Int.toNat v3) (List.drop (Int.toNat v3) v11)) (i64w (v10 - 1))) fun v13=>
          joinP (τ:=Int×(List α)) (fun k14=>
           if (!(e v12 v13)) then
            Option.bind (geti (List.take (Int.toNat (a0.length:Int) - Int.toNat v3) (List.drop (Int.toNat v3) v11)) v10) fun v15=>
            Option.bind (geti v11 v9) fun v16=>
            Option.bind (seti v11 v9 v15) fun v17=>
            k14 ((i64w (v9 + 1)),v17)
           else
            k14 (v9,v11)
          ) fun (v18,v19)=>
          next8 (v18,(i64w (v10 + 1)),v19)
         else
          k7 (v9,v11)
        ) fuel (v3,1,a0)
       ) fun (v20,v21)=>
       Option.bind (chk (0 ≤ v20∧v20 ≤ (v21.length:Int)∧(v21.length:Int) ≤ (v21.length:Int))) fun _=>
       Option.bind (part (List.take (Int.toNat v20) v21 ++ List.replicate (Int.toNat (v21.length:Int) - Int.toNat v20) z ++ List.drop ((Int.toNat v20) + (Int.toNat (v21.length:Int) - Int.toNat v20)) v21) 0 v20) fun v22=>
       some v22
      else
       k4 ()
     ) fun _=>
     next2 (i64w (v3 + 1))
    else
     k1 ()
   ) fuel 1
  ) fun _=>
  some a0
theorem geti_of {α:Type} {l:List α} {i:Int} {x:α} (h0:0 ≤ i) (h:l[i.toNat]?=some x):geti l i=some x:=by
 have:=(List.getElem?_eq_some_iff.1 h).1
 unfold geti
 rw [if_pos (by omega),h]
theorem set_take {α:Type} {l:List α} {i:Nat} {x:α} (h:i < l.length):(l.set i x).take (i + 1)=l.take i ++ [x]:=by
 rw [List.take_add_one,List.take_set_of_le (Nat.le_refl _),List.getElem?_set_self h]
 rfl
section
variable {α:Type} {lt:α→α→Bool} (hirr :∀a,lt a a=false) (htr :∀a b c,lt a b=true→lt b c=true→lt a c=true) (htot :∀a b,lt a b=false→a=b ∨ lt b a=true)
include htr htot
theorem cp_new {p q:List α} {y z:α} (hp:p.Pairwise fun a b=>lt a b=true) (hm :∀x,x ∈ p ↔ x ∈ q) (hq :∀x ∈ q,lt z x=false) (hyz:lt y z=false) (hne:y ≠ z) :
  (p ++ [y]).Pairwise (fun a b=>lt a b=true)∧∀x,x ∈ p ++ [y] ↔ x ∈ q ++ [y]:=by
 refine ⟨List.pairwise_append.2 ⟨hp,by simp,fun x hx w hw=>?_⟩,fun x=>by rw [List.mem_append,List.mem_append,hm]⟩
 rw [List.mem_singleton] at hw
 subst hw
 have h1:=hq x ((hm x).1 hx)
 have h2:lt z w=true:=(htot _ _ hyz).resolve_left hne
 rcases htot _ _ h1 with e | e
 ·rw [← e];exact h2
 ·exact htr _ _ _ e h2
include hirr
theorem compactP_ok {e:α→α→Bool} {zz:α} (he :∀a b,e a b=true ↔ a=b) {l:List α} (hs:l.Pairwise fun a b=>lt b a=false) (hl:l.length ≤ 1000000000) :
  Ok (compactP e zz l) fun c=>c.Pairwise (fun a b=>lt a b=true)∧(∀x,x ∈ c ↔ x ∈ l):=by
 have hprev :∀(k:Nat) (z:α),l[k]?=some z→∀x ∈ l.take (k + 1),lt z x=false:=by
  intro k z hk x hx
  obtain ⟨i,hi,rfl⟩:=List.mem_iff_getElem.1 hx
  rw [List.length_take] at hi
  obtain ⟨hk1,rfl⟩:=List.getElem?_eq_some_iff.1 hk
  rw [List.getElem_take]
  by_cases e:i=k
  ·subst e;exact hirr _
  ·exact List.pairwise_iff_getElem.1 hs i k (by omega) hk1 (by omega)
 have hnext :∀(k:Nat) (z y:α),l[k]?=some z→l[k + 1]?=some y→lt y z=false:=by
  intro k z y hk hy
  obtain ⟨hk1,rfl⟩:=List.getElem?_eq_some_iff.1 hk
  obtain ⟨hk2,rfl⟩:=List.getElem?_eq_some_iff.1 hy
  exact List.pairwise_iff_getElem.1 hs k (k + 1) hk1 hk2 (by omega)
 have htk :∀(k:Nat) (y:α),l[k]?=some y→l.take (k + 1)=l.take k ++ [y]:=by
  intro k y hk
  rw [List.take_add_one,hk];rfl
 have hmem :∀(k:Nat) (z:α),l[k]?=some z→z ∈ l.take (k + 1):=by
  intro k z hk;rw [htk k z hk];simp
 unfold compactP
 refine .ite (fun h=>?_) fun h=>?_
 ·simp only [decide_eq_true_eq] at h
  refine .ret ⟨?_,fun _=>Iff.rfl⟩
  match l,h with
  | [],_=>exact .nil
  | [x],_=>simp
  | x::y::t,h=>simp at h;omega
 simp only [decide_eq_true_eq] at h
 refine .join (fun _=>l.Pairwise fun a b=>lt a b=true) (fun k1 hk1=>?_) fun _ h=>.ret ⟨h,fun _=>Iff.rfl⟩
 refine .whileI (fun v:Int=>1 ≤ v∧v ≤ l.length∧(l.take v.toNat).Pairwise fun a b=>lt a b=true) (fun v=>(l.length - v).toNat) ⟨by omega,by omega,?_⟩ (lt_fuel (by omega)) fun next v hv hnx=>?_
 ·match l,h with
  | x::t,_=>simp
  | [],h=>simp at h
 obtain ⟨v1,v2,v3⟩:=hv
 refine .ite (fun hlt=>?_) fun hge=>?_
 rotate_left
 ·simp only [decide_eq_true_eq] at hge
  refine hk1 () ?_
  have:v.toNat=l.length:=by omega
  rw [this,List.take_length] at v3
  exact v3
 simp only [decide_eq_true_eq] at hlt
 obtain ⟨n,rfl⟩ :∃n:Nat,v=((n + 1:Nat):Int):=⟨(v - 1).toNat,by omega⟩
 have hn:n + 1 < l.length:=by omega
 have gy:l[n + 1]?=some l[n + 1]:=List.getElem?_eq_getElem hn
 have gz:l[n]?=some l[n]:=List.getElem?_eq_getElem (by omega)
 have e1:geti l ((n + 1:Nat):Int)=some l[n + 1]:=geti_nat hn
 have e2:geti l (i64w (((n + 1:Nat):Int) - 1))=some l[n]:=by
  rw [i64w_id (by omega),show ((n + 1:Nat):Int) - 1=(n:Int) by omega]
  exact geti_nat (by omega)
 refine .join (fun _=>l[n + 1] ≠ l[n]) (fun k4 hk4=>?_) fun _ hne=>?_
 rotate_left
 ·rw [i64w_id (by omega)]
  refine hnx _ ⟨by omega,by omega,?_⟩ (by omega)
  have:=(cp_new htr htot (p:=l.take (n + 1)) (q:=l.take (n + 1)) v3 (fun _=>Iff.rfl) (hprev n _ gz) (hnext n _ _ gz gy) hne).1
  rw [← htk _ _ gy] at this
  have e:(((n + 1:Nat):Int) + 1).toNat=n + 1 + 1:=by omega
  rw [e];exact this
 rw [e1,some_bind',e2,some_bind']
 refine .ite (fun heq=>?_) fun hne=>hk4 _ fun e=>hne ((he _ _).2 e)
 have heq:=(he _ _).1 heq
 refine .bind (Ok.chk (by omega)) fun _ _=>?_
 refine .join (fun p:Int×List α=>0 ≤ p.1∧p.1 ≤ l.length∧p.2.length=l.length∧(p.2.take p.1.toNat).Pairwise (fun a b=>lt a b=true)∧∀x,x ∈ p.2.take p.1.toNat ↔ x ∈ l) (fun k7 hk7=>?_) ?_
 ·refine .whileI (fun p:Int×Int×List α=>0 ≤ p.1∧1 ≤ p.2.1∧p.1 ≤ (n + 1:Nat) + p.2.1 - 1∧(n + 1:Nat) + p.2.1 ≤ l.length∧p.2.2.length=l.length∧(∀j:Nat,p.1 ≤ j→p.2.2[j]?=l[j]?)∧
    (p.2.2.take p.1.toNat).Pairwise (fun a b=>lt a b=true)∧∀x,x ∈ p.2.2.take p.1.toNat ↔ x ∈ l.take ((n + 1:Nat) + p.2.1).toNat) (fun p=>(l.length - p.2.1).toNat) ⟨by dsimp only;omega,by dsimp only;omega,by dsimp only;omega,by dsimp only;omega,rfl,fun _ _=>rfl,v3,fun x=>?_⟩ (lt_fuel (by dsimp only;omega)) ?_
  ·dsimp only
   have e:(((n + 1:Nat):Int) + 1).toNat=n + 1 + 1:=by omega
   rw [e,htk _ _ gy,Int.toNat_natCast]
   constructor
   ·exact fun h=>List.mem_append_left _ h
   ·intro h
    rcases List.mem_append.1 h with h | h
    ·exact h
    ·rw [List.mem_singleton] at h
     rw [h,heq];exact hmem n _ gz
  rintro next ⟨i,k,a⟩ ⟨q1,q2,q3,q4,q5,q6,q7,q8⟩ hnx2
  dsimp only at q1 q2 q3 q4 q5 q6 q7 q8 ⊢
  refine .ite (fun hk=>?_) fun hk=>?_
  rotate_left
  ·simp only [decide_eq_true_eq] at hk
   refine hk7 (i,a) ⟨q1,by dsimp only;omega,q5,q7,fun x=>?_⟩
   dsimp only
   rw [q8 x,show ((n + 1:Nat) + k).toNat=l.length by omega,List.take_length]
  simp only [decide_eq_true_eq] at hk
  obtain ⟨m,rfl⟩ :∃m:Nat,k=((m + 1:Nat):Int):=⟨(k - 1).toNat,by omega⟩
  have hml:n + 1 + (m + 1) < l.length:=by omega
  have gy2:l[n + 1 + (m + 1)]?=some l[n + 1 + (m + 1)]:=List.getElem?_eq_getElem hml
  have gz2:l[n + 1 + m]?=some l[n + 1 + m]:=List.getElem?_eq_getElem (by omega)
  have ge :∀j:Nat,n + 1 + j < l.length→i ≤ ((n + 1 + j:Nat):Int)→∀y,l[n + 1 + j]?=some y→geti (List.take (Int.toNat (l.length:Int) - Int.toNat ((n + 1:Nat):Int)) (List.drop (Int.toNat ((n + 1:Nat):Int)) a)) (j:Int)=some y:=by
   intro j hj hij y hy
   refine geti_of (by omega) ?_
   rw [Int.toNat_natCast,Int.toNat_natCast,Int.toNat_natCast,List.getElem?_take_of_lt (by omega),List.getElem?_drop,q6 _ hij]
   exact hy
  have r1:=ge (m + 1) hml (by omega) _ gy2
  have r2:=ge m (by omega) (by omega) _ gz2
  rw [r1,some_bind',i64w_id (x:=((m + 1:Nat):Int) - 1) (by omega),show ((m + 1:Nat):Int) - 1=(m:Int) by omega,r2,some_bind']
  refine .join (fun p:Int×List α=>0 ≤ p.1∧p.1 ≤ (n + 1:Nat) + ((m + 1:Nat):Int)∧p.2.length=l.length∧(∀j:Nat,p.1 ≤ j→p.2[j]?=l[j]?)∧
    (p.2.take p.1.toNat).Pairwise (fun a b=>lt a b=true)∧∀x,x ∈ p.2.take p.1.toNat ↔ x ∈ l.take (n + 1 + (m + 1) + 1)) (fun k14 hk14=>?_) ?_
  ·have et:((n + 1:Nat) + ((m + 1:Nat):Int)).toNat=n + 1 + (m + 1):=by omega
   rw [et] at q8
   refine .ite (fun hne=>?_) fun heq2=>?_
   ·have hne:l[n + 1 + (m + 1)] ≠ l[n + 1 + m]:=fun e=>by rw [(he _ _).2 e] at hne;simp at hne
    rw [some_bind']
    have hia:i.toNat < a.length:=by omega
    refine .bind (Ok.geti (by omega)) fun _ _=>.bind (Ok.seti (by omega)) fun a' ha'=>hk14 _ ?_
    rw [i64w_id (by omega)]
    have ei:(i + 1).toNat=i.toNat + 1:=by omega
    have hc:=cp_new htr htot (y:=l[n + 1 + (m + 1)]) (z:=l[n + 1 + m]) q7 q8 (by rw [show n + 1 + (m + 1)=n + 1 + m + 1 by omega];exact hprev _ _ gz2) (hnext _ _ _ gz2 gy2) hne
    refine ⟨by dsimp only;omega,by dsimp only;omega,ha'.2.trans q5,fun j hj=>?_,?_,?_⟩
    ·dsimp only at hj ⊢
     rw [ha'.1,List.getElem?_set_ne (by omega)]
     exact q6 j (by omega)
    ·dsimp only
     rw [ei,ha'.1,set_take hia]
     exact hc.1
    ·dsimp only
     rw [ei,ha'.1,set_take hia,htk _ _ gy2]
     exact hc.2
   ·have heq2:l[n + 1 + (m + 1)]=l[n + 1 + m]:=by
     refine (he _ _).1 ?_
     cases h:e l[n + 1 + (m + 1)] l[n + 1 + m]
     ·rw [h] at heq2;simp at heq2
     ·rfl
    refine hk14 _ ⟨q1,by dsimp only;omega,q5,q6,q7,fun x=>?_⟩
    dsimp only
    rw [q8 x,htk _ _ gy2]
    constructor
    ·exact fun h=>List.mem_append_left _ h
    ·intro h
     rcases List.mem_append.1 h with h | h
     ·exact h
     ·rw [List.mem_singleton] at h
      rw [h,heq2];exact hmem _ _ gz2
  ·rintro ⟨i',a'⟩ ⟨p1,p2,p3,p4,p5,p6⟩
   dsimp only at p1 p2 p3 p4 p5 p6 ⊢
   rw [i64w_id (by omega)]
   refine hnx2 _ ⟨p1,by dsimp only;omega,by dsimp only;omega,by dsimp only;omega,p3,p4,p5,fun x=>?_⟩ (by dsimp only;omega)
   dsimp only
   rw [p6 x,show ((n + 1:Nat) + (((m + 1:Nat):Int) + 1)).toNat=n + 1 + (m + 1) + 1 by omega]
 ·rintro ⟨i,a⟩ ⟨p1,p2,p3,p4,p5⟩
  dsimp only at p1 p2 p3 p4 p5 ⊢
  refine .bind (Ok.chk (by omega)) fun _ _=>.bind (Ok.part ⟨by omega,by omega,by simp;omega⟩) fun c hc=>.ret ?_
  have:c=a.take i.toNat:=by
   rw [hc.1]
   simp only [Int.toNat_zero,List.drop_zero,Nat.sub_zero]
   rw [List.append_assoc,List.take_append_of_le_length (by simp;omega),List.take_take,Nat.min_self]
  rw [this]
  exact ⟨p4,p5⟩
end
theorem sortI_tot {l:List Int} (hl:l.length ≤ 1000000000):Ok (sortI l) fun r=>r.Perm l∧r.Pairwise fun a b=>decide (b < a)=false:=by
 unfold sortI
 rw [if_pos (by omega)]
 refine .ret ⟨List.mergeSort_perm _ _,?_⟩
 refine (List.pairwise_mergeSort (le:=fun x y:Int=>decide (x ≤ y)) (fun a b c h1 h2=>by simp only [decide_eq_true_eq] at *;omega) (fun a b=>by simp only [Bool.or_eq_true,decide_eq_true_eq];omega) l).imp fun {a b} h=>?_
 simp only [decide_eq_true_eq,decide_eq_false_iff_not] at *
 omega
end Go.AX
end
section
namespace Go.AX
def Po {ρ:Type} (m:Option ρ) (Q:ρ→Prop):Prop:=∀r,m=some r→Q r
theorem Po.ret {ρ:Type} {Q:ρ→Prop} {r:ρ} (h:Q r):Po (some r) Q:=fun _ e=>Option.some.inj e ▸ h
theorem Po.imp {ρ:Type} {m:Option ρ} {P Q:ρ→Prop} (h:Po m P) (k :∀r,P r→Q r):Po m Q:=fun r e=>k r (h r e)
theorem Po.bind {α ρ:Type} {m:Option α} {f:α→Option ρ} {Q:ρ→Prop} (k :∀a,m=some a→Po (f a) Q):Po (Option.bind m f) Q:=by
 intro r e
 cases hm:m with
 | none=>rw [hm] at e;cases e
 | some a=>rw [hm] at e;exact k a hm r e
theorem Po.join {τ ρ:Type} {m:(τ→Option ρ)→Option ρ} {k:τ→Option ρ} {Q:ρ→Prop} (J:τ→Prop) (h1 :∀k',(∀v,J v→Po (k' v) Q)→Po (m k') Q) (h2 :∀v,J v→Po (k v) Q):Po (joinP m k) Q:=h1 k h2
theorem Po.ite {ρ:Type} {p:Prop} [Decidable p] {x y:Option ρ} {Q:ρ→Prop} (h1:p→Po x Q) (h2:¬ p→Po y Q):Po (if p then x else y) Q:=by
 split
 ·exact h1 ‹_›
 ·exact h2 ‹_›
theorem Po.forX {α σ ρ:Type} {done:σ→Option ρ} {body:(σ→Option ρ)→α→Nat→σ→Option ρ} {Q:ρ→Prop} {l:List α} {s0:σ} (I:Nat→σ→Prop) (h0:I 0 s0) (hd :∀s,I l.length s→Po (done s) Q)
  (hs :∀(next:σ→Option ρ) x i s,l[i]?=some x→I i s→(∀s',I (i + 1) s'→Po (next s') Q)→Po (body next x i s) Q):Po (forR done body l 0 s0) Q:=by
 have key :∀(t:List α) (i:Nat) (s:σ),(∃p,l=p ++ t∧p.length=i)→I i s→Po (forR done body t i s) Q:=by
  intro t
  induction t with
  | nil=>intro i s ⟨p,hp,hl⟩ hi;exact hd s (by rw [hp];simpa [hl] using hi)
  | cons x t ih=>
   intro i s ⟨p,hp,hl⟩ hi
   exact hs _ x i s (by rw [hp,← hl];simp) hi fun s' h'=>ih (i + 1) s' ⟨p ++ [x],by simp [hp],by simp [hl]⟩ h'
 exact key l 0 s0 ⟨[],rfl,rfl⟩ h0
theorem Po.for_ {α σ ρ:Type} {done:σ→Option ρ} {body:(σ→Option ρ)→α→Nat→σ→Option ρ} {Q:ρ→Prop} {l:List α} {s0:σ} (I:σ→Prop) (h0:I s0) (hd :∀s,I s→Po (done s) Q)
  (hs :∀(next:σ→Option ρ) x i s,x ∈ l→I s→(∀s',I s'→Po (next s') Q)→Po (body next x i s) Q):Po (forR done body l 0 s0) Q:=
 .forX (fun _=>I) h0 hd fun n x i s hx=>hs n x i s (List.mem_of_getElem? hx)
theorem Po.apnd {α:Type} {b:Nat} {l m:List α}:Po (Go.AX.apnd b l m) fun r=>r=l ++ m:=by
 intro r e
 unfold Go.AX.apnd at e
 split at e
 ·exact (Option.some.inj e).symm
 ·cases e
theorem Po.geti {α:Type} {l:List α} {i:Int}:Po (Go.AX.geti l i) fun x=>0 ≤ i∧l[i.toNat]?=some x:=by
 intro r e
 unfold Go.AX.geti at e
 split at e
 ·rename_i h
  exact ⟨h.1,e⟩
 ·cases e
theorem Po.seti {α:Type} {l:List α} {i:Int} {x:α}:Po (Go.AX.seti l i x) fun r=>0 ≤ i∧i.toNat < l.length∧r=l.set i.toNat x:=by
 intro r e
 unfold Go.AX.seti at e
 split at e
 ·rename_i h
  exact ⟨h.1,by omega,(Option.some.inj e).symm⟩
 ·cases e
theorem Po.part {α:Type} {l:List α} {a b:Int}:Po (Go.AX.part l a b) fun r=>r=(l.drop a.toNat).take (b.toNat - a.toNat):=by
 intro r e
 unfold Go.AX.part at e
 split at e
 ·exact (Option.some.inj e).symm
 ·cases e
theorem Ok.and {ρ:Type} {m:Option ρ} {P Q:ρ→Prop} (h:Ok m P) (k:Po m Q):Ok m fun r=>P r∧Q r:=by
 obtain ⟨r,h1,h2⟩:=h
 exact ⟨r,h1,h2,k r h1⟩
theorem Po.sel {τ ρ:Type} {m:(τ→Option ρ)→Option ρ} {k:τ→Option ρ} {Q:ρ→Prop} (h1 :∀k',(∀v,Po (k' v) Q)→Po (m k') Q) (h2 :∀v,Po (k v) Q):Po (joinP m k) Q:=h1 k h2
end Go.AX
end
section
namespace Go.AX.Q18
open Go Go.AX
set_option maxRecDepth 8000
def fl (t:Int):Int:=if t=1 then 64 else if t=2 then 64 else if t=3 then 64 else if t=4 then 128 else if t=5 then 64 else if t=8 then 192 else if t=32 then 192 else if t=35 then 192 else 0
def unk (t:Int):Bool:=decide (fl t=0) && (decide (t ≠ 14) && decide (t ≠ 15))
theorem mget_fl (t:Int):(mget glob0 t).getD 0=fl t:=by
 unfold glob0 fl
 simp only [mget,beq_iff_eq]
 repeat' (split;· rfl)
 rfl
theorem fl_cases (t:Int):(t=1∧fl t=64) ∨ (t=2∧fl t=64) ∨ (t=3∧fl t=64) ∨ (t=4∧fl t=128) ∨ (t=5∧fl t=64) ∨ (t=8∧fl t=192) ∨ (t=32∧fl t=192) ∨ (t=35∧fl t=192) ∨
  (t ≠ 1∧t ≠ 2∧t ≠ 3∧t ≠ 4∧t ≠ 5∧t ≠ 8∧t ≠ 32∧t ≠ 35∧fl t=0):=by
 unfold fl
 by_cases h1:t=1<;>by_cases h2:t=2<;>by_cases h3:t=3<;>by_cases h4:t=4<;>by_cases h5:t=5<;>by_cases h6:t=8<;>by_cases h7:t=32<;>by_cases h8:t=35<;>first | (exfalso;omega) | simp [h1,h2,h3,h4,h5,h6,h7,h8]
theorem ref18_flags_eq (t:Int):ref18_flags t=some (fl t):=by
 unfold ref18_flags
 simp only [joinP_def,beq_iff_eq]
 rcases fl_cases t with ⟨h,e⟩ | ⟨h,e⟩ | ⟨h,e⟩ | ⟨h,e⟩ | ⟨h,e⟩ | ⟨h,e⟩ | ⟨h,e⟩ | ⟨h,e⟩ | ⟨h1,h2,h3,h4,h5,h6,h7,h8,e⟩<;>rw [e]
 iterate 8 (subst h;rfl)
 simp [h1,h2,h3,h4,h5,h6,h7,h8]
theorem unk_if (t:Int) (k:Bool→Option Bool):(if (fl t == 0)=true then if (cond true (t != 14) false)=true then k (cond true (t != 15) false) else k false else k false)=k (unk t):=by
 have e1:(t != 14)=!decide (t=14):=rfl
 have e2:(t != 15)=!decide (t=15):=rfl
 unfold unk
 rw [e1,e2]
 by_cases h1:fl t=0<;>by_cases h2:t=14<;>by_cases h3:t=15<;>simp [h1,h2,h3]
theorem attribute_unknown_eq (t:Int):attribute_unknown t=some (unk t):=by
 unfold attribute_unknown
 rw [joinP_def,mget_fl,some_bind']
 exact unk_if t some
theorem ref18_unknown_eq (t:Int):ref18_unknown t=some (unk t):=by
 unfold ref18_unknown
 rw [joinP_def,ref18_flags_eq,some_bind']
 exact unk_if t some
theorem within_eq (a b c:Int):attribute_within a b c=some (decide (b ≤ a) && decide (a ≤ c)):=by
 unfold attribute_within
 rw [joinP_def]
 by_cases h:b ≤ a
 ·rw [if_pos (by simpa using h),decide_eq_true h];rfl
 ·rw [if_neg (by simpa using h),decide_eq_false h];rfl
theorem number_eq (a:Int):aspath_Number a=some (decide (1 ≤ a) && decide (a ≤ 4294967295)):=by
 unfold aspath_Number
 rw [joinP_def]
 by_cases h:1 ≤ a
 ·rw [if_pos (by simpa using h),decide_eq_true h];rfl
 ·rw [if_neg (by simpa using h),decide_eq_false h];rfl
def bt (x m:Int):Int:=i64w ((BitVec.ofInt 64 x &&& BitVec.ofInt 64 m).toNat:Int)
theorem i64w_congr {n m:Int} (h:n % (2 ^ 64:Int)=m % (2 ^ 64:Int)):i64w n=i64w m:=
 congrArg (fun q:Int=>if (IntKind.i64.signed && decide (q ≥ (2 ^ (IntKind.i64.bits - 1):Int)))=true then q - (2 ^ IntKind.i64.bits:Int) else q) h
theorem i64w_bv (b:BitVec 64):i64w (b.toNat:Int)=b.toInt:=by
 have h:=b.isLt
 have h1:=BitVec.toInt_eq_toNat_cond b
 have p1:(2:Int) ^ 64=18446744073709551616:=by decide
 have p2:((2 ^ 64:Nat):Int)=18446744073709551616:=by decide
 have p3:(2:Nat) ^ 64=18446744073709551616:=by decide
 rw [p2] at h1
 rw [p3] at h h1
 have h2:-9223372036854775808 ≤ b.toInt∧b.toInt ≤ 9223372036854775807:=by
  rw [h1];split<;>omega
 rw [i64w_congr (m:=b.toInt) (by rw [p1,h1];split<;>omega),i64w_id h2]
theorem ofInt_i64w_bv (b:BitVec 64):BitVec.ofInt 64 (i64w (b.toNat:Int))=b:=by
 rw [i64w_bv,BitVec.ofInt_toInt]
theorem right_bits {f m:Int} (hf:f=64 ∨ f=128 ∨ f=192):(i64w ((BitVec.ofInt 64 (i64w ((BitVec.ofInt 64 m ^^^ BitVec.ofInt 64 f).toNat:Int)) &&& BitVec.ofInt 64 192).toNat:Int) == 0)=(bt m 192 == f):=by
 unfold bt
 rw [ofInt_i64w_bv,i64w_bv,i64w_bv,Bool.eq_iff_iff,beq_iff_eq,beq_iff_eq]
 have h0:(0:Int)=(0#64).toInt:=by decide
 have h1:f=(BitVec.ofInt 64 f &&& BitVec.ofInt 64 192).toInt:=by rcases hf with rfl | rfl | rfl<;>decide
 have hx:(BitVec.ofInt 64 m ^^^ BitVec.ofInt 64 f) &&& BitVec.ofInt 64 192=(BitVec.ofInt 64 m &&& BitVec.ofInt 64 192) ^^^ (BitVec.ofInt 64 f &&& BitVec.ofInt 64 192):=by
  apply BitVec.eq_of_getLsbD_eq
  intro i _
  simp only [BitVec.getLsbD_and,BitVec.getLsbD_xor]
  generalize (BitVec.ofInt 64 m).getLsbD i=x
  generalize (BitVec.ofInt 64 f).getLsbD i=y
  generalize (BitVec.ofInt 64 192).getLsbD i=z
  cases x<;>cases y<;>cases z<;>rfl
 rw [hx]
 conv=>rhs;rhs;rw [h1]
 rw [h0,BitVec.toInt_inj,BitVec.toInt_inj,BitVec.xor_eq_zero_iff]
def rightB (x:Unknown):Bool:=bt x.Flags 192 == fl x.Type_ && (fl x.Type_ == 192 || bt x.Flags 32 == 0)
theorem attribute_right_eq (x:Unknown) (h:fl x.Type_ ≠ 0):attribute_right x=some (rightB x):=by
 have hf:fl x.Type_=64 ∨ fl x.Type_=128 ∨ fl x.Type_=192:=by
  rcases fl_cases x.Type_ with ⟨_,e⟩ | ⟨_,e⟩ | ⟨_,e⟩ | ⟨_,e⟩ | ⟨_,e⟩ | ⟨_,e⟩ | ⟨_,e⟩ | ⟨_,e⟩ | h'<;>first | (rw [e];simp;done) | exact absurd h'.2.2.2.2.2.2.2.2 h
 unfold attribute_right rightB
 rw [joinP_def,mget_fl]
 simp only [some_bind',right_bits hf]
 show (if (bt x.Flags 192 == fl x.Type_)=true then if (fl x.Type_ == 192)=true then some true else some (cond true (cond false true (bt x.Flags 32 == 0)) false) else some false)=_
 cases (bt x.Flags 192 == fl x.Type_)<;>cases (fl x.Type_ == 192)<;>rfl
def getB (b:List UInt8):Int:=b.foldl (fun n x=>i64w ((BitVec.ofInt 64 (i64w (n * (2 ^ (min (Int.toNat 8) 64)))) ||| BitVec.ofInt 64 (x.toNat:Int)).toNat:Int)) 0
theorem foldR {α σ ρ:Type} {K:σ→Option ρ} {g:σ→α→σ} :∀(l:List α) (i:Nat) (s:σ),forR K (fun next x _ s=>next (g s x)) l i s=K (l.foldl g s)
 | [],_,_=>rfl
 | x::t,i,s=>foldR t (i + 1) (g s x)
theorem attribute_get_eq (b:List UInt8):attribute_get b=some (getB b):=by
 unfold attribute_get
 rw [joinP_def]
 exact foldR (K:=some) b 0 0
theorem ref18_number_eq (b:List UInt8):ref18_number b=some (getB b):=by
 unfold ref18_number
 rw [joinP_def]
 exact foldR (K:=some) b 0 0
def val (l:List UInt8):Nat:=l.foldl (fun m x=>m * 256 + x.toNat) 0
theorem val_snoc (l:List UInt8) (x:UInt8):val (l ++ [x])=val l * 256 + x.toNat:=by simp [val]
theorem val_lt :∀l:List UInt8,val l < 256 ^ l.length:=by
 intro l
 rw [← List.reverse_reverse l]
 generalize l.reverse=m
 induction m with
 | nil=>decide
 | cons x t ih=>
  rw [List.reverse_cons,val_snoc,List.length_append,List.length_singleton,Nat.pow_succ]
  have:=x.toNat_lt
  omega
theorem or_nat {u v:Nat} (hu:u < 36028797018963968) (hv:v < 256):i64w ((BitVec.ofInt 64 (i64w ((u:Int) * (2 ^ (min (Int.toNat 8) 64)))) ||| BitVec.ofInt 64 (v:Int)).toNat:Int)=((u * 256 + v:Nat):Int):=by
 have h1:((u:Int) * (2 ^ (min (Int.toNat 8) 64)))=((u * 256:Nat):Int):=by
  have:min (Int.toNat 8) 64=8:=rfl
  rw [this];omega
 rw [h1,i64w_id (x:=((u * 256:Nat):Int)) (by omega),BitVec.ofInt_natCast,BitVec.ofInt_natCast,BitVec.toNat_or,BitVec.toNat_ofNat,BitVec.toNat_ofNat,Nat.mod_eq_of_lt (show u * 256 < 2 ^ 64 by omega),Nat.mod_eq_of_lt (show v < 2 ^ 64 by omega),
  show u * 256=2 ^ 8 * u by omega,← Nat.two_pow_add_eq_or_of_lt (show v < 2 ^ 8 by omega)]
 rw [i64w_id (by omega)]
theorem getB_eq :∀{l:List UInt8},l.length ≤ 7→getB l=(val l:Int):=by
 intro l
 rw [← List.reverse_reverse l]
 generalize l.reverse=m
 induction m with
 | nil=>intro _;rfl
 | cons x t ih=>
  intro h
  rw [List.reverse_cons] at h ⊢
  simp only [List.length_append,List.length_reverse,List.length_singleton] at h
  unfold getB at ih ⊢
  rw [List.foldl_append,ih (by simp;omega)]
  have h1:=val_lt t.reverse
  have h2:256 ^ t.reverse.length ≤ 256 ^ 6:=Nat.pow_le_pow_right (by omega) (by simp;omega)
  show i64w _=_
  rw [or_nat (by omega) x.toNat_lt,val_snoc]
def nums:List UInt8→List Int
 | a::b::c::d::t=>getB [a,b,c,d]::nums t
 | _=>[]
theorem nums_cons (a b c d:UInt8) (t:List UInt8):nums (a::b::c::d::t)=getB [a,b,c,d]::nums t:=rfl
theorem nums_short :∀{l:List UInt8},l.length < 4→nums l=[]
 | [],_=>rfl
 | [_],_=>rfl
 | [_,_],_=>rfl
 | [_,_,_],_=>rfl
 | _::_::_::_::_,h=>by simp at h;omega
theorem four_of :∀{l:List UInt8},4 ≤ l.length→∃a b c d t,l=a::b::c::d::t
 | [],h=>by simp at h
 | [_],h=>by simp at h
 | [_,_],h=>by simp at h
 | [_,_,_],h=>by simp at h
 | a::b::c::d::t,_=>⟨a,b,c,d,t,rfl⟩
theorem nums_len :∀l:List UInt8,(nums l).length=l.length / 4
 | a::b::c::d::t=>by
  rw [nums_cons,List.length_cons,nums_len t]
  simp only [List.length_cons]
  omega
 | []=>rfl
 | [_]=>by simp [nums]
 | [_,_]=>by simp [nums]
 | [_,_,_]=>by simp [nums]
theorem nums_rng :∀(l:List UInt8),∀n ∈ nums l,0 ≤ n∧n ≤ 4294967295
 | a::b::c::d::t=>by
  rw [nums_cons]
  intro n hn
  rcases List.mem_cons.1 hn with h | h
  ·have h1:=val_lt [a,b,c,d]
   rw [h,getB_eq (by simp)]
   simp only [List.length_cons,List.length_nil] at h1
   omega
  ·exact nums_rng t n h
 | []=>by intro n h;simp [nums] at h
 | [_]=>by intro n h;simp [nums] at h
 | [_,_]=>by intro n h;simp [nums] at h
 | [_,_,_]=>by intro n h;simp [nums] at h
theorem attribute_numbers_eq {b:List UInt8} (hb:b.length ≤ 1000000000):attribute_numbers b=some (nums b):=by
 unfold attribute_numbers
 rw [joinP_def,whileR_eq (fun s:List UInt8×List Int=>s.1.length + 4 * s.2.length ≤ 1000000000) (fun s=>s.1.length) (fun s=>some (s.2 ++ nums s.1)) ?_ fuel (b,[]) (by simpa using hb) (lt_fuel (by simp only;omega))]
 ·rfl
 ·rintro next ⟨v,o⟩ h hn
  dsimp only at h ⊢
  by_cases h4:4 ≤ v.length
  ·obtain ⟨x,y,z,w,t,rfl⟩:=four_of h4
   simp only [List.length_cons] at h
   rw [if_pos (by simp only [List.length_cons,decide_eq_true_eq];omega)]
   have e1:part (x::y::z::w::t) 0 4=some [x,y,z,w]:=by
    rw [show (0:Int)=((0:Nat):Int) by rfl,show (4:Int)=((4:Nat):Int) by rfl,part_nat (by omega) (by simp)]
    rfl
   have e2:part (x::y::z::w::t) 4 ((x::y::z::w::t).length:Int)=some t:=by
    rw [show (4:Int)=((4:Nat):Int) by rfl,part_nat (by simp) (by simp)]
    simp
   rw [e1,some_bind',attribute_get_eq,some_bind',apnd_some (by decide) (by simp only [List.length_singleton];omega),some_bind',e2,some_bind',hn _ (by simp only [List.length_append,List.length_singleton];omega) (by simp only [List.length_cons];omega)]
   simp [nums_cons]
  ·rw [if_neg (by simp only [decide_eq_true_eq];omega),nums_short (by omega)]
   simp
end Go.AX.Q18
end
section
namespace Go.AX.Q18
open Go Go.AX
set_option maxRecDepth 8000
def ltI (a b:Int):Bool:=decide (a < b)
theorem ltI_irr (a:Int):ltI a a=false:=by simp [ltI]
theorem ltI_tr (a b c:Int) (h1:ltI a b=true) (h2:ltI b c=true):ltI a c=true:=by simp only [ltI,decide_eq_true_eq] at *;omega
theorem ltI_tot (a b:Int) (h:ltI a b=false):a=b ∨ ltI b a=true:=by simp only [ltI,decide_eq_true_eq,decide_eq_false_iff_not] at *;omega
def Asc (l r:List Int):Prop:=r.Pairwise (fun a b=>ltI a b=true)∧∀x,x ∈ r ↔ x ∈ l
theorem Asc.uniq {l r s:List Int} (h:Asc l r) (k:Asc l s):r=s:=
 sorted_ext (lt:=fun a b=>ltI a b=true) (fun a=>by simp [ltI_irr]) ltI_tr h.1 k.1 fun x=>(h.2 x).trans (k.2 x).symm
theorem ref18_sorted_tot {l:List Int} (hl:l.length ≤ 1000000):Ok (ref18_sorted l) (Asc l):=by
 unfold ref18_sorted
 refine .join (Asc l) (fun k hk=>?_) fun r hr=>.ret hr
 refine .forX (fun i v=>v.Pairwise (fun a b=>ltI a b=true)∧(∀x,x ∈ v ↔ x ∈ l.take i)∧v.length ≤ i) ⟨.nil,by simp,by simp⟩ (fun v hv=>hk v ⟨hv.1,by simpa using hv.2.1⟩) fun next x i v hx hI hn=>?_
 obtain ⟨i1,i2,i3⟩:=hI
 have hil:=(List.getElem?_eq_some_iff.1 hx).1
 have hmt :∀y,y ∈ l.take (i + 1) ↔ y ∈ l.take i ∨ y=x:=by
  intro y
  rw [List.take_add_one,hx]
  simp
 refine .join (fun v'=>v'.Pairwise (fun a b=>ltI a b=true)∧(∀x,x ∈ v' ↔ x ∈ l.take (i + 1))∧v'.length ≤ i + 1) (fun k6 hk6=>?_) fun v' h=>hn _ h
 have hpos:=takeWhile_len_le (ltI · x) v
 rw [posR (p:=(ltI · x)) (fun y k4=>k4 (cond true (decide (y < x)) false)) (by omega) (fun y _ k=>rfl)]
 have hh:=ins_here ltI_tr ltI_irr (x:=x) i1
 obtain ⟨t1,t2⟩:=takeWhile_take (ltI · x) v
 refine .join (fun c=>c=true ↔ x ∈ v) (fun k15 hk15=>?_) fun c hc=>.ite (fun h=>?_) fun h=>?_
 ·by_cases hk:(v.takeWhile (ltI · x)).length < v.length
  ·rw [if_pos (by simpa using hk),geti_nat hk,some_bind']
   refine hk15 _ ?_
   rw [hh,List.getElem?_eq_getElem hk]
   simp only [cond_true,beq_iff_eq,Option.some.injEq]
  ·rw [if_neg (by simpa using hk)]
   refine hk15 _ ?_
   rw [hh,List.getElem?_eq_none (by omega)]
   simp
 ·refine hk6 _ ⟨i1,fun y=>?_,by omega⟩
  rw [hmt,i2 y]
  refine ⟨.inl,fun q=>q.elim id fun e=>?_⟩
  rw [e];exact (i2 x).1 (hc.1 h)
 ·have hnx:x ∉ v:=fun q=>h (hc.2 q)
  simp only [Int.toNat_natCast,Int.toNat_zero,List.drop_zero,Nat.sub_zero]
  refine .bind (Ok.chk (by omega)) fun _ _=>.bind (Ok.apnd (by decide) (by simp;omega)) fun _ _=>.bind (Ok.apnd (by decide) (by simp;omega)) fun a ha=>.bind (Ok.chk (by omega)) fun _ _=>.bind (Ok.apnd (by decide) (by rw [ha];simp;omega)) fun b hb=>hk6 _ ?_
  have e:b=insS ltI v x:=by
   have e2:(List.drop (v.takeWhile (ltI · x)).length v).take (v.length - (v.takeWhile (ltI · x)).length)=v.dropWhile (ltI · x):=by
    rw [List.take_of_length_le (by simp),t2]
   rw [hb,ha,e2,t1]
   unfold insS
   simp
  rw [e]
  refine ⟨insS_sorted ltI_tr ltI_tot i1 hnx,fun y=>?_,by rw [insS_len];omega⟩
  rw [insS_mem,hmt,i2]
def srt (l:List Int):List Int:=(ref18_sorted l).getD []
theorem srt_eq {l:List Int} (hl:l.length ≤ 1000000):ref18_sorted l=some (srt l):=by
 obtain ⟨r,h,_⟩:=ref18_sorted_tot hl
 unfold srt;rw [h];rfl
theorem srt_asc {l:List Int} (hl:l.length ≤ 1000000):Asc l (srt l):=by
 obtain ⟨r,h,k⟩:=ref18_sorted_tot hl
 unfold srt;rw [h];exact k
theorem compact_int (l:List Int):slices_Compact_int_int l=compactP (fun a b=>a == b) 0 l:=rfl
theorem sortI_compact {l:List Int} {ρ:Type} {K:List Int→Option ρ} (hl:l.length ≤ 1000000):(Option.bind (sortI l) fun v=>Option.bind (slices_Compact_int_int v) K)=K (srt l):=by
 obtain ⟨r,h,h1,h2⟩:=sortI_tot (l:=l) (by omega)
 rw [h,some_bind',compact_int]
 obtain ⟨c,g,g1,g2⟩:=compactP_ok (lt:=ltI) (e:=fun a b:Int=>a == b) (zz:=0) ltI_irr ltI_tr ltI_tot (fun a b=>beq_iff_eq) (l:=r) h2 (by rw [h1.length_eq];omega)
 rw [g,some_bind',Asc.uniq (l:=l) ⟨g1,fun x=>(g2 x).trans h1.mem_iff⟩ (srt_asc hl)]
def addSeg (p:List Segment) (set:Bool) (l:List Int):List Segment:=
 if set then p ++ [⟨true,srt l⟩] else match p.getLast? with
  | some s=>if s.Set then p ++ [⟨false,l⟩] else p.dropLast ++ [⟨false,s.ASNs ++ l⟩]
  | none=>[⟨false,l⟩]
def rdSeg:Nat→List UInt8→List Segment→Option (List Segment)
 | _,[],p=>some p
 | n + 1,k::c::t,p=>if (k.toNat ≠ 1∧k.toNat ≠ 2) ∨ c.toNat=0 ∨ t.length < 4 * c.toNat then none else rdSeg n (t.drop (4 * c.toNat)) (addSeg p (k.toNat == 1) (nums (t.take (4 * c.toNat))))
 | _,_,_=>none
end Go.AX.Q18
end
section
namespace Go.AX.Q18
open Go Go.AX
set_option maxRecDepth 8000
theorem rdSeg_nil (n:Nat) (p:List Segment):rdSeg n [] p=some p:=by cases n<;>rfl
theorem rdSeg_fuel :∀(n m:Nat) (b:List UInt8) (p:List Segment),b.length ≤ n→b.length ≤ m→rdSeg n b p=rdSeg m b p
 | n,m,[],p,_,_=>by rw [rdSeg_nil,rdSeg_nil]
 | n + 1,m + 1,[x],p,_,_=>rfl
 | n + 1,m + 1,k::c::t,p,h1,h2=>by
  simp only [List.length_cons] at h1 h2
  simp only [rdSeg]
  split
  ·rfl
  ·exact rdSeg_fuel n m _ _ (by simp only [List.length_drop];omega) (by simp only [List.length_drop];omega)
 | 0,_,_::_,_,h,_=>by simp at h
 | _,0,_::_,_,_,h=>by simp at h
def rdL (b:List UInt8) (p:List Segment):Option (List Segment):=rdSeg b.length b p
def badSeg (k c:UInt8) (t:List UInt8):Bool:=decide ((k.toNat ≠ 1∧k.toNat ≠ 2) ∨ c.toNat=0 ∨ t.length < 4 * c.toNat)
theorem rdL_nil (p:List Segment):rdL [] p=some p:=rfl
theorem rdL_cons (k c:UInt8) (t:List UInt8) (p:List Segment):rdL (k::c::t) p=if badSeg k c t=true then none else rdL (t.drop (4 * c.toNat)) (addSeg p (k.toNat == 1) (nums (t.take (4 * c.toNat)))):=by
 unfold rdL badSeg
 simp only [List.length_cons,rdSeg,decide_eq_true_eq]
 split
 ·rfl
 ·exact rdSeg_fuel _ _ _ _ (by simp only [List.length_drop];omega) (by simp only [List.length_drop];omega)
theorem nums_take :∀(j:Nat) (t:List UInt8),4 * (j + 1) ≤ t.length→nums (t.take (4 * (j + 1)))=nums (t.take (4 * j)) ++ [getB ((t.drop (4 * j)).take 4)]
 | 0,t,h=>by
  obtain ⟨a,b,c,d,t,rfl⟩:=four_of (l:=t) (by omega)
  rfl
 | j + 1,t,h=>by
  obtain ⟨a,b,c,d,t,rfl⟩:=four_of (l:=t) (by omega)
  simp only [List.length_cons] at h
  have e1:4 * (j + 1 + 1)=4 * (j + 1) + 1 + 1 + 1 + 1:=by omega
  have e2:4 * (j + 1)=4 * j + 1 + 1 + 1 + 1:=by omega
  have ih:=nums_take j t (by omega)
  rw [e1]
  simp only [List.take_succ_cons,nums_cons]
  rw [ih,e2]
  simp only [List.take_succ_cons,List.drop_succ_cons,nums_cons,List.cons_append]
def Lk (p:List Segment) (i:Nat) (l:List Int):Prop:=p=[] ∨∃q s,p=q ++ [⟨s,l⟩]∧i=q.length
theorem geti_0 {x:UInt8} {t:List UInt8}:geti (x::t) 0=some x:=geti_nat (l:=x::t) (i:=0) (by simp)
theorem geti_1 {x y:UInt8} {t:List UInt8}:geti (x::y::t) 1=some y:=geti_nat (l:=x::y::t) (i:=1) (by simp)
theorem u8_2 (c:UInt8):i64w (2 + i64w (4 * (c.toNat:Int)))=((2 + 4 * c.toNat:Nat):Int):=by
 have:=c.toNat_lt
 rw [i64w_id (x:=4 * (c.toNat:Int)) (by omega),i64w_id (by omega)]
 omega
theorem addSeg_set (p:List Segment) (l:List Int):addSeg p true l=p ++ [⟨true,srt l⟩]:=rfl
theorem addSeg_nil (l:List Int):addSeg [] false l=[⟨false,l⟩]:=rfl
theorem addSeg_afterSet (q:List Segment) (m l:List Int):addSeg (q ++ [⟨true,m⟩]) false l=q ++ [⟨true,m⟩] ++ [⟨false,l⟩]:=by
 unfold addSeg;simp
theorem addSeg_grow (q:List Segment) (m l:List Int):addSeg (q ++ [⟨false,m⟩]) false l=q ++ [⟨false,m ++ l⟩]:=by
 unfold addSeg;simp
theorem srt_len {l:List Int} (hl:l.length ≤ 1000000):(srt l).length ≤ l.length:=by
 obtain ⟨h1,h2⟩:=srt_asc hl
 refine nodup_len (h1.imp fun {a b} h e=>?_) fun x hx=>(h2 x).1 hx
 subst e
 rw [ltI_irr] at h;simp at h
theorem last_ix {α:Type} {q:List α} {x:α} (h:q.length ≤ 1000000000):i64w (((q ++ [x]).length:Int) - 1)=(q.length:Int):=by
 rw [i64w_id (by simp;omega)]
 simp
theorem seti_at {α:Type} (q:List α) (x y:α):seti (q ++ [x]) (q.length:Int) y=some (q ++ [y]):=by
 unfold seti
 rw [if_pos (by simp;omega)]
 simp
theorem bad_ref {k c:UInt8} {t:List UInt8} (hlen:t.length ≤ 1000000) {ρ:Type} (K:Bool→Option ρ) :
  joinP (τ:=Bool) (fun q=>if (decide (((k::c::t).length:Int) < 2))=true then q true else
   Option.bind (geti (k::c::t) 0) fun v9=>
   if ((v9.toNat:Int) != 1)=true then
    Option.bind (geti (k::c::t) 0) fun v10=>
    if (cond false true (cond true ((v10.toNat:Int) != 2) false))=true then q true else
     Option.bind (geti (k::c::t) 1) fun v11=>
     if (cond false true ((v11.toNat:Int) == 0))=true then q true else
      Option.bind (geti (k::c::t) 1) fun v12=>
      q (cond false true (decide (((k::c::t).length:Int) < (i64w (2 + (i64w (4 * (v12.toNat:Int))))))))
   else
    Option.bind (geti (k::c::t) 1) fun v13=>
    if (cond false true ((v13.toNat:Int) == 0))=true then q true else
     Option.bind (geti (k::c::t) 1) fun v14=>
     q (cond false true (decide (((k::c::t).length:Int) < (i64w (2 + (i64w (4 * (v14.toNat:Int))))))))) K=K (badSeg k c t):=by
 rw [joinP_def,if_neg (by simp;omega)]
 simp only [geti_0,geti_1,some_bind',u8_2,cond_true,cond_false]
 unfold badSeg
 have e :∀b:Bool,(bif false then true else b)=b:=fun b=>by cases b<;>rfl
 have e1:((k.toNat:Int) != 1)=decide (k.toNat ≠ 1):=by rw [Bool.eq_iff_iff];simp;omega
 have e2:((k.toNat:Int) != 2)=decide (k.toNat ≠ 2):=by rw [Bool.eq_iff_iff];simp;omega
 have e3:((c.toNat:Int) == 0)=decide (c.toNat=0):=by rw [Bool.eq_iff_iff];simp
 have e4:decide (((k::c::t).length:Int) < ((2 + 4 * c.toNat:Nat):Int))=decide (t.length < 4 * c.toNat):=by rw [Bool.eq_iff_iff];simp only [List.length_cons,decide_eq_true_eq];omega
 rw [e1,e2,e3,e4]
 by_cases h1:k.toNat=1<;>by_cases h2:k.toNat=2<;>by_cases h3:c.toNat=0<;>by_cases h4:t.length < 4 * c.toNat<;>first | (exfalso;omega) | simp [h1,h2,h3,h4]
theorem bad_prog {k c:UInt8} {t:List UInt8} (hlen:t.length ≤ 1000000) {ρ:Type} (K:Bool→Option ρ) :
  joinP (τ:=Bool) (fun q=>if (decide (((k::c::t).length:Int) < 2))=true then q true else
   Option.bind (geti (k::c::t) 0) fun v37=>
   if ((v37.toNat:Int) != 1)=true then
    Option.bind (geti (k::c::t) 0) fun v38=>
    if (cond false true (cond true ((v38.toNat:Int) != 2) false))=true then q true else
     Option.bind (geti (k::c::t) 1) fun v39=>
     if (cond false true (decide (((k::c::t).length:Int) < (i64w (2 + (i64w (4 * (v39.toNat:Int))))))))=true then q true else
      Option.bind (geti (k::c::t) 1) fun v40=>
      q (cond false true ((v40.toNat:Int) == 0))
   else
    Option.bind (geti (k::c::t) 1) fun v41=>
    if (cond false true (decide (((k::c::t).length:Int) < (i64w (2 + (i64w (4 * (v41.toNat:Int))))))))=true then q true else
     Option.bind (geti (k::c::t) 1) fun v42=>
     q (cond false true ((v42.toNat:Int) == 0))) K=K (badSeg k c t):=by
 rw [joinP_def,if_neg (by simp;omega)]
 simp only [geti_0,geti_1,some_bind',u8_2,cond_true,cond_false]
 unfold badSeg
 have e1:((k.toNat:Int) != 1)=decide (k.toNat ≠ 1):=by rw [Bool.eq_iff_iff];simp;omega
 have e2:((k.toNat:Int) != 2)=decide (k.toNat ≠ 2):=by rw [Bool.eq_iff_iff];simp;omega
 have e3:((c.toNat:Int) == 0)=decide (c.toNat=0):=by rw [Bool.eq_iff_iff];simp
 have e4:decide (((k::c::t).length:Int) < ((2 + 4 * c.toNat:Nat):Int))=decide (t.length < 4 * c.toNat):=by rw [Bool.eq_iff_iff];simp only [List.length_cons,decide_eq_true_eq];omega
 rw [e1,e2,e3,e4]
 by_cases h1:k.toNat=1<;>by_cases h2:k.toNat=2<;>by_cases h3:c.toNat=0<;>by_cases h4:t.length < 4 * c.toNat<;>first | (exfalso;omega) | simp [h1,h2,h3,h4]
theorem last_no {p:List Segment} (hp:p.length ≤ 1000000) {ρ:Type} (K:Bool→Option ρ) :
  joinP (τ:=Bool) (fun q=>if (decide ((p.length:Int) > 0))=true then Option.bind (geti p (i64w ((p.length:Int) - 1))) fun v=>q (cond true (!v.Set) false) else q false) K=K (match p.getLast? with | some s=>!s.Set | none=>false):=by
 rcases List.eq_nil_or_concat p with rfl | ⟨q,s,rfl⟩
 ·rfl
 ·rw [List.concat_eq_append] at hp ⊢
  rw [joinP_def,if_pos (by simp),last_ix (by simp at hp;omega),geti_at,some_bind']
  simp
theorem nums_loop {t:List UInt8} {c k:UInt8} {ρ:Type} {K:List Int→Option ρ} (h:4 * c.toNat ≤ t.length) (ht:t.length ≤ 1000000) :
  joinP (τ:=List Int) (fun q=>whileR (fun (next18:Int×List Int→Option ρ) (x:Int×List Int)=>match x with
   | (v19,v20)=>if (decide (v19 < (c.toNat:Int)))=true then
         Option.bind (part (k::c::t) (i64w (2 + (i64w (4 * v19)))) (i64w (6 + (i64w (4 * v19))))) fun v21=>
         Option.bind (ref18_number v21) fun v22=>
         Option.bind (apnd (α:=Int) 8 v20 ([v22]:List Int)) fun v23=>
         next18 ((i64w (v19 + 1)),v23)
        else q v20) fuel (0,[])) K=K (nums (t.take (4 * c.toNat))):=by
 have hc:=c.toNat_lt
 rw [joinP_def]
 refine (whileR_eq (fun s:Int×List Int=>∃j:Nat,s.1=j∧j ≤ c.toNat∧s.2=nums (t.take (4 * j))) (fun s=>(c.toNat - s.1).toNat) (fun _=>K (nums (t.take (4 * c.toNat)))) ?_ fuel (0,[]) ⟨0,rfl,Nat.zero_le _,rfl⟩ (lt_fuel (by simp only;omega))).trans rfl
 rintro next ⟨v,l⟩ ⟨j,h1,h2,h3⟩ hn
 dsimp only at h1 h2 h3
 subst h1 h3
 by_cases hj:j < c.toNat
 ·show (if _ then _ else _)=_
  rw [if_pos (by simpa using hj)]
  have e1:i64w (2 + i64w (4 * (j:Int)))=((2 + 4 * j:Nat):Int):=by rw [i64w_id (x:=4 * (j:Int)) (by omega),i64w_id (by omega)];omega
  have e2:i64w (6 + i64w (4 * (j:Int)))=((6 + 4 * j:Nat):Int):=by rw [i64w_id (x:=4 * (j:Int)) (by omega),i64w_id (by omega)];omega
  have e3:((k::c::t).drop (2 + 4 * j)).take (6 + 4 * j - (2 + 4 * j))=(t.drop (4 * j)).take 4:=by
   rw [show 2 + 4 * j=4 * j + 1 + 1 by omega,List.drop_succ_cons,List.drop_succ_cons]
   congr 1
   omega
  rw [e1,e2,part_nat (by omega) (by simp;omega),some_bind',e3,ref18_number_eq,some_bind',apnd_some (by decide) (by rw [nums_len];simp;omega),some_bind',← nums_take j t (by omega),i64w_id (by omega)]
  exact hn _ ⟨j + 1,by simp,by omega,rfl⟩ (by simp only;omega)
 ·have:j=c.toNat:=by omega
  subst this
  show (if _ then _ else _)=_
  rw [if_neg (by simp)]
theorem part_rest {k c:UInt8} {t:List UInt8} (h:4 * c.toNat ≤ t.length):part (k::c::t) ((2 + 4 * c.toNat:Nat):Int) ((k::c::t).length:Int)=some (t.drop (4 * c.toNat)):=by
 rw [part_nat (by simp;omega) (Nat.le_refl _)]
 rw [show 2 + 4 * c.toNat=4 * c.toNat + 1 + 1 by omega,List.drop_succ_cons,List.drop_succ_cons,List.take_of_length_le (by simp)]
theorem ref18_path_eq {d:List UInt8} (hd:d.length ≤ 1000000):ref18_path d=match rdL d [] with | none=>some ([],false) | some p=>Option.bind (ref15_Valid p) fun v=>some (p,v):=by
 unfold ref18_path
 rw [joinP_def]
 refine (whileR_eq (fun s:List UInt8×List Segment×Nat×List Int=>Lk s.2.1 s.2.2.1 s.2.2.2∧s.1.length + s.2.1.length ≤ 1000000∧s.1.length + s.2.2.2.length ≤ 1000000) (fun s=>s.1.length)
  (fun s=>match rdL s.1 s.2.1 with | none=>some ([],false) | some p=>Option.bind (ref15_Valid p) fun v=>some (p,v)) ?_ fuel (d,[],0,[]) ⟨.inl rfl,by simpa using hd,by simpa using hd⟩ (lt_fuel (by simp only;omega))).trans rfl
 rintro next ⟨b,p,i,l⟩ ⟨h1,h2,h3⟩ hn
 dsimp only at h1 h2 h3 ⊢
 match b,h2,h3,hn with
 | [],_,_,_=>rfl
 | [x],_,_,_=>rfl
 | k::c::t,h2,h3,hn=>
  simp only [List.length_cons] at h2 h3
  rw [if_pos (by simp;omega),rdL_cons,joinP_def,bad_ref (by omega)]
  by_cases hb:badSeg k c t=true
  ·rw [if_pos hb,if_pos hb]
  rw [if_neg hb,if_neg hb]
  have hb':(k.toNat=1 ∨ k.toNat=2)∧1 ≤ c.toNat∧4 * c.toNat ≤ t.length:=by
   simp only [badSeg,decide_eq_true_eq] at hb
   omega
  obtain ⟨b1,b2,b3⟩:=hb'
  have hc:=c.toNat_lt
  rw [geti_1,some_bind',nums_loop b3 (by omega),geti_0,some_bind']
  have hnl:(nums (t.take (4 * c.toNat))).length=c.toNat:=by rw [nums_len,List.length_take];omega
  generalize hm:nums (t.take (4 * c.toNat))=m at *
  have hdl:(t.drop (4 * c.toNat)).length=t.length - 4 * c.toNat:=List.length_drop
  have hrest :∀v41 v42 v43,(Option.bind (some c) fun v44=>Option.bind (part (k::c::t) (i64w (2 + (i64w (4 * (v44.toNat:Int))))) ((k::c::t).length:Int)) fun v45=>next (v45,v41,v42,v43))=next (t.drop (4 * c.toNat),v41,v42,v43):=by
   intro v41 v42 v43
   rw [some_bind',u8_2,part_rest b3,some_bind']
  rw [joinP_def]
  rcases b1 with b1 | b1
  ·rw [if_pos (by rw [b1];rfl),srt_eq (by omega),some_bind',apnd_some (by decide) (by simp;omega),some_bind']
   have e:(k.toNat == 1)=true:=by rw [b1];rfl
   rw [e,addSeg_set]
   have:=srt_len (l:=m) (by omega)
   exact (hrest _ _ _).trans (hn (_,p ++ [⟨true,srt m⟩],_,srt m) ⟨.inr ⟨_,_,rfl,by simp⟩,by simp only [List.length_append,List.length_singleton,hdl];omega,by simp only [hdl];omega⟩ (by simp only [hdl,List.length_cons];omega))
  ·have e:(k.toNat == 1)=false:=by rw [b1];rfl
   rw [if_neg (by rw [b1];decide),last_no (by omega),joinP_def,e]
   rcases h1 with rfl | ⟨q,s,rfl,rfl⟩
   ·rw [if_neg (by simp),apnd_some (by decide) (by simp),some_bind',addSeg_nil]
    exact (hrest _ _ _).trans (hn _ ⟨.inr ⟨[],false,rfl,rfl⟩,by simp only [List.length_append,List.length_singleton,List.length_nil,hdl];omega,by simp only [hdl];omega⟩ (by simp only [hdl,List.length_cons];omega))
   ·simp only [List.length_append,List.length_singleton] at h2
    cases s
    ·rw [if_pos (by simp),last_ix (by omega),geti_at,some_bind']
     rw [Int.toNat_natCast]
     have ck:chk (q.length=q.length)=some ():=by unfold chk;rw [if_pos rfl]
     rw [ck,some_bind',apnd_some (by decide) (by omega),some_bind',some_bind',seti_at,some_bind',addSeg_grow]
     exact (hrest _ _ _).trans (hn (_,q ++ [⟨false,l ++ m⟩],_,l ++ m) ⟨.inr ⟨q,false,rfl,rfl⟩,by simp only [List.length_append,List.length_singleton,hdl];omega,by simp only [hdl,List.length_append];omega⟩ (by simp only [hdl,List.length_cons];omega))
    ·rw [if_neg (by simp),apnd_some (by decide) (by simp;omega),some_bind',addSeg_afterSet]
     exact (hrest _ _ _).trans (hn (_,q ++ [⟨true,l⟩] ++ [⟨false,m⟩],_,m) ⟨.inr ⟨q ++ [⟨true,l⟩],false,rfl,by simp⟩,by simp only [List.length_append,List.length_singleton,hdl];omega,by simp only [hdl];omega⟩ (by simp only [hdl,List.length_cons];omega))
end Go.AX.Q18
end
section
namespace Go.AX
set_option maxRecDepth 8000
section
variable {α ρ:Type}
def chainB (lt:α→α→Bool):List α→Bool
 | x::y::t=>lt x y && chainB lt (y::t)
 | _=>true
theorem chainB_cons (lt:α→α→Bool) (x y:α) (t:List α):chainB lt (x::y::t)=(lt x y && chainB lt (y::t)):=rfl
theorem chainB_one (lt:α→α→Bool) (x:α):chainB lt [x]=true:=rfl
theorem chainB_pw {lt:α→α→Bool} (htr :∀a b c,lt a b=true→lt b c=true→lt a c=true) :∀{l:List α},chainB lt l=true ↔ l.Pairwise fun a b=>lt a b=true
 | []=>by simp [chainB]
 | [x]=>by simp [chainB]
 | x::y::t=>by
  rw [chainB_cons,Bool.and_eq_true,chainB_pw htr (l:=y::t),List.pairwise_cons (a:=x)]
  constructor
  ·rintro ⟨h1,h2⟩
   refine ⟨fun z hz=>?_,h2⟩
   rcases List.mem_cons.1 hz with e | hz
   ·rw [e];exact h1
   ·exact htr _ _ _ h1 ((List.pairwise_cons.1 h2).1 z hz)
  ·rintro ⟨h1,h2⟩
   exact ⟨h1 y (by simp),h2⟩
theorem adjR {ok:α→Bool} {lt:α→α→Bool} {l:List α} {K:Unit→Option ρ} {F:Option ρ} {body:(Unit→Option ρ)→α→Nat→Unit→Option ρ} (hl:l.length ≤ 1000000000000)
  (h0 :∀next x,x ∈ l→body next x 0 ()=if ok x then next () else F)
  (h1 :∀next x y i,x ∈ l→y ∈ l→geti l (i64w (((i + 1:Nat):Int) - 1))=some y→body next x (i + 1) ()=if ok x && lt y x then next () else F) :
  forR K body l 0 ()=if l.all ok && chainB lt l then K () else F:=by
 have key :∀(t p:List α) (y:α),l=p ++ y::t→forR K body t (p.length + 1) ()=if t.all ok && chainB lt (y::t) then K () else F:=by
  intro t
  induction t with
  | nil=>intro p y _;rw [chainB_one];rfl
  | cons x t ih=>
   intro p y e
   show body (fun s=>forR K body t (p.length + 1 + 1) s) x (p.length + 1) ()=_
   have hlen:p.length < l.length:=by rw [e];simp
   rw [h1 _ x y p.length (by rw [e];simp) (by rw [e];simp) (by
    rw [i64w_id (by omega),show ((p.length + 1:Nat):Int) - 1=(p.length:Int) by omega,e]
    exact geti_at p y (x::t))]
   have:=ih (p ++ [y]) x (by rw [e];simp)
   rw [List.length_append,List.length_singleton] at this
   rw [this,chainB_cons,List.all_cons]
   generalize chainB lt (x::t)=c1
   generalize t.all ok=c2
   cases ok x<;>cases lt y x<;>cases c1<;>cases c2<;>rfl
 match l,h0,h1,key with
 | [],_,_,_=>rfl
 | x::t,h0,_,key=>
  show body (fun s=>forR K body t (0 + 1) s) x 0 ()=_
  rw [h0 _ x (by simp)]
  have:=key t [] x rfl
  rw [List.length_nil] at this
  rw [this,List.all_cons]
  generalize chainB lt (x::t)=c1
  generalize t.all ok=c2
  cases ok x<;>cases c1<;>cases c2<;>rfl
theorem adjRS {σ:Type} {g:σ→α→σ} {ok:α→Bool} {lt:α→α→Bool} {l:List α} {s0:σ} {K:σ→Option ρ} {F:Option ρ} {body:(σ→Option ρ)→α→Nat→σ→Option ρ} (hl:l.length ≤ 1000000000000)
  (h0 :∀next x s,x ∈ l→body next x 0 s=if ok x then next (g s x) else F)
  (h1 :∀next x y i s,x ∈ l→y ∈ l→geti l (i64w (((i + 1:Nat):Int) - 1))=some y→body next x (i + 1) s=if ok x && lt y x then next (g s x) else F) :
  forR K body l 0 s0=if l.all ok && chainB lt l then K (l.foldl g s0) else F:=by
 have key :∀(t p:List α) (y:α) (s:σ),l=p ++ y::t→forR K body t (p.length + 1) s=if t.all ok && chainB lt (y::t) then K (t.foldl g s) else F:=by
  intro t
  induction t with
  | nil=>intro p y s _;rw [chainB_one];rfl
  | cons x t ih=>
   intro p y s e
   show body (fun s=>forR K body t (p.length + 1 + 1) s) x (p.length + 1) s=_
   have hlen:p.length < l.length:=by rw [e];simp
   rw [h1 _ x y p.length s (by rw [e];simp) (by rw [e];simp) (by
    rw [i64w_id (by omega),show ((p.length + 1:Nat):Int) - 1=(p.length:Int) by omega,e]
    exact geti_at p y (x::t))]
   have:=ih (p ++ [y]) x (g s x) (by rw [e];simp)
   rw [List.length_append,List.length_singleton] at this
   rw [this,chainB_cons,List.all_cons,List.foldl_cons]
   generalize chainB lt (x::t)=c1
   generalize t.all ok=c2
   cases ok x<;>cases lt y x<;>cases c1<;>cases c2<;>rfl
 match l,h0,h1,key with
 | [],_,_,_=>rfl
 | x::t,h0,_,key=>
  show body (fun s=>forR K body t (0 + 1) s) x 0 s0=_
  rw [h0 _ x s0 (by simp)]
  have:=key t [] x (g s0 x) rfl
  rw [List.length_nil] at this
  rw [this,List.all_cons,List.foldl_cons]
  generalize chainB lt (x::t)=c1
  generalize t.all ok=c2
  cases ok x<;>cases c1<;>cases c2<;>rfl
theorem appR {β:Type} {g:β→List α} {N:Nat} {body:(List α→Option ρ)→β→Nat→List α→Option ρ} {K:List α→Option ρ} :∀{l:List β} {i:Nat} {v:List α},v.length + (l.flatMap g).length ≤ N→
  (∀next x i v,x ∈ l→v.length + (g x).length ≤ N→body next x i v=next (v ++ g x))→forR K body l i v=K (v ++ l.flatMap g)
 | [],i,v,_,_=>by rw [List.flatMap_nil,List.append_nil];rfl
 | x::t,i,v,h,hb=>by
  rw [List.flatMap_cons,List.length_append] at h
  show body (fun s=>forR K body t (i + 1) s) x i v=_
  rw [hb _ x i v (by simp) (by omega),appR (l:=t) (by rw [List.length_append];omega) fun next y j w hy hw=>hb next y j w (List.mem_cons_of_mem _ hy) hw,List.flatMap_cons,List.append_assoc]
def canon (e lt:α→α→Bool) (l:List α):List α:=l.foldl (fun acc x=>if acc.any (fun y=>e y x) then acc else insS lt acc x) []
theorem canon_snoc (e lt:α→α→Bool) (l:List α) (x:α):canon e lt (l ++ [x])=if (canon e lt l).any (fun y=>e y x) then canon e lt l else insS lt (canon e lt l) x:=by
 unfold canon
 rw [List.foldl_append]
 rfl
theorem canon_spec {e lt:α→α→Bool} (he :∀a b,e a b=true ↔ a=b) (htr :∀a b c,lt a b=true→lt b c=true→lt a c=true) (htot :∀a b,lt a b=false→a=b ∨ lt b a=true) (l:List α) :
  (canon e lt l).Pairwise (fun a b=>lt a b=true)∧(∀x,x ∈ canon e lt l ↔ x ∈ l)∧(canon e lt l).length ≤ l.length:=by
 rw [← List.reverse_reverse l]
 generalize l.reverse=m
 induction m with
 | nil=>exact ⟨.nil,by simp [canon],by simp [canon]⟩
 | cons x t ih=>
  obtain ⟨h1,h2,h3⟩:=ih
  rw [List.reverse_cons,canon_snoc]
  by_cases hx:(canon e lt t.reverse).any (fun y=>e y x)=true
  ·rw [if_pos hx]
   obtain ⟨y,hy,hyx⟩:=List.any_eq_true.1 hx
   have:=(he _ _).1 hyx
   subst this
   refine ⟨h1,fun z=>?_,by simp only [List.length_append];omega⟩
   rw [List.mem_append,h2 z,List.mem_singleton]
   refine ⟨.inl,fun q=>q.elim id fun e=>?_⟩
   rw [e];exact (h2 _).1 hy
  ·rw [if_neg hx]
   have hx:x ∉ canon e lt t.reverse:=fun q=>hx (List.any_eq_true.2 ⟨x,q,(he _ _).2 rfl⟩)
   refine ⟨insS_sorted htr htot h1 hx,fun z=>?_,by rw [insS_len];simp only [List.length_append,List.length_singleton];omega⟩
   rw [insS_mem,List.mem_append,h2 z,List.mem_singleton]
theorem canon_uniq {e lt:α→α→Bool} (he :∀a b,e a b=true ↔ a=b) (hirr :∀a,lt a a=false) (htr :∀a b c,lt a b=true→lt b c=true→lt a c=true) (htot :∀a b,lt a b=false→a=b ∨ lt b a=true)
  {l r:List α} (h1:r.Pairwise fun a b=>lt a b=true) (h2 :∀x,x ∈ r ↔ x ∈ l):r=canon e lt l:=by
 obtain ⟨g1,g2,_⟩:=canon_spec he htr htot l
 exact sorted_ext (lt:=fun a b=>lt a b=true) (fun a h=>by rw [hirr] at h;simp at h) htr h1 g1 fun x=>(h2 x).trans (g2 x).symm
end
end Go.AX
end
section
namespace Go.AX.Q18
open Go Go.AX
set_option maxRecDepth 8000
theorem cmpI_eq (a b:Int):cmp_Compare_int a b=some (cmpI a b):=by
 unfold cmp_Compare_int cmp_isNaN_int cmpI
 simp only [some_bind',bne_self_eq_false,Bool.false_eq_true,if_false,decide_eq_true_eq,gt_iff_lt]
 split<;>(try split)<;>rfl
theorem orI_eq (l:List Int):cmp_Or_int l=some (orI l):=by
 unfold cmp_Or_int
 rw [joinP_def]
 have key :∀(l:List Int) (i:Nat),forR (σ:=Unit) (fun _=>some (0:Int)) (fun next x _ _=>if (x != 0)=true then some x else next ()) l i ()=some (orI l):=by
  intro l
  induction l with
  | nil=>intro i;rfl
  | cons x t ih=>
   intro i
   show (if (x != 0)=true then some x else forR _ _ t (i + 1) ())=_
   rw [ih]
   rw [orI_cons]
   by_cases h:x=0<;>simp [h]
 exact key l 0
def keyC (c:Community):List Int:=[c.A,c.B]
def keyL (c:Large):List Int:=[c.A,c.B,c.C]
theorem keyC_len (a b:Community):(keyC a).length=(keyC b).length:=rfl
theorem keyL_len (a b:Large):(keyL a).length=(keyL b).length:=rfl
theorem keyC_inj {a b:Community} (h:keyC a=keyC b):a=b:=by
 simp only [keyC,List.cons.injEq,and_true] at h
 cases a;cases b;simp_all
theorem keyL_inj {a b:Large} (h:keyL a=keyL b):a=b:=by
 simp only [keyL,List.cons.injEq,and_true] at h
 cases a;cases b;simp_all
def ltC2:Community→Community→Bool:=ltK keyC
def ltC3:Large→Large→Bool:=ltK keyL
theorem ltC2_irr (a:Community):ltC2 a a=false:=ltK_irr a
theorem ltC3_irr (a:Large):ltC3 a a=false:=ltK_irr a
theorem ltC2_tr (a b c:Community) (h1:ltC2 a b=true) (h2:ltC2 b c=true):ltC2 a c=true:=ltK_tr keyC_len a b c h1 h2
theorem ltC3_tr (a b c:Large) (h1:ltC3 a b=true) (h2:ltC3 b c=true):ltC3 a c=true:=ltK_tr keyL_len a b c h1 h2
theorem ltC2_tot (a b:Community) (h:ltC2 a b=false):a=b ∨ ltC2 b a=true:=(ltK_tot keyC_len a b h).imp_left keyC_inj
theorem ltC3_tot (a b:Large) (h:ltC3 a b=false):a=b ∨ ltC3 b a=true:=(ltK_tot keyL_len a b h).imp_left keyL_inj
theorem eqdC (a b:Community):Community.eqd a b=true ↔ a=b:=by
 unfold Community.eqd
 simp only [Bool.and_eq_true,Bool.and_true,beq_iff_eq]
 constructor
 ·rintro ⟨h1,h2⟩;cases a;cases b;simp_all
 ·rintro rfl;exact ⟨rfl,rfl⟩
theorem eqdL (a b:Large):Large.eqd a b=true ↔ a=b:=by
 unfold Large.eqd
 simp only [Bool.and_eq_true,Bool.and_true,beq_iff_eq]
 constructor
 ·rintro ⟨h1,h2,h3⟩;cases a;cases b;simp_all
 ·rintro rfl;exact ⟨rfl,rfl,rfl⟩
theorem compC_eq (a b:Community):community_compare a b=some (lexC (keyC a) (keyC b)):=by
 unfold community_compare
 rw [cmpI_eq,some_bind',cmpI_eq,some_bind',orI_eq,some_bind',orI_cmp,orI_cmp]
 rfl
theorem compL_eq (a b:Large):community_compareLarge a b=some (lexC (keyL a) (keyL b)):=by
 unfold community_compareLarge
 rw [cmpI_eq,some_bind',cmpI_eq,some_bind',cmpI_eq,some_bind',orI_eq,some_bind',orI_cmp,orI_cmp,orI_cmp]
 rfl
theorem compC1_eq (a b:Community):attribute_readCommunities_1 a b=some (lexC (keyC a) (keyC b)):=compC_eq a b
theorem compL1_eq (a b:Large):attribute_readLarge_1 a b=some (lexC (keyL a) (keyL b)):=compL_eq a b
theorem lessC_eq (a b:Community):ref17_less a b=some (ltC2 a b):=by
 unfold ref17_less ltC2 ltK keyC
 rw [joinP_def]
 simp only [lexC,decide_eq_true_eq,beq_iff_eq,cond_true,cond_false]
 by_cases a1:a.A < b.A<;>by_cases a2:a.A=b.A<;>by_cases a3:b.A < a.A<;>by_cases b1:a.B < b.B<;>by_cases b3:b.B < a.B<;>first | (exfalso;omega) | simp [a1,a2,a3,b1,b3]
theorem lessL_eq (a b:Large):ref17_lessLarge a b=some (ltC3 a b):=by
 unfold ref17_lessLarge ltC3 ltK keyL
 simp only [joinP_def]
 simp only [lexC,decide_eq_true_eq,beq_iff_eq,cond_true,cond_false]
 by_cases a1:a.A < b.A<;>by_cases a2:a.A=b.A<;>by_cases a3:b.A < a.A<;>by_cases b1:a.B < b.B<;>by_cases b2:a.B=b.B<;>by_cases b3:b.B < a.B<;>by_cases c1:a.C < b.C<;>by_cases c3:b.C < a.C<;>first | (exfalso;omega) | simp [a1,a2,a3,b1,b2,b3,c1,c3]
def inR (m x:Int):Bool:=decide (0 ≤ x) && decide (x ≤ m)
def okC (c:Community):Bool:=inR 65535 c.A && inR 65535 c.B
def okL (c:Large):Bool:=inR 4294967295 c.A && (inR 4294967295 c.B && inR 4294967295 c.C)
theorem rightC_eq (c:Community):ref17_right c=some (okC c):=by
 unfold ref17_right okC inR
 rw [joinP_def]
 simp only [decide_eq_true_eq,cond_true,ge_iff_le]
 by_cases a1:0 ≤ c.A<;>by_cases a2:c.A ≤ 65535<;>by_cases a3:0 ≤ c.B<;>by_cases a4:c.B ≤ 65535<;>simp [a1,a2,a3,a4]
theorem rightL_eq (c:Large):ref17_rightLarge c=some (okL c):=by
 unfold ref17_rightLarge okL inR
 rw [joinP_def]
 simp only [decide_eq_true_eq,cond_true,ge_iff_le]
 by_cases a1:0 ≤ c.A<;>by_cases a2:c.A ≤ 4294967295<;>by_cases a3:0 ≤ c.B<;>by_cases a4:c.B ≤ 4294967295<;>by_cases a5:0 ≤ c.C<;>by_cases a6:c.C ≤ 4294967295<;>simp [a1,a2,a3,a4,a5,a6]
theorem mmR {g:Int→Int→Int} {x:Int} {t:List Int} (hl:t.length ≤ 1000000000) :
  joinP (τ:=Int) (fun k2=>whileR (σ:=Int×Int) (fun next3 p=>match p with
   | (v4,v5)=>if (decide (v5 < ((x::t).length:Int)))=true then Option.bind (geti (x::t) v5) fun v6=>next3 (g v4 v6,(i64w (v5 + 1))) else k2 v4) fuel (x,1)) (fun v=>some v)=some (t.foldl g x):=by
 rw [joinP_def]
 refine (whileR_eq (fun s:Int×Int=>∃j:Nat,s.2=(j + 1:Nat)∧j ≤ t.length) (fun s=>((x::t).length - s.2).toNat) (fun s=>some ((t.drop (s.2.toNat - 1)).foldl g s.1)) ?_ fuel (x,1) ⟨0,rfl,Nat.zero_le _⟩ (lt_fuel (by simp;omega))).trans rfl
 rintro next ⟨m,i⟩ ⟨j,h1,h2⟩ hn
 dsimp only at h1
 subst h1
 dsimp only
 have e1:((j + 1:Nat):Int).toNat - 1=j:=by omega
 rw [e1]
 by_cases hj:j < t.length
 ·rw [if_pos (by simp only [List.length_cons,decide_eq_true_eq];omega),geti_nat (by simp;omega),some_bind',i64w_id (by omega)]
  rw [hn _ ⟨j + 1,by simp,by omega⟩ (by simp only [List.length_cons];omega)]
  have e2:(((j + 1:Nat):Int) + 1).toNat - 1=j + 1:=by omega
  simp only [e2,List.getElem_cons_succ]
  rw [List.drop_eq_getElem_cons hj,List.foldl_cons]
 ·rw [if_neg (by simp only [List.length_cons,decide_eq_true_eq];omega),List.drop_eq_nil_of_le (by omega)]
  rfl
def mn (a b:Int):Int:=if b < a then b else a
def mx (a b:Int):Int:=if b > a then b else a
theorem min_eq {x:Int} {t:List Int} (hl:t.length ≤ 1000000000):slices_Min_int_int (x::t)=some (t.foldl mn x):=by
 unfold slices_Min_int_int
 rw [if_neg (by simp;omega),show geti (x::t) 0=some x from geti_nat (l:=x::t) (i:=0) (by simp),some_bind']
 exact mmR (g:=mn) hl
theorem max_eq {x:Int} {t:List Int} (hl:t.length ≤ 1000000000):slices_Max_int_int (x::t)=some (t.foldl mx x):=by
 unfold slices_Max_int_int
 rw [if_neg (by simp;omega),show geti (x::t) 0=some x from geti_nat (l:=x::t) (i:=0) (by simp),some_bind']
 exact mmR (g:=mx) hl
theorem mn_all (n:Int) :∀(t:List Int) (x:Int),decide (n ≤ t.foldl mn x)=(x::t).all fun y=>decide (n ≤ y)
 | [],x=>by rw [List.all_cons,List.all_nil,Bool.and_true];rfl
 | y::t,x=>by
  rw [List.foldl_cons,mn_all n t (mn x y)]
  simp only [List.all_cons]
  unfold mn
  rw [Bool.eq_iff_iff]
  simp only [Bool.and_eq_true,decide_eq_true_eq]
  constructor
  ·rintro ⟨h1,h2⟩;split at h1<;>exact ⟨by omega,by omega,h2⟩
  ·rintro ⟨h1,h2,h3⟩;split<;>exact ⟨by omega,h3⟩
theorem mx_all (n:Int) :∀(t:List Int) (x:Int),decide (t.foldl mx x ≤ n)=(x::t).all fun y=>decide (y ≤ n)
 | [],x=>by rw [List.all_cons,List.all_nil,Bool.and_true];rfl
 | y::t,x=>by
  rw [List.foldl_cons,mx_all n t (mx x y)]
  simp only [List.all_cons]
  unfold mx
  rw [Bool.eq_iff_iff]
  simp only [Bool.and_eq_true,decide_eq_true_eq]
  constructor
  ·rintro ⟨h1,h2⟩;split at h1<;>exact ⟨by omega,by omega,h2⟩
  ·rintro ⟨h1,h2,h3⟩;split<;>exact ⟨by omega,h3⟩
theorem cwithin_eq {m x:Int} {t:List Int} (hl:t.length ≤ 1000000000):community_within m (x::t)=some ((x::t).all (inR m)):=by
 unfold community_within
 rw [joinP_def,min_eq hl,some_bind',max_eq hl]
 have e:(x::t).all (inR m)=(decide (0 ≤ t.foldl mn x) && decide (t.foldl mx x ≤ m)):=by
  rw [mn_all,mx_all,Bool.eq_iff_iff,Bool.and_eq_true]
  simp only [List.all_eq_true,inR,Bool.and_eq_true]
  exact ⟨fun h=>⟨fun y hy=>(h y hy).1,fun y hy=>(h y hy).2⟩,fun h y hy=>⟨h.1 y hy,h.2 y hy⟩⟩
 rw [e]
 by_cases h:0 ≤ t.foldl mn x
 ·rw [if_pos (by simpa using h),some_bind',decide_eq_true h];rfl
 ·rw [if_neg (by simpa using h),decide_eq_false h];rfl
theorem fitsC_eq (c:Community):community_fits c=some (okC c):=by
 unfold community_fits
 rw [cwithin_eq (by simp),some_bind']
 simp [okC]
theorem fitsL_eq (c:Large):community_fitsLarge c=some (okL c):=by
 unfold community_fitsLarge
 rw [cwithin_eq (by simp),some_bind']
 simp [okL]
def validC (l:List Community):Bool:=l.all okC && chainB ltC2 l && decide (l.length ≤ 64)
def validL (l:List Large):Bool:=l.all okL && chainB ltC3 l && decide (l.length ≤ 64)
theorem ge_lt {X:Type} {key:X→List Int} (a b:X):decide (lexC (key a) (key b) ≥ 0)=!ltK key a b:=by
 unfold ltK
 rw [Bool.eq_iff_iff]
 simp
theorem adjV {α:Type} {ok:α→Bool} {lt:α→α→Bool} {l:List α} (hl:l.length ≤ 1000000000) {body:(Unit→Option Bool)→α→Nat→Unit→Option Bool}
  (h :∀next x i,body next x i ()=joinP (τ:=Bool) (fun k5=>Option.bind (some (ok x)) fun v6=>if (!v6)=true then k5 true else if (decide ((i:Int) > 0))=true then Option.bind (geti l (i64w ((i:Int) - 1))) fun v7=>Option.bind (some (lt v7 x)) fun v8=>k5 (cond false true (cond true (!v8) false)) else k5 false) fun v9=>if v9=true then some false else next ()) :
  (joinP (τ:=Unit) (fun k1=>forR (σ:=Unit) (fun _=>k1 ()) body l 0 ()) fun _=>some (decide ((l.length:Int) ≤ 64)))=some (l.all ok && chainB lt l && decide (l.length ≤ 64)):=by
 rw [joinP_def,adjR (ok:=ok) (lt:=lt) (F:=some false) (by omega)]
 ·have e:decide ((l.length:Int) ≤ 64)=decide (l.length ≤ 64):=by rw [Bool.eq_iff_iff];simp;omega
  rw [e]
  generalize (l.all ok && chainB lt l)=b
  cases b<;>rfl
 ·intro next x _
  rw [h,joinP_def,some_bind']
  cases ok x<;>rfl
 ·intro next x y i _ _ hg
  rw [h,joinP_def,some_bind',hg,some_bind',some_bind',if_pos (show decide (((i + 1:Nat):Int) > 0)=true by simp)]
  cases ok x<;>cases lt y x<;>rfl
theorem ref17_Valid_eq {l:List Community} (hl:l.length ≤ 1000000000):ref17_Valid l=some (validC l):=by
 unfold ref17_Valid validC
 exact adjV hl fun next x i=>by simp only [rightC_eq,lessC_eq]
theorem ref17_ValidLarge_eq {l:List Large} (hl:l.length ≤ 1000000000):ref17_ValidLarge l=some (validL l):=by
 unfold ref17_ValidLarge validL
 exact adjV hl fun next x i=>by simp only [rightL_eq,lessL_eq]
theorem community_Valid_eq {l:List Community} (hl:l.length ≤ 1000000000):community_Valid l=some (validC l):=by
 unfold community_Valid community_ascends_api_Community__community_fits__community_compare validC
 rw [adjV (ok:=okC) (lt:=ltC2) hl fun next x i=>by simp only [fitsC_eq,compC_eq,some_bind',ge_lt];rfl]
 rfl
theorem community_ValidLarge_eq {l:List Large} (hl:l.length ≤ 1000000000):community_ValidLarge l=some (validL l):=by
 unfold community_ValidLarge community_ascends_api_Large__community_fitsLarge__community_compareLarge validL
 rw [adjV (ok:=okL) (lt:=ltC3) hl fun next x i=>by simp only [fitsL_eq,compL_eq,some_bind',ge_lt];rfl]
 rfl
theorem validC_iff {l:List Community}:validC l=true ↔ (∀c ∈ l,okC c=true)∧(l.Pairwise fun a b=>ltC2 a b=true)∧l.length ≤ 64:=by
 unfold validC
 rw [Bool.and_eq_true,Bool.and_eq_true,chainB_pw ltC2_tr,List.all_eq_true,decide_eq_true_eq,and_assoc]
theorem validL_iff {l:List Large}:validL l=true ↔ (∀c ∈ l,okL c=true)∧(l.Pairwise fun a b=>ltC3 a b=true)∧l.length ≤ 64:=by
 unfold validL
 rw [Bool.and_eq_true,Bool.and_eq_true,chainB_pw ltC3_tr,List.all_eq_true,decide_eq_true_eq,and_assoc]
end Go.AX.Q18
end
section
namespace Go.AX.Q18
open Go Go.AX
set_option maxRecDepth 8000
theorem hasR {α:Type} {e:α→α→Bool} {x:α} :∀(l:List α) (i:Nat),forR (σ:=Unit) (fun _=>some false) (fun (next:Unit→Option Bool) (y:α) _ _=>if e y x=true then some true else next ()) l i ()=some (l.any fun y=>e y x)
 | [],_=>rfl
 | y::t,i=>by
  show (if e y x=true then some true else forR _ _ t (i + 1) ())=_
  rw [hasR t (i + 1),List.any_cons]
  cases e y x<;>rfl
theorem ref17_Has_eq (l:List Community) (c:Community):ref17_Has l c=some (l.any fun y=>Community.eqd y c):=by
 unfold ref17_Has
 rw [joinP_def]
 exact hasR l 0
theorem ref17_HasLarge_eq (l:List Large) (c:Large):ref17_HasLarge l c=some (l.any fun y=>Large.eqd y c):=by
 unfold ref17_HasLarge
 rw [joinP_def]
 exact hasR l 0
theorem part_pre {α:Type} {l:List α} {n:Nat} (h:n ≤ l.length):part l 0 (n:Int)=some (l.take n):=by
 have:=part_nat (l:=l) (a:=0) (b:=n) (by omega) h
 simpa using this
theorem part_suf {α:Type} {l:List α} {n:Nat} (h:n ≤ l.length):part l (n:Int) (l.length:Int)=some (l.drop n):=by
 rw [part_nat h (Nat.le_refl _),List.take_of_length_le (by simp)]
theorem ins_part {α:Type} {b:Nat} {lt:α→α→Bool} {l:List α} {x:α} (hb:Nat.ble b 65536=true) (hl:l.length + 1 ≤ 1000000000) {ρ:Type} {K:List α→Option ρ} :
  (Option.bind (part l 0 ((l.takeWhile (lt · x)).length:Int)) fun v14=>Option.bind (apnd (α:=α) b [] v14) fun _=>Option.bind (apnd (α:=α) b v14 ([x]:List α)) fun v15=>Option.bind (part l ((l.takeWhile (lt · x)).length:Int) (l.length:Int)) fun v16=>Option.bind (apnd (α:=α) b v15 v16) K)=K (insS lt l x):=by
 have ht:=takeWhile_len_le (lt · x) l
 obtain ⟨h1,h2⟩:=takeWhile_take (lt · x) l
 rw [part_pre (by omega),some_bind',apnd_some hb (by simp;omega),some_bind',apnd_some hb (by simp;omega),some_bind',part_suf (by omega),some_bind',apnd_some hb (by simp;omega),some_bind',h1,h2]
 unfold insS
 simp
def canC:List Community→List Community:=canon Community.eqd ltC2
def canL:List Large→List Large:=canon Large.eqd ltC3
theorem ref17_Add_eq {l:List Community} {c:Community} (hv:validC l=true) (hc:okC c=true) (hl:l.length < 64):ref17_Add l c=some (if l.any (fun y=>Community.eqd y c)=true then l else insS ltC2 l c,0):=by
 unfold ref17_Add
 rw [joinP_def,ref17_Valid_eq (by omega),some_bind',hv,if_neg (by decide),rightC_eq,some_bind',hc]
 show (if (bif false then true else !true)=true then _ else _)=_
 rw [if_neg (by decide),ref17_Has_eq,some_bind']
 by_cases h:(l.any fun y=>Community.eqd y c)=true
 ·rw [if_pos h,if_pos h,apnd_some (by decide) (by simp;omega),some_bind']
 ·rw [if_neg h,if_neg h,if_neg (by simp;omega)]
  rw [posR (p:=(ltC2 · c)) (fun y k9=>Option.bind (ref17_less y c) fun v11=>k9 (cond true v11 false)) (by omega) (fun y _ k=>by rw [lessC_eq];rfl)]
  exact ins_part (K:=fun v17=>some (v17,0)) (by decide) (by omega)
theorem ref17_AddLarge_eq {l:List Large} {c:Large} (hv:validL l=true) (hc:okL c=true) (hl:l.length < 64):ref17_AddLarge l c=some (if l.any (fun y=>Large.eqd y c)=true then l else insS ltC3 l c,0):=by
 unfold ref17_AddLarge
 rw [joinP_def,ref17_ValidLarge_eq (by omega),some_bind',hv,if_neg (by decide),rightL_eq,some_bind',hc]
 show (if (bif false then true else !true)=true then _ else _)=_
 rw [if_neg (by decide),ref17_HasLarge_eq,some_bind']
 by_cases h:(l.any fun y=>Large.eqd y c)=true
 ·rw [if_pos h,if_pos h,apnd_some (by decide) (by simp;omega),some_bind']
 ·rw [if_neg h,if_neg h,if_neg (by simp;omega)]
  rw [posR (p:=(ltC3 · c)) (fun y k9=>Option.bind (ref17_lessLarge y c) fun v11=>k9 (cond true v11 false)) (by omega) (fun y _ k=>by rw [lessL_eq];rfl)]
  exact ins_part (K:=fun v17=>some (v17,0)) (by decide) (by omega)
theorem canC_spec (l:List Community):(canC l).Pairwise (fun a b=>ltC2 a b=true)∧(∀x,x ∈ canC l ↔ x ∈ l)∧(canC l).length ≤ l.length:=canon_spec eqdC ltC2_tr ltC2_tot l
theorem canL_spec (l:List Large):(canL l).Pairwise (fun a b=>ltC3 a b=true)∧(∀x,x ∈ canL l ↔ x ∈ l)∧(canL l).length ≤ l.length:=canon_spec eqdL ltC3_tr ltC3_tot l
theorem canC_valid {l:List Community} (h :∀c ∈ l,okC c=true) (hl:l.length ≤ 64):validC (canC l)=true:=by
 obtain ⟨h1,h2,h3⟩:=canC_spec l
 exact validC_iff.2 ⟨fun c hc=>h c ((h2 c).1 hc),h1,by omega⟩
theorem canL_valid {l:List Large} (h :∀c ∈ l,okL c=true) (hl:l.length ≤ 64):validL (canL l)=true:=by
 obtain ⟨h1,h2,h3⟩:=canL_spec l
 exact validL_iff.2 ⟨fun c hc=>h c ((h2 c).1 hc),h1,by omega⟩
theorem canC_snoc (l:List Community) (c:Community):canC (l ++ [c])=if (canC l).any (fun y=>Community.eqd y c)=true then canC l else insS ltC2 (canC l) c:=canon_snoc _ _ _ _
theorem canL_snoc (l:List Large) (c:Large):canL (l ++ [c])=if (canL l).any (fun y=>Large.eqd y c)=true then canL l else insS ltC3 (canL l) c:=canon_snoc _ _ _ _
theorem sortC_compact {l:List Community} (hl:l.length ≤ 1000000) {ρ:Type} {K:List Community→Option ρ}:(Option.bind (sortF attribute_readCommunities_1 l) fun v=>Option.bind (slices_Compact_api_Community_api_Community v) K)=K (canC l):=by
 obtain ⟨r,h,h1,h2⟩:=sortF_K keyC_len compC1_eq (l:=l) (by omega)
 rw [h,some_bind']
 obtain ⟨c,g,g1,g2⟩:=compactP_ok (lt:=ltC2) (e:=Community.eqd) (zz:=⟨0,0⟩) ltC2_irr ltC2_tr ltC2_tot eqdC (l:=r) h2 (by rw [h1.length_eq];omega)
 have e:slices_Compact_api_Community_api_Community r=compactP Community.eqd ⟨0,0⟩ r:=rfl
 rw [e,g,some_bind',canon_uniq (l:=l) eqdC ltC2_irr ltC2_tr ltC2_tot g1 fun x=>(g2 x).trans h1.mem_iff]
 rfl
theorem sortL_compact {l:List Large} (hl:l.length ≤ 1000000) {ρ:Type} {K:List Large→Option ρ}:(Option.bind (sortF attribute_readLarge_1 l) fun v=>Option.bind (slices_Compact_api_Large_api_Large v) K)=K (canL l):=by
 obtain ⟨r,h,h1,h2⟩:=sortF_K keyL_len compL1_eq (l:=l) (by omega)
 rw [h,some_bind']
 obtain ⟨c,g,g1,g2⟩:=compactP_ok (lt:=ltC3) (e:=Large.eqd) (zz:=⟨0,0,0⟩) ltC3_irr ltC3_tr ltC3_tot eqdL (l:=r) h2 (by rw [h1.length_eq];omega)
 have e:slices_Compact_api_Large_api_Large r=compactP Large.eqd ⟨0,0,0⟩ r:=rfl
 rw [e,g,some_bind',canon_uniq (l:=l) eqdL ltC3_irr ltC3_tr ltC3_tot g1 fun x=>(g2 x).trans h1.mem_iff]
 rfl
def comms:List UInt8→List Community
 | a::b::c::d::t=>⟨getB [a,b],getB [c,d]⟩::comms t
 | _=>[]
def larges:List Int→List Large
 | a::b::c::t=>⟨a,b,c⟩::larges t
 | _=>[]
theorem comms_cons (a b c d:UInt8) (t:List UInt8):comms (a::b::c::d::t)=⟨getB [a,b],getB [c,d]⟩::comms t:=rfl
theorem larges_cons (a b c:Int) (t:List Int):larges (a::b::c::t)=⟨a,b,c⟩::larges t:=rfl
theorem comms_len :∀l:List UInt8,(comms l).length=l.length / 4
 | a::b::c::d::t=>by
  rw [comms_cons,List.length_cons,comms_len t]
  simp only [List.length_cons]
  omega
 | []=>rfl
 | [_]=>by simp [comms]
 | [_,_]=>by simp [comms]
 | [_,_,_]=>by simp [comms]
theorem larges_len :∀l:List Int,(larges l).length=l.length / 3
 | a::b::c::t=>by
  rw [larges_cons,List.length_cons,larges_len t]
  simp only [List.length_cons]
  omega
 | []=>rfl
 | [_]=>by simp [larges]
 | [_,_]=>by simp [larges]
theorem get2_rng (a b:UInt8):0 ≤ getB [a,b]∧getB [a,b] ≤ 65535:=by
 have:=val_lt [a,b]
 rw [getB_eq (by simp)]
 simp only [List.length_cons,List.length_nil] at this
 omega
theorem comms_ok :∀(l:List UInt8),∀c ∈ comms l,okC c=true
 | a::b::c::d::t=>by
  rw [comms_cons]
  intro x hx
  rcases List.mem_cons.1 hx with rfl | hx
  ·have h1:=get2_rng a b
   have h2:=get2_rng c d
   simp [okC,inR,h1,h2]
  ·exact comms_ok t x hx
 | []=>by intro n h;simp [comms] at h
 | [_]=>by intro n h;simp [comms] at h
 | [_,_]=>by intro n h;simp [comms] at h
 | [_,_,_]=>by intro n h;simp [comms] at h
theorem larges_ok :∀(l:List Int),(∀n ∈ l,0 ≤ n∧n ≤ 4294967295)→∀c ∈ larges l,okL c=true
 | a::b::c::t,h=>by
  rw [larges_cons]
  intro x hx
  rcases List.mem_cons.1 hx with rfl | hx
  ·have h1:=h a (by simp)
   have h2:=h b (by simp)
   have h3:=h c (by simp)
   simp [okL,inR,h1,h2,h3]
  ·exact larges_ok t (fun n hn=>h n (by simp [hn])) x hx
 | [],_=>by intro n h;simp [larges] at h
 | [_],_=>by intro n h;simp [larges] at h
 | [_,_],_=>by intro n h;simp [larges] at h
theorem split4 (a b c d:UInt8):Int.fdiv (getB [a,b,c,d]) (2 ^ (min (Int.toNat 16) 64))=getB [a,b]∧i64w ((BitVec.ofInt 64 (getB [a,b,c,d]) &&& BitVec.ofInt 64 65535).toNat:Int)=getB [c,d]:=by
 have h1:=a.toNat_lt
 have h2:=b.toNat_lt
 have h3:=c.toNat_lt
 have h4:=d.toNat_lt
 rw [getB_eq (by simp),getB_eq (by simp),getB_eq (by simp)]
 have v4:val [a,b,c,d]=((a.toNat * 256 + b.toNat) * 256 + c.toNat) * 256 + d.toNat:=by simp [val]
 have v2:val [a,b]=a.toNat * 256 + b.toNat:=by simp [val]
 have v2':val [c,d]=c.toNat * 256 + d.toNat:=by simp [val]
 rw [v4,v2,v2']
 constructor
 ·have e:((2:Int) ^ (min (Int.toNat 16) 64))=65536:=rfl
  rw [e,Int.fdiv_eq_ediv_of_nonneg _ (by omega)]
  omega
 ·have e:BitVec.ofInt 64 65535=BitVec.ofNat 64 (2 ^ 16 - 1):=rfl
  rw [BitVec.ofInt_natCast,e,BitVec.toNat_and,BitVec.toNat_ofNat,BitVec.toNat_ofNat,Nat.mod_eq_of_lt (show ((a.toNat * 256 + b.toNat) * 256 + c.toNat) * 256 + d.toNat < 2 ^ 64 by omega),Nat.mod_eq_of_lt (show 2 ^ 16 - 1 < 2 ^ 64 by decide),Nat.and_two_pow_sub_one_eq_mod]
  rw [i64w_id (by omega)]
  omega
theorem comms_of_nums :∀(l:List UInt8),(nums l).map (fun n=>(⟨Int.fdiv n (2 ^ (min (Int.toNat 16) 64)),i64w ((BitVec.ofInt 64 n &&& BitVec.ofInt 64 65535).toNat:Int)⟩:Community))=comms l
 | a::b::c::d::t=>by
  rw [nums_cons,comms_cons,List.map_cons,comms_of_nums t]
  obtain ⟨h1,h2⟩:=split4 a b c d
  rw [h1,h2]
 | []=>rfl
 | [_]=>rfl
 | [_,_]=>rfl
 | [_,_,_]=>rfl
theorem comms_take :∀(j:Nat) (t:List UInt8),4 * (j + 1) ≤ t.length→comms (t.take (4 * (j + 1)))=comms (t.take (4 * j)) ++ [⟨getB ((t.drop (4 * j)).take 2),getB ((t.drop (4 * j + 2)).take 2)⟩]
 | 0,t,h=>by
  obtain ⟨a,b,c,d,t,rfl⟩:=four_of (l:=t) (by omega)
  rfl
 | j + 1,t,h=>by
  obtain ⟨a,b,c,d,t,rfl⟩:=four_of (l:=t) (by omega)
  simp only [List.length_cons] at h
  have e1:4 * (j + 1 + 1)=4 * (j + 1) + 1 + 1 + 1 + 1:=by omega
  have e2:4 * (j + 1)=4 * j + 1 + 1 + 1 + 1:=by omega
  have e3:4 * j + 1 + 1 + 1 + 1 + 2=(4 * j + 2) + 1 + 1 + 1 + 1:=by omega
  have ih:=comms_take j t (by omega)
  rw [e1]
  simp only [List.take_succ_cons,comms_cons]
  rw [ih,e2,e3]
  simp only [List.take_succ_cons,List.drop_succ_cons,comms_cons,List.cons_append]
theorem larges_take :∀(j:Nat) (t:List UInt8),12 * (j + 1) ≤ t.length→larges (nums (t.take (12 * (j + 1))))=larges (nums (t.take (12 * j))) ++ [⟨getB ((t.drop (12 * j)).take 4),getB ((t.drop (12 * j + 4)).take 4),getB ((t.drop (12 * j + 8)).take 4)⟩]
 | 0,t,h=>by
  obtain ⟨a,b,c,d,t,rfl⟩:=four_of (l:=t) (by omega)
  simp only [List.length_cons] at h
  obtain ⟨a1,b1,c1,d1,t,rfl⟩:=four_of (l:=t) (by omega)
  simp only [List.length_cons] at h
  obtain ⟨a2,b2,c2,d2,t,rfl⟩:=four_of (l:=t) (by omega)
  rfl
 | j + 1,t,h=>by
  obtain ⟨a,b,c,d,t,rfl⟩:=four_of (l:=t) (by omega)
  simp only [List.length_cons] at h
  obtain ⟨a1,b1,c1,d1,t,rfl⟩:=four_of (l:=t) (by omega)
  simp only [List.length_cons] at h
  obtain ⟨a2,b2,c2,d2,t,rfl⟩:=four_of (l:=t) (by omega)
  simp only [List.length_cons] at h
  have e1:12 * (j + 1 + 1)=12 * (j + 1) + 1 + 1 + 1 + 1 + 1 + 1 + 1 + 1 + 1 + 1 + 1 + 1:=by omega
  have e2:12 * (j + 1)=12 * j + 1 + 1 + 1 + 1 + 1 + 1 + 1 + 1 + 1 + 1 + 1 + 1:=by omega
  have e3:12 * j + 1 + 1 + 1 + 1 + 1 + 1 + 1 + 1 + 1 + 1 + 1 + 1 + 4=(12 * j + 4) + 1 + 1 + 1 + 1 + 1 + 1 + 1 + 1 + 1 + 1 + 1 + 1:=by omega
  have e4:12 * j + 1 + 1 + 1 + 1 + 1 + 1 + 1 + 1 + 1 + 1 + 1 + 1 + 8=(12 * j + 8) + 1 + 1 + 1 + 1 + 1 + 1 + 1 + 1 + 1 + 1 + 1 + 1:=by omega
  have ih:=larges_take j t (by omega)
  rw [e1]
  simp only [List.take_succ_cons,nums_cons,larges_cons]
  rw [ih,e2,e3,e4]
  simp only [List.take_succ_cons,List.drop_succ_cons,nums_cons,larges_cons,List.cons_append]
theorem commR {d:List UInt8} {ρ:Type} {K:List Community→Option ρ} (h1:d.length % 4=0) (h2:d.length / 4 ≤ 64) :
  joinP (τ:=List Community) (fun k58=>whileR (σ:=Int×(List Community)) (fun next59 p=>match p with
   | (v60,v61)=>if (decide (v60 < (d.length:Int)))=true then
     Option.bind (part d v60 (i64w (v60 + 2))) fun v62=>
     Option.bind (ref18_number v62) fun v63=>
     Option.bind (part d (i64w (v60 + 2)) (i64w (v60 + 4))) fun v64=>
     Option.bind (ref18_number v64) fun v65=>
     Option.bind (ref17_Add v61 (⟨v63,v65⟩:Community)) fun x=>match x with | (v66,v67)=>next59 ((i64w (v60 + 4)),v66)
    else k58 v61) fuel (0,[])) K=K (canC (comms d)):=by
 rw [joinP_def]
 refine (whileR_eq (fun s:Int×List Community=>∃j:Nat,s.1=(4 * j:Nat)∧4 * j ≤ d.length∧s.2=canC (comms (d.take (4 * j)))) (fun s=>(d.length - s.1).toNat) (fun _=>K (canC (comms d))) ?_ fuel (0,[]) ⟨0,rfl,Nat.zero_le _,rfl⟩ (lt_fuel (by simp only;omega))).trans rfl
 rintro next ⟨v,l⟩ ⟨j,g1,g2,g3⟩ hn
 dsimp only at g1 g2 g3
 subst g1 g3
 dsimp only
 by_cases hj:4 * j < d.length
 ·rw [if_pos (by simp only [decide_eq_true_eq];omega)]
  have e1:i64w (((4 * j:Nat):Int) + 2)=((4 * j + 2:Nat):Int):=by rw [i64w_id (by omega)];omega
  have e2:i64w (((4 * j:Nat):Int) + 4)=((4 * j + 4:Nat):Int):=by rw [i64w_id (by omega)];omega
  have hlen:=comms_len (d.take (4 * j))
  rw [List.length_take] at hlen
  have hs:=(canC_spec (comms (d.take (4 * j)))).2.2
  rw [e1,e2,part_nat (by omega) (by omega),some_bind',ref18_number_eq,some_bind',part_nat (by omega) (by omega),some_bind',ref18_number_eq,some_bind',
   show 4 * j + 2 - 4 * j=2 by omega,show 4 * j + 4 - (4 * j + 2)=2 by omega]
  have ht:=comms_take j d (by omega)
  have hok:okC ⟨getB ((d.drop (4 * j)).take 2),getB ((d.drop (4 * j + 2)).take 2)⟩=true:=comms_ok (d.take (4 * (j + 1))) _ (by rw [ht];simp)
  rw [ref17_Add_eq (canC_valid (comms_ok _) (by omega)) hok (by omega),some_bind',← canC_snoc,← ht]
  exact hn _ ⟨j + 1,by simp only;omega,by omega,rfl⟩ (by simp only;omega)
 ·rw [if_neg (by simp only [decide_eq_true_eq];omega),List.take_of_length_le (by omega)]
theorem largeR {d:List UInt8} {ρ:Type} {K:List Large→Option ρ} (h1:d.length % 12=0) (h2:d.length / 12 ≤ 64) :
  joinP (τ:=List Large) (fun k72=>whileR (σ:=Int×(List Large)) (fun next73 p=>match p with
   | (v74,v75)=>if (decide (v74 < (d.length:Int)))=true then
     Option.bind (part d v74 (i64w (v74 + 4))) fun v76=>
     Option.bind (ref18_number v76) fun v77=>
     Option.bind (part d (i64w (v74 + 4)) (i64w (v74 + 8))) fun v78=>
     Option.bind (ref18_number v78) fun v79=>
     Option.bind (part d (i64w (v74 + 8)) (i64w (v74 + 12))) fun v80=>
     Option.bind (ref18_number v80) fun v81=>
     Option.bind (ref17_AddLarge v75 (⟨v77,v79,v81⟩:Large)) fun x=>match x with | (v82,v83)=>next73 ((i64w (v74 + 12)),v82)
    else k72 v75) fuel (0,[])) K=K (canL (larges (nums d))):=by
 rw [joinP_def]
 refine (whileR_eq (fun s:Int×List Large=>∃j:Nat,s.1=(12 * j:Nat)∧12 * j ≤ d.length∧s.2=canL (larges (nums (d.take (12 * j))))) (fun s=>(d.length - s.1).toNat) (fun _=>K (canL (larges (nums d)))) ?_ fuel (0,[]) ⟨0,rfl,Nat.zero_le _,rfl⟩ (lt_fuel (by simp only;omega))).trans rfl
 rintro next ⟨v,l⟩ ⟨j,g1,g2,g3⟩ hn
 dsimp only at g1 g2 g3
 subst g1 g3
 dsimp only
 by_cases hj:12 * j < d.length
 ·rw [if_pos (by simp only [decide_eq_true_eq];omega)]
  have e1:i64w (((12 * j:Nat):Int) + 4)=((12 * j + 4:Nat):Int):=by rw [i64w_id (by omega)];omega
  have e2:i64w (((12 * j:Nat):Int) + 8)=((12 * j + 8:Nat):Int):=by rw [i64w_id (by omega)];omega
  have e3:i64w (((12 * j:Nat):Int) + 12)=((12 * j + 12:Nat):Int):=by rw [i64w_id (by omega)];omega
  have hlen:=larges_len (nums (d.take (12 * j)))
  rw [nums_len,List.length_take] at hlen
  have hs:=(canL_spec (larges (nums (d.take (12 * j))))).2.2
  rw [e1,e2,e3,part_nat (by omega) (by omega),some_bind',ref18_number_eq,some_bind',part_nat (by omega) (by omega),some_bind',ref18_number_eq,some_bind',part_nat (by omega) (by omega),some_bind',ref18_number_eq,some_bind',
   show 12 * j + 4 - 12 * j=4 by omega,show 12 * j + 8 - (12 * j + 4)=4 by omega,show 12 * j + 12 - (12 * j + 8)=4 by omega]
  have ht:=larges_take j d (by omega)
  have hok:okL ⟨getB ((d.drop (12 * j)).take 4),getB ((d.drop (12 * j + 4)).take 4),getB ((d.drop (12 * j + 8)).take 4)⟩=true:=larges_ok _ (nums_rng (d.take (12 * (j + 1)))) _ (by rw [ht];simp)
  rw [ref17_AddLarge_eq (canL_valid (larges_ok _ (nums_rng _)) (by omega)) hok (by omega),some_bind',← canL_snoc,← ht]
  exact hn _ ⟨j + 1,by simp only;omega,by omega,rfl⟩ (by simp only;omega)
 ·rw [if_neg (by simp only [decide_eq_true_eq];omega),List.take_of_length_le (by omega)]
theorem largeP {n:List Int} {ρ:Type} {K:List Large→Option ρ} (h1:n.length % 3=0) (h2:n.length ≤ 1000000) :
  joinP (τ:=List Large) (fun k130=>whileR (σ:=(List Large)×(List Int)) (fun next131 p=>match p with
   | (v132,v133)=>if (decide ((v133.length:Int) > 0))=true then
     Option.bind (geti v133 0) fun v134=>
     Option.bind (geti v133 1) fun v135=>
     Option.bind (geti v133 2) fun v136=>
     Option.bind (apnd (α:=Large) 24 v132 ([(⟨v134,v135,v136⟩:Large)]:List Large)) fun v137=>
     Option.bind (part v133 3 (v133.length:Int)) fun v138=>
     next131 (v137,v138)
    else k130 v132) fuel ([],n)) K=K (larges n):=by
 rw [joinP_def]
 refine (whileR_eq (fun s:List Large×List Int=>s.2.length % 3=0∧s.1.length + s.2.length ≤ 1000000) (fun s=>s.2.length) (fun s=>K (s.1 ++ larges s.2)) ?_ fuel ([],n) ⟨h1,by simpa using h2⟩ (lt_fuel (by simp only;omega))).trans rfl
 rintro next ⟨o,v⟩ ⟨g1,g2⟩ hn
 dsimp only at g1 g2 ⊢
 match v,g1,g2,hn with
 | [],_,_,_=>simp [larges]
 | [_],g1,_,_=>simp at g1
 | [_,_],g1,_,_=>simp at g1
 | a::b::c::t,g1,g2,hn=>
  simp only [List.length_cons] at g1 g2
  have e1:geti (a::b::c::t) 0=some a:=geti_nat (l:=a::b::c::t) (i:=0) (by simp)
  have e2:geti (a::b::c::t) 1=some b:=geti_nat (l:=a::b::c::t) (i:=1) (by simp)
  have e3:geti (a::b::c::t) 2=some c:=geti_nat (l:=a::b::c::t) (i:=2) (by simp)
  have e4:part (a::b::c::t) 3 ((a::b::c::t).length:Int)=some t:=part_suf (l:=a::b::c::t) (n:=3) (by simp)
  rw [if_pos (by simp;omega),e1,some_bind',e2,some_bind',e3,some_bind',apnd_some (by decide) (by simp;omega),some_bind',e4,some_bind',hn _ ⟨by simp only;omega,by simp;omega⟩ (by simp only [List.length_cons];omega),larges_cons]
  simp
end Go.AX.Q18
end
section
namespace Go.AX.Q18
open Go Go.AX
set_option maxRecDepth 8000
set_option linter.unusedVariables false
def bodyP {ρ:Type} (F:Option ρ) (next16:Int×Bool×UInt64×UInt64×Int×Int×Int×(List Segment)×(List Community)×(List Large)→Option ρ) (x17:Unknown):Int×Bool×UInt64×UInt64×Int×Int×Int×(List Segment)×(List Community)×(List Large)→Option ρ:=fun (v6,v7,v8,v9,v10,v11,v12,v13,v14,v15)=>
 joinP (τ:=Int×Bool×UInt64×UInt64×Int×Int×Int×(List Segment)×(List Community)×(List Large)) (fun k19=>
  if (x17.Type_ == 1) then
   joinP (τ:=Bool×Int) (fun k20=>
    Option.bind (attribute_right x17) fun v21=>
    if (!v21) then
     k20 (true,v6)
    else
     joinP (τ:=Bool×Int) (fun k22=>
      Option.bind (attribute_get x17.Data) fun v23=>
      joinP (τ:=Bool) (fun k24=>
       if ((x17.Data.length:Int) == 1) then
        k24 (cond true (decide (v23 ≤ 2)) false)
       else
        k24 false
      ) fun v25=>
      k22 (v25,v23)
     ) fun (v26,v27)=>
     k20 ((cond true (cond false true (!v26)) false),v27)
   ) fun (v28,v29)=>
   if v28 then
    F
   else
    k19 (v29,v7,v8,v9,v10,v11,v12,v13,v14,v15)
  else
   if (x17.Type_ == 2) then
    joinP (τ:=Bool×(List Segment)) (fun k30=>
     Option.bind (attribute_right x17) fun v31=>
     if (!v31) then
      k30 (true,v13)
     else
      joinP (τ:=Bool×(List Segment)) (fun k32=>
       joinP (τ:=(List Segment)) (fun k33=>
        Option.bind (chk (v13=[])) fun _=>
        whileR (σ:=(List UInt8)×(List Segment)×Nat×(List Int)) (fun next34 (v35,v36,v37,v38)=>
         if (decide ((v35.length:Int) > 0)) then
          joinP (τ:=Bool) (fun k39=>
           if (decide ((v35.length:Int) < 2)) then
            k39 true
           else
            Option.bind (geti v35 0) fun v40=>
            if ((v40.toNat:Int) != 1) then
             Option.bind (geti v35 0) fun v41=>
             if (cond false true (cond true ((v41.toNat:Int) != 2) false)) then
              k39 true
             else
              Option.bind (geti v35 1) fun v42=>
              if (cond false true (decide ((v35.length:Int) < (i64w (2 + (i64w (4 * (v42.toNat:Int)))))))) then
               k39 true
              else
               Option.bind (geti v35 1) fun v43=>
               k39 (cond false true ((v43.toNat:Int) == 0))
            else
             Option.bind (geti v35 1) fun v44=>
             if (cond false true (decide ((v35.length:Int) < (i64w (2 + (i64w (4 * (v44.toNat:Int)))))))) then
              k39 true
             else
              Option.bind (geti v35 1) fun v45=>
              k39 (cond false true ((v45.toNat:Int) == 0))
          ) fun v46=>
          if v46 then
           k32 (false,v36)
          else
           Option.bind (geti v35 1) fun v47=>
           Option.bind (geti v35 0) fun v48=>
           Option.bind (part v35 2 (i64w (2 + (i64w (4 * (v47.toNat:Int)))))) fun v49=>
           Option.bind (attribute_numbers v49) fun v50=>
           Option.bind (part v35 (i64w (2 + (i64w (4 * (v47.toNat:Int))))) (v35.length:Int)) fun v51=>
           joinP (τ:=(List Int)) (fun k52=>
            if ((v48.toNat:Int) == 1) then
             Option.bind (sortI v50) fun v53=>
             Option.bind (slices_Compact_int_int v53) fun v54=>
             k52 v54
            else
             k52 v50
           ) fun v55=>
           joinP (τ:=Bool) (fun k56=>
            if (decide ((i64w ((v36.length:Int) - 1)) ≥ 0)) then
             if (cond true (!((v48.toNat:Int) == 1)) false) then
              Option.bind (geti v36 (i64w ((v36.length:Int) - 1))) fun v57=>
              k56 (cond true (!v57.Set) false)
             else
              k56 false
            else
             k56 false
           ) fun v58=>
           joinP (τ:=(List Segment)×Nat×(List Int)) (fun k59=>
            if v58 then
             Option.bind (geti v36 (i64w ((v36.length:Int) - 1))) fun v60=>
             Option.bind (chk (Int.toNat (i64w ((v36.length:Int) - 1))=v37)) fun _=>
             Option.bind (apnd (α:=Int) 8 v38 v55) fun v61=>
             Option.bind (geti v36 (i64w ((v36.length:Int) - 1))) fun v62=>
             Option.bind (seti v36 (i64w ((v36.length:Int) - 1)) (⟨v62.Set,v61⟩:Segment)) fun v63=>
             k59 (v63,(Int.toNat (i64w ((v36.length:Int) - 1))),v61)
            else
             Option.bind (apnd (α:=Segment) 32 v36 ([(⟨((v48.toNat:Int) == 1),v55⟩:Segment)]:List Segment)) fun v64=>
             k59 (v64,((List.map Segment.toD v36).length + 0),v55)
           ) fun (v65,v66,v67)=>
           next34 (v51,v65,v66,v67)
         else
          k33 v36
        ) fuel (x17.Data,v13,0,[])
       ) fun v68=>
       Option.bind (aspath_Valid v68) fun v69=>
       k32 (v69,v68)
      ) fun (v70,v71)=>
      k30 ((cond true (cond false true (!v70)) false),v71)
    ) fun (v72,v73)=>
    if v72 then
     F
    else
     k19 (v6,v7,v8,v9,v10,v11,v12,v73,v14,v15)
   else
    if (x17.Type_ == 3) then
     joinP (τ:=Bool×Bool×UInt64×UInt64) (fun k74=>
      Option.bind (attribute_right x17) fun v75=>
      if (!v75) then
       k74 (true,v7,v8,v9)
      else
       joinP (τ:=Bool×UInt64×UInt64) (fun k76=>
        Option.bind (addr_FromBytes x17.Data) fun (v77,v78)=>
        k76 (v77.V6,v77.Hi,v77.Lo)
       ) fun (v79,v80,v81)=>
       k74 ((cond true (cond false true (!((x17.Data.length:Int) == 4))) false),v79,v80,v81)
     ) fun (v82,v83,v84,v85)=>
     if v82 then
      F
     else
      k19 (v6,v83,v84,v85,v10,v11,v12,v13,v14,v15)
    else
     if (x17.Type_ == 4) then
      joinP (τ:=Bool×Int) (fun k86=>
       Option.bind (attribute_right x17) fun v87=>
       if (!v87) then
        k86 (true,v10)
       else
        joinP (τ:=Int) (fun k88=>
         joinP (τ:=Int) (fun k89=>
          Option.bind (attribute_get x17.Data) fun v90=>
          k89 v90
         ) fun v91=>
         k88 v91
        ) fun v92=>
        k86 ((cond true (cond false true (!((x17.Data.length:Int) == 4))) false),v92)
      ) fun (v93,v94)=>
      if v93 then
       F
      else
       k19 (v6,v7,v8,v9,v94,v11,v12,v13,v14,v15)
     else
      if (x17.Type_ == 5) then
       joinP (τ:=Bool×Int) (fun k95=>
        Option.bind (attribute_right x17) fun v96=>
        if (!v96) then
         k95 (true,v11)
        else
         joinP (τ:=Int) (fun k97=>
          joinP (τ:=Int) (fun k98=>
           Option.bind (attribute_get x17.Data) fun v99=>
           k98 v99
          ) fun v100=>
          k97 v100
         ) fun v101=>
         k95 ((cond true (cond false true (!((x17.Data.length:Int) == 4))) false),v101)
       ) fun (v102,v103)=>
       if v102 then
        F
       else
        k19 (v6,v7,v8,v9,v10,v103,v12,v13,v14,v15)
      else
       if (x17.Type_ == 8) then
        joinP (τ:=Bool×(List Community)) (fun k104=>
         Option.bind (attribute_right x17) fun v105=>
         if (!v105) then
          k104 (true,v14)
         else
          joinP (τ:=Bool×(List Community)) (fun k106=>
           Option.bind (attribute_numbers x17.Data) fun v107=>
           joinP (τ:=(List Community)) (fun k108=>
            forR (σ:=(List Community)) (fun v109=>
             k108 v109
            ) (fun next110 (x111:Int) i112 v109=>
             Option.bind (apnd (α:=Community) 16 v109 ([(⟨(Int.fdiv x111 (2 ^ (min (Int.toNat 16) 64))),(i64w ((BitVec.ofInt 64 x111 &&& BitVec.ofInt 64 65535).toNat:Int))⟩:Community)]:List Community)) fun v113=>
             next110 v113
            ) v107 0 []
           ) fun v114=>
           joinP (τ:=Bool×(List Community)) (fun k115=>
            joinP (τ:=Bool) (fun k116=>
             if (decide ((v114.length:Int) > 0)) then
              k116 (cond true (decide ((v114.length:Int) ≤ 64)) false)
             else
              k116 false
            ) fun v117=>
            Option.bind (sortF attribute_readCommunities_1 v114) fun v118=>
            Option.bind (slices_Compact_api_Community_api_Community v118) fun v119=>
            k115 (v117,v119)
           ) fun (v120,v121)=>
           joinP (τ:=Bool) (fun k122=>
            if v120 then
             if (cond true ((Int.tmod (x17.Data.length:Int) 4) == 0) false) then
              Option.bind (community_Valid v121) fun v123=>
              k122 (cond true v123 false)
             else
              k122 false
            else
             k122 false
           ) fun v124=>
           k106 (v124,v121)
          ) fun (v125,v126)=>
          k104 ((cond true (cond false true (!v125)) false),v126)
        ) fun (v127,v128)=>
        if v127 then
         F
        else
         k19 (v6,v7,v8,v9,v10,v11,v12,v13,v128,v15)
       else
        if (x17.Type_ == 32) then
         joinP (τ:=Bool×(List Large)) (fun k129=>
          Option.bind (attribute_right x17) fun v130=>
          if (!v130) then
           k129 (true,v15)
          else
           joinP (τ:=Bool×(List Large)) (fun k131=>
            if ((Int.tmod (x17.Data.length:Int) 12) != 0) then
             k131 (false,v15)
            else
             Option.bind (attribute_numbers x17.Data) fun v132=>
             joinP (τ:=(List Large)) (fun k133=>
              whileR (σ:=(List Large)×(List Int)) (fun next134 (v135,v136)=>
               if (decide ((v136.length:Int) > 0)) then
                Option.bind (geti v136 0) fun v137=>
                Option.bind (geti v136 1) fun v138=>
                Option.bind (geti v136 2) fun v139=>
                Option.bind (apnd (α:=Large) 24 v135 ([(⟨v137,v138,v139⟩:Large)]:List Large)) fun v140=>
                Option.bind (part v136 3 (v136.length:Int)) fun v141=>
                next134 (v140,v141)
               else
                k133 v135
              ) fuel ([],v132)
             ) fun v142=>
             joinP (τ:=Bool×(List Large)) (fun k143=>
              joinP (τ:=Bool) (fun k144=>
               if (decide ((v142.length:Int) > 0)) then
                k144 (cond true (decide ((v142.length:Int) ≤ 64)) false)
               else
                k144 false
              ) fun v145=>
              Option.bind (sortF attribute_readLarge_1 v142) fun v146=>
              Option.bind (slices_Compact_api_Large_api_Large v146) fun v147=>
              k143 (v145,v147)
             ) fun (v148,v149)=>
             joinP (τ:=Bool) (fun k150=>
              if v148 then
               Option.bind (community_ValidLarge v149) fun v151=>
               k150 (cond true v151 false)
              else
               k150 false
             ) fun v152=>
             k131 (v152,v149)
           ) fun (v153,v154)=>
           k129 ((cond true (cond false true (!v153)) false),v154)
         ) fun (v155,v156)=>
         if v155 then
          F
         else
          k19 (v6,v7,v8,v9,v10,v11,v12,v13,v14,v156)
        else
         if (x17.Type_ == 35) then
          joinP (τ:=Bool×Int) (fun k157=>
           Option.bind (attribute_right x17) fun v158=>
           if (!v158) then
            k157 (true,v12)
           else
            joinP (τ:=Bool×Int) (fun k159=>
             joinP (τ:=Bool×Int) (fun k160=>
              joinP (τ:=Int) (fun k161=>
               Option.bind (attribute_get x17.Data) fun v162=>
               k161 v162
              ) fun v163=>
              if ((x17.Data.length:Int) == 4) then
               Option.bind (aspath_Number v163) fun v164=>
               k160 ((cond true v164 false),v163)
              else
               k160 (false,v163)
             ) fun (v165,v166)=>
             k159 (v165,v166)
            ) fun (v167,v168)=>
            k157 ((cond true (cond false true (!v167)) false),v168)
          ) fun (v169,v170)=>
          if v169 then
           F
          else
           k19 (v6,v7,v8,v9,v10,v11,v170,v13,v14,v15)
         else
          k19 (v6,v7,v8,v9,v10,v11,v12,v13,v14,v15)
 ) fun (v171,v172,v173,v174,v175,v176,v177,v178,v179,v180)=>
 next16 (v171,v172,v173,v174,v175,v176,v177,v178,v179,v180)
def bodyR {ρ:Type} (F:Option ρ) (next21:Int×(List Segment)×Bool×UInt64×UInt64×Int×Int×Int×(List Community)×(List Large)→Option ρ) (x22:Unknown):Int×(List Segment)×Bool×UInt64×UInt64×Int×Int×Int×(List Community)×(List Large)→Option ρ:=fun (v11,v12,v13,v14,v15,v16,v17,v18,v19,v20)=>
 joinP (τ:=Int×(List Segment)×Bool×UInt64×UInt64×Int×Int×Int×(List Community)×(List Large)) (fun k24=>
  Option.bind (ref18_flags x22.Type_) fun v25=>
  if (v25 == 0) then
   k24 (v11,v12,v13,v14,v15,v16,v17,v18,v19,v20)
  else
   joinP (τ:=Bool×Int×(List Segment)×Bool×UInt64×UInt64×Int×Int×Int×(List Community)×(List Large)) (fun k26=>
    if ((i64w ((BitVec.ofInt 64 x22.Flags &&& BitVec.ofInt 64 192).toNat:Int)) != v25) then
     k26 (true,v11,v12,v13,v14,v15,v16,v17,v18,v19,v20)
    else
     if (v25 != 192) then
      if (cond false true (cond true ((i64w ((BitVec.ofInt 64 x22.Flags &&& BitVec.ofInt 64 32).toNat:Int)) != 0) false)) then
       k26 (true,v11,v12,v13,v14,v15,v16,v17,v18,v19,v20)
      else
       joinP (τ:=Bool×Int×(List Segment)×Bool×UInt64×UInt64×Int×Int×Int×(List Community)×(List Large)) (fun k27=>
        joinP (τ:=Int×Bool×UInt64×UInt64×Int×Int×Int×(List Community)×(List Large)) (fun k28=>
         joinP (τ:=Int×Bool×UInt64×UInt64×Int×Int×Int×(List Community)×(List Large)) (fun k29=>
          if (x22.Type_ == 1) then
           joinP (τ:=Bool) (fun k30=>
            if ((x22.Data.length:Int) != 1) then
             k30 true
            else
             Option.bind (geti x22.Data 0) fun v31=>
             k30 (cond false true (decide ((v31.toNat:Int) > 2)))
           ) fun v32=>
           if v32 then
            k27 (false,v11,v12,v13,v14,v15,v16,v17,v18,v19,v20)
           else
            Option.bind (geti x22.Data 0) fun v33=>
            k29 ((v33.toNat:Int),v13,v14,v15,v16,v17,v18,v19,v20)
          else
           if (x22.Type_ == 2) then
            Option.bind (ref18_path x22.Data) fun (v34,v35)=>
            k27 (v35,v11,v34,v13,v14,v15,v16,v17,v18,v19,v20)
           else
            joinP (τ:=Bool×UInt64×UInt64×Int×Int×Int×(List Community)×(List Large)) (fun k36=>
             if (x22.Type_ == 3) then
              if ((x22.Data.length:Int) != 4) then
               k27 (false,v11,v12,v13,v14,v15,v16,v17,v18,v19,v20)
              else
               Option.bind (ref01_FromBytes x22.Data) fun (v37,v38)=>
               k36 (v37.V6,v37.Hi,v37.Lo,v16,v17,v18,v19,v20)
             else
              joinP (τ:=Bool) (fun k39=>
               if (x22.Type_ == 4) then
                k39 (x22.Type_ == 4)
               else
                joinP (τ:=Bool) (fun k40=>
                 if (x22.Type_ == 5) then
                  k40 (x22.Type_ == 5)
                 else
                  k40 (x22.Type_ == 35)
                ) fun v41=>
                k39 v41
              ) fun v42=>
              joinP (τ:=Int×Int×Int×(List Community)×(List Large)) (fun k43=>
               if v42 then
                Option.bind (part x22.Data 0 (if (4:Int) < (x22.Data.length:Int) then 4 else (x22.Data.length:Int))) fun v44=>
                Option.bind (ref18_number v44) fun v45=>
                joinP (τ:=Bool) (fun k46=>
                 if ((x22.Data.length:Int) != 4) then
                  k46 true
                 else
                  if (x22.Type_ == 35) then
                   k46 (cond false true (cond true (v45 == 0) false))
                  else
                   k46 false
                ) fun v47=>
                if v47 then
                 k27 (false,v11,v12,v13,v14,v15,v16,v17,v18,v19,v20)
                else
                 joinP (τ:=Int×Int×Int) (fun k48=>
                  if (x22.Type_ == 4) then
                   k48 (v45,v17,v18)
                  else
                   joinP (τ:=Int×Int) (fun k49=>
                    if (x22.Type_ == 5) then
                     k49 (v45,v18)
                    else
                     k49 (v17,v45)
                   ) fun (v50,v51)=>
                   k48 (v16,v50,v51)
                 ) fun (v52,v53,v54)=>
                 k43 (v52,v53,v54,v19,v20)
               else
                joinP (τ:=(List Community)×(List Large)) (fun k55=>
                 if (x22.Type_ == 8) then
                  joinP (τ:=Bool) (fun k56=>
                   if ((x22.Data.length:Int) == 0) then
                    k56 true
                   else
                    if (cond false true ((Int.tmod (x22.Data.length:Int) 4) != 0)) then
                     k56 true
                    else
                     k56 (cond false true (decide ((i64w (Int.tdiv (x22.Data.length:Int) 4)) > 64)))
                  ) fun v57=>
                  if v57 then
                   k27 (false,v11,v12,v13,v14,v15,v16,v17,v18,v19,v20)
                  else
                   joinP (τ:=(List Community)) (fun k58=>
                    whileR (σ:=Int×(List Community)) (fun next59 (v60,v61)=>
                     if (decide (v60 < (x22.Data.length:Int))) then
                      Option.bind (part x22.Data v60 (i64w (v60 + 2))) fun v62=>
                      Option.bind (ref18_number v62) fun v63=>
                      Option.bind (part x22.Data (i64w (v60 + 2)) (i64w (v60 + 4))) fun v64=>
                      Option.bind (ref18_number v64) fun v65=>
                      Option.bind (ref17_Add v61 (⟨v63,v65⟩:Community)) fun (v66,v67)=>
                      next59 ((i64w (v60 + 4)),v66)
                     else
                      k58 v61
                    ) fuel (0,v19)
                   ) fun v68=>
                   k55 (v68,v20)
                 else
                  joinP (τ:=(List Large)) (fun k69=>
                   if (x22.Type_ == 32) then
                    joinP (τ:=Bool) (fun k70=>
                     if ((x22.Data.length:Int) == 0) then
                      k70 true
                     else
                      if (cond false true ((Int.tmod (x22.Data.length:Int) 12) != 0)) then
                       k70 true
                      else
                       k70 (cond false true (decide ((i64w (Int.tdiv (x22.Data.length:Int) 12)) > 64)))
                    ) fun v71=>
                    if v71 then
                     k27 (false,v11,v12,v13,v14,v15,v16,v17,v18,v19,v20)
                    else
                     joinP (τ:=(List Large)) (fun k72=>
                      whileR (σ:=Int×(List Large)) (fun next73 (v74,v75)=>
                       if (decide (v74 < (x22.Data.length:Int))) then
                        Option.bind (part x22.Data v74 (i64w (v74 + 4))) fun v76=>
                        Option.bind (ref18_number v76) fun v77=>
                        Option.bind (part x22.Data (i64w (v74 + 4)) (i64w (v74 + 8))) fun v78=>
                        Option.bind (ref18_number v78) fun v79=>
                        Option.bind (part x22.Data (i64w (v74 + 8)) (i64w (v74 + 12))) fun v80=>
                        Option.bind (ref18_number v80) fun v81=>
                        Option.bind (ref17_AddLarge v75 (⟨v77,v79,v81⟩:Large)) fun (v82,v83)=>
                        next73 ((i64w (v74 + 12)),v82)
                       else
                        k72 v75
                      ) fuel (0,v20)
                     ) fun v84=>
                     k69 v84
                   else
                    k69 v20
                  ) fun v85=>
                  k55 (v19,v85)
                ) fun (v86,v87)=>
                k43 (v16,v17,v18,v86,v87)
              ) fun (v88,v89,v90,v91,v92)=>
              k36 (v13,v14,v15,v88,v89,v90,v91,v92)
            ) fun (v93,v94,v95,v96,v97,v98,v99,v100)=>
            k29 (v11,v93,v94,v95,v96,v97,v98,v99,v100)
         ) fun (v101,v102,v103,v104,v105,v106,v107,v108,v109)=>
         k28 (v101,v102,v103,v104,v105,v106,v107,v108,v109)
        ) fun (v110,v111,v112,v113,v114,v115,v116,v117,v118)=>
        k27 (true,v110,v12,v111,v112,v113,v114,v115,v116,v117,v118)
       ) fun (v119,v120,v121,v122,v123,v124,v125,v126,v127,v128,v129)=>
       k26 ((cond false true (!v119)),v120,v121,v122,v123,v124,v125,v126,v127,v128,v129)
     else
      joinP (τ:=Bool×Int×(List Segment)×Bool×UInt64×UInt64×Int×Int×Int×(List Community)×(List Large)) (fun k130=>
       joinP (τ:=Int×Bool×UInt64×UInt64×Int×Int×Int×(List Community)×(List Large)) (fun k131=>
        joinP (τ:=Int×Bool×UInt64×UInt64×Int×Int×Int×(List Community)×(List Large)) (fun k132=>
         if (x22.Type_ == 1) then
          joinP (τ:=Bool) (fun k133=>
           if ((x22.Data.length:Int) != 1) then
            k133 true
           else
            Option.bind (geti x22.Data 0) fun v134=>
            k133 (cond false true (decide ((v134.toNat:Int) > 2)))
          ) fun v135=>
          if v135 then
           k130 (false,v11,v12,v13,v14,v15,v16,v17,v18,v19,v20)
          else
           Option.bind (geti x22.Data 0) fun v136=>
           k132 ((v136.toNat:Int),v13,v14,v15,v16,v17,v18,v19,v20)
         else
          if (x22.Type_ == 2) then
           Option.bind (ref18_path x22.Data) fun (v137,v138)=>
           k130 (v138,v11,v137,v13,v14,v15,v16,v17,v18,v19,v20)
          else
           joinP (τ:=Bool×UInt64×UInt64×Int×Int×Int×(List Community)×(List Large)) (fun k139=>
            if (x22.Type_ == 3) then
             if ((x22.Data.length:Int) != 4) then
              k130 (false,v11,v12,v13,v14,v15,v16,v17,v18,v19,v20)
             else
              Option.bind (ref01_FromBytes x22.Data) fun (v140,v141)=>
              k139 (v140.V6,v140.Hi,v140.Lo,v16,v17,v18,v19,v20)
            else
             joinP (τ:=Bool) (fun k142=>
              if (x22.Type_ == 4) then
               k142 (x22.Type_ == 4)
              else
               joinP (τ:=Bool) (fun k143=>
                if (x22.Type_ == 5) then
                 k143 (x22.Type_ == 5)
                else
                 k143 (x22.Type_ == 35)
               ) fun v144=>
               k142 v144
             ) fun v145=>
             joinP (τ:=Int×Int×Int×(List Community)×(List Large)) (fun k146=>
              if v145 then
               Option.bind (part x22.Data 0 (if (4:Int) < (x22.Data.length:Int) then 4 else (x22.Data.length:Int))) fun v147=>
               Option.bind (ref18_number v147) fun v148=>
               joinP (τ:=Bool) (fun k149=>
                if ((x22.Data.length:Int) != 4) then
                 k149 true
                else
                 if (x22.Type_ == 35) then
                  k149 (cond false true (cond true (v148 == 0) false))
                 else
                  k149 false
               ) fun v150=>
               if v150 then
                k130 (false,v11,v12,v13,v14,v15,v16,v17,v18,v19,v20)
               else
                joinP (τ:=Int×Int×Int) (fun k151=>
                 if (x22.Type_ == 4) then
                  k151 (v148,v17,v18)
                 else
                  joinP (τ:=Int×Int) (fun k152=>
                   if (x22.Type_ == 5) then
                    k152 (v148,v18)
                   else
                    k152 (v17,v148)
                  ) fun (v153,v154)=>
                  k151 (v16,v153,v154)
                ) fun (v155,v156,v157)=>
                k146 (v155,v156,v157,v19,v20)
              else
               joinP (τ:=(List Community)×(List Large)) (fun k158=>
                if (x22.Type_ == 8) then
                 joinP (τ:=Bool) (fun k159=>
                  if ((x22.Data.length:Int) == 0) then
                   k159 true
                  else
                   if (cond false true ((Int.tmod (x22.Data.length:Int) 4) != 0)) then
                    k159 true
                   else
                    k159 (cond false true (decide ((i64w (Int.tdiv (x22.Data.length:Int) 4)) > 64)))
                 ) fun v160=>
                 if v160 then
                  k130 (false,v11,v12,v13,v14,v15,v16,v17,v18,v19,v20)
                 else
                  joinP (τ:=(List Community)) (fun k161=>
                   whileR (σ:=Int×(List Community)) (fun next162 (v163,v164)=>
                    if (decide (v163 < (x22.Data.length:Int))) then
                     Option.bind (part x22.Data v163 (i64w (v163 + 2))) fun v165=>
                     Option.bind (ref18_number v165) fun v166=>
                     Option.bind (part x22.Data (i64w (v163 + 2)) (i64w (v163 + 4))) fun v167=>
                     Option.bind (ref18_number v167) fun v168=>
                     Option.bind (ref17_Add v164 (⟨v166,v168⟩:Community)) fun (v169,v170)=>
                     next162 ((i64w (v163 + 4)),v169)
                    else
                     k161 v164
                   ) fuel (0,v19)
                  ) fun v171=>
                  k158 (v171,v20)
                else
                 joinP (τ:=(List Large)) (fun k172=>
                  if (x22.Type_ == 32) then
                   joinP (τ:=Bool) (fun k173=>
                    if ((x22.Data.length:Int) == 0) then
                     k173 true
                    else
                     if (cond false true ((Int.tmod (x22.Data.length:Int) 12) != 0)) then
                      k173 true
                     else
                      k173 (cond false true (decide ((i64w (Int.tdiv (x22.Data.length:Int) 12)) > 64)))
                   ) fun v174=>
                   if v174 then
                    k130 (false,v11,v12,v13,v14,v15,v16,v17,v18,v19,v20)
                   else
                    joinP (τ:=(List Large)) (fun k175=>
                     whileR (σ:=Int×(List Large)) (fun next176 (v177,v178)=>
                      if (decide (v177 < (x22.Data.length:Int))) then
                       Option.bind (part x22.Data v177 (i64w (v177 + 4))) fun v179=>
                       Option.bind (ref18_number v179) fun v180=>
                       Option.bind (part x22.Data (i64w (v177 + 4)) (i64w (v177 + 8))) fun v181=>
                       Option.bind (ref18_number v181) fun v182=>
                       Option.bind (part x22.Data (i64w (v177 + 8)) (i64w (v177 + 12))) fun v183=>
                       Option.bind (ref18_number v183) fun v184=>
                       Option.bind (ref17_AddLarge v178 (⟨v180,v182,v184⟩:Large)) fun (v185,v186)=>
                       next176 ((i64w (v177 + 12)),v185)
                      else
                       k175 v178
                     ) fuel (0,v20)
                    ) fun v187=>
                    k172 v187
                  else
                   k172 v20
                 ) fun v188=>
                 k158 (v19,v188)
               ) fun (v189,v190)=>
               k146 (v16,v17,v18,v189,v190)
             ) fun (v191,v192,v193,v194,v195)=>
             k139 (v13,v14,v15,v191,v192,v193,v194,v195)
           ) fun (v196,v197,v198,v199,v200,v201,v202,v203)=>
           k132 (v11,v196,v197,v198,v199,v200,v201,v202,v203)
        ) fun (v204,v205,v206,v207,v208,v209,v210,v211,v212)=>
        k131 (v204,v205,v206,v207,v208,v209,v210,v211,v212)
       ) fun (v213,v214,v215,v216,v217,v218,v219,v220,v221)=>
       k130 (true,v213,v12,v214,v215,v216,v217,v218,v219,v220,v221)
      ) fun (v222,v223,v224,v225,v226,v227,v228,v229,v230,v231,v232)=>
      k26 ((cond false true (!v222)),v223,v224,v225,v226,v227,v228,v229,v230,v231,v232)
   ) fun (v233,v234,v235,v236,v237,v238,v239,v240,v241,v242,v243)=>
   if v233 then
    F
   else
    k24 (v234,v235,v236,v237,v238,v239,v240,v241,v242,v243)
 ) fun (v244,v245,v246,v247,v248,v249,v250,v251,v252,v253)=>
 next21 (v244,v245,v246,v247,v248,v249,v250,v251,v252,v253)
end Go.AX.Q18
end
section
namespace Go.AX.Q18
open Go Go.AX
set_option maxRecDepth 8000
def toP (a:Attrs):Int×Bool×UInt64×UInt64×Int×Int×Int×(List Segment)×(List Community)×(List Large):=(a.Origin,a.Next.V6,a.Next.Hi,a.Next.Lo,a.MED,a.Pref,a.OTC,a.Path,a.Communities,a.Large)
def toR (a:Attrs):Int×(List Segment)×Bool×UInt64×UInt64×Int×Int×Int×(List Community)×(List Large):=(a.Origin,a.Path,a.Next.V6,a.Next.Hi,a.Next.Lo,a.MED,a.Pref,a.OTC,a.Communities,a.Large)
def validP (p:List Segment):Bool:=(ref15_Valid p).getD false
def rdOrigin (d:List UInt8):Option Int:=if d.length=1∧getB d ≤ 2 then some (getB d) else none
def rdPath (d:List UInt8):Option (List Segment):=(rdL d []).bind fun p=>if validP p=true then some p else none
def addrOf (d:List UInt8):Addr:=((addr_FromBytes d).getD (⟨false,0,0⟩,0)).1
def rdNext (d:List UInt8):Option Addr:=if d.length=4 then some (addrOf d) else none
def rd4 (d:List UInt8):Option Int:=if d.length=4 then some (getB d) else none
def rdOTC (d:List UInt8):Option Int:=if d.length=4∧getB d ≠ 0 then some (getB d) else none
def rdComm (d:List UInt8):Option (List Community):=if d.length ≠ 0∧d.length % 4=0∧d.length / 4 ≤ 64 then some (canC (comms d)) else none
def rdLarge (d:List UInt8):Option (List Large):=if d.length ≠ 0∧d.length % 12=0∧d.length / 12 ≤ 64 then some (canL (larges (nums d))) else none
def readS (a:Attrs) (t:Int) (d:List UInt8):Option Attrs:=
 if t=1 then (rdOrigin d).map fun v=>{ a with Origin:=v } else
 if t=2 then (rdPath d).map fun v=>{ a with Path:=v } else
 if t=3 then (rdNext d).map fun v=>{ a with Next:=v } else
 if t=4 then (rd4 d).map fun v=>{ a with MED:=v } else
 if t=5 then (rd4 d).map fun v=>{ a with Pref:=v } else
 if t=8 then (rdComm d).map fun v=>{ a with Communities:=v } else
 if t=32 then (rdLarge d).map fun v=>{ a with Large:=v } else
 if t=35 then (rdOTC d).map fun v=>{ a with OTC:=v } else some a
def stepS (a:Attrs) (x:Unknown):Option Attrs:=if fl x.Type_=0 then some a else if rightB x=true then readS a x.Type_ x.Data else none
theorem FromBytes_eq (d:List UInt8):ref01_FromBytes d=addr_FromBytes d:=rfl
instance (a0:List UInt8):Tt (addr_FromBytes a0):=by unfold addr_FromBytes;exact Tt.auto
theorem addrOf_eq (d:List UInt8) :∃e,addr_FromBytes d=some (addrOf d,e):=by
 have h :∃r,addr_FromBytes d=some r:=Tt.h
 obtain ⟨⟨r,e⟩,h⟩:=h
 refine ⟨e,?_⟩
 unfold addrOf
 rw [h];rfl
theorem rdOTC_rng {d:List UInt8} (h:d.length=4):0 ≤ getB d∧getB d ≤ 4294967295:=by
 have:=val_lt d
 rw [getB_eq (by omega)]
 rw [h] at this
 omega
section
variable {ρ:Type} {F:Option ρ} {next:Int×Bool×UInt64×UInt64×Int×Int×Int×(List Segment)×(List Community)×(List Large)→Option ρ} {x:Unknown} {a:Attrs}
theorem bodyP_1 (h:x.Type_=1) (e:fl x.Type_=64):bodyP F next x (toP a)=match stepS a x with | none=>F | some a'=>next (toP a'):=by
 unfold bodyP toP stepS readS rdOrigin
 dsimp only
 rw [joinP_def,if_pos (by rw [h];rfl),joinP_def,attribute_right_eq x (by rw [e];decide),if_neg (by rw [e];decide)]
 simp only [joinP_def,some_bind',attribute_get_eq,h,if_true]
 have e1:((x.Data.length:Int) == 1)=decide (x.Data.length=1):=by rw [Bool.eq_iff_iff];simp;omega
 rw [e1]
 cases hr:rightB x<;>by_cases h1:x.Data.length=1<;>by_cases h2:getB x.Data ≤ 2<;>simp [h1,h2]
theorem bodyP_3 (h:x.Type_=3) (e:fl x.Type_=64):bodyP F next x (toP a)=match stepS a x with | none=>F | some a'=>next (toP a'):=by
 unfold bodyP toP stepS readS rdNext
 dsimp only
 obtain ⟨er,he⟩:=addrOf_eq x.Data
 rw [joinP_def,if_neg (by rw [h];decide),if_neg (by rw [h];decide),if_pos (by rw [h];rfl),joinP_def,attribute_right_eq x (by rw [e];decide),if_neg (by rw [e];decide),h]
 simp only [joinP_def,some_bind',he]
 have e1:((x.Data.length:Int) == 4)=decide (x.Data.length=4):=by rw [Bool.eq_iff_iff];simp;omega
 rw [e1]
 cases hr:rightB x<;>by_cases h1:x.Data.length=4<;>simp [h1]
theorem bodyP_4 (h:x.Type_=4) (e:fl x.Type_=128):bodyP F next x (toP a)=match stepS a x with | none=>F | some a'=>next (toP a'):=by
 unfold bodyP toP stepS readS rd4
 dsimp only
 rw [joinP_def,if_neg (by rw [h];decide),if_neg (by rw [h];decide),if_neg (by rw [h];decide),if_pos (by rw [h];rfl),joinP_def,attribute_right_eq x (by rw [e];decide),if_neg (by rw [e];decide),h]
 simp only [joinP_def,some_bind',attribute_get_eq]
 have e1:((x.Data.length:Int) == 4)=decide (x.Data.length=4):=by rw [Bool.eq_iff_iff];simp;omega
 rw [e1]
 cases hr:rightB x<;>by_cases h1:x.Data.length=4<;>simp [h1]
theorem bodyP_5 (h:x.Type_=5) (e:fl x.Type_=64):bodyP F next x (toP a)=match stepS a x with | none=>F | some a'=>next (toP a'):=by
 unfold bodyP toP stepS readS rd4
 dsimp only
 rw [joinP_def,if_neg (by rw [h];decide),if_neg (by rw [h];decide),if_neg (by rw [h];decide),if_neg (by rw [h];decide),if_pos (by rw [h];rfl),joinP_def,attribute_right_eq x (by rw [e];decide),if_neg (by rw [e];decide),h]
 simp only [joinP_def,some_bind',attribute_get_eq]
 have e1:((x.Data.length:Int) == 4)=decide (x.Data.length=4):=by rw [Bool.eq_iff_iff];simp;omega
 rw [e1]
 cases hr:rightB x<;>by_cases h1:x.Data.length=4<;>simp [h1]
theorem bodyP_35 (h:x.Type_=35) (e:fl x.Type_=192):bodyP F next x (toP a)=match stepS a x with | none=>F | some a'=>next (toP a'):=by
 unfold bodyP toP stepS readS rdOTC
 dsimp only
 rw [joinP_def,if_neg (by rw [h];decide),if_neg (by rw [h];decide),if_neg (by rw [h];decide),if_neg (by rw [h];decide),if_neg (by rw [h];decide),if_neg (by rw [h];decide),if_neg (by rw [h];decide),if_pos (by rw [h];rfl),joinP_def,attribute_right_eq x (by rw [e];decide),if_neg (by rw [e];decide),h]
 simp only [joinP_def,some_bind',attribute_get_eq,number_eq]
 have e1:((x.Data.length:Int) == 4)=decide (x.Data.length=4):=by rw [Bool.eq_iff_iff];simp;omega
 rw [e1]
 by_cases h1:x.Data.length=4
 ·have hg:=rdOTC_rng h1
  have h3:decide (1 ≤ getB x.Data)=decide (getB x.Data ≠ 0):=by rw [Bool.eq_iff_iff];simp;omega
  have h4:decide (getB x.Data ≤ 4294967295)=true:=decide_eq_true hg.2
  rw [h3,h4]
  cases hr:rightB x<;>by_cases h2:getB x.Data=0<;>simp [h1,h2]
 ·cases hr:rightB x<;>simp [h1]
theorem bodyP_0 (h:x.Type_ ≠ 1∧x.Type_ ≠ 2∧x.Type_ ≠ 3∧x.Type_ ≠ 4∧x.Type_ ≠ 5∧x.Type_ ≠ 8∧x.Type_ ≠ 32∧x.Type_ ≠ 35) (e:fl x.Type_=0):bodyP F next x (toP a)=match stepS a x with | none=>F | some a'=>next (toP a'):=by
 obtain ⟨h1,h2,h3,h4,h5,h6,h7,h8⟩:=h
 unfold bodyP toP stepS
 dsimp only
 rw [joinP_def,if_neg (by simpa using h1),if_neg (by simpa using h2),if_neg (by simpa using h3),if_neg (by simpa using h4),if_neg (by simpa using h5),if_neg (by simpa using h6),if_neg (by simpa using h7),if_neg (by simpa using h8),if_pos e]
theorem mapR {α β ρ:Type} {g:β→α} {b:Nat} {K:List α→Option ρ} (hb:Nat.ble b 65536=true) :∀(l:List β) (i:Nat) (acc:List α),acc.length + l.length ≤ 1000000000→forR K (fun next x _ v=>Option.bind (apnd (α:=α) b v ([g x]:List α)) fun v'=>next v') l i acc=K (acc ++ l.map g)
 | [],i,acc,_=>by rw [List.map_nil,List.append_nil];rfl
 | x::t,i,acc,h=>by
  simp only [List.length_cons] at h
  show (Option.bind (apnd (α:=α) b acc ([g x]:List α)) fun v'=>forR K _ t (i + 1) v')=_
  rw [apnd_some hb (by simp;omega),some_bind',mapR hb t (i + 1) _ (by simp;omega)]
  simp
theorem bodyP_8 (hd:x.Data.length ≤ 1000000) (h:x.Type_=8) (e:fl x.Type_=192):bodyP F next x (toP a)=match stepS a x with | none=>F | some a'=>next (toP a'):=by
 have er :∀d,readS a 8 d=(rdComm d).map fun v=>{ a with Communities:=v }:=fun _=>rfl
 unfold bodyP toP stepS
 dsimp only
 rw [joinP_def,if_neg (by rw [h];decide),if_neg (by rw [h];decide),if_neg (by rw [h];decide),if_neg (by rw [h];decide),if_neg (by rw [h];decide),if_pos (by rw [h];rfl),joinP_def,attribute_right_eq x (by rw [e];decide),if_neg (by rw [e];decide),h,some_bind']
 by_cases hr:rightB x=true
 rotate_left
 ·have hr:rightB x=false:=by simpa using hr
  rw [hr]
  rfl
 have hl:=comms_len x.Data
 have hc:=canC_spec (comms x.Data)
 rw [hr,if_neg (by decide),joinP_def,attribute_numbers_eq (by omega),some_bind',joinP_def,mapR (by decide) _ _ _ (by rw [nums_len];simp;omega),comms_of_nums,List.nil_append,er]
 unfold rdComm
 show joinP _ _=_
 rw [joinP_def]
 have e1:((Int.tmod (x.Data.length:Int) 4) == 0)=decide (x.Data.length % 4=0):=by
  rw [Int.tmod_eq_emod_of_nonneg (by omega),Bool.eq_iff_iff];simp;omega
 have e2 :∀K:Bool→Option ρ,(joinP (τ:=Bool) (fun k113=>if (decide (((comms x.Data).length:Int) > 0))=true then k113 (cond true (decide (((comms x.Data).length:Int) ≤ 64)) false) else k113 false) K)=K (decide (0 < (comms x.Data).length∧(comms x.Data).length ≤ 64)):=by
  intro K
  rw [joinP_def]
  by_cases g1:0 < (comms x.Data).length<;>by_cases g2:(comms x.Data).length ≤ 64<;>simp [g1,g2]<;>first | (intro;omega) | (rw [decide_eq_true (by omega)]) | (rw [decide_eq_false (by omega)]) | omega
 rw [e2,sortC_compact (by omega)]
 simp only [joinP_def,e1]
 by_cases g:x.Data.length ≠ 0∧x.Data.length % 4=0∧x.Data.length / 4 ≤ 64
 ·rw [if_pos g,decide_eq_true (show 0 < (comms x.Data).length∧(comms x.Data).length ≤ 64 by omega),if_pos rfl,if_pos (by rw [decide_eq_true g.2.1];rfl),community_Valid_eq (by omega),canC_valid (comms_ok _) (by omega)]
  rfl
 ·rw [if_neg g]
  by_cases g1:0 < (comms x.Data).length∧(comms x.Data).length ≤ 64
  ·rw [decide_eq_true g1,if_pos rfl,if_neg (by rw [decide_eq_false (by omega)];decide)]
   rfl
  ·rw [decide_eq_false g1,if_neg (by decide)]
   rfl
theorem bodyP_32 (hd:x.Data.length ≤ 1000000) (h:x.Type_=32) (e:fl x.Type_=192):bodyP F next x (toP a)=match stepS a x with | none=>F | some a'=>next (toP a'):=by
 have er :∀d,readS a 32 d=(rdLarge d).map fun v=>{ a with Large:=v }:=fun _=>rfl
 unfold bodyP toP stepS
 dsimp only
 rw [joinP_def,if_neg (by rw [h];decide),if_neg (by rw [h];decide),if_neg (by rw [h];decide),if_neg (by rw [h];decide),if_neg (by rw [h];decide),if_neg (by rw [h];decide),if_pos (by rw [h];rfl),joinP_def,attribute_right_eq x (by rw [e];decide),if_neg (by rw [e];decide),h,some_bind']
 by_cases hr:rightB x=true
 rotate_left
 ·have hr:rightB x=false:=by simpa using hr
  rw [hr]
  rfl
 have e1:((Int.tmod (x.Data.length:Int) 12) != 0)=!decide (x.Data.length % 12=0):=by
  rw [Int.tmod_eq_emod_of_nonneg (by omega),Bool.eq_iff_iff];simp;omega
 rw [hr,if_neg (by decide),joinP_def,e1]
 by_cases g1:x.Data.length % 12=0
 rotate_left
 ·rw [decide_eq_false g1,if_pos rfl,er]
  unfold rdLarge
  rw [if_neg (show ¬ (x.Data.length ≠ 0∧x.Data.length % 12=0∧x.Data.length / 12 ≤ 64) by omega)]
  rfl
 have hl:=larges_len (nums x.Data)
 rw [nums_len] at hl
 have hc:=canL_spec (larges (nums x.Data))
 rw [decide_eq_true g1,if_neg (by decide),attribute_numbers_eq (by omega),some_bind',largeP (by rw [nums_len];omega) (by rw [nums_len];omega),er]
 unfold rdLarge
 show joinP _ _=_
 rw [joinP_def]
 have e2 :∀K:Bool→Option ρ,(joinP (τ:=Bool) (fun k113=>if (decide (((larges (nums x.Data)).length:Int) > 0))=true then k113 (cond true (decide (((larges (nums x.Data)).length:Int) ≤ 64)) false) else k113 false) K)=K (decide (0 < (larges (nums x.Data)).length∧(larges (nums x.Data)).length ≤ 64)):=by
  intro K
  rw [joinP_def]
  by_cases g1:0 < (larges (nums x.Data)).length<;>by_cases g2:(larges (nums x.Data)).length ≤ 64<;>simp [g1,g2]<;>first | (intro;omega) | (rw [decide_eq_true (by omega)]) | (rw [decide_eq_false (by omega)]) | omega
 rw [e2,sortL_compact (by omega)]
 simp only [joinP_def]
 by_cases g:x.Data.length ≠ 0∧x.Data.length % 12=0∧x.Data.length / 12 ≤ 64
 ·rw [if_pos g,decide_eq_true (show 0 < (larges (nums x.Data)).length∧(larges (nums x.Data)).length ≤ 64 by omega),if_pos rfl,community_ValidLarge_eq (by omega),canL_valid (larges_ok _ (nums_rng _)) (by omega)]
  rfl
 ·rw [if_neg g,decide_eq_false (show ¬ (0 < (larges (nums x.Data)).length∧(larges (nums x.Data)).length ≤ 64) by omega),if_neg (by decide)]
  rfl
end
end Go.AX.Q18
end
section
namespace Go.AX.Q18
open Go Go.AX
set_option maxRecDepth 8000
def numB (n:Int):Bool:=decide (1 ≤ n) && decide (n ≤ 4294967295)
def okSeg (s:Segment):Bool:=decide (s.ASNs.length ≠ 0) && (s.ASNs.all numB && chainB (fun a b=>!s.Set || ltI a b) s.ASNs)
def sgl (a b:Segment):Bool:=b.Set || a.Set
def tot (p:List Segment):Nat:=p.foldl (fun n s=>n + s.ASNs.length) 0
theorem tot_from (p:List Segment) (n:Nat):p.foldl (fun n s=>n + s.ASNs.length) n=n + tot p:=by
 unfold tot
 induction p generalizing n with
 | nil=>rfl
 | cons s t ih=>rw [List.foldl_cons,List.foldl_cons,ih,ih (0 + _)];omega
theorem tot_cons (s:Segment) (p:List Segment):tot (s::p)=s.ASNs.length + tot p:=by
 conv=>lhs;unfold tot
 rw [List.foldl_cons,tot_from];omega
theorem tot_app (p q:List Segment):tot (p ++ q)=tot p + tot q:=by
 induction p with
 | nil=>rw [List.nil_append];exact (Nat.zero_add _).symm
 | cons s t ih=>rw [List.cons_append,tot_cons,tot_cons,ih];omega
theorem tot_mem {p:List Segment} {s:Segment} (h:s ∈ p):s.ASNs.length ≤ tot p:=by
 induction p with
 | nil=>simp at h
 | cons x t ih=>
  rw [tot_cons]
  rcases List.mem_cons.1 h with rfl | h
  ·omega
  ·have:=ih h;omega
def vpath (p:List Segment):Bool:=p.all okSeg && chainB sgl p && decide (tot p ≤ 64)
theorem sum_i64 :∀(p:List Segment) (n:Nat),n + tot p ≤ 1000000000→p.foldl (fun (v:Int) s=>i64w (v + (s.ASNs.length:Int))) (n:Int)=((n + tot p:Nat):Int)
 | [],n,_=>rfl
 | s::t,n,h=>by
  rw [tot_cons] at h
  rw [List.foldl_cons,tot_cons,i64w_id (by omega),show (n:Int) + (s.ASNs.length:Int)=((n + s.ASNs.length:Nat):Int) by omega,sum_i64 t _ (by omega)]
  congr 1
  omega
theorem seg_inner {s:Segment} (hl:s.ASNs.length ≤ 1000000000) {K:Unit→Option Bool} {body:(Unit→Option Bool)→Int→Nat→Unit→Option Bool}
  (hb :∀next x i,body next x i ()=joinP (τ:=Bool) (fun k14=>if (!numB x)=true then k14 true else if s.Set=true then if (cond true (decide ((i:Int) > 0)) false)=true then Option.bind (geti s.ASNs (i64w ((i:Int) - 1))) fun v15=>k14 (cond false true (cond true (decide (v15 ≥ x)) false)) else k14 false else k14 false) fun v16=>if v16=true then some false else next ()) :
  forR K body s.ASNs 0 ()=if s.ASNs.all numB && chainB (fun a b=>!s.Set || ltI a b) s.ASNs then K () else some false:=by
 refine adjR (by omega) (fun next x _=>?_) fun next x y i _ _ hg=>?_
 ·rw [hb,joinP_def]
  cases numB x<;>cases s.Set<;>rfl
 ·rw [hb,joinP_def,hg,some_bind']
  have e:decide (((i + 1:Nat):Int) > 0)=true:=by simp
  have e2:decide (y ≥ x)=!ltI y x:=by unfold ltI;rw [Bool.eq_iff_iff];simp
  rw [e,e2]
  cases numB x<;>cases s.Set<;>cases ltI y x<;>rfl
theorem seg_outer {p:List Segment} (hl:p.length ≤ 1000000000) (ht:tot p ≤ 1000000000) {body:(Int→Option Bool)→Segment→Nat→Int→Option Bool} {inner:Segment→(Unit→Option Bool)→Int→Nat→Unit→Option Bool}
  (hb :∀next x i v,body next x i v=joinP (τ:=Unit) (fun k6=>joinP (τ:=Bool) (fun k7=>if ((x.ASNs.length:Int) == 0)=true then k7 true else if (decide ((i:Int) > 0))=true then if (cond true (!x.Set) false)=true then Option.bind (geti p (i64w ((i:Int) - 1))) fun v8=>k7 (cond false true (cond true (!v8.Set) false)) else k7 false else k7 false) fun v9=>if v9=true then some false else joinP (τ:=Unit) (fun k10=>forR (σ:=Unit) (fun _=>k10 ()) (inner x) x.ASNs 0 ()) fun _=>k6 ()) fun _=>next (i64w (v + (x.ASNs.length:Int))))
  (hi :∀s next x i,inner s next x i ()=joinP (τ:=Bool) (fun k14=>if (!numB x)=true then k14 true else if s.Set=true then if (cond true (decide ((i:Int) > 0)) false)=true then Option.bind (geti s.ASNs (i64w ((i:Int) - 1))) fun v15=>k14 (cond false true (cond true (decide (v15 ≥ x)) false)) else k14 false else k14 false) fun v16=>if v16=true then some false else next ()) :
  (joinP (τ:=Int) (fun k1=>forR (σ:=Int) (fun v=>k1 v) body p 0 0) fun v=>some (decide (v ≤ 64)))=some (vpath p):=by
 rw [joinP_def]
 have hin :∀s ∈ p,∀K:Unit→Option Bool,forR K (inner s) s.ASNs 0 ()=if s.ASNs.all numB && chainB (fun a b=>!s.Set || ltI a b) s.ASNs then K () else some false:=fun s hs K=>seg_inner (by have:=tot_mem hs;omega) (hi s)
 refine (adjRS (g:=fun (v:Int) s=>i64w (v + (s.ASNs.length:Int))) (ok:=okSeg) (lt:=sgl) (F:=some false) (by omega) (fun next x v hx=>?_) fun next x y i v hx _ hg=>?_).trans ?_
 ·rw [hb,joinP_def,joinP_def]
  unfold okSeg
  by_cases h0:x.ASNs.length=0
  ·have e:((x.ASNs.length:Int) == 0)=true:=by simp [h0]
   rw [if_pos e]
   simp [h0]
  ·have e:¬ ((x.ASNs.length:Int) == 0)=true:=by simpa using h0
   rw [if_neg e,if_neg (by simp)]
   show (if false=true then _ else _)=_
   rw [if_neg (by decide),joinP_def,hin x hx]
   simp only [h0,ne_eq,not_false_eq_true,decide_true,Bool.true_and]
 ·rw [hb,joinP_def,joinP_def,hg]
  unfold okSeg sgl
  by_cases h0:x.ASNs.length=0
  ·have e:((x.ASNs.length:Int) == 0)=true:=by simp [h0]
   rw [if_pos e]
   simp [h0]
  ·have e:¬ ((x.ASNs.length:Int) == 0)=true:=by simpa using h0
   have e2:decide (((i + 1:Nat):Int) > 0)=true:=by simp
   rw [if_neg e,if_pos e2,some_bind',joinP_def,hin x hx]
   simp only [h0,ne_eq,not_false_eq_true,decide_true,Bool.true_and]
   generalize (x.ASNs.all numB && chainB (fun a b=>!x.Set || ltI a b) x.ASNs)=c
   cases x.Set<;>cases y.Set<;>cases c<;>rfl
 ·have hs:=sum_i64 p 0 (by omega)
  rw [Nat.zero_add] at hs
  have hs:p.foldl (fun (v:Int) s=>i64w (v + (s.ASNs.length:Int))) 0=(tot p:Int):=hs
  rw [hs]
  unfold vpath
  have e:decide ((tot p:Int) ≤ 64)=decide (tot p ≤ 64):=by rw [Bool.eq_iff_iff];simp;omega
  simp only [e]
  generalize (p.all okSeg && chainB sgl p)=c
  cases c<;>rfl
theorem ref15_Valid_eq {p:List Segment} (hl:p.length ≤ 1000000000) (ht:tot p ≤ 1000000000):ref15_Valid p=some (vpath p):=by
 unfold ref15_Valid
 refine seg_outer hl ht (fun next x i v=>rfl) fun s next x i=>?_
 have e:(!numB x)=(decide (x < 1) || decide (x > 4294967295)):=by unfold numB;rw [Bool.eq_iff_iff];simp<;>omega
 rw [joinP_def,joinP_def,e]
 cases decide (x < 1)<;>cases decide (x > 4294967295)<;>rfl
theorem aspath_Valid_eq {p:List Segment} (hl:p.length ≤ 1000000000) (ht:tot p ≤ 1000000000):aspath_Valid p=some (vpath p):=by
 unfold aspath_Valid
 refine seg_outer hl ht (fun next x i v=>rfl) fun s next x i=>?_
 rw [number_eq]
 rfl
theorem validP_eq {p:List Segment} (hl:p.length ≤ 1000000000) (ht:tot p ≤ 1000000000):validP p=vpath p:=by
 unfold validP
 rw [ref15_Valid_eq hl ht];rfl
theorem addSeg_size (p:List Segment) (b:Bool) {m:List Int} (hm:m.length ≤ 1000000):(addSeg p b m).length ≤ p.length + 1∧tot (addSeg p b m) ≤ tot p + m.length:=by
 unfold addSeg
 cases b
 ·simp only [Bool.false_eq_true,if_false]
  rcases List.eq_nil_or_concat p with rfl | ⟨q,s,rfl⟩
  ·exact ⟨by simp,by simp [tot]⟩
  ·rw [List.concat_eq_append]
   simp only [List.getLast?_concat,List.dropLast_concat]
   split
   ·rw [tot_app,tot_cons]
    exact ⟨by simp,by simp [tot]⟩
   ·rw [tot_app,tot_cons,tot_app,tot_cons]
    exact ⟨by simp,by simp [tot];omega⟩
 ·simp only [if_true]
  rw [tot_app,tot_cons]
  have:=srt_len hm
  exact ⟨by simp,by simp only [tot,List.foldl_nil];omega⟩
theorem rdSeg_size :∀(n:Nat) (b:List UInt8) (p q:List Segment),b.length ≤ 1000000→rdSeg n b p=some q→q.length ≤ p.length + b.length∧tot q ≤ tot p + b.length
 | n,[],p,q,_,h=>by
  rw [rdSeg_nil] at h
  obtain rfl:=Option.some.inj h
  exact ⟨Nat.le_refl _,Nat.le_refl _⟩
 | n + 1,[x],p,q,_,h=>by simp [rdSeg] at h
 | n + 1,k::c::t,p,q,hb,h=>by
  simp only [List.length_cons] at hb
  simp only [rdSeg] at h
  split at h
  ·cases h
  ·rename_i hk
   have h1:=rdSeg_size n _ _ _ (by simp only [List.length_drop];omega) h
   have hn:(nums (t.take (4 * c.toNat))).length=c.toNat:=by rw [nums_len,List.length_take];omega
   have hc:=c.toNat_lt
   have h2:=addSeg_size p (k.toNat == 1) (m:=nums (t.take (4 * c.toNat))) (by omega)
   simp only [List.length_drop] at h1
   simp only [List.length_cons]
   omega
 | 0,x::b,p,q,_,h=>by
  have:rdSeg 0 (x::b) p=none:=by cases b<;>rfl
  rw [this] at h;simp at h
theorem rdL_size {b:List UInt8} {q:List Segment} (hb:b.length ≤ 1000000) (h:rdL b []=some q):q.length ≤ 1000000∧tot q ≤ 1000000:=by
 have:=rdSeg_size _ _ _ _ hb h
 simp only [List.length_nil,tot,List.foldl_nil] at this
 unfold tot
 omega
section
variable {ρ:Type} {F:Option ρ} {next:Int×Bool×UInt64×UInt64×Int×Int×Int×(List Segment)×(List Community)×(List Large)→Option ρ} {x:Unknown} {a:Attrs}
theorem bodyP_2 (hd:x.Data.length ≤ 1000000) (h:x.Type_=2) (e:fl x.Type_=64) (hp:a.Path=[]):bodyP F next x (toP a)=match stepS a x with | none=>F | some a'=>next (toP a'):=by
 have er :∀d,readS a 2 d=(rdPath d).map fun v=>{ a with Path:=v }:=fun _=>rfl
 unfold bodyP toP stepS
 dsimp only
 rw [joinP_def,if_neg (by rw [h];decide),if_pos (by rw [h];rfl),joinP_def,attribute_right_eq x (by rw [e];decide),if_neg (by rw [e];decide),h,some_bind',er]
 by_cases hr:rightB x=true
 rotate_left
 ·have hr:rightB x=false:=by simpa using hr
  rw [hr]
  rfl
 have ck:chk (([]:List Segment)=[])=some ():=by unfold chk;rw [if_pos rfl]
 rw [hr,if_neg (by decide),joinP_def,joinP_def,hp,ck,some_bind']
 refine (whileR_eq (fun s:List UInt8×List Segment×Nat×List Int=>Lk s.2.1 s.2.2.1 s.2.2.2∧(s.1.length + s.2.1.length ≤ 1000000∧s.1.length + tot s.2.1 ≤ 1000000)∧s.1.length + s.2.2.2.length ≤ 1000000) (fun s=>s.1.length)
  (fun s=>match rdL s.1 s.2.1 with | none=>F | some p=>if validP p=true then next (toP { a with Path:=p }) else F) ?_ fuel (x.Data,[],0,[]) ⟨.inl rfl,by simpa [tot] using hd,by simpa using hd⟩ (lt_fuel (by simp only;omega))).trans ?_
 rotate_left
 ·unfold rdPath
  dsimp only
  cases rdL x.Data [] with
  | none=>rfl
  | some p=>
   rw [Option.bind_some]
   show (if validP p=true then _ else _)=_
   cases validP p<;>rfl
 rintro next' ⟨b,p,i,l⟩ ⟨h1,⟨h2,h2'⟩,h3⟩ hn
 dsimp only at h1 h2 h2' h3 ⊢
 match b,h2,h2',h3,hn with
 | [],h2,h2',_,_=>
  rw [rdL_nil,if_neg (by simp),aspath_Valid_eq (by omega) (by simp only [List.length_nil] at h2';omega),some_bind']
  show _=(if validP p=true then next (toP { a with Path:=p }) else F)
  simp only [List.length_nil] at h2 h2'
  rw [validP_eq (by omega) (by omega)]
  cases vpath p<;>rfl
 | [x],_,_,_,_=>rfl
 | k::c::t,h2,h2',h3,hn=>
  simp only [List.length_cons] at h2 h2' h3
  rw [if_pos (by simp;omega),rdL_cons,bad_prog (by omega)]
  by_cases hb:badSeg k c t=true
  ·rw [if_pos hb,if_pos hb]
   rfl
  rw [if_neg hb,if_neg hb]
  have hb':(k.toNat=1 ∨ k.toNat=2)∧1 ≤ c.toNat∧4 * c.toNat ≤ t.length:=by
   simp only [badSeg,decide_eq_true_eq] at hb
   omega
  obtain ⟨b1,b2,b3⟩:=hb'
  have hc:=c.toNat_lt
  have epart:part (k::c::t) 2 ((2 + 4 * c.toNat:Nat):Int)=some (t.take (4 * c.toNat)):=by
   rw [show (2:Int)=((2:Nat):Int) by rfl,part_nat (by omega) (by simp;omega)]
   rw [List.drop_succ_cons,List.drop_succ_cons,List.drop_zero,show 2 + 4 * c.toNat - 2=4 * c.toNat by omega]
  rw [geti_1,some_bind',geti_0,some_bind',u8_2,epart,some_bind',attribute_numbers_eq (by simp;omega),some_bind',part_rest b3,some_bind']
  have hnl:(nums (t.take (4 * c.toNat))).length=c.toNat:=by rw [nums_len,List.length_take];omega
  generalize hm:nums (t.take (4 * c.toNat))=m at *
  have hdl:(t.drop (4 * c.toNat)).length=t.length - 4 * c.toNat:=List.length_drop
  have hsl:=srt_len (l:=m) (by omega)
  have hsz:=addSeg_size p (k.toNat == 1) (m:=m) (by omega)
  have hsort :∀K:List Int→Option ρ,joinP (τ:=List Int) (fun k50=>if ((k.toNat:Int) == 1)=true then Option.bind (sortI m) fun v51=>Option.bind (slices_Compact_int_int v51) fun v52=>k50 v52 else k50 m) K=K (if k.toNat=1 then srt m else m):=by
   intro K
   rw [joinP_def]
   by_cases b1:k.toNat=1
   ·rw [if_pos (by simp [b1]),if_pos b1];exact sortI_compact (by omega)
   ·rw [if_neg (by simp;omega),if_neg b1]
  rw [hsort]
  rcases b1 with b1 | b1
  ·have e:(k.toNat == 1)=true:=by rw [b1];rfl
   have e1:((k.toNat:Int) == 1)=true:=by rw [b1];rfl
   rw [e,addSeg_set] at hsz
   have ef :∀K:Bool→Option ρ,joinP (τ:=Bool) (fun k54=>if (decide ((i64w ((p.length:Int) - 1)) ≥ 0))=true then if (cond true (!true) false)=true then Option.bind (geti p (i64w ((p.length:Int) - 1))) fun v55=>k54 (cond true (!v55.Set) false) else k54 false else k54 false) K=K false:=by
    intro K
    rw [joinP_def]
    split<;>rfl
   rw [if_pos b1,e1,ef,joinP_def,if_neg (by decide),apnd_some (by decide) (by simp;omega),some_bind',e,addSeg_set]
   exact hn (t.drop (4 * c.toNat),p ++ [⟨true,srt m⟩],(List.map Segment.toD p).length + 0,srt m) ⟨.inr ⟨p,true,rfl,by simp⟩,⟨by simp only [List.length_append,List.length_singleton,hdl];omega,by simp only [hdl];omega⟩,by simp only [hdl];omega⟩ (by simp only [hdl,List.length_cons];omega)
  ·have e:(k.toNat == 1)=false:=by rw [b1];rfl
   have e1:((k.toNat:Int) == 1)=false:=by rw [b1];rfl
   rw [e] at hsz
   have ef :∀K:Bool→Option ρ,joinP (τ:=Bool) (fun k54=>if (decide ((i64w ((p.length:Int) - 1)) ≥ 0))=true then if (cond true (!false) false)=true then Option.bind (geti p (i64w ((p.length:Int) - 1))) fun v55=>k54 (cond true (!v55.Set) false) else k54 false else k54 false) K=K (match p.getLast? with | some s=>!s.Set | none=>false):=by
    intro K
    have hlast:=last_no (p:=p) (by omega) K
    refine Eq.trans ?_ hlast
    rw [joinP_def,joinP_def]
    have:decide (i64w ((p.length:Int) - 1) ≥ 0)=decide ((p.length:Int) > 0):=by rw [i64w_id (by omega),Bool.eq_iff_iff];simp;omega
    rw [this]
    split<;>rfl
   rw [if_neg (by omega),e1,ef,joinP_def,e]
   rcases h1 with rfl | ⟨q,s,rfl,rfl⟩
   ·rw [if_neg (by simp),apnd_some (by decide) (by simp),some_bind',addSeg_nil]
    rw [addSeg_nil] at hsz
    exact hn (t.drop (4 * c.toNat),[⟨false,m⟩],(List.map Segment.toD []).length + 0,m) ⟨.inr ⟨[],false,rfl,rfl⟩,⟨by simp only [List.length_singleton,hdl];simp only [List.length_nil] at h2;omega,by simp only [hdl];omega⟩,by simp only [hdl];omega⟩ (by simp only [hdl,List.length_cons];omega)
   ·simp only [List.length_append,List.length_singleton] at h2
    cases s
    ·rw [addSeg_grow] at hsz
     rw [if_pos (by simp),last_ix (by omega),geti_at,some_bind']
     rw [Int.toNat_natCast]
     have ck:chk (q.length=q.length)=some ():=by unfold chk;rw [if_pos rfl]
     rw [ck,some_bind',apnd_some (by decide) (by omega),some_bind',some_bind',seti_at,some_bind',addSeg_grow]
     exact hn (t.drop (4 * c.toNat),q ++ [⟨false,l ++ m⟩],q.length,l ++ m) ⟨.inr ⟨q,false,rfl,rfl⟩,⟨by simp only [List.length_append,List.length_singleton,hdl];omega,by simp only [hdl];omega⟩,by simp only [hdl,List.length_append];omega⟩ (by simp only [hdl,List.length_cons];omega)
    ·rw [addSeg_afterSet] at hsz
     rw [if_neg (by simp),apnd_some (by decide) (by simp;omega),some_bind',addSeg_afterSet]
     exact hn (t.drop (4 * c.toNat),q ++ [⟨true,l⟩] ++ [⟨false,m⟩],(List.map Segment.toD (q ++ [⟨true,l⟩])).length + 0,m) ⟨.inr ⟨q ++ [⟨true,l⟩],false,rfl,by simp⟩,⟨by simp only [List.length_append,List.length_singleton,hdl];omega,by simp only [hdl];omega⟩,by simp only [hdl];omega⟩ (by simp only [hdl,List.length_cons];omega)
end
end Go.AX.Q18
end
section
namespace Go.AX.Q18
open Go Go.AX
set_option maxRecDepth 8000
theorem flags_if {f:Int} (m:Int) {ρ:Type} {A B C:Option ρ} (hf:f ≠ 192) :
  (if ((i64w ((BitVec.ofInt 64 m &&& BitVec.ofInt 64 192).toNat:Int)) != f)=true then A else if (f != 192)=true then if (cond false true (cond true ((i64w ((BitVec.ofInt 64 m &&& BitVec.ofInt 64 32).toNat:Int)) != 0) false))=true then A else B else C)=if (bt m 192 == f && (f == 192 || bt m 32 == 0))=true then B else A:=by
 have d1:(i64w ((BitVec.ofInt 64 m &&& BitVec.ofInt 64 192).toNat:Int))=bt m 192:=rfl
 have d2:(i64w ((BitVec.ofInt 64 m &&& BitVec.ofInt 64 32).toNat:Int))=bt m 32:=rfl
 rw [d1,d2]
 have h3:(f == 192)=false:=by simpa using hf
 have h4:(f != 192)=true:=by simpa using hf
 rw [h3,h4]
 unfold bne
 cases (bt m 192 == f)<;>cases (bt m 32 == 0)<;>rfl
theorem flags_if2 (m:Int) {ρ:Type} {A B C:Option ρ} :
  (if ((i64w ((BitVec.ofInt 64 m &&& BitVec.ofInt 64 192).toNat:Int)) != 192)=true then A else if ((192:Int) != 192)=true then C else B)=if (bt m 192 == 192 && ((192:Int) == 192 || bt m 32 == 0))=true then B else A:=by
 have d1:(i64w ((BitVec.ofInt 64 m &&& BitVec.ofInt 64 192).toNat:Int))=bt m 192:=rfl
 rw [d1]
 unfold bne
 cases (bt m 192 == 192)<;>rfl
theorem cond_len {len n:Nat} {ρ:Type} (K:Bool→Option ρ) (hn:0 < n) (hl:len ≤ 1000000000) :
  joinP (τ:=Bool) (fun q=>if ((len:Int) == 0)=true then q true else if (cond false true ((Int.tmod (len:Int) (n:Int)) != 0))=true then q true else q (cond false true (decide ((i64w (Int.tdiv (len:Int) (n:Int))) > 64)))) K=K (!decide (len ≠ 0∧len % n=0∧len / n ≤ 64)):=by
 have e0:((len:Int) == 0)=decide (len=0):=by rw [Bool.eq_iff_iff];simp
 have e1:((Int.tmod (len:Int) (n:Int)) != 0)=!decide (len % n=0):=by
  rw [Int.tmod_eq_emod_of_nonneg (by omega),← Int.natCast_emod,Bool.eq_iff_iff]
  simp only [bne_iff_ne,ne_eq,Bool.not_eq_true',decide_eq_false_iff_not]
  omega
 have hd:len / n ≤ len:=Nat.div_le_self _ _
 have e2:i64w (Int.tdiv (len:Int) (n:Int))=((len / n:Nat):Int):=by
  rw [Int.tdiv_eq_ediv_of_nonneg (by omega),← Int.natCast_ediv,i64w_id (by generalize len / n=q at *;omega)]
 have e3:decide (((len / n:Nat):Int) > 64)=!decide (len / n ≤ 64):=by
  rw [Bool.eq_iff_iff]
  simp only [decide_eq_true_eq,Bool.not_eq_true',decide_eq_false_iff_not]
  omega
 rw [joinP_def,e0,e1,e2,e3]
 by_cases a1:len=0<;>by_cases a2:len % n=0<;>by_cases a3:len / n ≤ 64<;>simp [a1,a2,a3]
theorem type_or (t:Int) {ρ:Type} (K:Bool→Option ρ):joinP (τ:=Bool) (fun k142=>if (t == 4)=true then k142 (t == 4) else joinP (τ:=Bool) (fun k143=>if (t == 5)=true then k143 (t == 5) else k143 (t == 35)) fun v=>k142 v) K=K (t == 4 || (t == 5 || t == 35)):=by
 rw [joinP_def,joinP_def]
 cases (t == 4)<;>cases (t == 5)<;>rfl
theorem len_ne {d:List UInt8} {n:Nat}:((d.length:Int) != (n:Int))=!decide (d.length=n):=by rw [Bool.eq_iff_iff];simp;omega
theorem four_part {d:List UInt8} (h:d.length=4):part d 0 (if (4:Int) < (d.length:Int) then 4 else (d.length:Int))=some d:=by
 rw [if_neg (by omega),show (0:Int)=((0:Nat):Int) by rfl,part_nat (by omega) (by omega)]
 simp
theorem four_part2 (d:List UInt8) :∃r,part d 0 (if (4:Int) < (d.length:Int) then 4 else (d.length:Int))=some r:=by
 have e :∀n:Nat,n ≤ d.length→part d 0 (n:Int)=some (d.take n):=fun n h=>part_pre h
 split
 ·exact ⟨_,e 4 (by omega)⟩
 ·exact ⟨_,e d.length (by omega)⟩
section
variable {ρ:Type} {F:Option ρ} {next:Int×(List Segment)×Bool×UInt64×UInt64×Int×Int×Int×(List Community)×(List Large)→Option ρ} {x:Unknown} {a:Attrs}
theorem bodyR_0 (h:x.Type_ ≠ 1∧x.Type_ ≠ 2∧x.Type_ ≠ 3∧x.Type_ ≠ 4∧x.Type_ ≠ 5∧x.Type_ ≠ 8∧x.Type_ ≠ 32∧x.Type_ ≠ 35) (e:fl x.Type_=0):bodyR F next x (toR a)=match stepS a x with | none=>F | some a'=>next (toR a'):=by
 unfold bodyR toR stepS
 dsimp only
 rw [joinP_def,ref18_flags_eq,some_bind',e,if_pos (by decide),if_pos rfl]
theorem bodyR_1 (h:x.Type_=1) (e:fl x.Type_=64):bodyR F next x (toR a)=match stepS a x with | none=>F | some a'=>next (toR a'):=by
 have er :∀d,readS a 1 d=(rdOrigin d).map fun v=>{ a with Origin:=v }:=fun _=>rfl
 unfold bodyR toR stepS rightB
 dsimp only
 rw [joinP_def,ref18_flags_eq,some_bind',e,if_neg (by decide),joinP_def,flags_if _ (by decide),if_neg (show ¬ (64:Int)=0 by decide),h,er]
 by_cases hr:(bt x.Flags 192 == 64 && ((64:Int) == 192 || bt x.Flags 32 == 0))=true
 rotate_left
 ·rw [if_neg hr,if_neg hr]
  rfl
 rw [if_pos hr,if_pos hr,joinP_def,joinP_def,joinP_def]
 rw [if_pos (by decide)]
 rw [joinP_def]
 unfold rdOrigin
 match hx:x.Data with
 | []=>rfl
 | [y]=>
  have hy:getB [y]=(y.toNat:Int):=by
   rw [getB_eq (by simp)]
   simp [val]
  have g0:geti [y] 0=some y:=geti_0
  rw [if_neg (by simp),g0,some_bind',some_bind',hy]
  by_cases hy2:y.toNat ≤ 2
  ·rw [if_pos (show [y].length=1∧(y.toNat:Int) ≤ 2 from ⟨rfl,by omega⟩)]
   have:decide ((y.toNat:Int) > 2)=false:=decide_eq_false (by omega)
   rw [this]
   rfl
  ·rw [if_neg (show ¬ ([y].length=1∧(y.toNat:Int) ≤ 2) by omega)]
   have:decide ((y.toNat:Int) > 2)=true:=decide_eq_true (by omega)
   rw [this]
   rfl
 | y::z::t=>
  rw [if_pos (by simp;omega),if_neg (by simp)]
  rfl
theorem bodyR_2 (hd:x.Data.length ≤ 1000000) (h:x.Type_=2) (e:fl x.Type_=64):bodyR F next x (toR a)=match stepS a x with | none=>F | some a'=>next (toR a'):=by
 have er :∀d,readS a 2 d=(rdPath d).map fun v=>{ a with Path:=v }:=fun _=>rfl
 unfold bodyR toR stepS rightB
 dsimp only
 rw [joinP_def,ref18_flags_eq,some_bind',e,if_neg (by decide),joinP_def,flags_if _ (by decide),if_neg (show ¬ (64:Int)=0 by decide),h,er]
 by_cases hr:(bt x.Flags 192 == 64 && ((64:Int) == 192 || bt x.Flags 32 == 0))=true
 rotate_left
 ·rw [if_neg hr,if_neg hr]
  rfl
 rw [if_pos hr,if_pos hr,joinP_def,joinP_def,joinP_def]
 rw [if_neg (by decide)]
 rw [if_pos (by decide)]
 rw [ref18_path_eq hd]
 unfold rdPath
 cases hq:rdL x.Data [] with
 | none=>rfl
 | some p=>
  have hs:=rdL_size hd hq
  dsimp only
  rw [ref15_Valid_eq (by omega) (by omega),some_bind',some_bind',Option.bind_some,validP_eq (by omega) (by omega)]
  cases vpath p<;>rfl
theorem bodyR_3 (h:x.Type_=3) (e:fl x.Type_=64):bodyR F next x (toR a)=match stepS a x with | none=>F | some a'=>next (toR a'):=by
 have er :∀d,readS a 3 d=(rdNext d).map fun v=>{ a with Next:=v }:=fun _=>rfl
 unfold bodyR toR stepS rightB
 dsimp only
 rw [joinP_def,ref18_flags_eq,some_bind',e,if_neg (by decide),joinP_def,flags_if _ (by decide),if_neg (show ¬ (64:Int)=0 by decide),h,er]
 by_cases hr:(bt x.Flags 192 == 64 && ((64:Int) == 192 || bt x.Flags 32 == 0))=true
 rotate_left
 ·rw [if_neg hr,if_neg hr]
  rfl
 rw [if_pos hr,if_pos hr,joinP_def,joinP_def,joinP_def]
 obtain ⟨er',he⟩:=addrOf_eq x.Data
 rw [if_neg (by decide),if_neg (by decide),joinP_def,if_pos (by decide)]
 have e4:=len_ne (d:=x.Data) (n:=4)
 unfold rdNext
 by_cases h4:x.Data.length=4
 ·rw [if_neg (by rw [show ((4:Int))=((4:Nat):Int) by rfl,e4,decide_eq_true h4];decide),FromBytes_eq,he,some_bind',if_pos h4]
  rfl
 ·rw [if_pos (by rw [show ((4:Int))=((4:Nat):Int) by rfl,e4,decide_eq_false h4];rfl),if_neg h4]
  rfl
theorem bodyR_4 (h:x.Type_=4) (e:fl x.Type_=128):bodyR F next x (toR a)=match stepS a x with | none=>F | some a'=>next (toR a'):=by
 have er :∀d,readS a 4 d=(rd4 d).map fun v=>{ a with MED:=v }:=fun _=>rfl
 unfold bodyR toR stepS rightB
 dsimp only
 rw [joinP_def,ref18_flags_eq,some_bind',e,if_neg (by decide),joinP_def,flags_if _ (by decide),if_neg (show ¬ (128:Int)=0 by decide),h,er]
 by_cases hr:(bt x.Flags 192 == 128 && ((128:Int) == 192 || bt x.Flags 32 == 0))=true
 rotate_left
 ·rw [if_neg hr,if_neg hr]
  rfl
 rw [if_pos hr,if_pos hr,joinP_def,joinP_def,joinP_def]
 rw [if_neg (by decide),if_neg (by decide),joinP_def,if_neg (by decide)]
 obtain ⟨q,hq⟩:=four_part2 x.Data
 simp only [joinP_def]
 have e4:=len_ne (d:=x.Data) (n:=4)
 have e4:((x.Data.length:Int) != 4)=!decide (x.Data.length=4):=e4
 rw [if_pos (by decide),if_pos (by decide)]
 unfold rd4
 by_cases h4:x.Data.length=4
 ·rw [four_part h4,some_bind',ref18_number_eq,some_bind',if_neg (by rw [e4,decide_eq_true h4];decide)]
  rw [if_pos h4]
  rfl
 ·rw [hq,some_bind',ref18_number_eq,some_bind',if_pos (by rw [e4,decide_eq_false h4];rfl),if_pos trivial,if_neg h4]
  rfl
theorem bodyR_5 (h:x.Type_=5) (e:fl x.Type_=64):bodyR F next x (toR a)=match stepS a x with | none=>F | some a'=>next (toR a'):=by
 have er :∀d,readS a 5 d=(rd4 d).map fun v=>{ a with Pref:=v }:=fun _=>rfl
 unfold bodyR toR stepS rightB
 dsimp only
 rw [joinP_def,ref18_flags_eq,some_bind',e,if_neg (by decide),joinP_def,flags_if _ (by decide),if_neg (show ¬ (64:Int)=0 by decide),h,er]
 by_cases hr:(bt x.Flags 192 == 64 && ((64:Int) == 192 || bt x.Flags 32 == 0))=true
 rotate_left
 ·rw [if_neg hr,if_neg hr]
  rfl
 rw [if_pos hr,if_pos hr,joinP_def,joinP_def,joinP_def]
 rw [if_neg (by decide),if_neg (by decide),joinP_def,if_neg (by decide)]
 obtain ⟨q,hq⟩:=four_part2 x.Data
 simp only [joinP_def]
 have e4:=len_ne (d:=x.Data) (n:=4)
 have e4:((x.Data.length:Int) != 4)=!decide (x.Data.length=4):=e4
 rw [if_neg (by decide),if_pos (by decide),if_pos (by decide)]
 unfold rd4
 by_cases h4:x.Data.length=4
 ·rw [four_part h4,some_bind',ref18_number_eq,some_bind',if_neg (by rw [e4,decide_eq_true h4];decide)]
  rw [if_pos h4]
  rfl
 ·rw [hq,some_bind',ref18_number_eq,some_bind',if_pos (by rw [e4,decide_eq_false h4];rfl),if_pos trivial,if_neg h4]
  rfl
theorem bodyR_8 (hd:x.Data.length ≤ 1000000) (hc:a.Communities=[]) (h:x.Type_=8) (e:fl x.Type_=192):bodyR F next x (toR a)=match stepS a x with | none=>F | some a'=>next (toR a'):=by
 have er :∀d,readS a 8 d=(rdComm d).map fun v=>{ a with Communities:=v }:=fun _=>rfl
 unfold bodyR toR stepS rightB
 dsimp only
 rw [joinP_def,ref18_flags_eq,some_bind',e,if_neg (by decide),joinP_def,flags_if2,if_neg (show ¬ (192:Int)=0 by decide),h,er]
 by_cases hr:(bt x.Flags 192 == 192 && ((192:Int) == 192 || bt x.Flags 32 == 0))=true
 rotate_left
 ·rw [if_neg hr,if_neg hr]
  rfl
 rw [if_pos hr,if_pos hr,joinP_def,joinP_def,joinP_def]
 rw [if_neg (by decide),if_neg (by decide),joinP_def,if_neg (by decide),type_or,show ((8:Int) == 4 || ((8:Int) == 5 || (8:Int) == 35))=false from rfl,joinP_def,if_neg (by decide),joinP_def]
 have ec:=fun K=>cond_len (ρ:=ρ) (len:=x.Data.length) (n:=4) K (by omega) (by omega)
 unfold rdComm
 rw [if_pos (by decide)]
 refine (ec _).trans ?_
 by_cases g:x.Data.length ≠ 0∧x.Data.length % 4=0∧x.Data.length / 4 ≤ 64
 ·rw [decide_eq_true g,if_neg (by decide),if_pos g,hc,commR g.2.1 g.2.2]
  rfl
 ·rw [decide_eq_false g,if_neg g]
  rfl
theorem bodyR_32 (hd:x.Data.length ≤ 1000000) (hc:a.Large=[]) (h:x.Type_=32) (e:fl x.Type_=192):bodyR F next x (toR a)=match stepS a x with | none=>F | some a'=>next (toR a'):=by
 have er :∀d,readS a 32 d=(rdLarge d).map fun v=>{ a with Large:=v }:=fun _=>rfl
 unfold bodyR toR stepS rightB
 dsimp only
 rw [joinP_def,ref18_flags_eq,some_bind',e,if_neg (by decide),joinP_def,flags_if2,if_neg (show ¬ (192:Int)=0 by decide),h,er]
 by_cases hr:(bt x.Flags 192 == 192 && ((192:Int) == 192 || bt x.Flags 32 == 0))=true
 rotate_left
 ·rw [if_neg hr,if_neg hr]
  rfl
 rw [if_pos hr,if_pos hr,joinP_def,joinP_def,joinP_def]
 rw [if_neg (by decide),if_neg (by decide),joinP_def,if_neg (by decide),type_or,show ((32:Int) == 4 || ((32:Int) == 5 || (32:Int) == 35))=false from rfl,joinP_def,if_neg (by decide),joinP_def]
 rw [if_neg (by decide),joinP_def]
 have ec:=fun K=>cond_len (ρ:=ρ) (len:=x.Data.length) (n:=12) K (by omega) (by omega)
 unfold rdLarge
 rw [if_pos (by decide)]
 refine (ec _).trans ?_
 by_cases g:x.Data.length ≠ 0∧x.Data.length % 12=0∧x.Data.length / 12 ≤ 64
 ·rw [decide_eq_true g,if_neg (by decide),if_pos g,hc,largeR g.2.1 g.2.2]
  rfl
 ·rw [decide_eq_false g,if_neg g]
  rfl
theorem bodyR_35 (h:x.Type_=35) (e:fl x.Type_=192):bodyR F next x (toR a)=match stepS a x with | none=>F | some a'=>next (toR a'):=by
 have er :∀d,readS a 35 d=(rdOTC d).map fun v=>{ a with OTC:=v }:=fun _=>rfl
 unfold bodyR toR stepS rightB
 dsimp only
 rw [joinP_def,ref18_flags_eq,some_bind',e,if_neg (by decide),joinP_def,flags_if2,if_neg (show ¬ (192:Int)=0 by decide),h,er]
 by_cases hr:(bt x.Flags 192 == 192 && ((192:Int) == 192 || bt x.Flags 32 == 0))=true
 rotate_left
 ·rw [if_neg hr,if_neg hr]
  rfl
 rw [if_pos hr,if_pos hr,joinP_def,joinP_def,joinP_def]
 rw [if_neg (by decide),if_neg (by decide),joinP_def,if_neg (by decide)]
 obtain ⟨q,hq⟩:=four_part2 x.Data
 simp only [joinP_def]
 have e4:=len_ne (d:=x.Data) (n:=4)
 have e4:((x.Data.length:Int) != 4)=!decide (x.Data.length=4):=e4
 rw [if_neg (by decide),if_neg (by decide),if_pos (by decide)]
 unfold rdOTC
 by_cases h4:x.Data.length=4
 ·rw [four_part h4,some_bind',ref18_number_eq,some_bind',if_neg (by rw [e4,decide_eq_true h4];decide)]
  by_cases h0:getB x.Data=0
  ·rw [if_neg (show ¬ (x.Data.length=4∧getB x.Data ≠ 0) from fun q=>q.2 h0),h0]
   rfl
  ·rw [if_pos (show x.Data.length=4∧getB x.Data ≠ 0 from ⟨h4,h0⟩)]
   have h0':(getB x.Data == 0)=false:=by simpa using h0
   rw [if_pos (by decide),h0']
   rfl
 ·rw [hq,some_bind',ref18_number_eq,some_bind',if_pos (by rw [e4,decide_eq_false h4];rfl),if_pos trivial,if_neg (show ¬ (x.Data.length=4∧getB x.Data ≠ 0) from fun q=>h4 q.1)]
  rfl
end
end Go.AX.Q18
end
section
namespace Go.AX.Q18
open Go Go.AX
set_option maxRecDepth 8000
def hasT (l:List Unknown) (t:Int):Bool:=l.any fun y=>t == y.Type_
def firstsS (l:List Unknown):List Unknown:=l.foldl (fun acc x=>if hasT acc x.Type_ then acc else acc ++ [x]) []
theorem firstsS_snoc (l:List Unknown) (x:Unknown):firstsS (l ++ [x])=if hasT (firstsS l) x.Type_ then firstsS l else firstsS l ++ [x]:=by
 unfold firstsS
 rw [List.foldl_append]
 rfl
theorem hasT_iff {l:List Unknown} {t:Int}:hasT l t=true ↔∃y ∈ l,y.Type_=t:=by
 unfold hasT
 rw [List.any_eq_true]
 simp only [beq_iff_eq]
 exact ⟨fun ⟨y,h1,h2⟩=>⟨y,h1,h2.symm⟩,fun ⟨y,h1,h2⟩=>⟨y,h1,h2.symm⟩⟩
theorem hasT_app (l m:List Unknown) (t:Int):hasT (l ++ m) t=(hasT l t || hasT m t):=by unfold hasT;rw [List.any_append]
def Dist (l:List Unknown):Prop:=l.Pairwise fun a b=>a.Type_ ≠ b.Type_
theorem firsts_spec (l:List Unknown):Dist (firstsS l)∧(∀x ∈ firstsS l,x ∈ l)∧(∀t,hasT (firstsS l) t=hasT l t)∧(firstsS l).length ≤ l.length:=by
 rw [← List.reverse_reverse l]
 generalize l.reverse=m
 induction m with
 | nil=>exact ⟨.nil,by simp [firstsS],fun t=>rfl,Nat.le_refl _⟩
 | cons x t ih=>
  obtain ⟨h1,h2,h3,h4⟩:=ih
  rw [List.reverse_cons,firstsS_snoc]
  by_cases hx:hasT (firstsS t.reverse) x.Type_=true
  ·rw [if_pos hx]
   refine ⟨h1,fun y hy=>List.mem_append_left _ (h2 y hy),fun u=>?_,by simp only [List.length_append];omega⟩
   rw [h3 u,hasT_app]
   by_cases hu:u=x.Type_
   ·subst hu
    rw [← h3,hx];rfl
   ·have:hasT [x] u=false:=by unfold hasT;simp [hu]
    rw [this,Bool.or_false]
  ·rw [if_neg hx]
   refine ⟨List.pairwise_append.2 ⟨h1,by simp,fun a ha b hb e=>?_⟩,fun y hy=>?_,fun u=>by rw [hasT_app,hasT_app,h3],by simp only [List.length_append,List.length_singleton];omega⟩
   ·rw [List.mem_singleton] at hb
    subst hb
    exact hx (hasT_iff.2 ⟨a,ha,e⟩)
   ·rcases List.mem_append.1 hy with hy | hy
    ·exact List.mem_append_left _ (h2 y hy)
    ·exact List.mem_append_right _ hy
theorem firstsP {l:List Unknown} (hl:l.length ≤ 1000000):attribute_firsts l=some (firstsS l):=by
 have:Ok (attribute_firsts l) fun r=>r=firstsS l:=by
  unfold attribute_firsts
  refine .join (fun r=>r=firstsS l) (fun k hk=>?_) fun r hr=>.ret hr
  refine .forX (fun i s=>s.2=firstsS (l.take i)∧∀t,(mget s.1 t).getD false=hasT s.2 t) ⟨rfl,fun t=>rfl⟩ (fun s hs=>hk _ (by rw [hs.1,List.take_length])) ?_
  rintro next x i ⟨m,o⟩ hx ⟨h1,h2⟩ hn
  dsimp only at h1 h2
  have hil:=(List.getElem?_eq_some_iff.1 hx).1
  have hlen:=(firsts_spec (l.take i)).2.2.2
  rw [← h1,List.length_take] at hlen
  have e:l.take (i + 1)=l.take i ++ [x]:=by rw [List.take_add_one,hx];rfl
  have hs:=firstsS_snoc (l.take i) x
  rw [← e,← h1] at hs
  refine .bind (P:=fun v=>v=hasT o x.Type_) ⟨_,rfl,h2 _⟩ fun v hv=>?_
  subst hv
  refine .join (fun r=>r=firstsS (l.take (i + 1))∧∀t,hasT r t=(t == x.Type_ || hasT o t)) (fun k hk=>.ite (fun hc=>.bind (Ok.apnd (by decide) (by simp;omega)) fun r hr=>hk r ?_) fun hc=>hk o ?_) fun r hr=>hn _ ⟨hr.1,fun t=>?_⟩
  ·have hc:hasT o x.Type_=false:=by simpa using hc
   rw [hc,if_neg (by decide)] at hs
   rw [hs,hr]
   refine ⟨rfl,fun t=>?_⟩
   rw [hasT_app,Bool.or_comm]
   unfold hasT;simp
  ·have hc:hasT o x.Type_=true:=by simpa using hc
   rw [hc,if_pos rfl] at hs
   rw [hs]
   refine ⟨rfl,fun t=>?_⟩
   by_cases ht:t=x.Type_
   ·subst ht;rw [hc];simp
   ·have:(t == x.Type_)=false:=by simpa using ht
    rw [this];rfl
  ·dsimp only
   rw [hr.2,mget_mset,← h2]
   cases (t == x.Type_)<;>rfl
 obtain ⟨r,h1,h2⟩:=this
 rw [h1,h2]
theorem firstsR {l:List Unknown} (hl:l.length ≤ 1000000):ref18_first l=some (firstsS l):=by
 have:Ok (ref18_first l) fun r=>r=firstsS l:=by
  unfold ref18_first
  refine .join (fun r=>r=firstsS l) (fun k hk=>?_) fun r hr=>.ret hr
  refine .forX (fun i s=>s.1=firstsS (l.take i)∧∀t,(mget s.2 t).getD false=hasT s.1 t) ⟨rfl,fun t=>rfl⟩ (fun s hs=>hk _ (by rw [hs.1,List.take_length])) ?_
  rintro next x i ⟨o,m⟩ hx ⟨h1,h2⟩ hn
  dsimp only at h1 h2
  have hil:=(List.getElem?_eq_some_iff.1 hx).1
  have hlen:=(firsts_spec (l.take i)).2.2.2
  rw [← h1,List.length_take] at hlen
  have e:l.take (i + 1)=l.take i ++ [x]:=by rw [List.take_add_one,hx];rfl
  have hs:=firstsS_snoc (l.take i) x
  rw [← e,← h1] at hs
  refine .bind (P:=fun v=>v=hasT o x.Type_) ⟨_,rfl,h2 _⟩ fun v hv=>?_
  subst hv
  refine .join (fun r=>r=firstsS (l.take (i + 1))∧∀t,hasT r t=(t == x.Type_ || hasT o t)) (fun k hk=>.ite (fun hc=>.bind (Ok.apnd (by decide) (by simp;omega)) fun r hr=>hk r ?_) fun hc=>hk o ?_) fun r hr=>hn _ ⟨hr.1,fun t=>?_⟩
  ·have hc:hasT o x.Type_=false:=by simpa using hc
   rw [hc,if_neg (by decide)] at hs
   rw [hs,hr]
   refine ⟨rfl,fun t=>?_⟩
   rw [hasT_app,Bool.or_comm]
   unfold hasT;simp
  ·have hc:hasT o x.Type_=true:=by simpa using hc
   rw [hc,if_pos rfl] at hs
   rw [hs]
   refine ⟨rfl,fun t=>?_⟩
   by_cases ht:t=x.Type_
   ·subst ht;rw [hc];simp
   ·have:(t == x.Type_)=false:=by simpa using ht
    rw [this];rfl
  ·dsimp only
   rw [hr.2,mget_mset,← h2]
   cases (t == x.Type_)<;>rfl
 obtain ⟨r,h1,h2⟩:=this
 rw [h1,h2]
def foldS:Attrs→List Unknown→Option Attrs
 | a,[]=>some a
 | a,x::t=>(stepS a x).bind fun a'=>foldS a' t
structure Fit (l:List Unknown) (a:Attrs):Prop where
 d:Dist l
 z :∀x ∈ l,x.Data.length ≤ 1000000
 p :∀x ∈ l,x.Type_=2→a.Path=[]
 c :∀x ∈ l,x.Type_=8→a.Communities=[]
 l :∀x ∈ l,x.Type_=32→a.Large=[]
theorem stepS_keeps {a a':Attrs} {x:Unknown} (h:stepS a x=some a'):(x.Type_ ≠ 2→a'.Path=a.Path)∧(x.Type_ ≠ 8→a'.Communities=a.Communities)∧(x.Type_ ≠ 32→a'.Large=a.Large)∧a'.Other=a.Other:=by
 unfold stepS at h
 split at h
 ·obtain rfl:=Option.some.inj h
  exact ⟨fun _=>rfl,fun _=>rfl,fun _=>rfl,rfl⟩
 ·split at h
  ·unfold readS at h
   rcases fl_cases x.Type_ with ⟨e,_⟩ | ⟨e,_⟩ | ⟨e,_⟩ | ⟨e,_⟩ | ⟨e,_⟩ | ⟨e,_⟩ | ⟨e,_⟩ | ⟨e,_⟩ | ⟨e1,e2,e3,e4,e5,e6,e7,e8,_⟩
   iterate 8
    ·rw [e] at h ⊢
     obtain ⟨v,_,rfl⟩:=Option.map_eq_some_iff.1 h
     exact ⟨fun q=>by first | rfl | exact absurd rfl q,fun q=>by first | rfl | exact absurd rfl q,fun q=>by first | rfl | exact absurd rfl q,rfl⟩
   ·rw [if_neg e1,if_neg e2,if_neg e3,if_neg e4,if_neg e5,if_neg e6,if_neg e7,if_neg e8] at h
    obtain rfl:=Option.some.inj h
    exact ⟨fun _=>rfl,fun _=>rfl,fun _=>rfl,rfl⟩
  ·simp at h
theorem Fit.next {x:Unknown} {t:List Unknown} {a a':Attrs} (f:Fit (x::t) a) (h:stepS a x=some a'):Fit t a':=by
 obtain ⟨k1,k2,k3,_⟩:=stepS_keeps h
 obtain ⟨d1,d2⟩:=List.pairwise_cons.1 f.d
 exact ⟨d2,fun y hy=>f.z y (List.mem_cons_of_mem _ hy),fun y hy e=>(k1 (e ▸ d1 y hy)).trans (f.p y (List.mem_cons_of_mem _ hy) e),
  fun y hy e=>(k2 (e ▸ d1 y hy)).trans (f.c y (List.mem_cons_of_mem _ hy) e),fun y hy e=>(k3 (e ▸ d1 y hy)).trans (f.l y (List.mem_cons_of_mem _ hy) e)⟩
theorem bodyP_eq {ρ:Type} {F:Option ρ} {next:Int×Bool×UInt64×UInt64×Int×Int×Int×(List Segment)×(List Community)×(List Large)→Option ρ} {x:Unknown} {a:Attrs} {t:List Unknown} (f:Fit (x::t) a):bodyP F next x (toP a)=match stepS a x with | none=>F | some a'=>next (toP a'):=by
 have hd:=f.z x (by simp)
 rcases fl_cases x.Type_ with ⟨h,e⟩ | ⟨h,e⟩ | ⟨h,e⟩ | ⟨h,e⟩ | ⟨h,e⟩ | ⟨h,e⟩ | ⟨h,e⟩ | ⟨h,e⟩ | ⟨h1,h2,h3,h4,h5,h6,h7,h8,e⟩
 ·exact bodyP_1 h e
 ·exact bodyP_2 hd h e (f.p x (by simp) h)
 ·exact bodyP_3 h e
 ·exact bodyP_4 h e
 ·exact bodyP_5 h e
 ·exact bodyP_8 hd h e
 ·exact bodyP_32 hd h e
 ·exact bodyP_35 h e
 ·exact bodyP_0 ⟨h1,h2,h3,h4,h5,h6,h7,h8⟩ e
theorem bodyR_eq {ρ:Type} {F:Option ρ} {next:Int×(List Segment)×Bool×UInt64×UInt64×Int×Int×Int×(List Community)×(List Large)→Option ρ} {x:Unknown} {a:Attrs} {t:List Unknown} (f:Fit (x::t) a):bodyR F next x (toR a)=match stepS a x with | none=>F | some a'=>next (toR a'):=by
 have hd:=f.z x (by simp)
 rcases fl_cases x.Type_ with ⟨h,e⟩ | ⟨h,e⟩ | ⟨h,e⟩ | ⟨h,e⟩ | ⟨h,e⟩ | ⟨h,e⟩ | ⟨h,e⟩ | ⟨h,e⟩ | ⟨h1,h2,h3,h4,h5,h6,h7,h8,e⟩
 ·exact bodyR_1 h e
 ·exact bodyR_2 hd h e
 ·exact bodyR_3 h e
 ·exact bodyR_4 h e
 ·exact bodyR_5 h e
 ·exact bodyR_8 hd (f.c x (by simp) h) h e
 ·exact bodyR_32 hd (f.l x (by simp) h) h e
 ·exact bodyR_35 h e
 ·exact bodyR_0 ⟨h1,h2,h3,h4,h5,h6,h7,h8⟩ e
theorem loopP {ρ:Type} {F:Option ρ} {K:Int×Bool×UInt64×UInt64×Int×Int×Int×(List Segment)×(List Community)×(List Large)→Option ρ} :∀(l:List Unknown) (i:Nat) (a:Attrs),Fit l a→forR K (fun next x _ s=>bodyP F next x s) l i (toP a)=match foldS a l with | none=>F | some a'=>K (toP a')
 | [],_,_,_=>rfl
 | x::t,i,a,f=>by
  show bodyP F (fun s=>forR K (fun next x _ s=>bodyP F next x s) t (i + 1) s) x (toP a)=_
  rw [bodyP_eq f]
  unfold foldS
  cases h:stepS a x with
  | none=>rfl
  | some a'=>exact loopP t (i + 1) a' (f.next h)
theorem loopR {ρ:Type} {F:Option ρ} {K:Int×(List Segment)×Bool×UInt64×UInt64×Int×Int×Int×(List Community)×(List Large)→Option ρ} :∀(l:List Unknown) (i:Nat) (a:Attrs),Fit l a→forR K (fun next x _ s=>bodyR F next x s) l i (toR a)=match foldS a l with | none=>F | some a'=>K (toR a')
 | [],_,_,_=>rfl
 | x::t,i,a,f=>by
  show bodyR F (fun s=>forR K (fun next x _ s=>bodyR F next x s) t (i + 1) s) x (toR a)=_
  rw [bodyR_eq f]
  unfold foldS
  cases h:stepS a x with
  | none=>rfl
  | some a'=>exact loopR t (i + 1) a' (f.next h)
def keepB (x:Unknown):Bool:=unk x.Type_ && (decide (1 ≤ x.Type_∧x.Type_ ≤ 255) && (bt x.Flags 64 != 0 && decide (x.Data.length ≤ 255)))
def conv (x:Unknown):Unknown:=⟨224,x.Type_,x.Data⟩
def kindsS (l:List Unknown):List Unknown:=(List.range' 1 255).flatMap fun (k:Nat)=>l.flatMap fun x=>if (x.Type_ == (k:Int) && keepB x)=true then [conv x] else []
def keyU (x:Unknown):List Int:=[x.Type_]
theorem keyU_len (a b:Unknown):(keyU a).length=(keyU b).length:=rfl
theorem kinds_mem {l:List Unknown} {y:Unknown}:y ∈ kindsS l ↔∃x ∈ l,keepB x=true∧y=conv x:=by
 unfold kindsS
 simp only [List.mem_flatMap,List.mem_range'_1]
 constructor
 ·rintro ⟨k,hk,x,hx,h⟩
  split at h
  ·rename_i hc
   simp only [Bool.and_eq_true] at hc
   exact ⟨x,hx,hc.2,by simpa using h⟩
  ·simp at h
 ·rintro ⟨x,hx,hk,rfl⟩
  have hk':=hk
  simp only [keepB,Bool.and_eq_true,decide_eq_true_eq] at hk'
  refine ⟨x.Type_.toNat,by omega,x,hx,?_⟩
  rw [if_pos]
  ·simp
  ·rw [hk,Bool.and_true,beq_iff_eq];omega
theorem pw_le_one {α:Type} {R:α→α→Prop} {c:Bool} {x:α}:(if c=true then [x] else []).Pairwise R:=by
 cases c
 ·exact .nil
 ·exact List.pairwise_singleton _ _
theorem kinds_strict {l:List Unknown} (h:Dist l):(kindsS l).Pairwise fun a b=>ltK keyU a b=true:=by
 unfold kindsS
 rw [List.pairwise_flatMap]
 have hm :∀(k:Nat) (x y:Unknown),y ∈ (if (x.Type_ == (k:Int) && keepB x)=true then [conv x] else [])→y.Type_=k∧x.Type_=k:=by
  intro k x y hy
  split at hy
  ·rename_i hc
   simp only [Bool.and_eq_true,beq_iff_eq] at hc
   rw [List.mem_singleton] at hy
   subst hy
   exact ⟨hc.1,hc.1⟩
  ·simp at hy
 constructor
 ·intro k _
  rw [List.pairwise_flatMap]
  refine ⟨fun x _=>pw_le_one,h.imp fun {a b} hab x hx y hy=>?_⟩
  exact absurd ((hm k a x hx).2.trans (hm k b y hy).2.symm) hab
 ·refine (List.pairwise_lt_range' (s:=1) (n:=255)).imp fun {a b} hab x hx y hy=>?_
  obtain ⟨x1,_,hx1⟩:=List.mem_flatMap.1 hx
  obtain ⟨y1,_,hy1⟩:=List.mem_flatMap.1 hy
  have e1:=(hm a x1 x hx1).1
  have e2:=(hm b y1 y hy1).1
  unfold ltK keyU
  rw [decide_eq_true_eq,lexC_cons,if_pos (by omega)]
  decide
end Go.AX.Q18
end
section
namespace Go.AX.Q18
open Go Go.AX
set_option maxRecDepth 8000
def Sm (l:List Unknown):Prop:=l.length ≤ 1000000∧∀x ∈ l,x.Data.length ≤ 1000000
def badB (x:Unknown):Bool:=unk x.Type_ && bt x.Flags 128 == 0
def zA:Attrs:=⟨0,[],(⟨false,(0:UInt64),(0:UInt64)⟩:Addr),0,0,0,[],[],[]⟩
def eA:Attrs:=⟨(-1),[],(⟨false,(0:UInt64),(0:UInt64)⟩:Addr),(-1),(-1),(-1),[],[],[]⟩
def rdS (l:List Unknown):Attrs×Int:=
 if (firstsS l).any badB=true then (zA,12) else match foldS eA (firstsS l) with
 | none=>(zA,13)
 | some a=>if (kindsS (firstsS l)).length > 8 then (zA,3) else ({ a with Other:=kindsS (firstsS l) },0)
theorem Read1_eq (x:Unknown):attribute_Read_1 x=some (badB x):=by
 unfold attribute_Read_1 badB
 rw [joinP_def,attribute_unknown_eq,some_bind']
 show (if unk x.Type_=true then some (cond true (bt x.Flags 128 == 0) false) else some false)=_
 cases unk x.Type_<;>rfl
theorem contains_eq (l:List Unknown):slices_ContainsFunc_api_Unknown_api_Unknown__attribute_Read_1 l=some (l.any badB):=
 contR (f:=attribute_Read_1) (q:=badB) fun x _=>Read1_eq x
theorem fit_first {l:List Unknown} (h:Sm l):Fit (firstsS l) eA:=
 ⟨(firsts_spec l).1,fun x hx=>h.2 x ((firsts_spec l).2.1 x hx),fun _ _ _=>rfl,fun _ _ _=>rfl,fun _ _ _=>rfl⟩
def othP (x:Unknown):List Unknown:=if keepB x=true then [conv x] else []
theorem othP_len (x:Unknown):(othP x).length ≤ 1:=by unfold othP;split<;>simp
theorem flat_len {α β:Type} {g:α→List β} (hg :∀x,(g x).length ≤ 1) :∀l:List α,(l.flatMap g).length ≤ l.length
 | []=>by simp
 | x::t=>by
  rw [List.flatMap_cons,List.length_append,List.length_cons]
  have:=flat_len hg t
  have:=hg x
  omega
theorem oth_mem {l:List Unknown} {y:Unknown}:y ∈ l.flatMap othP ↔∃x ∈ l,keepB x=true∧y=conv x:=by
 rw [List.mem_flatMap]
 constructor
 ·rintro ⟨x,hx,h⟩
  unfold othP at h
  split at h
  ·exact ⟨x,hx,‹_›,by simpa using h⟩
  ·simp at h
 ·rintro ⟨x,hx,hk,rfl⟩
  refine ⟨x,hx,?_⟩
  unfold othP
  rw [if_pos hk];simp
theorem oth_dist {l:List Unknown} (h:Dist l):(l.flatMap othP).Pairwise fun a b=>keyU a ≠ keyU b:=by
 rw [List.pairwise_flatMap]
 refine ⟨fun x _=>pw_le_one,h.imp fun {a b} hab x hx y hy e=>?_⟩
 unfold othP at hx hy
 split at hx
 ·split at hy
  ·rw [List.mem_singleton] at hx hy
   subst hx hy
   exact hab (by simpa [keyU,conv] using e)
  ·simp at hy
 ·simp at hx
theorem Read2_eq (a b:Unknown):attribute_Read_2 a b=some (lexC (keyU a) (keyU b)):=by
 unfold attribute_Read_2 keyU
 rw [cmpI_eq,some_bind']
 unfold cmpI lexC lexC
 rfl
theorem othP_sort {l:List Unknown} (h:Dist l) (hl:l.length ≤ 1000000):sortF attribute_Read_2 (l.flatMap othP)=some (kindsS l):=by
 have hlen:=flat_len othP_len l
 obtain ⟨r,h1,h2,h3⟩:=sortF_K keyU_len Read2_eq (l:=l.flatMap othP) (by omega)
 rw [h1]
 congr 1
 refine ltK_ext keyU_len (strict_of keyU_len h3 ?_) (kinds_strict h) fun x=>?_
 ·exact (h2.pairwise_iff fun h e=>h e.symm).2 (oth_dist h)
 ·rw [h2.mem_iff,oth_mem,kinds_mem]
theorem kinds_len {l:List Unknown} (h:Dist l) (hl:l.length ≤ 1000000):(kindsS l).length=(l.flatMap othP).length:=by
 exact (sortF_len (othP_sort h hl))
theorem othR {l:List Unknown} (hl:l.length ≤ 1000000) (hz :∀x ∈ l,x.Data.length ≤ 1000000) {ρ:Type} {K:List Unknown→Option ρ} :
  forR (σ:=List Unknown) K (fun next x _ v=>
   joinP (τ:=Bool) (fun k198=>
      Option.bind (attribute_unknown x.Type_) fun v199=>
      if v199=true then
       Option.bind (attribute_within x.Type_ 1 255) fun v200=>
       if (cond true v200 false)=true then
        if (cond true ((i64w ((BitVec.ofInt 64 x.Flags &&& BitVec.ofInt 64 64).toNat:Int)) != 0) false)=true then
         k198 (cond true (decide ((x.Data.length:Int) ≤ 255)) false)
        else
         k198 false
       else
        k198 false
      else
       k198 false
     ) fun v201=>
     joinP (τ:=(List Unknown)) (fun k202=>
      if v201=true then
       Option.bind (slices_Clone_byte_byte x.Data) fun v203=>
       Option.bind (apnd (α:=Unknown) 40 v ([(⟨224,x.Type_,v203⟩:Unknown)]:List Unknown)) fun v204=>
       k202 v204
      else
       k202 v
     ) fun v205=>
     next v205) l 0 []=K (l.flatMap othP):=by
 have hlen:=flat_len othP_len l
 refine (appR (g:=othP) (N:=1000000) (by simp only [List.length_nil];omega) fun next x i v hx hv=>?_).trans (by rw [List.nil_append])
 have hc :∀k:Bool→Option ρ,joinP (τ:=Bool) (fun k198=>
      Option.bind (attribute_unknown x.Type_) fun v199=>
      if v199=true then
       Option.bind (attribute_within x.Type_ 1 255) fun v200=>
       if (cond true v200 false)=true then
        if (cond true ((i64w ((BitVec.ofInt 64 x.Flags &&& BitVec.ofInt 64 64).toNat:Int)) != 0) false)=true then
         k198 (cond true (decide ((x.Data.length:Int) ≤ 255)) false)
        else
         k198 false
       else
        k198 false
      else
       k198 false
     ) k=k (keepB x):=by
  intro k
  unfold keepB
  have d1:(i64w ((BitVec.ofInt 64 x.Flags &&& BitVec.ofInt 64 64).toNat:Int))=bt x.Flags 64:=rfl
  have d2:decide ((x.Data.length:Int) ≤ 255)=decide (x.Data.length ≤ 255):=by rw [Bool.eq_iff_iff];simp;omega
  have d3:decide (1 ≤ x.Type_∧x.Type_ ≤ 255)=(decide (1 ≤ x.Type_) && decide (x.Type_ ≤ 255)):=by rw [Bool.eq_iff_iff];simp
  rw [joinP_def,attribute_unknown_eq,some_bind',within_eq,some_bind',d1,d2,d3]
  cases unk x.Type_<;>cases decide (1 ≤ x.Type_)<;>cases decide (x.Type_ ≤ 255)<;>cases (bt x.Flags 64 != 0)<;>cases decide (x.Data.length ≤ 255)<;>rfl
 rw [hc,joinP_def]
 unfold othP at hv ⊢
 by_cases hk:keepB x=true
 ·rw [if_pos hk] at hv
  have:=hz x hx
  simp only [List.length_singleton] at hv
  rw [if_pos hk,if_pos hk]
  unfold slices_Clone_byte_byte
  rw [apnd_some (by decide) (by simp;omega),some_bind',some_bind',List.nil_append,apnd_some (by decide) (by simp;omega),some_bind']
  rfl
 ·rw [if_neg hk,if_neg hk,List.append_nil]
theorem Read_gen {l:List Unknown} (h:Sm l):attribute_Read l=some (rdS l):=by
 obtain ⟨h1,h2⟩:=h
 have hlen:=(firsts_spec l).2.2.2
 have hm:=(firsts_spec l).2.1
 unfold attribute_Read rdS
 rw [firstsP h1,some_bind',contains_eq,some_bind']
 by_cases hb:(firstsS l).any badB=true
 ·rw [if_pos hb,if_pos hb];rfl
 rw [if_neg hb,if_neg hb,joinP_def,joinP_def]
 rw [joinP_def]
 refine (loopP (firstsS l) 0 eA (fit_first ⟨h1,h2⟩)).trans ?_
 cases hf:foldS eA (firstsS l) with
 | none=>rfl
 | some a=>
  show (if (!true)=true then _ else joinP _ _)=_
  rw [if_neg (by decide),joinP_def]
  refine (othR (l:=firstsS l) (by omega) fun x hx=>h2 x (hm x hx)).trans ?_
  have hk:=kinds_len (l:=firstsS l) (firsts_spec l).1 (by omega)
  show (if decide (((List.flatMap othP (firstsS l)).length:Int) > 8)=true then _ else _)=_
  by_cases h8:(kindsS (firstsS l)).length > 8
  ·rw [if_pos (by simp only [decide_eq_true_eq];omega)]
   show _=some (if (kindsS (firstsS l)).length > 8 then _ else _)
   rw [if_pos h8];rfl
  ·rw [if_neg (by simp only [decide_eq_true_eq];omega),othP_sort (firsts_spec l).1 (by omega),some_bind']
   show _=some (if (kindsS (firstsS l)).length > 8 then _ else _)
   rw [if_neg h8]
def kindG (k:Int) (x:Unknown):List Unknown:=if (x.Type_ == k && keepB x)=true then [conv x] else []
theorem kindG_len (k:Int) (x:Unknown):(kindG k x).length ≤ 1:=by unfold kindG;split<;>simp
theorem kindR {l:List Unknown} (hl:l.length ≤ 1000000) (hz :∀x ∈ l,x.Data.length ≤ 1000000) {K:List Unknown→Option (Attrs×Int)} :
  joinP (τ:=(List Unknown)) (fun k264=>
  whileR (σ:=Int×(List Unknown)) (fun next265 p=>match p with
   | (v266,v267)=>if (decide (v266 < 256))=true then
    joinP (τ:=(List Unknown)) (fun k268=>
     joinP (τ:=(List Unknown)) (fun k269=>
      forR (σ:=(List Unknown)) (fun v270=>
       k269 v270
      ) (fun next271 (x272:Unknown) i273 v270=>
       joinP (τ:=Bool) (fun k274=>
        if (x272.Type_ == v266)=true then
         Option.bind (ref18_unknown v266) fun v275=>
         if (cond true v275 false)=true then
          if (cond true ((i64w ((BitVec.ofInt 64 x272.Flags &&& BitVec.ofInt 64 64).toNat:Int)) != 0) false)=true then
           k274 (cond true (decide ((x272.Data.length:Int) ≤ 255)) false)
          else
           k274 false
         else
          k274 false
        else
         k274 false
       ) fun v276=>
       joinP (τ:=(List Unknown)) (fun k277=>
        if v276=true then
         Option.bind (apnd (α:=UInt8) 1 [] x272.Data) fun _=>
         Option.bind (apnd (α:=Unknown) 40 v270 ([(⟨224,v266,x272.Data⟩:Unknown)]:List Unknown)) fun v278=>
         k277 v278
        else
         k277 v270
       ) fun v279=>
       next271 v279
      ) l 0 v267
     ) fun v280=>
     k268 v280
    ) fun v281=>
    next265 ((i64w (v266 + 1)),v281)
   else
    k264 v267
  ) fuel (1,[])
 ) K=K (kindsS l):=by
 rw [joinP_def]
 refine (whileR_eq (fun s:Int×List Unknown=>∃k:Nat,s.1=k∧1 ≤ k∧k ≤ 256∧s.2.length ≤ k * 1000000) (fun s=>(256 - s.1).toNat) (fun s=>K (s.2 ++ (List.range' s.1.toNat (256 - s.1.toNat)).flatMap fun (k:Nat)=>l.flatMap (kindG k))) ?_ fuel (1,[]) ⟨1,rfl,by omega,by omega,by simp⟩ (lt_fuel (by simp only;omega))).trans rfl
 rintro next ⟨kk,v⟩ ⟨k,rfl,hk1,hk2,hv⟩ hn
 dsimp only at hv ⊢
 by_cases hk:k < 256
 ·rw [if_pos (by simp only [decide_eq_true_eq];omega),joinP_def,joinP_def]
  have hlen:=flat_len (kindG_len k) l
  refine (appR (g:=kindG k) (N:=(k + 1) * 1000000) (by omega) fun next2 x i w hx hw=>?_).trans ?_
  ·have hc :∀q:Bool→Option (Attrs×Int),joinP (τ:=Bool) (fun k274=>
        if (x.Type_ == (k:Int))=true then
         Option.bind (ref18_unknown k) fun v275=>
         if (cond true v275 false)=true then
          if (cond true ((i64w ((BitVec.ofInt 64 x.Flags &&& BitVec.ofInt 64 64).toNat:Int)) != 0) false)=true then
           k274 (cond true (decide ((x.Data.length:Int) ≤ 255)) false)
          else
           k274 false
         else
          k274 false
        else
         k274 false
       ) q=q (x.Type_ == (k:Int) && keepB x):=by
    intro q
    unfold keepB
    have d1:(i64w ((BitVec.ofInt 64 x.Flags &&& BitVec.ofInt 64 64).toNat:Int))=bt x.Flags 64:=rfl
    have d2:decide ((x.Data.length:Int) ≤ 255)=decide (x.Data.length ≤ 255):=by rw [Bool.eq_iff_iff];simp;omega
    rw [joinP_def,ref18_unknown_eq,some_bind',d1,d2]
    by_cases ht:x.Type_=(k:Int)
    ·have d3:decide (1 ≤ x.Type_∧x.Type_ ≤ 255)=true:=decide_eq_true (by omega)
     have d4:(x.Type_ == (k:Int))=true:=by simp [ht]
     rw [d3,d4,ht]
     cases unk (k:Int)<;>cases (bt x.Flags 64 != 0)<;>cases decide (x.Data.length ≤ 255)<;>rfl
    ·have d4:(x.Type_ == (k:Int))=false:=by simpa using ht
     rw [d4]
     rfl
   rw [hc,joinP_def]
   unfold kindG at hw ⊢
   by_cases hk3:(x.Type_ == (k:Int) && keepB x)=true
   ·rw [if_pos hk3] at hw
    have:=hz x hx
    simp only [List.length_singleton] at hw
    rw [if_pos hk3,if_pos hk3,apnd_some (by decide) (by simp;omega),some_bind',apnd_some (by decide) (by simp;omega),some_bind']
    simp only [Bool.and_eq_true,beq_iff_eq] at hk3
    unfold conv
    rw [hk3.1]
   ·rw [if_neg hk3,if_neg hk3,List.append_nil]
  ·show next (i64w ((k:Int) + 1),v ++ List.flatMap (kindG k) l)=_
   rw [i64w_id (by omega),hn _ ⟨k + 1,by simp,by omega,by omega,by simp only [List.length_append];omega⟩ (by simp only;omega)]
   have e1:((k:Int) + 1).toNat=k + 1:=by omega
   have e2:256 - k=(256 - (k + 1)) + 1:=by omega
   simp only [e1,Int.toNat_natCast]
   rw [e2,List.range'_succ,List.flatMap_cons,List.append_assoc]
 ·rw [if_neg (by simp only [decide_eq_true_eq];omega)]
  have:256 - (k:Int).toNat=0:=by omega
  rw [this]
  simp
theorem badR {l:List Unknown} {ρ:Type} {K:Unit→Option ρ} {r:Option ρ}:forR (σ:=Unit) K (fun next x _ _=>
   joinP (τ:=Bool) (fun k6=>
    Option.bind (ref18_unknown x.Type_) fun v7=>
    if v7=true then
     k6 (cond true ((i64w ((BitVec.ofInt 64 x.Flags &&& BitVec.ofInt 64 128).toNat:Int)) == 0) false)
    else
     k6 false
   ) fun v8=>
   if v8=true then r else next ()) l 0 ()=if l.any badB=true then r else K ():=by
 refine (allR (g:=fun x=>!badB x) (r0:=r) fun next x i _=>?_).trans ?_
 ·unfold badB
  have d1:(i64w ((BitVec.ofInt 64 x.Flags &&& BitVec.ofInt 64 128).toNat:Int))=bt x.Flags 128:=rfl
  rw [joinP_def,ref18_unknown_eq,some_bind',d1]
  cases unk x.Type_<;>cases (bt x.Flags 128 == 0)<;>rfl
 ·have:(l.all fun x=>!badB x)=!l.any badB:=by
   induction l with
   | nil=>rfl
   | cons x t ih=>rw [List.all_cons,List.any_cons,ih];cases badB x<;>rfl
  rw [this]
  cases l.any badB<;>rfl
theorem Read_ref {l:List Unknown} (h:Sm l):ref18_Read l=some (rdS l):=by
 obtain ⟨h1,h2⟩:=h
 have hlen:=(firsts_spec l).2.2.2
 have hm:=(firsts_spec l).2.1
 unfold ref18_Read rdS
 rw [firstsR h1,some_bind',joinP_def]
 refine badR.trans ?_
 by_cases hb:(firstsS l).any badB=true
 ·rw [if_pos hb,if_pos hb];rfl
 rw [if_neg hb,if_neg hb,joinP_def,joinP_def]
 refine (loopR (firstsS l) 0 eA (fit_first ⟨h1,h2⟩)).trans ?_
 cases hf:foldS eA (firstsS l) with
 | none=>rfl
 | some a=>
  show joinP _ _=_
  refine (kindR (l:=firstsS l) (by omega) fun x hx=>h2 x (hm x hx)).trans ?_
  show (if decide (((kindsS (firstsS l)).length:Int) > 8)=true then _ else _)=_
  by_cases h8:(kindsS (firstsS l)).length > 8
  ·rw [if_pos (by simp only [decide_eq_true_eq];omega)]
   show _=some (if (kindsS (firstsS l)).length > 8 then _ else _)
   rw [if_pos h8];rfl
  ·rw [if_neg (by simp only [decide_eq_true_eq];omega)]
   show _=some (if (kindsS (firstsS l)).length > 8 then _ else _)
   rw [if_neg h8]
end Go.AX.Q18
end
section
namespace Go.AX.Q18
open Go Go.AX
set_option maxRecDepth 8000
def Dk (d:Deck):Prop:=0 ≤ d.At∧d.L.length ≤ 9223372036854775807
theorem make_Mod_plain {v n:Int} (hn:1 ≤ n∧n ≤ 4611686018427387904):Ok (make_Mod v n) fun r=>0 ≤ r∧r < n:=by
 unfold make_Mod
 have h1:=Int.tmod_lt_of_pos v (show 0 < n by omega)
 have h2:-n < Int.tmod v n:=by
  have:=Int.lt_tmod_of_pos v (show 0 < n by omega)
  exact this
 refine .bind (.chk (by omega)) fun _ _=>.join (fun r=>0 ≤ r∧r < n) (fun k hk=>.ite (fun hc=>hk _ ?_) fun hc=>hk _ ?_) fun r hr=>.ret hr
 ·simp only [decide_eq_true_eq] at hc
  rw [i64w_id (by omega)]
  omega
 ·simp only [decide_eq_true_eq] at hc
  omega
theorem make_Next_plain {d:Deck} {n:Int} (hd:Dk d) (hn:1 ≤ n∧n ≤ 4611686018427387904):Ok (make_Deck_Next d n) fun r=>0 ≤ r.1∧r.1 < n∧Dk r.2:=by
 obtain ⟨h1,h2⟩:=hd
 unfold make_Deck_Next
 refine .ite (fun _=>.ret ⟨by simp,by simp;omega,h1,h2⟩) fun h=>?_
 simp only [decide_eq_true_eq] at h
 have e:i64w (i64w (d.At + 1) - 1)=d.At:=by rw [i64w_id (x:=d.At + 1) (by omega),i64w_id (by omega)];omega
 rw [e,i64w_id (x:=d.At + 1) (by omega)]
 refine .bind (.geti (by omega)) fun v _=>.bind (make_Mod_plain hn) fun r hr=>.ret ⟨hr.1,hr.2,by simp only;omega,h2⟩
theorem make_Bytes_plain {d:Deck} {n:Int} (hd:Dk d) (hn:0 ≤ n∧n ≤ 1000):Ok (make_Deck_Bytes d n) fun r=>(r.1.length:Int) ≤ n∧Dk r.2:=by
 unfold make_Deck_Bytes
 rw [i64w_id (by omega)]
 refine .bind (make_Next_plain hd (by omega)) ?_
 rintro ⟨v,d⟩ ⟨v1,v2,hd⟩
 dsimp only at v1 v2 hd ⊢
 refine .join (fun p:Deck×List UInt8=>Dk p.1∧(p.2.length:Int) ≤ n) (fun k hk=>?_) fun p hp=>.ret ⟨hp.2,hp.1⟩
 refine .whileI (fun s:Int×Deck×List UInt8=>0 ≤ s.1∧s.1 + s.2.2.length ≤ n∧Dk s.2.1) (fun s=>s.1.toNat) ⟨v1,by simp only [List.length_nil];omega,hd⟩ (lt_fuel (by simp only;omega)) ?_
 rintro next ⟨c,d,l⟩ ⟨h1,h2,h3⟩ hnx
 dsimp only at h1 h2 h3 ⊢
 refine .ite (fun h=>?_) fun h=>hk (d,l) ⟨h3,by dsimp only;omega⟩
 simp only [decide_eq_true_eq] at h
 refine .bind (make_Next_plain h3 (by omega)) ?_
 rintro ⟨w,d⟩ ⟨w1,w2,hd⟩
 dsimp only at w1 w2 hd ⊢
 refine .bind (Ok.apnd (by decide) (by simp;omega)) fun l2 hl2=>?_
 rw [i64w_id (by omega)]
 exact hnx _ ⟨by dsimp only;omega,by rw [hl2];simp only [List.length_append,List.length_singleton];omega,hd⟩ (by dsimp only;omega)
theorem make_asn_plain {d:Deck} (hd:Dk d):Ok (make_Deck_asn d) fun r=>Dk r.2:=by
 unfold make_Deck_asn
 refine .bind (make_Next_plain hd (by omega)) ?_
 rintro ⟨v,d⟩ ⟨v1,v2,hd⟩
 refine .bind (make_Next_plain hd (by omega)) ?_
 rintro ⟨w,d⟩ ⟨w1,w2,hd⟩
 refine .bind (make_Next_plain hd (by omega)) ?_
 rintro ⟨u,d⟩ ⟨u1,u2,hd⟩
 exact .bind (.geti (by simp only [List.length_cons,List.length_nil];omega)) fun x _=>.ret hd
theorem make_Path_plain {d:Deck} (hd:Dk d):Ok (make_Deck_Path d) fun r=>(r.1.length ≤ 3∧tot r.1 ≤ 12∧vpath r.1=true)∧Dk r.2:=by
 unfold make_Deck_Path
 refine .bind (make_Next_plain hd (by omega)) ?_
 rintro ⟨v,d⟩ ⟨v1,v2,hd⟩
 dsimp only at v1 v2 hd ⊢
 refine .join (fun p:Deck×List Segment=>(p.2.length ≤ 3∧tot p.2 ≤ 12∧vpath p.2=true)∧Dk p.1) (fun k hk=>?_) fun p hp=>.ret hp
 refine .whileI (fun s:Int×Deck×List Segment=>(0 ≤ s.1∧s.1 + s.2.2.length ≤ 3∧4 * s.1 + tot s.2.2 ≤ 12∧vpath s.2.2=true)∧Dk s.2.1) (fun s=>s.1.toNat) ⟨⟨v1,by simp only [List.length_nil];omega,by simp only [tot,List.foldl_nil];omega,rfl⟩,hd⟩ (lt_fuel (by simp only;omega)) ?_
 rintro next ⟨c,d,p⟩ ⟨⟨h1,h2,h3,h4⟩,hd⟩ hnx
 dsimp only at h1 h2 h3 h4 hd ⊢
 refine .ite (fun h=>?_) fun h=>hk (d,p) ⟨⟨by dsimp only;omega,by dsimp only;omega,h4⟩,hd⟩
 simp only [decide_eq_true_eq] at h
 refine .join (fun q:Deck×List Segment=>(q.2.length ≤ p.length + 1∧tot q.2 ≤ tot p + 4∧vpath q.2=true)∧Dk q.1) (fun k8 hk8=>?_) ?_
 rotate_left
 ·rintro ⟨d,q⟩ ⟨⟨q1,q2,q3⟩,hd⟩
  dsimp only at q1 q2 q3 hd ⊢
  rw [i64w_id (by omega)]
  exact hnx _ ⟨⟨by dsimp only;omega,by dsimp only;omega,by dsimp only;omega,q3⟩,hd⟩ (by dsimp only;omega)
 refine .join (fun q:Bool×Deck=>Dk q.2) (fun k9 hk9=>?_) ?_
 ·refine .ite (fun hl=>?_) fun _=>.bind (make_Next_plain hd (by omega)) fun r hr=>hk9 _ hr.2.2
  simp only [decide_eq_true_eq] at hl
  rw [i64w_id (by omega)]
  exact .bind (.geti (by omega)) fun s _=>.ite (fun _=>hk9 _ hd) fun _=>.bind (make_Next_plain hd (by omega)) fun r hr=>hk9 _ hr.2.2
 rintro ⟨set,d⟩ hd
 dsimp only at hd ⊢
 refine .bind (make_Next_plain hd (by omega)) ?_
 rintro ⟨n,d⟩ ⟨n1,n2,hd⟩
 dsimp only at n1 n2 hd ⊢
 rw [i64w_id (x:=1 + n) (by omega)]
 refine .join (fun q:Deck×List Int=>q.2.length ≤ 4∧Dk q.1) (fun k19 hk19=>?_) ?_
 ·refine .whileI (fun s:Int×Deck×List Int=>(0 ≤ s.1∧s.1 + s.2.2.length ≤ 4)∧Dk s.2.1) (fun s=>s.1.toNat) ⟨⟨by dsimp only;omega,by simp only [List.length_nil];omega⟩,hd⟩ (lt_fuel (by simp only;omega)) ?_
  rintro next ⟨m,d,l⟩ ⟨⟨m1,m2⟩,hd⟩ hnx
  dsimp only at m1 m2 hd ⊢
  refine .ite (fun hm=>?_) fun _=>hk19 (d,l) ⟨by dsimp only;omega,hd⟩
  simp only [decide_eq_true_eq] at hm
  refine .join (fun q:Deck×List Int=>q.2.length ≤ l.length + 1∧Dk q.1) (fun k24 hk24=>?_) ?_
  ·refine .bind (make_asn_plain hd) ?_
   rintro ⟨x,d⟩ hd
   dsimp only at hd ⊢
   refine .ite (fun _=>.bind (Ok.apnd (by decide) (by simp;omega)) fun r hr=>hk24 (d,r) ⟨by rw [hr];simp,hd⟩) fun _=>?_
   refine Ok.pos (n:=l.length) (by omega) (fun k' w w1 w2 hk'=>.ite (fun hw=>?_) fun _=>hk' _ (by simp)) fun w w1 w2=>?_
   ·simp only [decide_eq_true_eq] at hw
    exact .bind (.geti (by omega)) fun y _=>hk' _ fun _=>hw
   ·refine .join (fun _=>True) (fun k35 hk35=>.ite (fun _=>hk35 _ trivial) fun hw=>.bind (.geti ?_) fun y _=>hk35 _ trivial) fun b _=>?_
    ·simp only [beq_iff_eq] at hw
     omega
    ·refine .join (fun q:List Int=>q.length ≤ l.length + 1) (fun k38 hk38=>.ite (fun _=>?_) fun _=>hk38 _ (by omega)) fun q hq=>hk24 (d,q) ⟨hq,hd⟩
     refine .bind (Ok.chk (by omega)) fun _ _=>.bind (Ok.apnd (by decide) (by simp;omega)) fun _ _=>.bind (Ok.apnd (by decide) (by simp;omega)) fun a ha=>.bind (Ok.chk (by omega)) fun _ _=>.bind (Ok.apnd (by decide) (by rw [ha];simp;omega)) fun b hb=>hk38 _ ?_
     rw [hb,ha]
     simp only [List.length_append,List.length_take,List.length_drop,List.length_singleton]
     omega
  ·rintro ⟨d,q⟩ ⟨q1,hd⟩
   dsimp only at q1 hd ⊢
   rw [i64w_id (by omega)]
   exact hnx _ ⟨⟨by dsimp only;omega,by dsimp only;omega⟩,hd⟩ (by dsimp only;omega)
 rintro ⟨d,l⟩ ⟨l1,hd⟩
 dsimp only at l1 hd ⊢
 refine .bind (Ok.apnd (by decide) (by simp;omega)) fun p2 hp2=>?_
 have ht:tot p2=tot p + l.length:=by rw [hp2,tot_app,tot_cons];simp [tot]
 have hl2:p2.length=p.length + 1:=by rw [hp2];simp
 rw [ref15_Valid_eq (by omega) (by omega),some_bind']
 refine .join (fun q:List Segment=>q.length ≤ p.length + 1∧tot q ≤ tot p + 4∧vpath q=true) (fun k48 hk48=>.ite (fun _=>?_) fun hv=>hk48 p2 ⟨by omega,by omega,by simpa using hv⟩) fun q hq=>hk8 (d,q) ⟨hq,hd⟩
 rw [i64w_id (by omega)]
 refine .bind (Ok.part (by omega)) fun q hq=>hk48 q ?_
 have e:q=p:=by
  rw [hq.1,hp2]
  have:(((p ++ [(⟨set,l⟩:Segment)]).length:Int) - 1).toNat=p.length:=by simp
  rw [this]
  simp
 rw [e]
 exact ⟨by omega,by omega,h4⟩
theorem validC_add {l:List Community} {c:Community} (hv:validC l=true) (hc:okC c=true) (hl:l.length < 64):validC (if l.any (fun y=>Community.eqd y c)=true then l else insS ltC2 l c)=true∧(if l.any (fun y=>Community.eqd y c)=true then l else insS ltC2 l c).length ≤ l.length + 1:=by
 split
 ·exact ⟨hv,by omega⟩
 ·rename_i h
  obtain ⟨h1,h2,h3⟩:=validC_iff.1 hv
  have hx:c ∉ l:=fun q=>h (List.any_eq_true.2 ⟨c,q,(eqdC _ _).2 rfl⟩)
  rw [validC_iff,insS_len]
  refine ⟨⟨fun y hy=>?_,insS_sorted ltC2_tr ltC2_tot h2 hx,by omega⟩,by omega⟩
  rcases insS_mem.1 hy with hy | rfl
  ·exact h1 y hy
  ·exact hc
theorem validL_add {l:List Large} {c:Large} (hv:validL l=true) (hc:okL c=true) (hl:l.length < 64):validL (if l.any (fun y=>Large.eqd y c)=true then l else insS ltC3 l c)=true∧(if l.any (fun y=>Large.eqd y c)=true then l else insS ltC3 l c).length ≤ l.length + 1:=by
 split
 ·exact ⟨hv,by omega⟩
 ·rename_i h
  obtain ⟨h1,h2,h3⟩:=validL_iff.1 hv
  have hx:c ∉ l:=fun q=>h (List.any_eq_true.2 ⟨c,q,(eqdL _ _).2 rfl⟩)
  rw [validL_iff,insS_len]
  refine ⟨⟨fun y hy=>?_,insS_sorted ltC3_tr ltC3_tot h2 hx,by omega⟩,by omega⟩
  rcases insS_mem.1 hy with hy | rfl
  ·exact h1 y hy
  ·exact hc
theorem make_Communities_plain {d:Deck} (hd:Dk d):Ok (make_Deck_Communities d) fun r=>(validC r.1=true∧r.1.length ≤ 4)∧(validL r.2.1=true∧r.2.1.length ≤ 3)∧Dk r.2.2:=by
 unfold make_Deck_Communities
 refine .bind (make_Next_plain hd (by omega)) ?_
 rintro ⟨v,d⟩ ⟨v1,v2,hd⟩
 dsimp only at v1 v2 hd ⊢
 refine .join (fun p:List Community×Deck=>(validC p.1=true∧p.1.length ≤ 4)∧Dk p.2) (fun k hk=>?_) ?_
 ·refine .whileI (fun s:List Community×Int×Deck=>(validC s.1=true∧0 ≤ s.2.1∧s.2.1 + s.1.length ≤ 4)∧Dk s.2.2) (fun s=>s.2.1.toNat) ⟨⟨rfl,v1,by simp only [List.length_nil];omega⟩,hd⟩ (lt_fuel (by simp only;omega)) ?_
  rintro next ⟨l,c,d⟩ ⟨⟨h1,h2,h3⟩,hd⟩ hnx
  dsimp only at h1 h2 h3 hd ⊢
  refine .ite (fun h=>?_) fun _=>hk (l,d) ⟨⟨h1,by dsimp only;omega⟩,hd⟩
  simp only [decide_eq_true_eq] at h
  refine .bind (make_Next_plain hd (by omega)) ?_
  rintro ⟨a,d⟩ ⟨a1,a2,hd⟩
  dsimp only at a1 a2 hd ⊢
  refine .bind (.geti (by simp only [List.length_cons,List.length_nil];omega)) fun x hx=>.bind (make_Next_plain hd (by omega)) ?_
  rintro ⟨b,d⟩ ⟨b1,b2,hd⟩
  dsimp only at b1 b2 hd ⊢
  refine .bind (make_Next_plain hd (by omega)) ?_
  rintro ⟨e,d⟩ ⟨e1,e2,hd⟩
  dsimp only at e1 e2 hd ⊢
  refine .bind (.geti (by simp only [List.length_cons,List.length_nil];omega)) fun y hy=>?_
  have hok:okC ⟨x,y⟩=true:=by
   have g1:=hx.1
   have g2:=hy.1
   rw [i64w_id (by omega)] at g2
   simp only [List.mem_cons,List.not_mem_nil,or_false] at g1 g2
   simp only [okC,inR,Bool.and_eq_true,decide_eq_true_eq]
   omega
  have hadd:=validC_add h1 hok (by omega)
  rw [ref17_Add_eq h1 hok (by omega),some_bind',i64w_id (by omega)]
  dsimp only
  exact hnx _ ⟨⟨hadd.1,by dsimp only;omega,by have:=hadd.2;dsimp only;omega⟩,hd⟩ (by dsimp only;omega)
 rintro ⟨l,d⟩ ⟨hl,hd⟩
 dsimp only at hl hd ⊢
 refine .bind (make_Next_plain hd (by omega)) ?_
 rintro ⟨v,d⟩ ⟨v1,v2,hd⟩
 dsimp only at v1 v2 hd ⊢
 refine .join (fun p:List Large×Deck=>(validL p.1=true∧p.1.length ≤ 3)∧Dk p.2) (fun k hk=>?_) ?_
 ·refine .whileI (fun s:List Large×Int×Deck=>(validL s.1=true∧0 ≤ s.2.1∧s.2.1 + s.1.length ≤ 3)∧Dk s.2.2) (fun s=>s.2.1.toNat) ⟨⟨rfl,v1,by simp only [List.length_nil];omega⟩,hd⟩ (lt_fuel (by simp only;omega)) ?_
  rintro next ⟨l,c,d⟩ ⟨⟨h1,h2,h3⟩,hd⟩ hnx
  dsimp only at h1 h2 h3 hd ⊢
  refine .ite (fun h=>?_) fun _=>hk (l,d) ⟨⟨h1,by dsimp only;omega⟩,hd⟩
  simp only [decide_eq_true_eq] at h
  refine .bind (make_Next_plain hd (by omega)) ?_
  rintro ⟨a,d⟩ ⟨a1,a2,hd⟩
  dsimp only at a1 a2 hd ⊢
  refine .bind (.geti (by simp only [List.length_cons,List.length_nil];omega)) fun x hx=>.bind (make_Next_plain hd (by omega)) ?_
  rintro ⟨b,d⟩ ⟨b1,b2,hd⟩
  dsimp only at b1 b2 hd ⊢
  refine .bind (make_Next_plain hd (by omega)) ?_
  rintro ⟨e,d⟩ ⟨e1,e2,hd⟩
  dsimp only at e1 e2 hd ⊢
  have hok:okL ⟨x,b,e⟩=true:=by
   have g1:=hx.1
   simp only [List.mem_cons,List.not_mem_nil,or_false] at g1
   simp only [okL,inR,Bool.and_eq_true,decide_eq_true_eq]
   omega
  have hadd:=validL_add h1 hok (by omega)
  rw [ref17_AddLarge_eq h1 hok (by omega),some_bind',i64w_id (by omega)]
  dsimp only
  exact hnx _ ⟨⟨hadd.1,by dsimp only;omega,by have:=hadd.2;dsimp only;omega⟩,hd⟩ (by dsimp only;omega)
 rintro ⟨m,d⟩ ⟨hm,hd⟩
 exact .ret ⟨hl,hm,hd⟩
def Addr.ok (a:Addr):Bool:=cond a.V6 true (cond ((a.Hi.toNat:Int) == 0) (decide ((a.Lo.toNat:Int) < 4294967296)) false)
def okO (x:Unknown):Bool:=decide (1 ≤ x.Type_∧x.Type_ ≤ 255) && (unk x.Type_ && (decide (x.Flags=224) && decide (x.Data.length ≤ 255)))
def ltT (a b:Unknown):Bool:=decide (a.Type_ < b.Type_)
def validO (l:List Unknown):Bool:=l.all okO && chainB ltT l
def validA (a:Attrs):Bool:=validO a.Other && (decide (-1 ≤ a.Origin∧a.Origin ≤ 2) && (vpath a.Path && (a.Next.ok && (decide (-1 ≤ a.MED∧a.MED ≤ 4294967295) && (decide (-1 ≤ a.Pref∧a.Pref ≤ 4294967295) && ((decide (a.OTC=-1) || numB a.OTC) && (validC a.Communities && (validL a.Large && decide (a.Other.length ≤ 8)))))))))
theorem ltT_tr (a b c:Unknown) (h1:ltT a b=true) (h2:ltT b c=true):ltT a c=true:=by simp only [ltT,decide_eq_true_eq] at *;omega
structure SmA (a:Attrs):Prop where
 p:a.Path.length ≤ 1000000
 t:tot a.Path ≤ 1000000
 c:a.Communities.length ≤ 1000000
 l:a.Large.length ≤ 1000000
 o:a.Other.length ≤ 1000000
 d :∀u ∈ a.Other,u.Data.length ≤ 1000000
theorem ref01_Valid_eq (a:Addr):ref01_Valid a=some a.ok:=by
 unfold ref01_Valid Addr.ok
 rw [joinP_def]
 generalize ((a.Hi.toNat:Int) == 0)=x
 generalize decide ((a.Lo.toNat:Int) < 4294967296)=y
 generalize a.V6=z
 cases z<;>cases x<;>rfl
theorem make_Attrs_plain {d:Deck} (hd:Dk d):Ok (make_Deck_Attrs d) fun r=>(validA r.1=true∧r.1.Path.length ≤ 3∧tot r.1.Path ≤ 12∧r.1.Communities.length ≤ 4∧r.1.Large.length ≤ 3∧r.1.Other.length ≤ 6∧∀u ∈ r.1.Other,u.Data.length ≤ 9)∧Dk r.2:=by
 unfold make_Deck_Attrs
 rw [joinP_def]
 refine .bind (make_Next_plain hd (by omega)) ?_
 rintro ⟨o,d⟩ ⟨o1,o2,hd⟩
 dsimp only at o1 o2 hd ⊢
 refine .bind (make_Path_plain hd) ?_
 rintro ⟨p,d⟩ ⟨hp,hd⟩
 dsimp only at hp hd ⊢
 have e4:make_four 3=some ⟨false,(0:UInt64),(toU64 (3221225984 + ((toU64 (i64w (1 + 3))).toNat:Int)))⟩:=rfl
 have e6:make_six 4=some ⟨true,(2306139568115548160:UInt64),(toU64 (i64w (1 + 4)))⟩:=rfl
 rw [e4,some_bind',e6,some_bind']
 refine .bind (make_Next_plain hd (by omega)) ?_
 rintro ⟨x,d⟩ ⟨x1,x2,hd⟩
 dsimp only at x1 x2 hd ⊢
 refine .bind (.geti (by simp only [List.length_cons,List.length_nil];omega)) fun nx hnx=>?_
 have hnx:nx.ok=true:=by
  have:=hnx.1
  simp only [List.mem_cons,List.not_mem_nil,or_false] at this
  rcases this with rfl | rfl | rfl<;>decide
 refine .bind (make_Next_plain hd (by omega)) ?_
 rintro ⟨y,d⟩ ⟨y1,y2,hd⟩
 dsimp only at y1 y2 hd ⊢
 refine .bind (.geti (by simp only [List.length_cons,List.length_nil];omega)) fun med hmed=>?_
 refine .bind (make_Next_plain hd (by omega)) ?_
 rintro ⟨z,d⟩ ⟨z1,z2,hd⟩
 dsimp only at z1 z2 hd ⊢
 refine .bind (.geti (by simp only [List.length_cons,List.length_nil];omega)) fun pref hpref=>?_
 refine .bind (make_Next_plain hd (by omega)) ?_
 rintro ⟨w,d⟩ ⟨w1,w2,hd⟩
 dsimp only at w1 w2 hd ⊢
 refine .bind (.geti (by simp only [List.length_cons,List.length_nil];omega)) fun otc hotc=>?_
 refine .bind (make_Communities_plain hd) ?_
 rintro ⟨cs,ls,d⟩ ⟨hcs,hls,hd⟩
 dsimp only at hcs hls hd ⊢
 refine .join (fun q:Deck×List Unknown=>((∀u ∈ q.2,okO u=true∧u.Data.length ≤ 9)∧q.2.Pairwise (fun a b=>ltT a b=true)∧q.2.length ≤ 6)∧Dk q.1) (fun k23 hk23=>?_) ?_
 ·refine .forX (fun i s=>((∀u ∈ s.2,okO u=true∧u.Data.length ≤ 9∧∃j,j < i∧([6,7,16,34,200,255]:List Int)[j]?=some u.Type_)∧s.2.Pairwise (fun a b=>ltT a b=true)∧s.2.length ≤ i)∧Dk s.1) ⟨⟨by simp,.nil,by simp⟩,hd⟩ (fun s hs=>hk23 s ⟨⟨fun u hu=>⟨(hs.1.1 u hu).1,(hs.1.1 u hu).2.1⟩,hs.1.2.1,hs.1.2.2⟩,hs.2⟩) ?_
  rintro next kind i ⟨d,l⟩ hkind ⟨⟨g1,g2,g3⟩,hd⟩ hn
  dsimp only at g1 g2 g3 hd ⊢
  refine .bind (make_Next_plain hd (by omega)) ?_
  rintro ⟨c,d⟩ ⟨c1,c2,hd⟩
  dsimp only at c1 c2 hd ⊢
  have hi:i < 6:=(List.getElem?_eq_some_iff.1 hkind).1
  refine .join (fun q:Deck×List Unknown=>((∀u ∈ q.2,okO u=true∧u.Data.length ≤ 9∧∃j,j < i + 1∧([6,7,16,34,200,255]:List Int)[j]?=some u.Type_)∧q.2.Pairwise (fun a b=>ltT a b=true)∧q.2.length ≤ i + 1)∧Dk q.1) (fun k31 hk31=>.ite (fun _=>?_) fun _=>hk31 (d,l) ⟨⟨fun u hu=>?_,g2,by dsimp only;omega⟩,hd⟩) fun q hq=>hn q hq
  ·refine .bind (make_Bytes_plain hd (by omega)) ?_
   rintro ⟨b,d⟩ ⟨hb,hd⟩
   dsimp only at hb hd ⊢
   refine .bind (Ok.apnd (by decide) (by simp;omega)) fun l2 hl2=>hk31 (d,l2) ⟨?_,hd⟩
   dsimp only
   rw [hl2]
   have hlt :∀j,j < i→∀t,([6,7,16,34,200,255]:List Int)[j]?=some t→t < kind:=by
    intro j hj t ht
    match i,j,hi,hj with
    | 1,0,_,_ | 2,0,_,_ | 2,1,_,_ | 3,0,_,_ | 3,1,_,_ | 3,2,_,_ | 4,0,_,_ | 4,1,_,_ | 4,2,_,_ | 4,3,_,_ | 5,0,_,_ | 5,1,_,_ | 5,2,_,_ | 5,3,_,_ | 5,4,_,_=>simp at ht hkind;omega
   have hkk:decide (1 ≤ kind∧kind ≤ 255)=true∧unk kind=true:=by
    have:=List.mem_of_getElem? hkind
    simp only [List.mem_cons,List.not_mem_nil,or_false] at this
    rcases this with rfl | rfl | rfl | rfl | rfl | rfl<;>decide
   refine ⟨fun u hu=>?_,List.pairwise_append.2 ⟨g2,List.pairwise_singleton _ _,fun u hu v hv=>?_⟩,by simp only [List.length_append,List.length_singleton];omega⟩
   ·rcases List.mem_append.1 hu with hu | hu
    ·obtain ⟨q1,q2,j,q3,q4⟩:=g1 u hu
     exact ⟨q1,q2,j,by omega,q4⟩
    ·rw [List.mem_singleton] at hu
     subst hu
     refine ⟨?_,by dsimp only;omega,i,by omega,hkind⟩
     unfold okO
     rw [hkk.1,hkk.2]
     simp only [Bool.true_and,Bool.and_eq_true,decide_eq_true_eq]
     exact ⟨trivial,by omega⟩
   ·rw [List.mem_singleton] at hv
    subst hv
    obtain ⟨_,_,j,q3,q4⟩:=g1 u hu
    have:=hlt j q3 _ q4
    simpa [ltT] using this
  ·obtain ⟨q1,q2,j,q3,q4⟩:=g1 u hu
   exact ⟨q1,q2,j,by omega,q4⟩
 rintro ⟨d,l⟩ ⟨⟨g1,g2,g3⟩,hd⟩
 dsimp only at g1 g2 g3 hd ⊢
 refine .ret ⟨⟨?_,hp.1,hp.2.1,hcs.2,hls.2,g3,fun u hu=>(g1 u hu).2⟩,hd⟩
 have hmed:=hmed.1
 have hpref:=hpref.1
 have hotc:=hotc.1
 simp only [List.mem_cons,List.not_mem_nil,or_false] at hmed hpref hotc
 rw [i64w_id (by omega)]
 have hO:validO l=true:=by
  unfold validO
  rw [Bool.and_eq_true,chainB_pw ltT_tr,List.all_eq_true]
  exact ⟨fun u hu=>(g1 u hu).1,g2⟩
 unfold validA
 simp only [hO,hp.2.2,hnx,hcs.1,hls.1,Bool.true_and,Bool.and_eq_true,decide_eq_true_eq,Bool.or_eq_true,numB]
 omega
end Go.AX.Q18
end
section
namespace Go.AX.Q18
open Go Go.AX
set_option maxRecDepth 8000
theorem allIx {α ρ:Type} {K:Unit→Option ρ} {l:List α} {body:(Unit→Option ρ)→α→Nat→Unit→Option ρ} (h :∀next x (i:Nat),geti l (i:Int)=some x→body next x i ()=next ()):forR K body l 0 ()=K ():=by
 have key :∀(t p:List α),l=p ++ t→forR K body t p.length ()=K ():=by
  intro t
  induction t with
  | nil=>intro p _;rfl
  | cons x t ih=>
   intro p e
   show body (fun s=>forR K body t (p.length + 1) s) x p.length ()=_
   rw [h _ x p.length (by rw [e];exact geti_at p x t)]
   have:=ih (p ++ [x]) (by rw [e];simp)
   simpa using this
 exact key l [] rfl
theorem SameList_refl (l:List Unknown):ref18_SameList l l=some true:=by
 unfold ref18_SameList
 rw [if_neg (by simp),joinP_def]
 refine allIx fun next x i hg=>?_
 rw [joinP_def]
 simp only [hg,some_bind',bne_self_eq_false,cond_false,beq_self_eq_true,Bool.not_true]
 rfl
theorem CSame_refl (l:List Community):ref17_Same l l=some true:=by
 unfold ref17_Same
 rw [if_neg (by simp),joinP_def]
 refine allIx fun next x i hg=>?_
 rw [hg,some_bind',(eqdC x x).2 rfl]
 rfl
theorem LSame_refl (l:List Large):ref17_SameLarge l l=some true:=by
 unfold ref17_SameLarge
 rw [if_neg (by simp),joinP_def]
 refine allIx fun next x i hg=>?_
 rw [hg,some_bind',(eqdL x x).2 rfl]
 rfl
theorem PSame_refl (l:List Segment):ref15_Same l l=some true:=by
 unfold ref15_Same
 rw [if_neg (by simp),joinP_def]
 refine allIx fun next x i hg=>?_
 rw [joinP_def,joinP_def,hg,some_bind',beq_self_eq_true,if_neg (by decide),some_bind']
 show (if (cond false true ((x.ASNs.length:Int) != (x.ASNs.length:Int)))=true then _ else _)=_
 rw [bne_self_eq_false,if_neg (by decide),joinP_def]
 refine allIx fun next x2 i2 hg2=>?_
 rw [some_bind',hg2,some_bind',bne_self_eq_false]
 rfl
theorem eqdA (a b:Addr):Addr.eqd a b=true ↔ a=b:=by
 unfold Addr.eqd
 simp only [Bool.and_eq_true,beq_iff_eq,Bool.and_true,Int.natCast_inj,UInt64.toNat_inj]
 constructor
 ·rintro ⟨h1,h2,h3⟩;cases a;cases b;simp_all
 ·rintro rfl;exact ⟨rfl,rfl,rfl⟩
theorem Same_refl (a:Attrs):ref18_Same a a=some true:=by
 unfold ref18_Same
 rw [joinP_def,if_pos (by simp),PSame_refl,some_bind',(eqdA _ _).2 rfl,CSame_refl,some_bind',LSame_refl,some_bind',SameList_refl,some_bind',beq_self_eq_true,beq_self_eq_true,beq_self_eq_true]
 rfl
theorem awake:law18_awake=some true:=by kernel_rfl
theorem ltT_K (a b:Unknown):ltK keyU a b=ltT a b:=by
 unfold ltK keyU ltT
 rw [lexC_cons,lexC_nil,Bool.eq_iff_iff,decide_eq_true_eq,decide_eq_true_eq]
 split
 ·simp [*]
 ·split<;>omega
theorem refO {l:List Unknown} (hl:l.length ≤ 1000000) {K:Unit→Option Bool} :
  forR (σ:=Unit) K (fun next2 x3 i4 _=>
   joinP (τ:=Bool) (fun k5=>
    if (decide (x3.Type_ < 1))=true then
     k5 true
    else
     if (cond false true (decide (x3.Type_ > 255)))=true then
      k5 true
     else
      Option.bind (ref18_unknown x3.Type_) fun v6=>
      if (cond false true (!v6))=true then
       k5 true
      else
       if (cond false true (x3.Flags != 224))=true then
        k5 true
       else
        if (cond false true (decide ((x3.Data.length:Int) > 255)))=true then
         k5 true
        else
         if (decide ((i4:Int) > 0))=true then
          Option.bind (geti l (i64w ((i4:Int) - 1))) fun v7=>
          k5 (cond false true (cond true (decide (v7.Type_ ≥ x3.Type_)) false))
         else
          k5 false
   ) fun v8=>
   if v8=true then
    some false
   else
    next2 ()) l 0 ()=if validO l=true then K () else some false:=by
 have hok :∀x:Unknown,okO x=!(decide (x.Type_ < 1) || (decide (x.Type_ > 255) || ((!unk x.Type_) || ((x.Flags != 224) || decide ((x.Data.length:Int) > 255))))):=by
  intro x
  unfold okO
  have e1:decide (1 ≤ x.Type_∧x.Type_ ≤ 255)=(!decide (x.Type_ < 1) && !decide (x.Type_ > 255)):=by rw [Bool.eq_iff_iff];simp
  have e2:decide (x.Flags=224)=!(x.Flags != 224):=by rw [Bool.eq_iff_iff];simp
  have e3:decide (x.Data.length ≤ 255)=!decide ((x.Data.length:Int) > 255):=by rw [Bool.eq_iff_iff];simp;omega
  rw [e1,e2,e3]
  cases decide (x.Type_ < 1)<;>cases decide (x.Type_ > 255)<;>cases unk x.Type_<;>cases (x.Flags != 224)<;>cases decide ((x.Data.length:Int) > 255)<;>rfl
 refine adjR (ok:=okO) (lt:=ltT) (by omega) (fun next x _=>?_) fun next x y i _ _ hg=>?_
 ·rw [joinP_def,ref18_unknown_eq,some_bind',hok]
  cases decide (x.Type_ < 1)<;>cases decide (x.Type_ > 255)<;>cases unk x.Type_<;>cases (x.Flags != 224)<;>cases decide ((x.Data.length:Int) > 255)<;>rfl
 ·have e:decide (((i + 1:Nat):Int) > 0)=true:=by simp
  have e2:decide (y.Type_ ≥ x.Type_)=!ltT y x:=by unfold ltT;rw [Bool.eq_iff_iff];simp
  rw [joinP_def,ref18_unknown_eq,some_bind',hok,hg,some_bind',e,e2]
  cases decide (x.Type_ < 1)<;>cases decide (x.Type_ > 255)<;>cases unk x.Type_<;>cases (x.Flags != 224)<;>cases decide ((x.Data.length:Int) > 255)<;>cases ltT y x<;>rfl
theorem Valid_ref {a:Attrs} (h:SmA a):ref18_Valid a=some (validA a):=by
 unfold ref18_Valid
 rw [joinP_def]
 refine (refO h.o).trans ?_
 unfold validA
 by_cases hO:validO a.Other=true
 rotate_left
 ·have hO:validO a.Other=false:=by simpa using hO
  rw [hO];rfl
 rw [hO,if_pos rfl,joinP_def,ref15_Valid_eq (by have:=h.p;omega) (by have:=h.t;omega),some_bind',ref01_Valid_eq,some_bind',ref17_Valid_eq (by have:=h.c;omega),ref17_ValidLarge_eq (by have:=h.l;omega)]
 simp only [some_bind']
 have d1:decide (-1 ≤ a.Origin∧a.Origin ≤ 2)=(decide (a.Origin ≥ -1) && decide (a.Origin ≤ 2)):=by rw [Bool.eq_iff_iff];simp
 have d2:decide (-1 ≤ a.MED∧a.MED ≤ 4294967295)=(decide (a.MED ≥ -1) && decide (a.MED ≤ 4294967295)):=by rw [Bool.eq_iff_iff];simp
 have d3:decide (-1 ≤ a.Pref∧a.Pref ≤ 4294967295)=(decide (a.Pref ≥ -1) && decide (a.Pref ≤ 4294967295)):=by rw [Bool.eq_iff_iff];simp
 have d4:numB a.OTC=(decide (a.OTC ≥ 1) && decide (a.OTC ≤ 4294967295)):=rfl
 have d5:decide (a.OTC=-1)=(a.OTC == -1):=rfl
 have d6:decide (a.Other.length ≤ 8)=decide ((a.Other.length:Int) ≤ 8):=by rw [Bool.eq_iff_iff];simp;omega
 rw [d1,d2,d3,d4,d5,d6]
 generalize decide (a.Origin ≥ -1)=b1
 generalize decide (a.Origin ≤ 2)=b2
 generalize vpath a.Path=b3
 generalize a.Next.ok=b4
 generalize decide (a.MED ≥ -1)=b5
 generalize decide (a.MED ≤ 4294967295)=b6
 generalize decide (a.Pref ≥ -1)=b7
 generalize decide (a.Pref ≤ 4294967295)=b8
 generalize (a.OTC == -1)=b9
 generalize decide (a.OTC ≥ 1)=b10
 generalize decide (a.OTC ≤ 4294967295)=b11
 generalize validC a.Communities=b12
 generalize validL a.Large=b13
 generalize decide ((a.Other.length:Int) ≤ 8)=b14
 cases b1
 ·rfl
 cases b2
 ·rfl
 cases b3
 ·rfl
 cases b4
 ·rfl
 cases b5
 ·rfl
 cases b6
 ·rfl
 cases b7
 ·rfl
 cases b8
 ·rfl
 cases b9<;>cases b10<;>cases b11<;>cases b12<;>cases b13<;>cases b14<;>rfl
end Go.AX.Q18
end
section
namespace Go.AX.Q18
open Go Go.AX
set_option maxRecDepth 8000
def w4 (n:Int):List UInt8:=[(toU8 (Int.fdiv n (2 ^ (min (Int.toNat 24) 64)))),(toU8 (Int.fdiv n (2 ^ (min (Int.toNat 16) 64)))),(toU8 (Int.fdiv n (2 ^ (min (Int.toNat 8) 64)))),(toU8 n)]
def w2 (n:Int):List UInt8:=[(toU8 (Int.fdiv n (2 ^ (min (Int.toNat 8) 64)))),(toU8 n)]
theorem sh_i (k n:Nat) (hk:k < 64) (hn:n=8 * k) (h8:k < 9):min (Int.toNat ((toU64 (8 * ((toU64 (k:Int)).toNat:Int))).toNat:Int)) 64=min (Int.toNat (n:Int)) 64:=by
 have h1:(toU64 (k:Int)).toNat=k:=by
  unfold toU64
  simp only [UInt64.toNat_ofNat']
  omega
 rw [h1]
 have h2:(toU64 (8 * (k:Int))).toNat=n:=by
  unfold toU64
  simp only [UInt64.toNat_ofNat']
  omega
 rw [h2]
theorem fdiv_one (n:Int):Int.fdiv n (2 ^ (min (Int.toNat ((0:Nat):Int)) 64))=n:=by
 have:((2:Int) ^ (min (Int.toNat ((0:Nat):Int)) 64))=1:=rfl
 rw [this,Int.fdiv_one]
theorem word_eq (v:Int) {n:Int} (hn:n=4 ∨ n=2):ref18_word v n=some (if n=4 then w4 v else w2 v):=by
 unfold ref18_word
 rw [joinP_def]
 have s3:=sh_i 3 24 (by omega) rfl (by omega)
 have s2:=sh_i 2 16 (by omega) rfl (by omega)
 have s1:=sh_i 1 8 (by omega) rfl (by omega)
 have s0:=sh_i 0 0 (by omega) rfl (by omega)
 have s3:min (Int.toNat ((toU64 (8 * ((toU64 (3:Int)).toNat:Int))).toNat:Int)) 64=min (Int.toNat 24) 64:=s3
 have s2:min (Int.toNat ((toU64 (8 * ((toU64 (2:Int)).toNat:Int))).toNat:Int)) 64=min (Int.toNat 16) 64:=s2
 have s1:min (Int.toNat ((toU64 (8 * ((toU64 (1:Int)).toNat:Int))).toNat:Int)) 64=min (Int.toNat 8) 64:=s1
 have s0:min (Int.toNat ((toU64 (8 * ((toU64 (0:Int)).toNat:Int))).toNat:Int)) 64=min (Int.toNat ((0:Nat):Int)) 64:=s0
 refine (whileR_eq (fun s:Int×List UInt8=>(s.1=3 ∨ s.1=2 ∨ s.1=1 ∨ s.1=0 ∨ s.1=-1)∧s.2.length + (s.1 + 1).toNat ≤ 4) (fun s=>(s.1 + 1).toNat) (fun s=>some (s.2 ++ (w4 v).drop (3 - s.1).toNat)) ?_ fuel (i64w (n - 1),[]) ?_ ?_).trans ?_
 ·rintro next ⟨i,l⟩ ⟨hi,hl⟩ hk
  dsimp only at hi hl ⊢
  rcases hi with rfl | rfl | rfl | rfl | rfl
  ·rw [if_pos (by decide),s3,apnd_some (by decide) (by simp only [List.length_singleton];omega),some_bind',i64w_id (by omega),hk _ ⟨by simp,by simp only [List.length_append,List.length_singleton];omega⟩ (by simp only;omega)]
   simp [w4]
  ·rw [if_pos (by decide),s2,apnd_some (by decide) (by simp only [List.length_singleton];omega),some_bind',i64w_id (by omega),hk _ ⟨by simp,by simp only [List.length_append,List.length_singleton];omega⟩ (by simp only;omega)]
   simp [w4]
  ·rw [if_pos (by decide),s1,apnd_some (by decide) (by simp only [List.length_singleton];omega),some_bind',i64w_id (by omega),hk _ ⟨by simp,by simp only [List.length_append,List.length_singleton];omega⟩ (by simp only;omega)]
   simp [w4]
  ·rw [if_pos (by decide),s0,fdiv_one,apnd_some (by decide) (by simp only [List.length_singleton];omega),some_bind',i64w_id (by omega),hk _ ⟨by simp,by simp only [List.length_append,List.length_singleton];omega⟩ (by simp only;omega)]
   simp [w4]
  ·rw [if_neg (by decide)]
   simp [w4]
 ·dsimp only
  rw [i64w_id (by omega)]
  rcases hn with rfl | rfl
  ·exact ⟨.inl rfl,by decide⟩
  ·exact ⟨.inr (.inr (.inl rfl)),by decide⟩
 ·dsimp only
  rw [i64w_id (by omega)]
  exact lt_fuel (by omega)
 ·dsimp only
  rw [i64w_id (by omega)]
  rcases hn with rfl | rfl<;>rfl
theorem word4 (v:Int):ref18_word v 4=some (w4 v):=word_eq v (.inl rfl)
theorem word2 (v:Int):ref18_word v 2=some (w2 v):=word_eq v (.inr rfl)
theorem w4_len (n:Int):(w4 n).length=4:=rfl
theorem flat4_len (l:List Int):(l.flatMap w4).length=4 * l.length:=by
 induction l with
 | nil=>rfl
 | cons x t ih=>rw [List.flatMap_cons,List.length_append,ih,w4_len,List.length_cons];omega
def segB (s:Segment):List UInt8:=[(if s.Set=true then (1:UInt8) else 2),toU8 (s.ASNs.length:Int)] ++ s.ASNs.flatMap w4
def pathB (p:List Segment):List UInt8:=p.flatMap segB
theorem segB_len (s:Segment):(segB s).length=2 + 4 * s.ASNs.length:=by
 unfold segB
 rw [List.length_append,flat4_len];rfl
theorem pathB_len (p:List Segment):(pathB p).length=2 * p.length + 4 * tot p:=by
 unfold pathB
 induction p with
 | nil=>rfl
 | cons s t ih=>rw [List.flatMap_cons,List.length_append,ih,segB_len,List.length_cons,tot_cons];omega
theorem path_ref {p:List Segment} (h:2 * p.length + 4 * tot p ≤ 100000000) {ρ:Type} {K:List UInt8→Option ρ}:joinP (τ:=(List UInt8)) (fun k7=>
     forR (σ:=(List UInt8)) (fun v8=>
      k7 v8
     ) (fun next9 (x10:Segment) i11 v8=>
      joinP (τ:=(List UInt8)) (fun k12=>
       joinP (τ:=UInt8) (fun k13=>
        if x10.Set=true then
         k13 (1:UInt8)
        else
         k13 (2:UInt8)
       ) fun v14=>
       Option.bind (apnd (α:=UInt8) 1 v8 ([v14,(toU8 (x10.ASNs.length:Int))]:List UInt8)) fun v15=>
       joinP (τ:=(List UInt8)) (fun k16=>
        forR (σ:=(List UInt8)) (fun v17=>
         k16 v17
        ) (fun next18 (x19:Int) i20 v17=>
         Option.bind (ref18_word x19 4) fun v21=>
         Option.bind (apnd (α:=UInt8) 1 v17 v21) fun v22=>
         next18 v22
        ) x10.ASNs 0 v15
       ) fun v23=>
       k12 v23
      ) fun v24=>
      next9 v24
     ) p 0 ([]:List UInt8)
    ) K=K (pathB p):=by
 rw [joinP_def]
 have hl:=pathB_len p
 unfold pathB at hl ⊢
 refine (appR (g:=segB) (N:=100000000) (by rw [hl];simp only [List.length_nil];omega) fun next s i v _ hv=>?_).trans rfl
 rw [segB_len] at hv
 rw [joinP_def,joinP_ite,apnd_some (by decide) (by simp;omega),some_bind',joinP_def]
 refine (appR (g:=w4) (N:=1000000000) (by rw [flat4_len];simp;omega) fun next x i v _ hv=>?_).trans ?_
 ·rw [word4,some_bind',apnd_some (by decide) hv,some_bind']
 ·rw [List.append_assoc]
  rfl
def commB (c:Community):List UInt8:=w2 c.A ++ w2 c.B
def largeB (c:Large):List UInt8:=w4 c.A ++ (w4 c.B ++ w4 c.C)
theorem commB_len (c:Community):(commB c).length=4:=rfl
theorem largeB_len (c:Large):(largeB c).length=12:=rfl
theorem flatC_len (l:List Community):(l.flatMap commB).length=4 * l.length:=by
 induction l with
 | nil=>rfl
 | cons x t ih=>rw [List.flatMap_cons,List.length_append,ih,commB_len,List.length_cons];omega
theorem flatL_len (l:List Large):(l.flatMap largeB).length=12 * l.length:=by
 induction l with
 | nil=>rfl
 | cons x t ih=>rw [List.flatMap_cons,List.length_append,ih,largeB_len,List.length_cons];omega
theorem toU8_nat (n:Nat):toU8 (n:Int)=UInt8.ofNat n:=by
 unfold toU8
 apply UInt8.toNat_inj.1
 simp only [UInt8.toNat_ofNat']
 omega
theorem fd (n k:Nat):Int.fdiv (n:Int) (2 ^ (min (Int.toNat (k:Int)) 64))=((n / 2 ^ (min k 64):Nat):Int):=by
 rw [Int.toNat_natCast]
 have:((2:Int) ^ (min k 64))=((2 ^ (min k 64):Nat):Int):=by simp
 rw [this,Int.fdiv_eq_ediv_of_nonneg _ (Int.natCast_nonneg _),Int.natCast_ediv]
end Go.AX.Q18
end
section
namespace Go.AX.Q18
open Go Go.AX
set_option maxRecDepth 8000
def b4 (n:Nat):List UInt8:=[UInt8.ofNat (n / 16777216),UInt8.ofNat (n / 65536),UInt8.ofNat (n / 256),UInt8.ofNat n]
theorem toU64_nat (n:Nat):toU64 (n:Int)=UInt64.ofNat n:=by
 unfold toU64
 apply UInt64.toNat_inj.1
 simp only [UInt64.toNat_ofNat']
 omega
theorem lo_byte {x:UInt64} {k n:Nat} (hn:n=8 * k) (hk:k < 8) (hx:x.toNat < 4294967296):toU8 ((toU64 (Int.fdiv (x.toNat:Int) (2 ^ (min (Int.toNat (n:Int)) 64)))).toNat:Int)=UInt8.ofNat (x.toNat / 2 ^ n):=by
 rw [fd,Nat.min_eq_left (by omega),toU64_nat,toU8_nat]
 congr 1
 rw [UInt64.toNat_ofNat',Nat.mod_eq_of_lt]
 exact Nat.lt_of_le_of_lt (Nat.div_le_self _ _) (by omega)
theorem Addr.four {a:Addr} (h:a.ok=true) (h6:a.V6=false):a.Hi.toNat=0∧a.Lo.toNat < 4294967296:=by
 unfold Addr.ok at h
 rw [h6,cond_false] at h
 cases h1:((a.Hi.toNat:Int) == 0)
 ·rw [h1] at h;simp at h
 ·rw [h1,cond_true,decide_eq_true_eq] at h
  simp only [beq_iff_eq] at h1
  omega
theorem Bytes_ref {a:Addr} (h:a.ok=true) (h6:a.V6=false):ref01_Bytes a=some (b4 a.Lo.toNat):=by
 obtain ⟨_,hlo⟩:=Addr.four h h6
 unfold ref01_Bytes
 rw [ref01_Valid_eq,some_bind',h,if_neg (by decide),joinP_def,h6,if_neg (by decide)]
 show joinP _ _=_
 rw [joinP_def]
 have s3:=sh_i 3 24 (by omega) rfl (by omega)
 have s2:=sh_i 2 16 (by omega) rfl (by omega)
 have s1:=sh_i 1 8 (by omega) rfl (by omega)
 have s0:=sh_i 0 0 (by omega) rfl (by omega)
 have s3:min (Int.toNat ((toU64 (8 * ((toU64 (Int.tmod 3 8)).toNat:Int))).toNat:Int)) 64=min (Int.toNat ((24:Nat):Int)) 64:=s3
 have s2:min (Int.toNat ((toU64 (8 * ((toU64 (Int.tmod 2 8)).toNat:Int))).toNat:Int)) 64=min (Int.toNat ((16:Nat):Int)) 64:=s2
 have s1:min (Int.toNat ((toU64 (8 * ((toU64 (Int.tmod 1 8)).toNat:Int))).toNat:Int)) 64=min (Int.toNat ((8:Nat):Int)) 64:=s1
 have s0:min (Int.toNat ((toU64 (8 * ((toU64 (Int.tmod 0 8)).toNat:Int))).toNat:Int)) 64=min (Int.toNat ((0:Nat):Int)) 64:=s0
 refine (whileR_eq (fun s:Int×List UInt8=>(s.1=3 ∨ s.1=2 ∨ s.1=1 ∨ s.1=0 ∨ s.1=-1)∧s.2.length + (s.1 + 1).toNat ≤ 4) (fun s=>(s.1 + 1).toNat) (fun s=>some (s.2 ++ (b4 a.Lo.toNat).drop (3 - s.1).toNat)) ?_ fuel (i64w (4 - 1),[]) ?_ ?_).trans ?_
 ·rintro next ⟨i,l⟩ ⟨hi,hl⟩ hk
  dsimp only at hi hl ⊢
  rcases hi with rfl | rfl | rfl | rfl | rfl
  ·rw [if_pos (by decide),joinP_def,if_neg (by decide),s3]
   show Option.bind _ _=_
   rw [lo_byte (n:=24) (k:=3) rfl (by omega) hlo,apnd_some (by decide) (by simp only [List.length_singleton];omega),some_bind',i64w_id (by omega),hk _ ⟨by simp,by simp only [List.length_append,List.length_singleton];omega⟩ (by simp only;omega)]
   simp [b4]
  ·rw [if_pos (by decide),joinP_def,if_neg (by decide),s2]
   show Option.bind _ _=_
   rw [lo_byte (n:=16) (k:=2) rfl (by omega) hlo,apnd_some (by decide) (by simp only [List.length_singleton];omega),some_bind',i64w_id (by omega),hk _ ⟨by simp,by simp only [List.length_append,List.length_singleton];omega⟩ (by simp only;omega)]
   simp [b4]
  ·rw [if_pos (by decide),joinP_def,if_neg (by decide),s1]
   show Option.bind _ _=_
   rw [lo_byte (n:=8) (k:=1) rfl (by omega) hlo,apnd_some (by decide) (by simp only [List.length_singleton];omega),some_bind',i64w_id (by omega),hk _ ⟨by simp,by simp only [List.length_append,List.length_singleton];omega⟩ (by simp only;omega)]
   simp [b4]
  ·rw [if_pos (by decide),joinP_def,if_neg (by decide),s0]
   show Option.bind _ _=_
   rw [lo_byte (n:=0) (k:=0) rfl (by omega) hlo,apnd_some (by decide) (by simp only [List.length_singleton];omega),some_bind',i64w_id (by omega),hk _ ⟨by simp,by simp only [List.length_append,List.length_singleton];omega⟩ (by simp only;omega)]
   simp [b4]
  ·rw [if_neg (by decide)]
   simp [b4]
 ·dsimp only
  rw [i64w_id (by omega)]
  exact ⟨.inl rfl,by decide⟩
 ·dsimp only
  rw [i64w_id (by omega)]
  exact lt_fuel (by omega)
 ·dsimp only
  rw [i64w_id (by omega)]
  rfl
def hasNext (a:Attrs):Bool:=!a.Next.V6 && !(Addr.eqd a.Next ⟨false,0,0⟩)
def G (a:Attrs) (k:Int):Option (List UInt8):=
 if k=1 then (if a.Origin ≠ -1 then some [toU8 a.Origin] else none) else
 if k=2 then (if a.Origin ≠ -1 ∨ a.Path ≠ [] then some (pathB a.Path) else none) else
 if k=3 then (if hasNext a=true then some (b4 a.Next.Lo.toNat) else none) else
 if k=4 then (if a.MED ≠ -1 then some (w4 a.MED) else none) else
 if k=5 then (if a.Pref ≠ -1 then some (w4 a.Pref) else none) else
 if k=8 then (if a.Communities ≠ [] then some (a.Communities.flatMap commB) else none) else
 if k=32 then (if a.Large ≠ [] then some (a.Large.flatMap largeB) else none) else
 if k=35 then (if a.OTC ≠ -1 then some (w4 a.OTC) else none) else none
def ent (a:Attrs) (k:Int):List Unknown:=match G a k with
 | some b=>[⟨fl k,k,b⟩]
 | none=>[]
def ofK (l:List Unknown) (k:Int):List Unknown:=l.flatMap fun x=>if (x.Type_ == k)=true then [x] else []
def wrS (a:Attrs):List Unknown:=(List.range' 0 256).flatMap fun (k:Nat)=>ent a k ++ ofK a.Other k
theorem G_none {a:Attrs} {k:Int} (h:fl k=0):G a k=none:=by
 rcases fl_cases k with ⟨_,e⟩ | ⟨_,e⟩ | ⟨_,e⟩ | ⟨_,e⟩ | ⟨_,e⟩ | ⟨_,e⟩ | ⟨_,e⟩ | ⟨_,e⟩ | ⟨e1,e2,e3,e4,e5,e6,e7,e8,_⟩
 iterate 8 (rw [e] at h;exact absurd h (by decide))
 unfold G
 rw [if_neg e1,if_neg e2,if_neg e3,if_neg e4,if_neg e5,if_neg e6,if_neg e7,if_neg e8]
theorem ofK_mem {l:List Unknown} {k:Int} {y:Unknown}:y ∈ ofK l k ↔ y ∈ l∧y.Type_=k:=by
 unfold ofK
 rw [List.mem_flatMap]
 constructor
 ·rintro ⟨x,hx,h⟩
  split at h
  ·rename_i hc
   rw [List.mem_singleton] at h
   subst h
   exact ⟨hx,by simpa using hc⟩
  ·simp at h
 ·rintro ⟨hy,e⟩
  exact ⟨y,hy,by rw [if_pos (by simpa using e)];simp⟩
theorem ent_mem {a:Attrs} {k:Int} {y:Unknown}:y ∈ ent a k ↔∃b,G a k=some b∧y=⟨fl k,k,b⟩:=by
 unfold ent
 cases G a k with
 | none=>simp
 | some b=>simp
theorem ent_type {a:Attrs} {k:Int} {y:Unknown} (h:y ∈ ent a k):y.Type_=k:=by
 obtain ⟨b,_,rfl⟩:=ent_mem.1 h
 rfl
theorem wr_mem {a:Attrs} (hO:validO a.Other=true) {y:Unknown}:y ∈ wrS a ↔ (∃k,y ∈ ent a k) ∨ y ∈ a.Other:=by
 unfold wrS
 simp only [List.mem_flatMap,List.mem_range'_1,List.mem_append]
 constructor
 ·rintro ⟨k,hk,h | h⟩
  ·exact .inl ⟨_,h⟩
  ·exact .inr (ofK_mem.1 h).1
 ·rintro (⟨k,h⟩ | h)
  ·obtain ⟨b,hb,_⟩:=ent_mem.1 h
   have hk:0 ≤ k∧k < 256:=by
    rcases fl_cases k with ⟨e,_⟩ | ⟨e,_⟩ | ⟨e,_⟩ | ⟨e,_⟩ | ⟨e,_⟩ | ⟨e,_⟩ | ⟨e,_⟩ | ⟨e,_⟩ | e
    iterate 8 omega
    rw [G_none e.2.2.2.2.2.2.2.2] at hb;cases hb
   refine ⟨k.toNat,by omega,.inl ?_⟩
   rw [show ((k.toNat:Nat):Int)=k by omega]
   exact h
  ·unfold validO at hO
   rw [Bool.and_eq_true,List.all_eq_true] at hO
   have:=hO.1 y h
   simp only [okO,Bool.and_eq_true,decide_eq_true_eq] at this
   exact ⟨y.Type_.toNat,by omega,.inr (ofK_mem.2 ⟨h,by omega⟩)⟩
theorem other_unk {l:List Unknown} (hO:validO l=true) {x:Unknown} (h:x ∈ l):unk x.Type_=true∧1 ≤ x.Type_∧x.Type_ ≤ 255∧x.Flags=224∧x.Data.length ≤ 255:=by
 unfold validO at hO
 rw [Bool.and_eq_true,List.all_eq_true] at hO
 have:=hO.1 x h
 simp only [okO,Bool.and_eq_true,decide_eq_true_eq] at this
 exact ⟨this.2.1,this.1.1,this.1.2,this.2.2.1,this.2.2.2⟩
theorem unk_fl {t:Int} (h:unk t=true):fl t=0:=by
 simp only [unk,Bool.and_eq_true,decide_eq_true_eq] at h
 exact h.1
theorem other_strict {l:List Unknown} (hO:validO l=true):l.Pairwise fun a b=>ltT a b=true:=by
 unfold validO at hO
 rw [Bool.and_eq_true] at hO
 exact (chainB_pw ltT_tr).1 hO.2
theorem wr_strict {a:Attrs} (hO:validO a.Other=true):(wrS a).Pairwise fun a b=>ltK keyU a b=true:=by
 unfold wrS
 rw [List.pairwise_flatMap]
 have ht :∀(k:Nat) y,y ∈ ent a k ++ ofK a.Other k→y.Type_=k:=by
  intro k y hy
  rcases List.mem_append.1 hy with h | h
  ·exact ent_type h
  ·exact (ofK_mem.1 h).2
 constructor
 ·intro k _
  rw [List.pairwise_append]
  refine ⟨?_,?_,?_⟩
  ·unfold ent
   split
   ·exact List.pairwise_singleton _ _
   ·exact .nil
  ·unfold ofK
   rw [List.pairwise_flatMap]
   refine ⟨fun x _=>pw_le_one,(other_strict hO).imp fun {p q} hpq x hx y hy=>?_⟩
   have e1:p.Type_=k:=by
    split at hx
    ·simpa using ‹(p.Type_ == (k:Int))=true›
    ·simp at hx
   have e2:q.Type_=k:=by
    split at hy
    ·simpa using ‹(q.Type_ == (k:Int))=true›
    ·simp at hy
   simp only [ltT,decide_eq_true_eq] at hpq
   omega
  ·intro x hx y hy
   obtain ⟨b,hb,_⟩:=ent_mem.1 hx
   obtain ⟨hy1,hy2⟩:=ofK_mem.1 hy
   have:=unk_fl (other_unk hO hy1).1
   rw [hy2] at this
   rw [G_none this] at hb;cases hb
 ·refine (List.pairwise_lt_range' (s:=0) (n:=256)).imp fun {p q} hpq x hx y hy=>?_
  have e1:=ht p x hx
  have e2:=ht q y hy
  rw [ltT_K]
  simp only [ltT,decide_eq_true_eq]
  omega
end Go.AX.Q18
end
