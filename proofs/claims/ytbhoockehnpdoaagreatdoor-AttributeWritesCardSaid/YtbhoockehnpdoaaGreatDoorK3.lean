/-
  Texts of one proof, packed: AxB6 Q18zB Q18zP0 L18zG2 AxT AxV AxW AxU L18A L18B L18C AxX L18D L18E L18F L18G L18H L18I L18J L18K L18L L18M L18N L18O L18Oa L18P L18Q L18R L18S L18T L18U L18V L18X L18Y L18W L18zW Q18zP1 Q18zP2 Q18zP3 Q18zP4 Q18zP5.
-/
import Derived.Test.YtbhoockehnpdoaaGreatDoorK2
import Derived.IntWalk
import Derived.LaidSub
import Derived.MapKept
import Derived.Shelf.SlSortCmp.NoneTotal
import Derived.Shelf.SortM.Plain
import Derived.Shelf.SortM.SortNone
import Derived.Test.YtbhoockehnpdoaaGreatDoorRows
set_option linter.all false
section
namespace Go.AX
open Go.Proofs Go.Sort Go.Shelf Go.RowKit
theorem putRow_heap {α:Type} [Inhabited α] (enc:α→Value) (w:World) (blk off n:Nat) (d:Array α) (os:Array Obj) (hb:blk < w.heap.size) :
  (∀b,b < w.heap.size→b ≠ blk→(grow (putRow enc (Sort.ahead w n) blk off d) os).heap[b]?=w.heap[b]?)∧w.heap.size ≤ (grow (putRow enc (Sort.ahead w n) blk off d) os).heap.size∧
  (∀vs e fr,w.heap[blk]?=some (.cells vs e fr)→(grow (putRow enc (Sort.ahead w n) blk off d) os).heap[blk]?=some (.cells (putCells enc off d vs) e fr))∧
  (grow (putRow enc (Sort.ahead w n) blk off d) os).os=w.os∧(grow (putRow enc (Sort.ahead w n) blk off d) os).output=w.output∧(grow (putRow enc (Sort.ahead w n) blk off d) os).tape=w.tape∧w.drawn ≤ (grow (putRow enc (Sort.ahead w n) blk off d) os).drawn:=by
 have hh:(grow (putRow enc (Sort.ahead w n) blk off d) os).heap=(w.heap.modify blk (onCells (putCells enc off d))) ++ os:=rfl
 refine ⟨fun b h1 h2=>?_,?_,fun vs e fr h=>?_,rfl,rfl,rfl,Nat.le_add_right _ _⟩
 ·rw [hh,Array.getElem?_append_left (by simpa using h1),Array.getElem?_modify,if_neg (Ne.symm h2)]
 ·rw [hh];simp
 ·rw [hh,Array.getElem?_append_left (by simpa using hb),Array.getElem?_modify,if_pos rfl,h]
  rfl
theorem sortI_ok {wl:WL} {P:Program} {ρ:Ren} {e:Nat} (L:SlLaysM.n5 P ρ) (hf:FnOK P (ρ.f 5)) {l r:List Int} (h:sortI l=some r) :
  CallsOK wl P (ρ.f 5) [.own 0 (List.map D.i l).length] [.row e 1 (List.map D.i l) .no] (.tup []) [.row e 1 (List.map D.i r) .no]:=by
 unfold sortI at h
 split at h
 rotate_left
 ·simp at h
 rename_i hsz
 obtain rfl:=Option.some.inj h
 refine ⟨hf,fun w S φ gb hg vals hs hr hn m=>?_⟩
 have r0:=(hr 0 (by simp)).1
 simp only [List.getElem_cons_zero] at r0
 generalize hv:vals.getD 0 undef=v0 at r0
 have hv:vals=#[v0]:=by
  match vals,hs with
  | ⟨[a]⟩,_=>simp at hv;rw [hv]
 cases r0 with | own _ _ _ kk c a0 hv0 hk0 h1 hb=>
 have hob:ofL [OB.row e 1 (List.map D.i l) .no] 0=some (.row e 1 (List.map D.i l) .no):=rfl
 obtain ⟨_,hown⟩:=h1 _ _ _ _ hob
 have hown:=hown rfl
 obtain ⟨g0,g1,g2,g3⟩:=m.obj 0 _ hob
 have hol :∀r',ofL [OB.row e 1 (List.map D.i r') .no]=upd (ofL [OB.row e 1 (List.map D.i l) .no]) 0 (some (.row e 1 (List.map D.i r') .no)):=by
  intro r'
  funext q
  match q with
  | 0=>simp [ofL]
  | q + 1=>simp [ofL,upd]
 have none :∀(p:Option Addr) (cap:Nat),v0=.slice p 0 cap→l=[]→Calls P (ρ.f 5) vals w fun e' w'=>∃v,e'=.returned v∧∃S' φ',Mem ⟨w,S,PBof φ ([OB.row e 1 (List.map D.i l) .no]).length,wl,gb,hg⟩ w' S' φ' (ofL [OB.row e 1 (List.map D.i (l.mergeSort fun x y=>decide (x ≤ y))) .no])∧
   Kept w S φ (ofL [OB.row e 1 (List.map D.i l) .no]) w' S' φ' (ofL [OB.row e 1 (List.map D.i (l.mergeSort fun x y=>decide (x ≤ y))) .no])∧RepA S' w' φ' (ofL [OB.row e 1 (List.map D.i (l.mergeSort fun x y=>decide (x ≤ y))) .no]) (.tup []) v∧Closed (ofL [OB.row e 1 (List.map D.i (l.mergeSort fun x y=>decide (x ≤ y))) .no]) (.tup []):=by
  intro p cap hp hl
  subst hl
  rw [hv,hp]
  refine (AnyM.slices_Sort_int_none L p cap w).mono fun e' w' ⟨he,hw⟩=>?_
  subst hw
  refine ⟨_,he,S,φ,by simpa using m,by simpa using .refl _ _ _ _,.tup [] #[] (fun _=>undef) rfl (fun i hi=>by simp at hi) (fun i hi=>by simp at hi),fun q hq=>by simp [AV.refs,AV.refs.refsL] at hq⟩
 rcases hown with ⟨a1,a2,a3,a4⟩ | ⟨b,cap,a1,a4⟩
 ·exact none _ _ a4 (List.eq_nil_of_length_eq_zero (by simpa using a2))
 rcases g3 with ⟨f1,_⟩ | ⟨b',cap',vs,f0,f1,f2,f3,f4,f5,f6,f7,f8⟩
 ·rw [a1] at f1;simp at f1
 rw [a1] at f1
 simp only [Option.some.injEq,Prod.mk.injEq] at f1
 obtain ⟨rfl,rfl⟩:=f1
 have hbl:b < w.heap.size:=(m.ow 0 b cap (by simp [ofL]) a1).1
 have hcell :∀i (hi:i < l.length),f0 i 0=.int .i64 l[i]:=by
  intro i hi
  have:=f7 i (by simpa using hi) 0 (by simp [D.cells])
  simp only [List.getElem_map,D.cells,List.getElem_cons_zero] at this
  revert this
  generalize f0 i 0=u
  intro h
  cases h
  rfl
 have hH:Holds (Value.int .i64) w b cap.2 l.toArray:=by
  intro j hj
  have hj':j < l.length:=by simpa using hj
  have h6:=f6 j 0 (by simpa using hj') (by decide)
  rw [hcell j hj'] at h6
  have hb2:w.cell? ⟨b,cap.2 + j,Option.none⟩=some (.int .i64 l[j]):=by
   have:cellAt w b (cap.2 + j)=some (.int .i64 l[j]):=by rw [cellAt_heap f2];simpa using h6
   exact this
  refine ⟨by simpa [hj'] using hb2,?_⟩
  simp [World.frozen?,f2]
 rw [hv,a4]
 have hc:=AnyM.slices_Sort_int L b cap.2 cap.1 l w hH hbl hsz
 have hlen:(List.map D.i l).length=l.length:=by simp
 rw [hlen]
 refine hc.mono fun e' w' ⟨he,n,os,hw⟩=>?_
 obtain ⟨w1,w2,w3,w4,w5,w6,w7⟩:=putRow_heap (Value.int .i64) w b cap.2 n (l.mergeSort fun x y=>decide (x ≤ y)).toArray os hbl
 rw [← hw] at w1 w2 w3 w4 w5 w6 w7
 obtain ⟨m2,k2⟩:=m.rowSet (es':=List.map D.i (l.mergeSort fun x y=>decide (x ≤ y))) (w':=w') hob a1 f2 (by simp)
  (fun i hi=>by simp [D.cells]) (fun i hi j hj=>by
   have h0:j=0:=by simp [D.cells] at hj;exact hj
   subst h0
   simp [D.cells,D.isAgg]) (w3 _ _ _ f2) (by simp [putCells]) (fun b' h1 h2=>w1 b' h1 h2) w2 ⟨w4,w5,w6,w7⟩ (fun i _=>.int .i64 ((l.mergeSort fun x y=>decide (x ≤ y)).getD i 0))
  (fun i j hi hj=>by
   have h0:j=0:=by omega
   subst h0
   have hi':i < l.length:=by simpa using hi
   have hbig:cap.2 + i < vs.size:=by
    have h3:l.length ≤ cap.1:=by simpa using f3
    omega
   simp only [putCells,Nat.mul_one,Nat.add_zero,Array.getElem?_mapIdx,Array.getElem?_eq_getElem hbig,Option.map_some]
   rw [if_pos ⟨by omega,by simp;omega⟩,show cap.2 + i - cap.2=i by omega]
   have hi2:i < (l.mergeSort fun x y=>decide (x ≤ y)).length:=by simpa using hi'
   simp [hi2])
  (fun i hi j hj=>by
   have h0:j=0:=by simp [D.cells] at hj;exact hj
   subst h0
   have hi2:i < (l.mergeSort fun x y=>decide (x ≤ y)).length:=by simpa using hi
   simp only [List.getElem_map,D.cells,List.getElem_cons_zero,List.getD_eq_getElem?_getD,List.getElem?_eq_getElem hi2,Option.getD_some]
   exact .val _ rfl)
 rw [← hol] at m2 k2
 exact ⟨_,he,S,φ,m2,k2,.tup [] #[] (fun _=>undef) rfl (fun i hi=>by simp at hi) (fun i hi=>by simp at hi),fun q hq=>by simp [AV.refs,AV.refs.refsL] at hq⟩
end Go.AX
end
section
set_option maxRecDepth 100000
namespace Go.Proofs
open Go.Shelf
def Tryz.l35_ren:Go.Shelf.Ren:=⟨fun | 6=>35 | 15=>68 | 14=>67 | 28=>92 | 29=>93 | 20=>84 | 21=>85 | 22=>86 | 23=>87 | 24=>88 | 25=>89 | 26=>90 | 27=>91 | 46=>96 | 47=>97 | 48=>98 | 49=>99 | 50=>100 | 57=>103 | n=>n,fun | 22=>28 | 24=>62 | 25=>76 | 3=>3 | 39=>103 | 0=>0 | 53=>131 | 55=>23 | 4=>4 | 46=>124 | 45=>123 | 50=>128 | 5=>5 | 9=>9 | 66=>135 | 70=>139 | 76=>142 | 77=>143 | n=>n,fun | n=>n⟩
theorem Tryz.l35:Go.Proofs.SlLaysF0.n6 Tryz.prog Tryz.l35_ren:={
 mixed:=by kernel_rfl
 f6:=⟨Tryz.f35.name,by decide,Tryz.func35.trans (congrArg some (by kernel_rfl))⟩
 f14:=⟨Tryz.f67.name,by decide,Tryz.func67.trans (congrArg some (by kernel_rfl))⟩
 f15:=Tryz.func68.trans (congrArg some (by kernel_rfl))
 f20:=⟨Tryz.f84.name,by decide,Tryz.func84.trans (congrArg some (by kernel_rfl))⟩
 f21:=⟨Tryz.f85.name,by decide,Tryz.func85.trans (congrArg some (by kernel_rfl))⟩
 f22:=⟨Tryz.f86.name,by decide,Tryz.func86.trans (congrArg some (by kernel_rfl))⟩
 f23:=⟨Tryz.f87.name,by decide,Tryz.func87.trans (congrArg some (by kernel_rfl))⟩
 f24:=⟨Tryz.f88.name,by decide,Tryz.func88.trans (congrArg some (by kernel_rfl))⟩
 f25:=⟨Tryz.f89.name,by decide,Tryz.func89.trans (congrArg some (by kernel_rfl))⟩
 f26:=⟨Tryz.f90.name,by decide,Tryz.func90.trans (congrArg some (by kernel_rfl))⟩
 f27:=⟨Tryz.f91.name,by decide,Tryz.func91.trans (congrArg some (by kernel_rfl))⟩
 f28:=Tryz.func92.trans (congrArg some (by kernel_rfl))
 f29:=Tryz.func93.trans (congrArg some (by kernel_rfl))
 f46:=⟨Tryz.f96.name,by decide,Tryz.func96.trans (congrArg some (by kernel_rfl))⟩
 f47:=Tryz.func97.trans (congrArg some (by kernel_rfl))
 f48:=Tryz.func98.trans (congrArg some (by kernel_rfl))
 f49:=⟨Tryz.f99.name,by decide,Tryz.func99.trans (congrArg some (by kernel_rfl))⟩
 f50:=⟨Tryz.f100.name,by decide,Tryz.func100.trans (congrArg some (by kernel_rfl))⟩
 f57:=⟨Tryz.f103.name,by decide,Tryz.func103.trans (congrArg some (by kernel_rfl))⟩
 t0:=Tryz.underlying0
 a0:=Tryz.isAgg0
 z0:=Tryz.sizeOf0
 v0:=Tryz.zeroValue0
 t3:=Tryz.underlying3
 a3:=Tryz.isAgg3
 z3:=Tryz.sizeOf3
 v3:=Tryz.zeroValue3
 t4:=Tryz.underlying4
 a4:=Tryz.isAgg4
 z4:=Tryz.sizeOf4
 v4:=Tryz.zeroValue4
 t5:=Tryz.underlying5
 a5:=Tryz.isAgg5
 z5:=Tryz.sizeOf5
 v5:=Tryz.zeroValue5
 t9:=Tryz.underlying9
 a9:=Tryz.isAgg9
 z9:=Tryz.sizeOf9
 v9:=Tryz.zeroValue9
 t22:=Tryz.underlying28
 a22:=Tryz.isAgg28
 z22:=Tryz.sizeOf28
 v22:=Tryz.zeroValue28
 t25:=Tryz.underlying76
 a25:=Tryz.isAgg76
 z25:=Tryz.sizeOf76
 v25:=Tryz.zeroValue76
 t39:=Tryz.underlying103
 a39:=Tryz.isAgg103
 z39:=Tryz.sizeOf103
 v39:=Tryz.zeroValue103
 t45:=Tryz.underlying123
 a45:=Tryz.isAgg123
 z45:=Tryz.sizeOf123
 v45:=Tryz.zeroValue123
 t46:=Tryz.underlying124
 a46:=Tryz.isAgg124
 z46:=Tryz.sizeOf124
 v46:=Tryz.zeroValue124
 t50:=Tryz.underlying128
 a50:=Tryz.isAgg128
 z50:=Tryz.sizeOf128
 v50:=Tryz.zeroValue128
 t53:=Tryz.underlying131
 a53:=Tryz.isAgg131
 z53:=Tryz.sizeOf131
 v53:=Tryz.zeroValue131
 t55:=Tryz.underlying23
 a55:=Tryz.isAgg23
 z55:=Tryz.sizeOf23
 v55:=Tryz.zeroValue23
 t66:=Tryz.underlying135
 a66:=Tryz.isAgg135
 z66:=Tryz.sizeOf135
 v66:=Tryz.zeroValue135
 t70:=Tryz.underlying139
 a70:=Tryz.isAgg139
 z70:=Tryz.sizeOf139
 v70:=Tryz.zeroValue139
 t76:=Tryz.underlying142
 a76:=Tryz.isAgg142
 z76:=Tryz.sizeOf142
 v76:=Tryz.zeroValue142
 t77:=Tryz.underlying143
 a77:=Tryz.isAgg143
 z77:=Tryz.sizeOf143
 v77:=Tryz.zeroValue143 }
def Tryz.l131_ren:Go.Shelf.Ren:=⟨fun | 5=>131 | 8=>68 | 7=>138 | 19=>92 | 20=>93 | 10=>143 | 11=>144 | 12=>145 | 13=>146 | 14=>147 | 15=>148 | 16=>149 | 17=>150 | 18=>151 | 30=>154 | 31=>97 | 32=>98 | 33=>155 | 34=>156 | 35=>69 | 40=>173 | n=>n,fun | 23=>31 | 25=>3 | 3=>3 | 32=>103 | 22=>31 | 0=>0 | 44=>131 | 46=>23 | 4=>4 | 36=>124 | 35=>123 | 41=>128 | 5=>5 | 9=>9 | 53=>135 | 57=>139 | 63=>142 | 64=>143 | n=>n,fun | n=>n⟩
theorem Tryz.l131:Go.Proofs.SlLaysM.n5 Tryz.prog Tryz.l131_ren:={
 mixed:=by kernel_rfl
 f5:=⟨Tryz.f131.name,by decide,Tryz.func131.trans (congrArg some (by kernel_rfl))⟩
 f7:=⟨Tryz.f138.name,by decide,Tryz.func138.trans (congrArg some (by kernel_rfl))⟩
 f8:=Tryz.func68.trans (congrArg some (by kernel_rfl))
 f10:=⟨Tryz.f143.name,by decide,Tryz.func143.trans (congrArg some (by kernel_rfl))⟩
 f11:=⟨Tryz.f144.name,by decide,Tryz.func144.trans (congrArg some (by kernel_rfl))⟩
 f12:=⟨Tryz.f145.name,by decide,Tryz.func145.trans (congrArg some (by kernel_rfl))⟩
 f13:=⟨Tryz.f146.name,by decide,Tryz.func146.trans (congrArg some (by kernel_rfl))⟩
 f14:=⟨Tryz.f147.name,by decide,Tryz.func147.trans (congrArg some (by kernel_rfl))⟩
 f15:=⟨Tryz.f148.name,by decide,Tryz.func148.trans (congrArg some (by kernel_rfl))⟩
 f16:=⟨Tryz.f149.name,by decide,Tryz.func149.trans (congrArg some (by kernel_rfl))⟩
 f17:=⟨Tryz.f150.name,by decide,Tryz.func150.trans (congrArg some (by kernel_rfl))⟩
 f18:=⟨Tryz.f151.name,by decide,Tryz.func151.trans (congrArg some (by kernel_rfl))⟩
 f19:=Tryz.func92.trans (congrArg some (by kernel_rfl))
 f20:=Tryz.func93.trans (congrArg some (by kernel_rfl))
 f30:=⟨Tryz.f154.name,by decide,Tryz.func154.trans (congrArg some (by kernel_rfl))⟩
 f31:=Tryz.func97.trans (congrArg some (by kernel_rfl))
 f32:=Tryz.func98.trans (congrArg some (by kernel_rfl))
 f33:=⟨Tryz.f155.name,by decide,Tryz.func155.trans (congrArg some (by kernel_rfl))⟩
 f34:=⟨Tryz.f156.name,by decide,Tryz.func156.trans (congrArg some (by kernel_rfl))⟩
 f35:=⟨Tryz.f69.name,by decide,Tryz.func69.trans (congrArg some (by kernel_rfl))⟩
 f40:=⟨Tryz.f173.name,by decide,Tryz.func173.trans (congrArg some (by kernel_rfl))⟩
 t0:=Tryz.underlying0
 a0:=Tryz.isAgg0
 z0:=Tryz.sizeOf0
 v0:=Tryz.zeroValue0
 t3:=Tryz.underlying3
 a3:=Tryz.isAgg3
 z3:=Tryz.sizeOf3
 v3:=Tryz.zeroValue3
 t4:=Tryz.underlying4
 a4:=Tryz.isAgg4
 z4:=Tryz.sizeOf4
 v4:=Tryz.zeroValue4
 t5:=Tryz.underlying5
 a5:=Tryz.isAgg5
 z5:=Tryz.sizeOf5
 v5:=Tryz.zeroValue5
 t9:=Tryz.underlying9
 a9:=Tryz.isAgg9
 z9:=Tryz.sizeOf9
 v9:=Tryz.zeroValue9
 t22:=Tryz.underlying31
 a22:=Tryz.isAgg31
 z22:=Tryz.sizeOf31
 v22:=Tryz.zeroValue31
 t23:=Tryz.underlying31
 a23:=Tryz.isAgg31
 z23:=Tryz.sizeOf31
 v23:=Tryz.zeroValue31
 t25:=Tryz.underlying3
 a25:=Tryz.isAgg3
 z25:=Tryz.sizeOf3
 v25:=Tryz.zeroValue3
 t32:=Tryz.underlying103
 a32:=Tryz.isAgg103
 z32:=Tryz.sizeOf103
 v32:=Tryz.zeroValue103
 t35:=Tryz.underlying123
 a35:=Tryz.isAgg123
 z35:=Tryz.sizeOf123
 v35:=Tryz.zeroValue123
 t36:=Tryz.underlying124
 a36:=Tryz.isAgg124
 z36:=Tryz.sizeOf124
 v36:=Tryz.zeroValue124
 t41:=Tryz.underlying128
 a41:=Tryz.isAgg128
 z41:=Tryz.sizeOf128
 v41:=Tryz.zeroValue128
 t44:=Tryz.underlying131
 a44:=Tryz.isAgg131
 z44:=Tryz.sizeOf131
 v44:=Tryz.zeroValue131
 t46:=Tryz.underlying23
 a46:=Tryz.isAgg23
 z46:=Tryz.sizeOf23
 v46:=Tryz.zeroValue23
 t53:=Tryz.underlying135
 a53:=Tryz.isAgg135
 z53:=Tryz.sizeOf135
 v53:=Tryz.zeroValue135
 t57:=Tryz.underlying139
 a57:=Tryz.isAgg139
 z57:=Tryz.sizeOf139
 v57:=Tryz.zeroValue139
 t63:=Tryz.underlying142
 a63:=Tryz.isAgg142
 z63:=Tryz.sizeOf142
 v63:=Tryz.zeroValue142
 t64:=Tryz.underlying143
 a64:=Tryz.isAgg143
 z64:=Tryz.sizeOf143
 v64:=Tryz.zeroValue143 }
def Tryz.l139_ren:Go.Shelf.Ren:=⟨fun | 6=>139 | 15=>68 | 14=>152 | 28=>92 | 29=>93 | 20=>157 | 21=>158 | 22=>159 | 23=>160 | 24=>161 | 25=>162 | 26=>163 | 27=>164 | 46=>174 | 47=>97 | 48=>98 | 49=>175 | 50=>176 | 57=>180 | n=>n,fun | 22=>26 | 24=>66 | 25=>108 | 3=>3 | 39=>103 | 0=>0 | 53=>131 | 55=>23 | 4=>4 | 46=>124 | 45=>123 | 50=>128 | 5=>5 | 9=>9 | 66=>135 | 70=>139 | 76=>142 | 77=>143 | n=>n,fun | n=>n⟩
theorem Tryz.l139:Go.Proofs.SlLaysF0.n6 Tryz.prog Tryz.l139_ren:={
 mixed:=by kernel_rfl
 f6:=⟨Tryz.f139.name,by decide,Tryz.func139.trans (congrArg some (by kernel_rfl))⟩
 f14:=⟨Tryz.f152.name,by decide,Tryz.func152.trans (congrArg some (by kernel_rfl))⟩
 f15:=Tryz.func68.trans (congrArg some (by kernel_rfl))
 f20:=⟨Tryz.f157.name,by decide,Tryz.func157.trans (congrArg some (by kernel_rfl))⟩
 f21:=⟨Tryz.f158.name,by decide,Tryz.func158.trans (congrArg some (by kernel_rfl))⟩
 f22:=⟨Tryz.f159.name,by decide,Tryz.func159.trans (congrArg some (by kernel_rfl))⟩
 f23:=⟨Tryz.f160.name,by decide,Tryz.func160.trans (congrArg some (by kernel_rfl))⟩
 f24:=⟨Tryz.f161.name,by decide,Tryz.func161.trans (congrArg some (by kernel_rfl))⟩
 f25:=⟨Tryz.f162.name,by decide,Tryz.func162.trans (congrArg some (by kernel_rfl))⟩
 f26:=⟨Tryz.f163.name,by decide,Tryz.func163.trans (congrArg some (by kernel_rfl))⟩
 f27:=⟨Tryz.f164.name,by decide,Tryz.func164.trans (congrArg some (by kernel_rfl))⟩
 f28:=Tryz.func92.trans (congrArg some (by kernel_rfl))
 f29:=Tryz.func93.trans (congrArg some (by kernel_rfl))
 f46:=⟨Tryz.f174.name,by decide,Tryz.func174.trans (congrArg some (by kernel_rfl))⟩
 f47:=Tryz.func97.trans (congrArg some (by kernel_rfl))
 f48:=Tryz.func98.trans (congrArg some (by kernel_rfl))
 f49:=⟨Tryz.f175.name,by decide,Tryz.func175.trans (congrArg some (by kernel_rfl))⟩
 f50:=⟨Tryz.f176.name,by decide,Tryz.func176.trans (congrArg some (by kernel_rfl))⟩
 f57:=⟨Tryz.f180.name,by decide,Tryz.func180.trans (congrArg some (by kernel_rfl))⟩
 t0:=Tryz.underlying0
 a0:=Tryz.isAgg0
 z0:=Tryz.sizeOf0
 v0:=Tryz.zeroValue0
 t3:=Tryz.underlying3
 a3:=Tryz.isAgg3
 z3:=Tryz.sizeOf3
 v3:=Tryz.zeroValue3
 t4:=Tryz.underlying4
 a4:=Tryz.isAgg4
 z4:=Tryz.sizeOf4
 v4:=Tryz.zeroValue4
 t5:=Tryz.underlying5
 a5:=Tryz.isAgg5
 z5:=Tryz.sizeOf5
 v5:=Tryz.zeroValue5
 t9:=Tryz.underlying9
 a9:=Tryz.isAgg9
 z9:=Tryz.sizeOf9
 v9:=Tryz.zeroValue9
 t22:=Tryz.underlying26
 a22:=Tryz.isAgg26
 z22:=Tryz.sizeOf26
 v22:=Tryz.zeroValue26
 t25:=Tryz.underlying108
 a25:=Tryz.isAgg108
 z25:=Tryz.sizeOf108
 v25:=Tryz.zeroValue108
 t39:=Tryz.underlying103
 a39:=Tryz.isAgg103
 z39:=Tryz.sizeOf103
 v39:=Tryz.zeroValue103
 t45:=Tryz.underlying123
 a45:=Tryz.isAgg123
 z45:=Tryz.sizeOf123
 v45:=Tryz.zeroValue123
 t46:=Tryz.underlying124
 a46:=Tryz.isAgg124
 z46:=Tryz.sizeOf124
 v46:=Tryz.zeroValue124
 t50:=Tryz.underlying128
 a50:=Tryz.isAgg128
 z50:=Tryz.sizeOf128
 v50:=Tryz.zeroValue128
 t53:=Tryz.underlying131
 a53:=Tryz.isAgg131
 z53:=Tryz.sizeOf131
 v53:=Tryz.zeroValue131
 t55:=Tryz.underlying23
 a55:=Tryz.isAgg23
 z55:=Tryz.sizeOf23
 v55:=Tryz.zeroValue23
 t66:=Tryz.underlying135
 a66:=Tryz.isAgg135
 z66:=Tryz.sizeOf135
 v66:=Tryz.zeroValue135
 t70:=Tryz.underlying139
 a70:=Tryz.isAgg139
 z70:=Tryz.sizeOf139
 v70:=Tryz.zeroValue139
 t76:=Tryz.underlying142
 a76:=Tryz.isAgg142
 z76:=Tryz.sizeOf142
 v76:=Tryz.zeroValue142
 t77:=Tryz.underlying143
 a77:=Tryz.isAgg143
 z77:=Tryz.sizeOf143
 v77:=Tryz.zeroValue143 }
def Tryz.l141_ren:Go.Shelf.Ren:=⟨fun | 6=>141 | 15=>68 | 14=>153 | 28=>92 | 29=>93 | 20=>165 | 21=>166 | 22=>167 | 23=>168 | 24=>169 | 25=>170 | 26=>171 | 27=>172 | 46=>177 | 47=>97 | 48=>98 | 49=>178 | 50=>179 | 57=>181 | n=>n,fun | 22=>27 | 24=>80 | 25=>111 | 3=>3 | 39=>103 | 0=>0 | 53=>131 | 55=>23 | 4=>4 | 46=>124 | 45=>123 | 50=>128 | 5=>5 | 9=>9 | 66=>135 | 70=>139 | 76=>142 | 77=>143 | n=>n,fun | n=>n⟩
theorem Tryz.l141:Go.Proofs.SlLaysF0.n6 Tryz.prog Tryz.l141_ren:={
 mixed:=by kernel_rfl
 f6:=⟨Tryz.f141.name,by decide,Tryz.func141.trans (congrArg some (by kernel_rfl))⟩
 f14:=⟨Tryz.f153.name,by decide,Tryz.func153.trans (congrArg some (by kernel_rfl))⟩
 f15:=Tryz.func68.trans (congrArg some (by kernel_rfl))
 f20:=⟨Tryz.f165.name,by decide,Tryz.func165.trans (congrArg some (by kernel_rfl))⟩
 f21:=⟨Tryz.f166.name,by decide,Tryz.func166.trans (congrArg some (by kernel_rfl))⟩
 f22:=⟨Tryz.f167.name,by decide,Tryz.func167.trans (congrArg some (by kernel_rfl))⟩
 f23:=⟨Tryz.f168.name,by decide,Tryz.func168.trans (congrArg some (by kernel_rfl))⟩
 f24:=⟨Tryz.f169.name,by decide,Tryz.func169.trans (congrArg some (by kernel_rfl))⟩
 f25:=⟨Tryz.f170.name,by decide,Tryz.func170.trans (congrArg some (by kernel_rfl))⟩
 f26:=⟨Tryz.f171.name,by decide,Tryz.func171.trans (congrArg some (by kernel_rfl))⟩
 f27:=⟨Tryz.f172.name,by decide,Tryz.func172.trans (congrArg some (by kernel_rfl))⟩
 f28:=Tryz.func92.trans (congrArg some (by kernel_rfl))
 f29:=Tryz.func93.trans (congrArg some (by kernel_rfl))
 f46:=⟨Tryz.f177.name,by decide,Tryz.func177.trans (congrArg some (by kernel_rfl))⟩
 f47:=Tryz.func97.trans (congrArg some (by kernel_rfl))
 f48:=Tryz.func98.trans (congrArg some (by kernel_rfl))
 f49:=⟨Tryz.f178.name,by decide,Tryz.func178.trans (congrArg some (by kernel_rfl))⟩
 f50:=⟨Tryz.f179.name,by decide,Tryz.func179.trans (congrArg some (by kernel_rfl))⟩
 f57:=⟨Tryz.f181.name,by decide,Tryz.func181.trans (congrArg some (by kernel_rfl))⟩
 t0:=Tryz.underlying0
 a0:=Tryz.isAgg0
 z0:=Tryz.sizeOf0
 v0:=Tryz.zeroValue0
 t3:=Tryz.underlying3
 a3:=Tryz.isAgg3
 z3:=Tryz.sizeOf3
 v3:=Tryz.zeroValue3
 t4:=Tryz.underlying4
 a4:=Tryz.isAgg4
 z4:=Tryz.sizeOf4
 v4:=Tryz.zeroValue4
 t5:=Tryz.underlying5
 a5:=Tryz.isAgg5
 z5:=Tryz.sizeOf5
 v5:=Tryz.zeroValue5
 t9:=Tryz.underlying9
 a9:=Tryz.isAgg9
 z9:=Tryz.sizeOf9
 v9:=Tryz.zeroValue9
 t22:=Tryz.underlying27
 a22:=Tryz.isAgg27
 z22:=Tryz.sizeOf27
 v22:=Tryz.zeroValue27
 t25:=Tryz.underlying111
 a25:=Tryz.isAgg111
 z25:=Tryz.sizeOf111
 v25:=Tryz.zeroValue111
 t39:=Tryz.underlying103
 a39:=Tryz.isAgg103
 z39:=Tryz.sizeOf103
 v39:=Tryz.zeroValue103
 t45:=Tryz.underlying123
 a45:=Tryz.isAgg123
 z45:=Tryz.sizeOf123
 v45:=Tryz.zeroValue123
 t46:=Tryz.underlying124
 a46:=Tryz.isAgg124
 z46:=Tryz.sizeOf124
 v46:=Tryz.zeroValue124
 t50:=Tryz.underlying128
 a50:=Tryz.isAgg128
 z50:=Tryz.sizeOf128
 v50:=Tryz.zeroValue128
 t53:=Tryz.underlying131
 a53:=Tryz.isAgg131
 z53:=Tryz.sizeOf131
 v53:=Tryz.zeroValue131
 t55:=Tryz.underlying23
 a55:=Tryz.isAgg23
 z55:=Tryz.sizeOf23
 v55:=Tryz.zeroValue23
 t66:=Tryz.underlying135
 a66:=Tryz.isAgg135
 z66:=Tryz.sizeOf135
 v66:=Tryz.zeroValue135
 t70:=Tryz.underlying139
 a70:=Tryz.isAgg139
 z70:=Tryz.sizeOf139
 v70:=Tryz.zeroValue139
 t76:=Tryz.underlying142
 a76:=Tryz.isAgg142
 z76:=Tryz.sizeOf142
 v76:=Tryz.zeroValue142
 t77:=Tryz.underlying143
 a77:=Tryz.isAgg143
 z77:=Tryz.sizeOf143
 v77:=Tryz.zeroValue143 }
end Go.Proofs
namespace Go.Maps
end Go.Maps
namespace Go.AX.Q18
open Go Go.AX Go.Proofs Go.Maps Go.Sort Go.Shelf Go.RowKit
theorem sortf35_ok {wl:WL} {X:Type} {f:X→D} {cmp:X→X→Option Int} {g:Nat} (eg :∀args w,(callFunc g args).run Tryz.prog w=.ok (.enter g args) w) (hcmp :∀{a b r},cmp a b=some r→CallsOK wl.low Tryz.prog g [.d (f a),.d (f b)] [] (.d (D.i r)) []) {l r:List X} (h:sortF cmp l=some r) (hagg :∀x,(f x).isAgg=true:=by exact fun _=>rfl):CallsOK wl Tryz.prog 35 [.own 0 (List.map f l).length,.fn g []] [.row 62 3 (List.map f l) .no] (.tup []) [.row 62 3 (List.map f r) .no]:=
 sortF_ok Tryz.l35 (fnOK Tryz.func35 (by kernel_rfl) (by kernel_rfl)) Tryz.isAgg62 Tryz.sizeOf62 eg hagg hcmp h
theorem sorti131_ok {wl:WL} {l r:List Int} (h:sortI l=some r):CallsOK wl Tryz.prog 131 [.own 0 (List.map D.i l).length] [.row 3 1 (List.map D.i l) .no] (.tup []) [.row 3 1 (List.map D.i r) .no]:=
 sortI_ok Tryz.l131 (fnOK Tryz.func131 (by kernel_rfl) (by kernel_rfl)) h
theorem sortf139_ok {wl:WL} {X:Type} {f:X→D} {cmp:X→X→Option Int} {g:Nat} (eg :∀args w,(callFunc g args).run Tryz.prog w=.ok (.enter g args) w) (hcmp :∀{a b r},cmp a b=some r→CallsOK wl.low Tryz.prog g [.d (f a),.d (f b)] [] (.d (D.i r)) []) {l r:List X} (h:sortF cmp l=some r) (hagg :∀x,(f x).isAgg=true:=by exact fun _=>rfl):CallsOK wl Tryz.prog 139 [.own 0 (List.map f l).length,.fn g []] [.row 66 2 (List.map f l) .no] (.tup []) [.row 66 2 (List.map f r) .no]:=
 sortF_ok Tryz.l139 (fnOK Tryz.func139 (by kernel_rfl) (by kernel_rfl)) Tryz.isAgg66 Tryz.sizeOf66 eg hagg hcmp h
theorem sortf141_ok {wl:WL} {X:Type} {f:X→D} {cmp:X→X→Option Int} {g:Nat} (eg :∀args w,(callFunc g args).run Tryz.prog w=.ok (.enter g args) w) (hcmp :∀{a b r},cmp a b=some r→CallsOK wl.low Tryz.prog g [.d (f a),.d (f b)] [] (.d (D.i r)) []) {l r:List X} (h:sortF cmp l=some r) (hagg :∀x,(f x).isAgg=true:=by exact fun _=>rfl):CallsOK wl Tryz.prog 141 [.own 0 (List.map f l).length,.fn g []] [.row 80 3 (List.map f l) .no] (.tup []) [.row 80 3 (List.map f r) .no]:=
 sortF_ok Tryz.l141 (fnOK Tryz.func141 (by kernel_rfl) (by kernel_rfl)) Tryz.isAgg80 Tryz.sizeOf80 eg hagg hcmp h
end Go.AX.Q18
end
section
namespace Go.AX.Q18
open Go Go.AX Go.Proofs
set_option maxRecDepth 100000
set_option maxHeartbeats 4000000
set_option linter.unusedVariables false
def keep:FuncId→List Bool:=fun f=>(match Nat.beq f 141 with | true=>[true] | false=>(match Nat.beq f 139 with | true=>[true] | false=>(match Nat.beq f 131 with | true=>[true] | false=>(match Nat.beq f 35 with | true=>[true] | false=>(match Nat.beq f 142 with | true=>[true] | false=>(match Nat.beq f 140 with | true=>[true] | false=>(match Nat.beq f 132 with | true=>[true] | false=>(match Nat.beq f 31 with | true=>[true] | false=>[]))))))))
def inlf:FuncId→Bool:=fun f=>(match Nat.beq f 136 with | true=>true | false=>(match Nat.beq f 134 with | true=>true | false=>(match Nat.beq f 129 with | true=>true | false=>(match Nat.beq f 128 with | true=>true | false=>(match Nat.beq f 127 with | true=>true | false=>(match Nat.beq f 126 with | true=>true | false=>(match Nat.beq f 125 with | true=>true | false=>(match Nat.beq f 124 with | true=>true | false=>(match Nat.beq f 123 with | true=>true | false=>(match Nat.beq f 122 with | true=>true | false=>(match Nat.beq f 121 with | true=>true | false=>(match Nat.beq f 61 with | true=>true | false=>(match Nat.beq f 28 with | true=>true | false=>(match Nat.beq f 16 with | true=>true | false=>(match Nat.beq f 9 with | true=>true | false=>false)))))))))))))))
def seatG:Nat→Option (List (D×D)):=fun g=>(match Nat.beq g 1 with | true=>some ([(D.i 1,D.val (.func (.func 121) #[] #[])),(D.i 2,D.val (.func (.func 122) #[] #[])),(D.i 3,D.val (.func (.func 123) #[] #[])),(D.i 4,D.val (.func (.func 124) #[] #[])),(D.i 5,D.val (.func (.func 126) #[] #[])),(D.i 8,D.val (.func (.func 127) #[] #[])),(D.i 32,D.val (.func (.func 128) #[] #[])),(D.i 35,D.val (.func (.func 129) #[] #[]))]) | false=>(match Nat.beq g 0 with | true=>some (entsD D.i D.i glob0) | false=>none))
abbrev Wl (p:Prop):WL:=⟨p,seatG⟩
theorem ok {wl:Prop} {f:FuncId} (fn:Func) {args:List AV} {objs:List OB} {res:AV} {objs':List OB}
    (hf : Tryz.prog.funcs[f]? = some fn) (hn : (fn.name == "runtime.NumGoroutine") = false) (h : funK (mcx (Wl wl) Tryz.prog tt keep inlf 0 objs.length) fn args objs fun r o => r = res ∧ o = objs') : CallsOK (Wl wl) Tryz.prog f args objs res objs' :=
  fn_ok tabOk (by kernel_rfl) keep inlf 0 hf hn h
theorem okx {wl:Prop} {f:FuncId} (ex:Nat) (fn:Func) {args:List AV} {objs:List OB} {res:AV} {objs':List OB}
    (hf : Tryz.prog.funcs[f]? = some fn) (hn : (fn.name == "runtime.NumGoroutine") = false) (h : funK (mcx (Wl wl) Tryz.prog tt keep inlf ex objs.length) fn args objs fun r o => r = res ∧ o = objs') : CallsOK (Wl wl) Tryz.prog f args objs res objs' :=
  fn_ok tabOk (by kernel_rfl) keep inlf ex hf hn h
theorem inl {wl:Prop} {f:FuncId} (fn:Func) (np:Nat) {args:List AV} {ob:List (Option OB)} {K:AV→List (Option OB)→Prop}
    (hf : Tryz.prog.funcs[f]? = some fn) (hn : (fn.name == "runtime.NumGoroutine") = false) (h : funI (mcx (Wl wl) Tryz.prog tt keep inlf 0 np) fn args ob K) : InlOK (Wl wl) Tryz.prog f args ob K :=
  inl_ok tabOk (by kernel_rfl) keep inlf np hf hn h
abbrev X:AV:=.dead
abbrev N:Option OB:=none
def dd:Nat→List AV→List AV
  | 0,l=>l
  | n + 1,l=>.dead::dd n l
def nn:Nat→List (Option OB)→List (Option OB)
  | 0,l=>l
  | n + 1,l=>none::nn n l
end Go.AX.Q18
end
section
namespace Go.AX.Q18
open Go Go.AX Go.Proofs Go.Proofs.YtbhoockehnpdoaaGreatDoor
set_option maxRecDepth 100000
def fnOf (n:Int):FuncId:=if n=1 then 121 else if n=2 then 122 else if n=3 then 123 else if n=4 then 124 else if n=5 then 126 else if n=8 then 127 else if n=32 then 128 else 129
def D2f {H:Type}:Lit×DataW H→D×D
 | (.int k n,.lit (.int k' m))=>(.val (.int k n),.val (.int k' m))
 | _=>(D.i 0,D.i 0)
def D2r {H:Type}:Lit×DataW H→D×D
 | (.int k n,_)=>(.val (.int k n),.val (.func (.func (fnOf n)) #[] #[]))
 | _=>(D.i 0,D.i 0)
theorem glob_ok {W:World} {p:Prop} (h:laidMetH Tryz.prog Rows.attributeWritesRow.laid W) :∃gb:Nat→Prop,(Wl p).gf gb W∧∀b,gb b→b < W.heap.size:=by
 obtain ⟨h1,_⟩:=laidMetH_iff.1 h
 have e1 : (Rows.attributeWritesRow.laid.filter fun x => x.2.handleName?.isNone) = [("exchangepoint/attribute.flags", Rows.laid_exchangepoint_attribute_flags)] := by kernel_rfl
 rw [e1] at h1
 obtain ⟨ps,⟨g0,t0,cs0,f0,p0,q0,hg0,ht0,hv0,hd0,_⟩,_,_⟩:=h1
 obtain rfl := Option.some.inj ((show Tryz.prog.globalNamed "exchangepoint/attribute.flags" = some 0 by kernel_rfl).symm.trans hg0)
 obtain rfl:=Option.some.inj ((show (Tryz.prog.globals[0]?).map (·.type)=some 67 by kernel_rfl).symm.trans ht0)
 obtain ⟨b0,a0,c0,hc0,hb0,hp0,ho0⟩:=map_read (kd:=.i64) Tryz.underlying67 Tryz.underlying3 hd0 D2f (fun n v d m q hm hv hf=>by
  obtain ⟨j,h1,h2,_⟩:=DataW.trod_int Tryz.underlying3 hv
  simp only [Prod.mk.injEq] at h2
  obtain ⟨rfl,_⟩:=h2
  have hv:v=.int .i64 j:=by
   unfold Value.formed at hf
   rw [Tryz.underlying3] at hf
   cases v<;>simp_all [Value.cells]
  subst hv
  exact ⟨rfl,rfl⟩)
 obtain ⟨g1, t1, cs1, f1, p1, hg1, ht1, hv1, hd1⟩ := h.funcs (n := "exchangepoint/attribute.readers") (List.mem_cons_of_mem _ (List.mem_singleton.2 rfl))
 obtain rfl := Option.some.inj ((show Tryz.prog.globalNamed "exchangepoint/attribute.readers" = some 1 by kernel_rfl).symm.trans hg1)
 obtain rfl:=Option.some.inj ((show (Tryz.prog.globals[1]?).map (·.type)=some 118 by kernel_rfl).symm.trans ht1)
 have hd1:DataW.trod (funcToken Tryz.prog) Tryz.prog W 0 (fun _=>true) true f1 118 cs1.toList=some (.map [(.int .i64 1,.held [101,120,99,104,97,110,103,101,112,111,105,110,116,47,97,116,116,114,105,98,117,116,101,46,114,101,97,100,79,114,105,103,105,110]),(.int .i64 2,.held [101,120,99,104,97,110,103,101,112,111,105,110,116,47,97,116,116,114,105,98,117,116,101,46,114,101,97,100,80,97,116,104]),(.int .i64 3,.held [101,120,99,104,97,110,103,101,112,111,105,110,116,47,97,116,116,114,105,98,117,116,101,46,114,101,97,100,78,101,120,116]),(.int .i64 4,.held [101,120,99,104,97,110,103,101,112,111,105,110,116,47,97,116,116,114,105,98,117,116,101,46,114,101,97,100,101,114,115,36,49]),(.int .i64 5,.held [101,120,99,104,97,110,103,101,112,111,105,110,116,47,97,116,116,114,105,98,117,116,101,46,114,101,97,100,101,114,115,36,50]),(.int .i64 8,.held [101,120,99,104,97,110,103,101,112,111,105,110,116,47,97,116,116,114,105,98,117,116,101,46,114,101,97,100,67,111,109,109,117,110,105,116,105,101,115]),(.int .i64 32,.held [101,120,99,104,97,110,103,101,112,111,105,110,116,47,97,116,116,114,105,98,117,116,101,46,114,101,97,100,76,97,114,103,101]),(.int .i64 35,.held [101,120,99,104,97,110,103,101,112,111,105,110,116,47,97,116,116,114,105,98,117,116,101,46,114,101,97,100,101,114,115,36,51])],p1):=hd1
 obtain ⟨b1,a1,c1,hc1,hb1,hp1,ho1⟩:=map_read (kd:=.i64) Tryz.underlying118 Tryz.underlying3 hd1 D2r (fun n v d m q hm hv hf=>by
  have hv1:v.cells.toList=[v]:=by
   unfold Value.formed at hf
   rw [Tryz.underlying116] at hf
   cases v<;>simp_all [Value.cells]
  rw [hv1] at hv
  simp only [List.mem_cons,List.not_mem_nil,or_false,Prod.mk.injEq,Lit.int.injEq,true_and] at hm
  rcases hm with ⟨rfl,rfl⟩ | ⟨rfl,rfl⟩ | ⟨rfl,rfl⟩ | ⟨rfl,rfl⟩ | ⟨rfl,rfl⟩ | ⟨rfl,rfl⟩ | ⟨rfl,rfl⟩ | ⟨rfl,rfl⟩
  ·obtain rfl:=func_of_trod (f0:=121) Tryz.underlying116 (by kernel_rfl) hv
   exact ⟨rfl,rfl⟩
  ·obtain rfl:=func_of_trod (f0:=122) Tryz.underlying116 (by kernel_rfl) hv
   exact ⟨rfl,rfl⟩
  ·obtain rfl:=func_of_trod (f0:=123) Tryz.underlying116 (by kernel_rfl) hv
   exact ⟨rfl,rfl⟩
  ·obtain rfl:=func_of_trod (f0:=124) Tryz.underlying116 (by kernel_rfl) hv
   exact ⟨rfl,rfl⟩
  ·obtain rfl:=func_of_trod (f0:=126) Tryz.underlying116 (by kernel_rfl) hv
   exact ⟨rfl,rfl⟩
  ·obtain rfl:=func_of_trod (f0:=127) Tryz.underlying116 (by kernel_rfl) hv
   exact ⟨rfl,rfl⟩
  ·obtain rfl:=func_of_trod (f0:=128) Tryz.underlying116 (by kernel_rfl) hv
   exact ⟨rfl,rfl⟩
  ·obtain rfl:=func_of_trod (f0:=129) Tryz.underlying116 (by kernel_rfl) hv
   exact ⟨rfl,rfl⟩)
 have cell :∀{g:Nat} {n:String} {cs:Array Value} {v:Value},Tryz.prog.globalNamed n=some g→W.var? Tryz.prog n=some cs→cs.toList=[v]→cellAt W g 0=some v∧g < W.heap.size:=by
  intro g n cs v hg hv hc
  have h1:=World.var?_cell hg hv 0
  rw [Array.eq_one_of_toList hc] at h1
  have h1:W.cell? ⟨g,0,none⟩=some v:=by simpa using h1
  refine ⟨h1,?_⟩
  unfold World.var? at hv
  rw [hg,Option.bind_some] at hv
  cases hh:W.heap[g]? with
  | none=>rw [hh] at hv;cases hv
  | some o=>exact (Array.getElem?_eq_some_iff.1 hh).1
 obtain ⟨k0,s0⟩:=cell hg0 hv0 hc0
 obtain ⟨k1,s1⟩:=cell hg1 hv1 hc1
 refine ⟨fun b=>b=0 ∨ b=1 ∨ b=b0 ∨ b=b1,fun g es hg=>?_,fun b hb=>?_⟩
 rotate_left
 ·rcases hb with rfl | rfl | rfl | rfl
  ·exact s0
  ·exact s1
  ·exact (Array.getElem?_eq_some_iff.1 hb0).1
  ·exact (Array.getElem?_eq_some_iff.1 hb1).1
 match g,hg with
 | 0,hg=>
  obtain rfl:entsD D.i D.i glob0=es:=Option.some.inj hg
  refine ⟨.inl rfl,b0,a0,c0,_,.inr (.inr (.inl rfl)),k0,hb0,fun tk x q hq=>?_,entsOK_of ho0⟩
  refine mapGet_perm (l:=entsD D.i D.i glob0) (hp0.symm) ?_ (by unfold glob0 entsD;simp [D.i]) hq
  intro q hq
  obtain ⟨z,_,rfl⟩:=List.mem_map.1 hq
  exact ⟨_,rfl⟩
 | 1,hg=>
  obtain rfl:=Option.some.inj hg
  refine ⟨.inr (.inl rfl),b1,a1,c1,_,.inr (.inr (.inr rfl)),k1,hb1,fun tk x q hq=>?_,entsOK_of ho1⟩
  refine mapGet_perm (hp1.symm) ?_ (by simp [D2r]) hq
  intro q hq
  obtain ⟨z,hz,rfl⟩:=List.mem_map.1 hq
  simp only [List.mem_cons,List.not_mem_nil,or_false] at hz
  rcases hz with rfl | rfl | rfl | rfl | rfl | rfl | rfl | rfl<;>exact ⟨_,rfl⟩
 | g + 2,hg=>cases hg
end Go.AX.Q18
end
section
namespace Go.AX
class Tt {ρ:Type} (m:Option ρ):Prop where
 h :∃r,m=some r
def Ok {ρ:Type} (m:Option ρ) (Q:ρ→Prop):Prop:=∃r,m=some r∧Q r
theorem Ok.ret {ρ:Type} {Q:ρ→Prop} {r:ρ} (h:Q r):Ok (some r) Q:=⟨r,rfl,h⟩
theorem Ok.of {ρ:Type} {m:Option ρ} [t:Tt m]:Ok m fun r=>m=some r:=by
 obtain ⟨r,h⟩:=t.h
 exact ⟨r,h,h⟩
theorem Ok.imp {ρ:Type} {m:Option ρ} {P Q:ρ→Prop} (h:Ok m P) (k :∀r,P r→Q r):Ok m Q:=by
 obtain ⟨r,h1,h2⟩:=h
 exact ⟨r,h1,k r h2⟩
theorem Ok.tt {ρ:Type} {m:Option ρ} {Q:ρ→Prop} (h:Ok m Q):Tt m:=by
 obtain ⟨r,h1,_⟩:=h
 exact ⟨r,h1⟩
theorem Ok.bind {α ρ:Type} {m:Option α} {f:α→Option ρ} {P:α→Prop} {Q:ρ→Prop} (h:Ok m P) (k :∀a,P a→Ok (f a) Q):Ok (Option.bind m f) Q:=by
 obtain ⟨a,h1,h2⟩:=h
 rw [h1]
 exact k a h2
theorem Ok.join {τ ρ:Type} {m:(τ→Option ρ)→Option ρ} {k:τ→Option ρ} {Q:ρ→Prop} (J:τ→Prop) (h1 :∀k',(∀v,J v→Ok (k' v) Q)→Ok (m k') Q) (h2 :∀v,J v→Ok (k v) Q):Ok (joinP m k) Q:=h1 k h2
theorem Ok.forX {α σ ρ:Type} {done:σ→Option ρ} {body:(σ→Option ρ)→α→Nat→σ→Option ρ} {Q:ρ→Prop} {l:List α} {s0:σ} (I:Nat→σ→Prop) (h0:I 0 s0) (hd :∀s,I l.length s→Ok (done s) Q)
  (hs :∀(next:σ→Option ρ) x i s,l[i]?=some x→I i s→(∀s',I (i + 1) s'→Ok (next s') Q)→Ok (body next x i s) Q):Ok (forR done body l 0 s0) Q:=by
 have key :∀(t:List α) (i:Nat) (s:σ),(∃p,l=p ++ t∧p.length=i)→I i s→Ok (forR done body t i s) Q:=by
  intro t
  induction t with
  | nil=>intro i s ⟨p,hp,hl⟩ hi;exact hd s (by rw [hp];simpa [hl] using hi)
  | cons x t ih=>
   intro i s ⟨p,hp,hl⟩ hi
   exact hs _ x i s (by rw [hp,← hl];simp) hi fun s' h'=>ih (i + 1) s' ⟨p ++ [x],by simp [hp],by simp [hl]⟩ h'
 exact key l 0 s0 ⟨[],rfl,rfl⟩ h0
theorem Ok.forI {α σ ρ:Type} {done:σ→Option ρ} {body:(σ→Option ρ)→α→Nat→σ→Option ρ} {Q:ρ→Prop} {l:List α} {s0:σ} (I:Nat→σ→Prop) (h0:I 0 s0) (hd :∀s,I l.length s→Ok (done s) Q)
  (hs :∀(next:σ→Option ρ) x i s,i < l.length→x ∈ l→I i s→(∀s',I (i + 1) s'→Ok (next s') Q)→Ok (body next x i s) Q):Ok (forR done body l 0 s0) Q:=
 .forX I h0 hd fun n x i s hx=>hs n x i s (List.getElem?_eq_some_iff.1 hx).1 (List.mem_of_getElem? hx)
theorem Ok.for_ {α σ ρ:Type} {done:σ→Option ρ} {body:(σ→Option ρ)→α→Nat→σ→Option ρ} {Q:ρ→Prop} {l:List α} {s0:σ} (hd :∀s,Ok (done s) Q)
  (hs :∀(next:σ→Option ρ) x i s,i < l.length→x ∈ l→(∀s',Ok (next s') Q)→Ok (body next x i s) Q):Ok (forR done body l 0 s0) Q:=
 .forI (fun _ _=>True) trivial (fun s _=>hd s) fun n x i s h1 h2 _ h3=>hs n x i s h1 h2 fun s'=>h3 s' trivial
theorem Ok.whileI {σ ρ:Type} {body:(σ→Option ρ)→σ→Option ρ} {n:Nat} {s:σ} {Q:ρ→Prop} (I:σ→Prop) (μ:σ→Nat) (h0:I s) (hm:μ s < n)
  (hs :∀(next:σ→Option ρ) s,I s→(∀s',I s'→μ s' < μ s→Ok (next s') Q)→Ok (body next s) Q):Ok (whileR body n s) Q:=
 whileR_ex I μ Q (fun next s h k=>hs next s h k) n s h0 hm
theorem Ok.ite {ρ:Type} {p:Prop} [Decidable p] {x y:Option ρ} {Q:ρ→Prop} (h1:p→Ok x Q) (h2:¬ p→Ok y Q):Ok (if p then x else y) Q:=by
 split
 ·exact h1 ‹_›
 ·exact h2 ‹_›
theorem Ok.geti {α:Type} {l:List α} {i:Int} (h:0 ≤ i∧i < l.length):Ok (geti l i) fun x=>x ∈ l∧geti l i=some x:=by
 have h2:i.toNat < l.length:=by omega
 have h3:Go.AX.geti l i=some l[i.toNat]:=by
  unfold Go.AX.geti
  rw [if_pos h]
  simp [h2]
 exact ⟨_,h3,List.getElem_mem h2,h3⟩
theorem Ok.seti {α:Type} {l:List α} {i:Int} {x:α} (h:0 ≤ i∧i < l.length):Ok (seti l i x) fun l'=>l'=l.set i.toNat x∧l'.length=l.length:=by
 refine ⟨_,?_,rfl,by simp⟩
 unfold Go.AX.seti
 rw [if_pos h]
theorem Ok.apnd {α:Type} {b:Nat} {l m:List α} (hb:Nat.ble b 65536=true) (h:l.length + m.length ≤ 1000000000):Ok (apnd b l m) fun l'=>l'=l ++ m:=⟨_,apnd_some hb h,rfl⟩
theorem Ok.part {α:Type} {l:List α} {a b:Int} (h:0 ≤ a∧a ≤ b∧b ≤ l.length):Ok (part l a b) fun l'=>l'=(l.drop a.toNat).take (b.toNat - a.toNat)∧(l'.length:Int)=b - a:=by
 refine ⟨_,?_,rfl,by simp;omega⟩
 unfold Go.AX.part
 rw [if_pos h]
theorem Ok.chk {p:Prop} [Decidable p] (h:p):Ok (chk p) fun _=>True:=by
 refine ⟨(),?_,trivial⟩
 unfold Go.AX.chk
 rw [if_pos h]
theorem Tt.auto {ρ:Type} {m:Option ρ} (h:Ok m fun _=>True:=by
  repeat' (first
   | exact Ok.ret trivial
   | assumption
   | (refine Ok.bind Ok.of ?_;intros)
   | (refine Ok.ite ?_ ?_<;>intros)
   | (refine Ok.join (fun _=>True) ?_ ?_<;>intros)
   | (refine Ok.for_ ?_ ?_<;>intros)
   | (refine Ok.bind (Ok.geti ?_) ?_<;>intros)
   | (refine Ok.bind (Ok.chk ?_) ?_<;>intros)
   | exact ‹∀v,True→Ok _ _› _ trivial
   | exact ‹∀v,Ok _ _› _
   | solve_by_elim
   | (constructor<;>first | omega | (simp_all;done) | (simp_all;omega))
   | omega
   | decide)):Tt m:=h.tt
theorem Ok.q {ρ:Type} {m:Option ρ} {Q:ρ→Prop} (h:Ok m Q:=by
  repeat' (first
   | assumption
   | refine Ok.ret ?_
   | exact trivial
   | (refine Ok.bind Ok.of ?_;intros)
   | (refine Ok.ite ?_ ?_<;>intros)
   | (refine Ok.bind (Ok.chk ?_) ?_<;>intros)
   | (refine Ok.bind (Ok.geti ?_) ?_<;>intros)
   | (refine Ok.bind (Ok.seti ?_) ?_<;>intros)
   | (refine Ok.bind (Ok.apnd (by decide) ?_) ?_<;>intros)
   | refine ‹∀v,_→_→Ok _ _› _ ?_ ?_
   | refine ‹∀v,_→Ok _ _› _ ?_
   | exact ‹∀v,Ok _ _› _
   | (refine Ok.join (τ:=Bool) (fun _=>True) ?_ ?_<;>intros)
   | (refine Ok.join (τ:=Unit) (fun _=>True) ?_ ?_<;>intros)
   | omega
   | solve_by_elim
   | (simp_all;done)
   | (simp_all;omega)
   | (simp only [List.length_append,List.length_cons,List.length_nil,List.length_set,decide_eq_true_eq,beq_iff_eq,bne_iff_ne,Bool.not_eq_true'] at *;(try subst_vars);(try simp only [List.length_append,List.length_cons,List.length_nil]);omega))):Ok m Q:=h
theorem Ok.pos {ρ:Type} {Q:ρ→Prop} {n:Nat} {g:(Bool→Option ρ)→Int→Option ρ} {k:Int→Option ρ} (hn:n ≤ 1000000000)
  (hg :∀(k':Bool→Option ρ) (v:Int),0 ≤ v→v ≤ n→(∀c,(c=true→v < n)→Ok (k' c) Q)→Ok (g k' v) Q) (hk :∀v:Int,0 ≤ v→v ≤ n→Ok (k v) Q) :
  Ok (joinP (fun k1=>whileR (fun next v=>joinP (fun k2=>g k2 v) (fun c=>if c=true then next (i64w (v + 1)) else k1 v)) fuel 0) k) Q:=by
 refine .join (fun v:Int=>0 ≤ v∧v ≤ n) (fun k1 hk1=>?_) fun v hv=>hk v hv.1 hv.2
 refine .whileI (fun v:Int=>0 ≤ v∧v ≤ n) (fun v=>(n - v).toNat) (by omega) (lt_fuel (by omega)) fun next v hv hnx=>?_
 refine .join (fun c=>c=true→v < n) (fun k2 hk2=>hg k2 v hv.1 hv.2 hk2) fun c hc=>.ite (fun h=>?_) fun _=>hk1 v hv
 have:=hc h
 rw [i64w_id (by omega)]
 exact hnx _ (by omega) (by omega)
end Go.AX
end
section
namespace Go.AX
theorem ba_eq_of_beq {a b:ByteArray} (h:(a == b)=true):a=b:=(Go.MapKept.bytes_beq a b).1 h
theorem ba_rfl {a:ByteArray}:(a == a)=true:=(Go.MapKept.bytes_beq a a).2 rfl
instance:LawfulBEq ByteArray:={ eq_of_beq:=ba_eq_of_beq,rfl:=ba_rfl }
section
variable {K V:Type} [BEq K] [LawfulBEq K]
theorem mget_mset (l:List (K×V)) (k:K) (v:V) (k':K):mget (mset l k v) k'=if k' == k then some v else mget l k':=by
 induction l with
 | nil=>
  unfold mset
  simp only [mget]
 | cons p l ih=>
  unfold mset
  by_cases hp:(k == p.1)=true
  ·rw [if_pos hp]
   have:=eq_of_beq hp
   simp only [mget]
   by_cases hk:(k' == k)=true
   ·rw [if_pos hk,if_pos hk]
   ·rw [if_neg hk,if_neg hk,if_neg (by rw [← this];exact hk)]
  ·rw [if_neg hp]
   simp only [mget,ih]
   by_cases hk:(k' == k)=true
   ·have:=eq_of_beq hk
    subst this
    rw [if_neg hp,if_pos hk,if_pos hk]
   ·rw [if_neg hk,if_neg hk]
end
theorem takeWhile_len_le {α:Type} (p:α→Bool) (l:List α):(l.takeWhile p).length ≤ l.length:=(List.takeWhile_prefix p).length_le
theorem takeWhile_at {α:Type} {p:α→Bool} :∀{l:List α} {k:Nat} (hk:k < l.length),k ≤ (l.takeWhile p).length→(k < (l.takeWhile p).length ↔ p l[k]=true)
 | [],_,hk,_=>by simp at hk
 | x::t,k,hk,h=>by
  rw [List.takeWhile_cons] at h ⊢
  by_cases hp:p x=true
  ·rw [if_pos hp] at h ⊢
   cases k with
   | zero=>simp [hp]
   | succ k=>simpa using takeWhile_at (p:=p) (l:=t) (k:=k) (by simpa using hk) (by simpa using h)
  ·rw [if_neg hp] at h ⊢
   have:k=0:=by simpa using h
   subst this
   simp [hp]
theorem posR {α ρ:Type} {l:List α} {p:α→Bool} (g:α→(Bool→Option ρ)→Option ρ) {K:Int→Option ρ} (hl:l.length ≤ 1000000000000) (hg :∀x ∈ l,∀k,g x k=k (p x)) :
  joinP (fun k1=>whileR (fun next v=>joinP (fun k2=>if decide (v < (l.length:Int)) then Option.bind (geti l v) fun x=>g x k2 else k2 false) (fun c=>if c=true then next (i64w (v + 1)) else k1 v)) fuel 0) K=K ((l.takeWhile p).length:Int):=by
 have ht:=takeWhile_len_le p l
 rw [joinP_def,whileR_eq (fun v:Int=>0 ≤ v∧v ≤ ((l.takeWhile p).length:Int)) (fun v=>(l.length - v).toNat) (fun _=>K ((l.takeWhile p).length:Int)) ?_ fuel 0 (by omega) (lt_fuel (by omega))]
 intro next v hv hn
 obtain ⟨k,rfl⟩ :∃k:Nat,v=k:=⟨v.toNat,by omega⟩
 rw [joinP_def]
 by_cases hk:k < l.length
 ·rw [if_pos (by simpa using hk),geti_nat hk,some_bind',hg _ (List.getElem_mem hk)]
  have h:=takeWhile_at (p:=p) hk (by omega)
  by_cases hp:p l[k]=true
  ·rw [if_pos hp,i64w_id (by omega)]
   have:=h.2 hp
   exact hn _ (by omega) (by omega)
  ·rw [if_neg hp]
   have:¬ k < (l.takeWhile p).length:=fun q=>hp (h.1 q)
   have:k=(l.takeWhile p).length:=by omega
   rw [this]
 ·rw [if_neg (by simpa using hk)]
  have:k=(l.takeWhile p).length:=by omega
  subst this
  rfl
theorem nodup_len {α:Type} [DecidableEq α] :∀{l m:List α},l.Nodup→(∀x ∈ l,x ∈ m)→l.length ≤ m.length
 | [],_,_,_=>Nat.zero_le _
 | x::t,m,h,hs=>by
  obtain ⟨h1,h2⟩:=List.nodup_cons.1 h
  have hx:=hs x (by simp)
  have:=nodup_len (m:=m.erase x) h2 fun y hy=>(List.mem_erase_of_ne (fun e=>h1 (by rw [← e];exact hy))).2 (hs y (List.mem_cons_of_mem _ hy))
  rw [List.length_erase_of_mem hx] at this
  have:0 < m.length:=List.length_pos_of_mem hx
  simp only [List.length_cons]
  omega
theorem sorted_ext {α:Type} {lt:α→α→Prop} (hirr :∀a,¬ lt a a) (htr :∀a b c,lt a b→lt b c→lt a c) :∀{l m:List α},l.Pairwise lt→m.Pairwise lt→(∀x,x ∈ l ↔ x ∈ m)→l=m
 | [],[],_,_,_=>rfl
 | [],y::m,_,_,h=>by have:=(h y).2 (by simp);simp at this
 | x::l,[],_,_,h=>by have:=(h x).1 (by simp);simp at this
 | x::l,y::m,h1,h2,h=>by
  obtain ⟨a1,a2⟩:=List.pairwise_cons.1 h1
  obtain ⟨b1,b2⟩:=List.pairwise_cons.1 h2
  have hxy:x=y:=by
   rcases List.mem_cons.1 ((h x).1 (by simp)) with e | e
   ·exact e
   ·rcases List.mem_cons.1 ((h y).2 (by simp)) with e' | e'
    ·exact e'.symm
    ·exact absurd (htr _ _ _ (a1 y e') (b1 x e)) (hirr x)
  subst hxy
  congr 1
  refine sorted_ext hirr htr a2 b2 fun z=>?_
  constructor
  ·intro hz
   rcases List.mem_cons.1 ((h z).1 (List.mem_cons_of_mem _ hz)) with e | e
   ·subst e;exact absurd (a1 z hz) (hirr z)
   ·exact e
  ·intro hz
   rcases List.mem_cons.1 ((h z).2 (List.mem_cons_of_mem _ hz)) with e | e
   ·subst e;exact absurd (b1 z hz) (hirr z)
   ·exact e
def insS {α:Type} (lt:α→α→Bool) (l:List α) (x:α):List α:=l.takeWhile (lt · x) ++ x::l.dropWhile (lt · x)
theorem insS_mem {α:Type} {lt:α→α→Bool} {l:List α} {x y:α}:y ∈ insS lt l x ↔ y ∈ l ∨ y=x:=by
 unfold insS
 have:y ∈ l ↔ y ∈ l.takeWhile (lt · x) ∨ y ∈ l.dropWhile (lt · x):=by
  rw [← List.mem_append,List.takeWhile_append_dropWhile]
 rw [this,List.mem_append,List.mem_cons]
 constructor
 ·rintro (h | h | h)
  ·exact .inl (.inl h)
  ·exact .inr h
  ·exact .inl (.inr h)
 ·rintro ((h | h) | h)
  ·exact .inl h
  ·exact .inr (.inr h)
  ·exact .inr (.inl h)
theorem insS_len {α:Type} (lt:α→α→Bool) (l:List α) (x:α):(insS lt l x).length=l.length + 1:=by
 unfold insS
 have:=congrArg List.length (List.takeWhile_append_dropWhile (p:=(lt · x)) (l:=l))
 simp only [List.length_append,List.length_cons] at this ⊢
 omega
theorem takeWhile_all {α:Type} (p:α→Bool) {l:List α} {x:α} (h:x ∈ l.takeWhile p):p x=true:=by
 induction l with
 | nil=>simp at h
 | cons y t ih=>
  rw [List.takeWhile_cons] at h
  split at h
  ·rcases List.mem_cons.1 h with rfl | h
   ·assumption
   ·exact ih h
  ·simp at h
theorem insS_sorted {α:Type} {lt:α→α→Bool} (htr :∀a b c,lt a b=true→lt b c=true→lt a c=true) (htot :∀a b,lt a b=false→a=b ∨ lt b a=true) {l:List α} {x:α} (h:l.Pairwise fun a b=>lt a b=true) (hx:x ∉ l) :
  (insS lt l x).Pairwise fun a b=>lt a b=true:=by
 have h0:=h
 rw [← List.takeWhile_append_dropWhile (p:=(lt · x)) (l:=l),List.pairwise_append] at h
 obtain ⟨h1,h2,h3⟩:=h
 have hd :∀b ∈ l.dropWhile (lt · x),lt x b=true:=by
  cases hl:l.dropWhile (lt · x) with
  | nil=>intro b hb;simp at hb
  | cons y t=>
   have hy:lt y x=false:=by
    have:=List.head?_dropWhile_not (lt · x) l
    rw [hl] at this
    simpa using this
   have hyl:y ∈ l:=by
    have:y ∈ l.dropWhile (lt · x):=by rw [hl];simp
    exact List.dropWhile_subset _ this
   have hxy:lt x y=true:=by
    rcases htot _ _ hy with e | e
    ·subst e;exact absurd hyl hx
    ·exact e
   rw [hl] at h2
   intro b hb
   rcases List.mem_cons.1 hb with rfl | hb
   ·exact hxy
   ·exact htr _ _ _ hxy ((List.pairwise_cons.1 h2).1 b hb)
 unfold insS
 rw [List.pairwise_append]
 refine ⟨h1,List.pairwise_cons.2 ⟨hd,h2⟩,fun a ha b hb=>?_⟩
 rcases List.mem_cons.1 hb with e | hb
 ·rw [e];exact takeWhile_all (lt · x) ha
 ·exact h3 a ha b hb
theorem takeWhile_take {α:Type} (p:α→Bool) (l:List α):l.take (l.takeWhile p).length=l.takeWhile p∧l.drop (l.takeWhile p).length=l.dropWhile p:=by
 have h:=List.takeWhile_append_dropWhile (p:=p) (l:=l)
 constructor
 ·conv=>lhs;arg 2;rw [← h]
  rw [List.take_left']
  rfl
 ·conv=>lhs;arg 2;rw [← h]
  rw [List.drop_left']
  rfl
end Go.AX
end
section
namespace Go.AX
set_option maxRecDepth 8000
def cmpI (a b:Int):Int:=if a < b then -1 else if b < a then 1 else 0
def orI:List Int→Int
 | []=>0
 | x::t=>if x=0 then orI t else x
def lexC:List Int→List Int→Int
 | x::s,y::t=>if x < y then -1 else if y < x then 1 else lexC s t
 | _,_=>0
theorem orI_cons (x:Int) (t:List Int):orI (x::t)=if x=0 then orI t else x:=rfl
theorem orI_cmp (x y:Int) (t:List Int):orI (cmpI x y::t)=if x < y then -1 else if y < x then 1 else orI t:=by
 rw [orI_cons]
 unfold cmpI
 split
 ·rfl
 ·split<;>simp
theorem lexC_cons (x y:Int) (s t:List Int):lexC (x::s) (y::t)=if x < y then -1 else if y < x then 1 else lexC s t:=rfl
theorem lexC_nil:lexC [] []=0:=rfl
theorem lexC_self :∀a:List Int,lexC a a=0
 | []=>rfl
 | x::t=>by unfold lexC;simp [lexC_self t]
theorem lexC_zero :∀{a b:List Int},a.length=b.length→lexC a b=0→a=b
 | [],[],_,_=>rfl
 | [],_::_,h,_=>by simp at h
 | _::_,[],h,_=>by simp at h
 | x::s,y::t,h,e=>by
  unfold lexC at e
  split at e
  ·simp at e
  ·split at e
   ·simp at e
   ·rw [lexC_zero (by simpa using h) e,show x=y by omega]
theorem lexC_neg :∀a b:List Int,lexC b a=- lexC a b
 | [],[]=>rfl
 | [],_::_=>rfl
 | _::_,[]=>rfl
 | x::s,y::t=>by
  unfold lexC
  have:=lexC_neg s t
  split<;>split<;>first | omega | (split<;>omega)
theorem lexC_tr :∀{a b c:List Int},a.length=b.length→b.length=c.length→lexC a b < 0→lexC b c < 0→lexC a c < 0
 | [],_,_,_,_,h,_=>by simp [lexC] at h
 | _::_,[],_,h,_,_,_=>by simp at h
 | _::_,_::_,[],_,h,_,_=>by simp at h
 | x::s,y::t,z::u,h1,h2,h3,h4=>by
  have ih:=@lexC_tr s t u (by simpa using h1) (by simpa using h2)
  unfold lexC at h3 h4 ⊢
  by_cases a1:x < y
  ·by_cases a2:y < z
   ·rw [if_pos (by omega)];omega
   ·rw [if_neg a2] at h4
    by_cases a3:z < y
    ·rw [if_pos a3] at h4;omega
    ·rw [if_pos (by omega)];omega
  ·rw [if_neg a1] at h3
   by_cases a4:y < x
   ·rw [if_pos a4] at h3;omega
   ·rw [if_neg a4] at h3
    have:x=y:=by omega
    subst this
    by_cases a2:x < z
    ·rw [if_pos a2];omega
    ·rw [if_neg a2] at h4 ⊢
     by_cases a3:z < x
     ·rw [if_pos a3] at h4;omega
     ·rw [if_neg a3] at h4 ⊢
      exact ih h3 h4
section
variable {X:Type} {key:X→List Int}
def ltK (key:X→List Int) (a b:X):Bool:=decide (lexC (key a) (key b) < 0)
theorem ltK_irr (a:X):ltK key a a=false:=by unfold ltK;rw [lexC_self];rfl
theorem ltK_tr (hl :∀a b:X,(key a).length=(key b).length) (a b c:X) (h1:ltK key a b=true) (h2:ltK key b c=true):ltK key a c=true:=by
 unfold ltK at *
 simp only [decide_eq_true_eq] at *
 exact lexC_tr (hl _ _) (hl _ _) h1 h2
theorem ltK_tot (hl :∀a b:X,(key a).length=(key b).length) (a b:X) (h:ltK key a b=false):key a=key b ∨ ltK key b a=true:=by
 unfold ltK at *
 simp only [decide_eq_false_iff_not,decide_eq_true_eq] at *
 have:=lexC_neg (key a) (key b)
 by_cases h0:lexC (key a) (key b)=0
 ·exact .inl (lexC_zero (hl _ _) h0)
 ·exact .inr (by omega)
theorem ltK_asym (hl :∀a b:X,(key a).length=(key b).length) (a b:X) (h:ltK key a b=true):ltK key b a=false:=by
 cases h1:ltK key b a
 ·rfl
 ·have:=ltK_tr hl _ _ _ h h1
  rw [ltK_irr] at this;simp at this
theorem ltK_neg (hl :∀a b:X,(key a).length=(key b).length) (a b c:X) (h1:ltK key a b=false) (h2:ltK key b c=false):ltK key a c=false:=by
 rcases ltK_tot hl _ _ h1 with e | h1
 ·unfold ltK at *;rw [e];exact h2
 ·rcases ltK_tot hl _ _ h2 with e | h2
  ·refine ltK_asym hl _ _ ?_
   unfold ltK at *;rw [← e];exact h1
  ·exact ltK_asym hl _ _ (ltK_tr hl _ _ _ h2 h1)
variable {cmp:X→X→Option Int}
theorem ltC_K (hc :∀a b,cmp a b=some (lexC (key a) (key b))) (a b:X):ltC cmp a b=ltK key a b:=by unfold ltC;rw [hc];rfl
theorem sortF_K (hl :∀a b:X,(key a).length=(key b).length) (hc :∀a b,cmp a b=some (lexC (key a) (key b))) {l:List X} (hn:l.length ≤ 1000000000) :
  Ok (sortF cmp l) fun r=>r.Perm l∧r.Pairwise fun a b=>ltK key b a=false:=by
 obtain ⟨r,hr⟩:=sortF_some (cmp:=cmp) (l:=l) (swoB_of (fun a _ b _=>⟨_,hc a b⟩) (fun a _=>by rw [ltC_K hc,ltK_irr])
  (fun a _ b _ c _ h1 h2=>by rw [ltC_K hc] at *;exact ltK_tr hl _ _ _ h1 h2) (fun a _ b _ c _ h1 h2=>by rw [ltC_K hc] at *;exact ltK_neg hl _ _ _ h1 h2) hn)
 obtain ⟨h1,h2⟩:=sortF_spec hr
 exact ⟨r,hr,h1,h2.imp fun h=>by rw [ltC_K hc] at h;exact h⟩
theorem strict_of {l:List X} (hl :∀a b:X,(key a).length=(key b).length) (h1:l.Pairwise fun a b=>ltK key b a=false) (h2:l.Pairwise fun a b=>key a ≠ key b):l.Pairwise fun a b=>ltK key a b=true:=
 (h1.and h2).imp fun {a b} h=>(ltK_tot hl b a h.1).resolve_left fun e=>h.2 e.symm
theorem ltK_ext (hl :∀a b:X,(key a).length=(key b).length) {l m:List X} (h1:l.Pairwise fun a b=>ltK key a b=true) (h2:m.Pairwise fun a b=>ltK key a b=true) (h :∀x,x ∈ l ↔ x ∈ m):l=m:=
 sorted_ext (lt:=fun a b=>ltK key a b=true) (fun a h=>by rw [ltK_irr] at h;simp at h) (fun a b c=>ltK_tr hl a b c) h1 h2 h
end
theorem ins_here {α:Type} {lt:α→α→Bool} (htr :∀a b c,lt a b=true→lt b c=true→lt a c=true) (hirr :∀a,lt a a=false) {l:List α} {x:α} (hs:l.Pairwise fun a b=>lt a b=true) :
  x ∈ l ↔ l[(l.takeWhile (lt · x)).length]?=some x:=by
 constructor
 ·intro hx
  rw [← List.takeWhile_append_dropWhile (p:=(lt · x)) (l:=l),List.mem_append] at hx
  rcases hx with hx | hx
  ·have:=takeWhile_all (lt · x) hx
   rw [hirr] at this
   simp at this
  ·have h2:=(takeWhile_take (lt · x) l).2
   cases hd:l.dropWhile (lt · x) with
   | nil=>rw [hd] at hx;simp at hx
   | cons y t=>
    have hy:lt y x=false:=by
     have:=List.head?_dropWhile_not (lt · x) l
     rw [hd] at this
     simpa using this
    have hp:(y::t).Pairwise fun a b=>lt a b=true:=by
     rw [← hd]
     exact hs.sublist (List.dropWhile_sublist _)
    rw [hd] at hx
    have hxy:x=y:=by
     rcases List.mem_cons.1 hx with e | e
     ·exact e
     ·have:=(List.pairwise_cons.1 hp).1 x e
      rw [hy] at this;simp at this
    have h3:(l.drop (l.takeWhile (lt · x)).length)[0]?=some x:=by rw [h2,hd,hxy];rfl
    rw [List.getElem?_drop] at h3
    simpa using h3
 ·intro h
  exact List.mem_of_getElem? h
section
variable {α:Type} {lt:α→α→Bool} (hirr :∀a,lt a a=false) (htr :∀a b c,lt a b=true→lt b c=true→lt a c=true) (htot :∀a b,lt a b=false→a=b ∨ lt b a=true)
include htr htot
include hirr
end
end Go.AX
end
section
namespace Go.AX
def Po {ρ:Type} (m:Option ρ) (Q:ρ→Prop):Prop:=∀r,m=some r→Q r
theorem Po.ret {ρ:Type} {Q:ρ→Prop} {r:ρ} (h:Q r):Po (some r) Q:=fun _ e=>Option.some.inj e ▸ h
theorem Po.imp {ρ:Type} {m:Option ρ} {P Q:ρ→Prop} (h:Po m P) (k :∀r,P r→Q r):Po m Q:=fun r e=>k r (h r e)
theorem Po.bind {α ρ:Type} {m:Option α} {f:α→Option ρ} {Q:ρ→Prop} (k :∀a,m=some a→Po (f a) Q):Po (Option.bind m f) Q:=by
 intro r e
 cases hm:m with
 | none=>rw [hm] at e;cases e
 | some a=>rw [hm] at e;exact k a hm r e
theorem Po.join {τ ρ:Type} {m:(τ→Option ρ)→Option ρ} {k:τ→Option ρ} {Q:ρ→Prop} (J:τ→Prop) (h1 :∀k',(∀v,J v→Po (k' v) Q)→Po (m k') Q) (h2 :∀v,J v→Po (k v) Q):Po (joinP m k) Q:=h1 k h2
theorem Po.ite {ρ:Type} {p:Prop} [Decidable p] {x y:Option ρ} {Q:ρ→Prop} (h1:p→Po x Q) (h2:¬ p→Po y Q):Po (if p then x else y) Q:=by
 split
 ·exact h1 ‹_›
 ·exact h2 ‹_›
theorem Po.forX {α σ ρ:Type} {done:σ→Option ρ} {body:(σ→Option ρ)→α→Nat→σ→Option ρ} {Q:ρ→Prop} {l:List α} {s0:σ} (I:Nat→σ→Prop) (h0:I 0 s0) (hd :∀s,I l.length s→Po (done s) Q)
  (hs :∀(next:σ→Option ρ) x i s,l[i]?=some x→I i s→(∀s',I (i + 1) s'→Po (next s') Q)→Po (body next x i s) Q):Po (forR done body l 0 s0) Q:=by
 have key :∀(t:List α) (i:Nat) (s:σ),(∃p,l=p ++ t∧p.length=i)→I i s→Po (forR done body t i s) Q:=by
  intro t
  induction t with
  | nil=>intro i s ⟨p,hp,hl⟩ hi;exact hd s (by rw [hp];simpa [hl] using hi)
  | cons x t ih=>
   intro i s ⟨p,hp,hl⟩ hi
   exact hs _ x i s (by rw [hp,← hl];simp) hi fun s' h'=>ih (i + 1) s' ⟨p ++ [x],by simp [hp],by simp [hl]⟩ h'
 exact key l 0 s0 ⟨[],rfl,rfl⟩ h0
theorem Po.for_ {α σ ρ:Type} {done:σ→Option ρ} {body:(σ→Option ρ)→α→Nat→σ→Option ρ} {Q:ρ→Prop} {l:List α} {s0:σ} (I:σ→Prop) (h0:I s0) (hd :∀s,I s→Po (done s) Q)
  (hs :∀(next:σ→Option ρ) x i s,x ∈ l→I s→(∀s',I s'→Po (next s') Q)→Po (body next x i s) Q):Po (forR done body l 0 s0) Q:=
 .forX (fun _=>I) h0 hd fun n x i s hx=>hs n x i s (List.mem_of_getElem? hx)
theorem Po.apnd {α:Type} {b:Nat} {l m:List α}:Po (Go.AX.apnd b l m) fun r=>r=l ++ m:=by
 intro r e
 unfold Go.AX.apnd at e
 split at e
 ·exact (Option.some.inj e).symm
 ·cases e
theorem Po.geti {α:Type} {l:List α} {i:Int}:Po (Go.AX.geti l i) fun x=>0 ≤ i∧l[i.toNat]?=some x:=by
 intro r e
 unfold Go.AX.geti at e
 split at e
 ·rename_i h
  exact ⟨h.1,e⟩
 ·cases e
theorem Po.seti {α:Type} {l:List α} {i:Int} {x:α}:Po (Go.AX.seti l i x) fun r=>0 ≤ i∧i.toNat < l.length∧r=l.set i.toNat x:=by
 intro r e
 unfold Go.AX.seti at e
 split at e
 ·rename_i h
  exact ⟨h.1,by omega,(Option.some.inj e).symm⟩
 ·cases e
theorem Po.part {α:Type} {l:List α} {a b:Int}:Po (Go.AX.part l a b) fun r=>r=(l.drop a.toNat).take (b.toNat - a.toNat):=by
 intro r e
 unfold Go.AX.part at e
 split at e
 ·exact (Option.some.inj e).symm
 ·cases e
theorem Ok.and {ρ:Type} {m:Option ρ} {P Q:ρ→Prop} (h:Ok m P) (k:Po m Q):Ok m fun r=>P r∧Q r:=by
 obtain ⟨r,h1,h2⟩:=h
 exact ⟨r,h1,h2,k r h1⟩
theorem Po.sel {τ ρ:Type} {m:(τ→Option ρ)→Option ρ} {k:τ→Option ρ} {Q:ρ→Prop} (h1 :∀k',(∀v,Po (k' v) Q)→Po (m k') Q) (h2 :∀v,Po (k v) Q):Po (joinP m k) Q:=h1 k h2
end Go.AX
end
section
namespace Go.AX.Q18
open Go Go.AX
set_option maxRecDepth 8000
def fl (t:Int):Int:=if t=1 then 64 else if t=2 then 64 else if t=3 then 64 else if t=4 then 128 else if t=5 then 64 else if t=8 then 192 else if t=32 then 192 else if t=35 then 192 else 0
def unk (t:Int):Bool:=decide (fl t=0) && (decide (t ≠ 14) && decide (t ≠ 15))
theorem mget_fl (t:Int):(mget glob0 t).getD 0=fl t:=by
 unfold glob0 fl
 simp only [mget,beq_iff_eq]
 repeat' (split;· rfl)
 rfl
theorem fl_cases (t:Int):(t=1∧fl t=64) ∨ (t=2∧fl t=64) ∨ (t=3∧fl t=64) ∨ (t=4∧fl t=128) ∨ (t=5∧fl t=64) ∨ (t=8∧fl t=192) ∨ (t=32∧fl t=192) ∨ (t=35∧fl t=192) ∨
  (t ≠ 1∧t ≠ 2∧t ≠ 3∧t ≠ 4∧t ≠ 5∧t ≠ 8∧t ≠ 32∧t ≠ 35∧fl t=0):=by
 unfold fl
 by_cases h1:t=1<;>by_cases h2:t=2<;>by_cases h3:t=3<;>by_cases h4:t=4<;>by_cases h5:t=5<;>by_cases h6:t=8<;>by_cases h7:t=32<;>by_cases h8:t=35<;>first | (exfalso;omega) | simp [h1,h2,h3,h4,h5,h6,h7,h8]
theorem ref18_flags_eq (t:Int):ref18_flags t=some (fl t):=by
 unfold ref18_flags
 simp only [joinP_def,beq_iff_eq]
 rcases fl_cases t with ⟨h,e⟩ | ⟨h,e⟩ | ⟨h,e⟩ | ⟨h,e⟩ | ⟨h,e⟩ | ⟨h,e⟩ | ⟨h,e⟩ | ⟨h,e⟩ | ⟨h1,h2,h3,h4,h5,h6,h7,h8,e⟩<;>rw [e]
 iterate 8 (subst h;rfl)
 simp [h1,h2,h3,h4,h5,h6,h7,h8]
theorem unk_if (t:Int) (k:Bool→Option Bool):(if (fl t == 0)=true then if (cond true (t != 14) false)=true then k (cond true (t != 15) false) else k false else k false)=k (unk t):=by
 have e1:(t != 14)=!decide (t=14):=rfl
 have e2:(t != 15)=!decide (t=15):=rfl
 unfold unk
 rw [e1,e2]
 by_cases h1:fl t=0<;>by_cases h2:t=14<;>by_cases h3:t=15<;>simp [h1,h2,h3]
theorem attribute_unknown_eq (t:Int):attribute_unknown t=some (unk t):=by
 unfold attribute_unknown
 rw [joinP_def,mget_fl,some_bind']
 exact unk_if t some
theorem ref18_unknown_eq (t:Int):ref18_unknown t=some (unk t):=by
 unfold ref18_unknown
 rw [joinP_def,ref18_flags_eq,some_bind']
 exact unk_if t some
theorem within_eq (a b c:Int):attribute_within a b c=some (decide (b ≤ a) && decide (a ≤ c)):=by
 unfold attribute_within
 rw [joinP_def]
 by_cases h:b ≤ a
 ·rw [if_pos (by simpa using h),decide_eq_true h];rfl
 ·rw [if_neg (by simpa using h),decide_eq_false h];rfl
theorem number_eq (a:Int):aspath_Number a=some (decide (1 ≤ a) && decide (a ≤ 4294967295)):=by
 unfold aspath_Number
 rw [joinP_def]
 by_cases h:1 ≤ a
 ·rw [if_pos (by simpa using h),decide_eq_true h];rfl
 ·rw [if_neg (by simpa using h),decide_eq_false h];rfl
def bt (x m:Int):Int:=i64w ((BitVec.ofInt 64 x &&& BitVec.ofInt 64 m).toNat:Int)
def rightB (x:Unknown):Bool:=bt x.Flags 192 == fl x.Type_ && (fl x.Type_ == 192 || bt x.Flags 32 == 0)
def getB (b:List UInt8):Int:=b.foldl (fun n x=>i64w ((BitVec.ofInt 64 (i64w (n * (2 ^ (min (Int.toNat 8) 64)))) ||| BitVec.ofInt 64 (x.toNat:Int)).toNat:Int)) 0
theorem foldR {α σ ρ:Type} {K:σ→Option ρ} {g:σ→α→σ} :∀(l:List α) (i:Nat) (s:σ),forR K (fun next x _ s=>next (g s x)) l i s=K (l.foldl g s)
 | [],_,_=>rfl
 | x::t,i,s=>foldR t (i + 1) (g s x)
def val (l:List UInt8):Nat:=l.foldl (fun m x=>m * 256 + x.toNat) 0
theorem val_snoc (l:List UInt8) (x:UInt8):val (l ++ [x])=val l * 256 + x.toNat:=by simp [val]
theorem val_lt :∀l:List UInt8,val l < 256 ^ l.length:=by
 intro l
 rw [← List.reverse_reverse l]
 generalize l.reverse=m
 induction m with
 | nil=>decide
 | cons x t ih=>
  rw [List.reverse_cons,val_snoc,List.length_append,List.length_singleton,Nat.pow_succ]
  have:=x.toNat_lt
  omega
theorem or_nat {u v:Nat} (hu:u < 36028797018963968) (hv:v < 256):i64w ((BitVec.ofInt 64 (i64w ((u:Int) * (2 ^ (min (Int.toNat 8) 64)))) ||| BitVec.ofInt 64 (v:Int)).toNat:Int)=((u * 256 + v:Nat):Int):=by
 have h1:((u:Int) * (2 ^ (min (Int.toNat 8) 64)))=((u * 256:Nat):Int):=by
  have:min (Int.toNat 8) 64=8:=rfl
  rw [this];omega
 rw [h1,i64w_id (x:=((u * 256:Nat):Int)) (by omega),BitVec.ofInt_natCast,BitVec.ofInt_natCast,BitVec.toNat_or,BitVec.toNat_ofNat,BitVec.toNat_ofNat,Nat.mod_eq_of_lt (show u * 256 < 2 ^ 64 by omega),Nat.mod_eq_of_lt (show v < 2 ^ 64 by omega),
  show u * 256=2 ^ 8 * u by omega,← Nat.two_pow_add_eq_or_of_lt (show v < 2 ^ 8 by omega)]
 rw [i64w_id (by omega)]
theorem getB_eq :∀{l:List UInt8},l.length ≤ 7→getB l=(val l:Int):=by
 intro l
 rw [← List.reverse_reverse l]
 generalize l.reverse=m
 induction m with
 | nil=>intro _;rfl
 | cons x t ih=>
  intro h
  rw [List.reverse_cons] at h ⊢
  simp only [List.length_append,List.length_reverse,List.length_singleton] at h
  unfold getB at ih ⊢
  rw [List.foldl_append,ih (by simp;omega)]
  have h1:=val_lt t.reverse
  have h2:256 ^ t.reverse.length ≤ 256 ^ 6:=Nat.pow_le_pow_right (by omega) (by simp;omega)
  show i64w _=_
  rw [or_nat (by omega) x.toNat_lt,val_snoc]
def nums:List UInt8→List Int
 | a::b::c::d::t=>getB [a,b,c,d]::nums t
 | _=>[]
theorem nums_cons (a b c d:UInt8) (t:List UInt8):nums (a::b::c::d::t)=getB [a,b,c,d]::nums t:=rfl
theorem nums_len :∀l:List UInt8,(nums l).length=l.length / 4
 | a::b::c::d::t=>by
  rw [nums_cons,List.length_cons,nums_len t]
  simp only [List.length_cons]
  omega
 | []=>rfl
 | [_]=>by simp [nums]
 | [_,_]=>by simp [nums]
 | [_,_,_]=>by simp [nums]
theorem nums_rng :∀(l:List UInt8),∀n ∈ nums l,0 ≤ n∧n ≤ 4294967295
 | a::b::c::d::t=>by
  rw [nums_cons]
  intro n hn
  rcases List.mem_cons.1 hn with h | h
  ·have h1:=val_lt [a,b,c,d]
   rw [h,getB_eq (by simp)]
   simp only [List.length_cons,List.length_nil] at h1
   omega
  ·exact nums_rng t n h
 | []=>by intro n h;simp [nums] at h
 | [_]=>by intro n h;simp [nums] at h
 | [_,_]=>by intro n h;simp [nums] at h
 | [_,_,_]=>by intro n h;simp [nums] at h
end Go.AX.Q18
end
section
namespace Go.AX.Q18
open Go Go.AX
set_option maxRecDepth 8000
def ltI (a b:Int):Bool:=decide (a < b)
theorem ltI_irr (a:Int):ltI a a=false:=by simp [ltI]
theorem ltI_tr (a b c:Int) (h1:ltI a b=true) (h2:ltI b c=true):ltI a c=true:=by simp only [ltI,decide_eq_true_eq] at *;omega
theorem ltI_tot (a b:Int) (h:ltI a b=false):a=b ∨ ltI b a=true:=by simp only [ltI,decide_eq_true_eq,decide_eq_false_iff_not] at *;omega
def Asc (l r:List Int):Prop:=r.Pairwise (fun a b=>ltI a b=true)∧∀x,x ∈ r ↔ x ∈ l
theorem ref18_sorted_tot {l:List Int} (hl:l.length ≤ 1000000):Ok (ref18_sorted l) (Asc l):=by
 unfold ref18_sorted
 refine .join (Asc l) (fun k hk=>?_) fun r hr=>.ret hr
 refine .forX (fun i v=>v.Pairwise (fun a b=>ltI a b=true)∧(∀x,x ∈ v ↔ x ∈ l.take i)∧v.length ≤ i) ⟨.nil,by simp,by simp⟩ (fun v hv=>hk v ⟨hv.1,by simpa using hv.2.1⟩) fun next x i v hx hI hn=>?_
 obtain ⟨i1,i2,i3⟩:=hI
 have hil:=(List.getElem?_eq_some_iff.1 hx).1
 have hmt :∀y,y ∈ l.take (i + 1) ↔ y ∈ l.take i ∨ y=x:=by
  intro y
  rw [List.take_add_one,hx]
  simp
 refine .join (fun v'=>v'.Pairwise (fun a b=>ltI a b=true)∧(∀x,x ∈ v' ↔ x ∈ l.take (i + 1))∧v'.length ≤ i + 1) (fun k6 hk6=>?_) fun v' h=>hn _ h
 have hpos:=takeWhile_len_le (ltI · x) v
 rw [posR (p:=(ltI · x)) (fun y k4=>k4 (cond true (decide (y < x)) false)) (by omega) (fun y _ k=>rfl)]
 have hh:=ins_here ltI_tr ltI_irr (x:=x) i1
 obtain ⟨t1,t2⟩:=takeWhile_take (ltI · x) v
 refine .join (fun c=>c=true ↔ x ∈ v) (fun k15 hk15=>?_) fun c hc=>.ite (fun h=>?_) fun h=>?_
 ·by_cases hk:(v.takeWhile (ltI · x)).length < v.length
  ·rw [if_pos (by simpa using hk),geti_nat hk,some_bind']
   refine hk15 _ ?_
   rw [hh,List.getElem?_eq_getElem hk]
   simp only [cond_true,beq_iff_eq,Option.some.injEq]
  ·rw [if_neg (by simpa using hk)]
   refine hk15 _ ?_
   rw [hh,List.getElem?_eq_none (by omega)]
   simp
 ·refine hk6 _ ⟨i1,fun y=>?_,by omega⟩
  rw [hmt,i2 y]
  refine ⟨.inl,fun q=>q.elim id fun e=>?_⟩
  rw [e];exact (i2 x).1 (hc.1 h)
 ·have hnx:x ∉ v:=fun q=>h (hc.2 q)
  simp only [Int.toNat_natCast,Int.toNat_zero,List.drop_zero,Nat.sub_zero]
  refine .bind (Ok.chk (by omega)) fun _ _=>.bind (Ok.apnd (by decide) (by simp;omega)) fun _ _=>.bind (Ok.apnd (by decide) (by simp;omega)) fun a ha=>.bind (Ok.chk (by omega)) fun _ _=>.bind (Ok.apnd (by decide) (by rw [ha];simp;omega)) fun b hb=>hk6 _ ?_
  have e:b=insS ltI v x:=by
   have e2:(List.drop (v.takeWhile (ltI · x)).length v).take (v.length - (v.takeWhile (ltI · x)).length)=v.dropWhile (ltI · x):=by
    rw [List.take_of_length_le (by simp),t2]
   rw [hb,ha,e2,t1]
   unfold insS
   simp
  rw [e]
  refine ⟨insS_sorted ltI_tr ltI_tot i1 hnx,fun y=>?_,by rw [insS_len];omega⟩
  rw [insS_mem,hmt,i2]
def srt (l:List Int):List Int:=(ref18_sorted l).getD []
theorem srt_asc {l:List Int} (hl:l.length ≤ 1000000):Asc l (srt l):=by
 obtain ⟨r,h,k⟩:=ref18_sorted_tot hl
 unfold srt;rw [h];exact k
def addSeg (p:List Segment) (set:Bool) (l:List Int):List Segment:=
 if set then p ++ [⟨true,srt l⟩] else match p.getLast? with
  | some s=>if s.Set then p ++ [⟨false,l⟩] else p.dropLast ++ [⟨false,s.ASNs ++ l⟩]
  | none=>[⟨false,l⟩]
def rdSeg:Nat→List UInt8→List Segment→Option (List Segment)
 | _,[],p=>some p
 | n + 1,k::c::t,p=>if (k.toNat ≠ 1∧k.toNat ≠ 2) ∨ c.toNat=0 ∨ t.length < 4 * c.toNat then none else rdSeg n (t.drop (4 * c.toNat)) (addSeg p (k.toNat == 1) (nums (t.take (4 * c.toNat))))
 | _,_,_=>none
end Go.AX.Q18
end
section
namespace Go.AX.Q18
open Go Go.AX
set_option maxRecDepth 8000
theorem rdSeg_nil (n:Nat) (p:List Segment):rdSeg n [] p=some p:=by cases n<;>rfl
def rdL (b:List UInt8) (p:List Segment):Option (List Segment):=rdSeg b.length b p
theorem srt_len {l:List Int} (hl:l.length ≤ 1000000):(srt l).length ≤ l.length:=by
 obtain ⟨h1,h2⟩:=srt_asc hl
 refine nodup_len (h1.imp fun {a b} h e=>?_) fun x hx=>(h2 x).1 hx
 subst e
 rw [ltI_irr] at h;simp at h
end Go.AX.Q18
end
section
namespace Go.AX
set_option maxRecDepth 8000
section
variable {α ρ:Type}
def chainB (lt:α→α→Bool):List α→Bool
 | x::y::t=>lt x y && chainB lt (y::t)
 | _=>true
theorem chainB_cons (lt:α→α→Bool) (x y:α) (t:List α):chainB lt (x::y::t)=(lt x y && chainB lt (y::t)):=rfl
theorem chainB_one (lt:α→α→Bool) (x:α):chainB lt [x]=true:=rfl
theorem chainB_pw {lt:α→α→Bool} (htr :∀a b c,lt a b=true→lt b c=true→lt a c=true) :∀{l:List α},chainB lt l=true ↔ l.Pairwise fun a b=>lt a b=true
 | []=>by simp [chainB]
 | [x]=>by simp [chainB]
 | x::y::t=>by
  rw [chainB_cons,Bool.and_eq_true,chainB_pw htr (l:=y::t),List.pairwise_cons (a:=x)]
  constructor
  ·rintro ⟨h1,h2⟩
   refine ⟨fun z hz=>?_,h2⟩
   rcases List.mem_cons.1 hz with e | hz
   ·rw [e];exact h1
   ·exact htr _ _ _ h1 ((List.pairwise_cons.1 h2).1 z hz)
  ·rintro ⟨h1,h2⟩
   exact ⟨h1 y (by simp),h2⟩
theorem adjR {ok:α→Bool} {lt:α→α→Bool} {l:List α} {K:Unit→Option ρ} {F:Option ρ} {body:(Unit→Option ρ)→α→Nat→Unit→Option ρ} (hl:l.length ≤ 1000000000000)
  (h0 :∀next x,x ∈ l→body next x 0 ()=if ok x then next () else F)
  (h1 :∀next x y i,x ∈ l→y ∈ l→geti l (i64w (((i + 1:Nat):Int) - 1))=some y→body next x (i + 1) ()=if ok x && lt y x then next () else F) :
  forR K body l 0 ()=if l.all ok && chainB lt l then K () else F:=by
 have key :∀(t p:List α) (y:α),l=p ++ y::t→forR K body t (p.length + 1) ()=if t.all ok && chainB lt (y::t) then K () else F:=by
  intro t
  induction t with
  | nil=>intro p y _;rw [chainB_one];rfl
  | cons x t ih=>
   intro p y e
   show body (fun s=>forR K body t (p.length + 1 + 1) s) x (p.length + 1) ()=_
   have hlen:p.length < l.length:=by rw [e];simp
   rw [h1 _ x y p.length (by rw [e];simp) (by rw [e];simp) (by
    rw [i64w_id (by omega),show ((p.length + 1:Nat):Int) - 1=(p.length:Int) by omega,e]
    exact geti_at p y (x::t))]
   have:=ih (p ++ [y]) x (by rw [e];simp)
   rw [List.length_append,List.length_singleton] at this
   rw [this,chainB_cons,List.all_cons]
   generalize chainB lt (x::t)=c1
   generalize t.all ok=c2
   cases ok x<;>cases lt y x<;>cases c1<;>cases c2<;>rfl
 match l,h0,h1,key with
 | [],_,_,_=>rfl
 | x::t,h0,_,key=>
  show body (fun s=>forR K body t (0 + 1) s) x 0 ()=_
  rw [h0 _ x (by simp)]
  have:=key t [] x rfl
  rw [List.length_nil] at this
  rw [this,List.all_cons]
  generalize chainB lt (x::t)=c1
  generalize t.all ok=c2
  cases ok x<;>cases c1<;>cases c2<;>rfl
theorem adjRS {σ:Type} {g:σ→α→σ} {ok:α→Bool} {lt:α→α→Bool} {l:List α} {s0:σ} {K:σ→Option ρ} {F:Option ρ} {body:(σ→Option ρ)→α→Nat→σ→Option ρ} (hl:l.length ≤ 1000000000000)
  (h0 :∀next x s,x ∈ l→body next x 0 s=if ok x then next (g s x) else F)
  (h1 :∀next x y i s,x ∈ l→y ∈ l→geti l (i64w (((i + 1:Nat):Int) - 1))=some y→body next x (i + 1) s=if ok x && lt y x then next (g s x) else F) :
  forR K body l 0 s0=if l.all ok && chainB lt l then K (l.foldl g s0) else F:=by
 have key :∀(t p:List α) (y:α) (s:σ),l=p ++ y::t→forR K body t (p.length + 1) s=if t.all ok && chainB lt (y::t) then K (t.foldl g s) else F:=by
  intro t
  induction t with
  | nil=>intro p y s _;rw [chainB_one];rfl
  | cons x t ih=>
   intro p y s e
   show body (fun s=>forR K body t (p.length + 1 + 1) s) x (p.length + 1) s=_
   have hlen:p.length < l.length:=by rw [e];simp
   rw [h1 _ x y p.length s (by rw [e];simp) (by rw [e];simp) (by
    rw [i64w_id (by omega),show ((p.length + 1:Nat):Int) - 1=(p.length:Int) by omega,e]
    exact geti_at p y (x::t))]
   have:=ih (p ++ [y]) x (g s x) (by rw [e];simp)
   rw [List.length_append,List.length_singleton] at this
   rw [this,chainB_cons,List.all_cons,List.foldl_cons]
   generalize chainB lt (x::t)=c1
   generalize t.all ok=c2
   cases ok x<;>cases lt y x<;>cases c1<;>cases c2<;>rfl
 match l,h0,h1,key with
 | [],_,_,_=>rfl
 | x::t,h0,_,key=>
  show body (fun s=>forR K body t (0 + 1) s) x 0 s0=_
  rw [h0 _ x s0 (by simp)]
  have:=key t [] x (g s0 x) rfl
  rw [List.length_nil] at this
  rw [this,List.all_cons,List.foldl_cons]
  generalize chainB lt (x::t)=c1
  generalize t.all ok=c2
  cases ok x<;>cases c1<;>cases c2<;>rfl
theorem appR {β:Type} {g:β→List α} {N:Nat} {body:(List α→Option ρ)→β→Nat→List α→Option ρ} {K:List α→Option ρ} :∀{l:List β} {i:Nat} {v:List α},v.length + (l.flatMap g).length ≤ N→
  (∀next x i v,x ∈ l→v.length + (g x).length ≤ N→body next x i v=next (v ++ g x))→forR K body l i v=K (v ++ l.flatMap g)
 | [],i,v,_,_=>by rw [List.flatMap_nil,List.append_nil];rfl
 | x::t,i,v,h,hb=>by
  rw [List.flatMap_cons,List.length_append] at h
  show body (fun s=>forR K body t (i + 1) s) x i v=_
  rw [hb _ x i v (by simp) (by omega),appR (l:=t) (by rw [List.length_append];omega) fun next y j w hy hw=>hb next y j w (List.mem_cons_of_mem _ hy) hw,List.flatMap_cons,List.append_assoc]
def canon (e lt:α→α→Bool) (l:List α):List α:=l.foldl (fun acc x=>if acc.any (fun y=>e y x) then acc else insS lt acc x) []
theorem canon_snoc (e lt:α→α→Bool) (l:List α) (x:α):canon e lt (l ++ [x])=if (canon e lt l).any (fun y=>e y x) then canon e lt l else insS lt (canon e lt l) x:=by
 unfold canon
 rw [List.foldl_append]
 rfl
theorem canon_spec {e lt:α→α→Bool} (he :∀a b,e a b=true ↔ a=b) (htr :∀a b c,lt a b=true→lt b c=true→lt a c=true) (htot :∀a b,lt a b=false→a=b ∨ lt b a=true) (l:List α) :
  (canon e lt l).Pairwise (fun a b=>lt a b=true)∧(∀x,x ∈ canon e lt l ↔ x ∈ l)∧(canon e lt l).length ≤ l.length:=by
 rw [← List.reverse_reverse l]
 generalize l.reverse=m
 induction m with
 | nil=>exact ⟨.nil,by simp [canon],by simp [canon]⟩
 | cons x t ih=>
  obtain ⟨h1,h2,h3⟩:=ih
  rw [List.reverse_cons,canon_snoc]
  by_cases hx:(canon e lt t.reverse).any (fun y=>e y x)=true
  ·rw [if_pos hx]
   obtain ⟨y,hy,hyx⟩:=List.any_eq_true.1 hx
   have:=(he _ _).1 hyx
   subst this
   refine ⟨h1,fun z=>?_,by simp only [List.length_append];omega⟩
   rw [List.mem_append,h2 z,List.mem_singleton]
   refine ⟨.inl,fun q=>q.elim id fun e=>?_⟩
   rw [e];exact (h2 _).1 hy
  ·rw [if_neg hx]
   have hx:x ∉ canon e lt t.reverse:=fun q=>hx (List.any_eq_true.2 ⟨x,q,(he _ _).2 rfl⟩)
   refine ⟨insS_sorted htr htot h1 hx,fun z=>?_,by rw [insS_len];simp only [List.length_append,List.length_singleton];omega⟩
   rw [insS_mem,List.mem_append,h2 z,List.mem_singleton]
end
end Go.AX
end
section
namespace Go.AX.Q18
open Go Go.AX
set_option maxRecDepth 8000
theorem cmpI_eq (a b:Int):cmp_Compare_int a b=some (cmpI a b):=by
 unfold cmp_Compare_int cmp_isNaN_int cmpI
 simp only [some_bind',bne_self_eq_false,Bool.false_eq_true,if_false,decide_eq_true_eq,gt_iff_lt]
 split<;>(try split)<;>rfl
theorem orI_eq (l:List Int):cmp_Or_int l=some (orI l):=by
 unfold cmp_Or_int
 rw [joinP_def]
 have key :∀(l:List Int) (i:Nat),forR (σ:=Unit) (fun _=>some (0:Int)) (fun next x _ _=>if (x != 0)=true then some x else next ()) l i ()=some (orI l):=by
  intro l
  induction l with
  | nil=>intro i;rfl
  | cons x t ih=>
   intro i
   show (if (x != 0)=true then some x else forR _ _ t (i + 1) ())=_
   rw [ih]
   rw [orI_cons]
   by_cases h:x=0<;>simp [h]
 exact key l 0
def keyC (c:Community):List Int:=[c.A,c.B]
def keyL (c:Large):List Int:=[c.A,c.B,c.C]
theorem keyC_len (a b:Community):(keyC a).length=(keyC b).length:=rfl
theorem keyL_len (a b:Large):(keyL a).length=(keyL b).length:=rfl
theorem keyC_inj {a b:Community} (h:keyC a=keyC b):a=b:=by
 simp only [keyC,List.cons.injEq,and_true] at h
 cases a;cases b;simp_all
theorem keyL_inj {a b:Large} (h:keyL a=keyL b):a=b:=by
 simp only [keyL,List.cons.injEq,and_true] at h
 cases a;cases b;simp_all
def ltC2:Community→Community→Bool:=ltK keyC
def ltC3:Large→Large→Bool:=ltK keyL
theorem ltC2_tr (a b c:Community) (h1:ltC2 a b=true) (h2:ltC2 b c=true):ltC2 a c=true:=ltK_tr keyC_len a b c h1 h2
theorem ltC3_tr (a b c:Large) (h1:ltC3 a b=true) (h2:ltC3 b c=true):ltC3 a c=true:=ltK_tr keyL_len a b c h1 h2
theorem ltC2_tot (a b:Community) (h:ltC2 a b=false):a=b ∨ ltC2 b a=true:=(ltK_tot keyC_len a b h).imp_left keyC_inj
theorem ltC3_tot (a b:Large) (h:ltC3 a b=false):a=b ∨ ltC3 b a=true:=(ltK_tot keyL_len a b h).imp_left keyL_inj
theorem eqdC (a b:Community):Community.eqd a b=true ↔ a=b:=by
 unfold Community.eqd
 simp only [Bool.and_eq_true,Bool.and_true,beq_iff_eq]
 constructor
 ·rintro ⟨h1,h2⟩;cases a;cases b;simp_all
 ·rintro rfl;exact ⟨rfl,rfl⟩
theorem eqdL (a b:Large):Large.eqd a b=true ↔ a=b:=by
 unfold Large.eqd
 simp only [Bool.and_eq_true,Bool.and_true,beq_iff_eq]
 constructor
 ·rintro ⟨h1,h2,h3⟩;cases a;cases b;simp_all
 ·rintro rfl;exact ⟨rfl,rfl,rfl⟩
theorem compC_eq (a b:Community):community_compare a b=some (lexC (keyC a) (keyC b)):=by
 unfold community_compare
 rw [cmpI_eq,some_bind',cmpI_eq,some_bind',orI_eq,some_bind',orI_cmp,orI_cmp]
 rfl
theorem compL_eq (a b:Large):community_compareLarge a b=some (lexC (keyL a) (keyL b)):=by
 unfold community_compareLarge
 rw [cmpI_eq,some_bind',cmpI_eq,some_bind',cmpI_eq,some_bind',orI_eq,some_bind',orI_cmp,orI_cmp,orI_cmp]
 rfl
theorem lessC_eq (a b:Community):ref17_less a b=some (ltC2 a b):=by
 unfold ref17_less ltC2 ltK keyC
 rw [joinP_def]
 simp only [lexC,decide_eq_true_eq,beq_iff_eq,cond_true,cond_false]
 by_cases a1:a.A < b.A<;>by_cases a2:a.A=b.A<;>by_cases a3:b.A < a.A<;>by_cases b1:a.B < b.B<;>by_cases b3:b.B < a.B<;>first | (exfalso;omega) | simp [a1,a2,a3,b1,b3]
theorem lessL_eq (a b:Large):ref17_lessLarge a b=some (ltC3 a b):=by
 unfold ref17_lessLarge ltC3 ltK keyL
 simp only [joinP_def]
 simp only [lexC,decide_eq_true_eq,beq_iff_eq,cond_true,cond_false]
 by_cases a1:a.A < b.A<;>by_cases a2:a.A=b.A<;>by_cases a3:b.A < a.A<;>by_cases b1:a.B < b.B<;>by_cases b2:a.B=b.B<;>by_cases b3:b.B < a.B<;>by_cases c1:a.C < b.C<;>by_cases c3:b.C < a.C<;>first | (exfalso;omega) | simp [a1,a2,a3,b1,b2,b3,c1,c3]
def inR (m x:Int):Bool:=decide (0 ≤ x) && decide (x ≤ m)
def okC (c:Community):Bool:=inR 65535 c.A && inR 65535 c.B
def okL (c:Large):Bool:=inR 4294967295 c.A && (inR 4294967295 c.B && inR 4294967295 c.C)
theorem rightC_eq (c:Community):ref17_right c=some (okC c):=by
 unfold ref17_right okC inR
 rw [joinP_def]
 simp only [decide_eq_true_eq,cond_true,ge_iff_le]
 by_cases a1:0 ≤ c.A<;>by_cases a2:c.A ≤ 65535<;>by_cases a3:0 ≤ c.B<;>by_cases a4:c.B ≤ 65535<;>simp [a1,a2,a3,a4]
theorem rightL_eq (c:Large):ref17_rightLarge c=some (okL c):=by
 unfold ref17_rightLarge okL inR
 rw [joinP_def]
 simp only [decide_eq_true_eq,cond_true,ge_iff_le]
 by_cases a1:0 ≤ c.A<;>by_cases a2:c.A ≤ 4294967295<;>by_cases a3:0 ≤ c.B<;>by_cases a4:c.B ≤ 4294967295<;>by_cases a5:0 ≤ c.C<;>by_cases a6:c.C ≤ 4294967295<;>simp [a1,a2,a3,a4,a5,a6]
theorem mmR {g:Int→Int→Int} {x:Int} {t:List Int} (hl:t.length ≤ 1000000000) :
  joinP (τ:=Int) (fun k2=>whileR (σ:=Int×Int) (fun next3 p=>match p with
   | (v4,v5)=>if (decide (v5 < ((x::t).length:Int)))=true then Option.bind (geti (x::t) v5) fun v6=>next3 (g v4 v6,(i64w (v5 + 1))) else k2 v4) fuel (x,1)) (fun v=>some v)=some (t.foldl g x):=by
 rw [joinP_def]
 refine (whileR_eq (fun s:Int×Int=>∃j:Nat,s.2=(j + 1:Nat)∧j ≤ t.length) (fun s=>((x::t).length - s.2).toNat) (fun s=>some ((t.drop (s.2.toNat - 1)).foldl g s.1)) ?_ fuel (x,1) ⟨0,rfl,Nat.zero_le _⟩ (lt_fuel (by simp;omega))).trans rfl
 rintro next ⟨m,i⟩ ⟨j,h1,h2⟩ hn
 dsimp only at h1
 subst h1
 dsimp only
 have e1:((j + 1:Nat):Int).toNat - 1=j:=by omega
 rw [e1]
 by_cases hj:j < t.length
 ·rw [if_pos (by simp only [List.length_cons,decide_eq_true_eq];omega),geti_nat (by simp;omega),some_bind',i64w_id (by omega)]
  rw [hn _ ⟨j + 1,by simp,by omega⟩ (by simp only [List.length_cons];omega)]
  have e2:(((j + 1:Nat):Int) + 1).toNat - 1=j + 1:=by omega
  simp only [e2,List.getElem_cons_succ]
  rw [List.drop_eq_getElem_cons hj,List.foldl_cons]
 ·rw [if_neg (by simp only [List.length_cons,decide_eq_true_eq];omega),List.drop_eq_nil_of_le (by omega)]
  rfl
def mn (a b:Int):Int:=if b < a then b else a
def mx (a b:Int):Int:=if b > a then b else a
theorem min_eq {x:Int} {t:List Int} (hl:t.length ≤ 1000000000):slices_Min_int_int (x::t)=some (t.foldl mn x):=by
 unfold slices_Min_int_int
 rw [if_neg (by simp;omega),show geti (x::t) 0=some x from geti_nat (l:=x::t) (i:=0) (by simp),some_bind']
 exact mmR (g:=mn) hl
theorem max_eq {x:Int} {t:List Int} (hl:t.length ≤ 1000000000):slices_Max_int_int (x::t)=some (t.foldl mx x):=by
 unfold slices_Max_int_int
 rw [if_neg (by simp;omega),show geti (x::t) 0=some x from geti_nat (l:=x::t) (i:=0) (by simp),some_bind']
 exact mmR (g:=mx) hl
theorem mn_all (n:Int) :∀(t:List Int) (x:Int),decide (n ≤ t.foldl mn x)=(x::t).all fun y=>decide (n ≤ y)
 | [],x=>by rw [List.all_cons,List.all_nil,Bool.and_true];rfl
 | y::t,x=>by
  rw [List.foldl_cons,mn_all n t (mn x y)]
  simp only [List.all_cons]
  unfold mn
  rw [Bool.eq_iff_iff]
  simp only [Bool.and_eq_true,decide_eq_true_eq]
  constructor
  ·rintro ⟨h1,h2⟩;split at h1<;>exact ⟨by omega,by omega,h2⟩
  ·rintro ⟨h1,h2,h3⟩;split<;>exact ⟨by omega,h3⟩
theorem mx_all (n:Int) :∀(t:List Int) (x:Int),decide (t.foldl mx x ≤ n)=(x::t).all fun y=>decide (y ≤ n)
 | [],x=>by rw [List.all_cons,List.all_nil,Bool.and_true];rfl
 | y::t,x=>by
  rw [List.foldl_cons,mx_all n t (mx x y)]
  simp only [List.all_cons]
  unfold mx
  rw [Bool.eq_iff_iff]
  simp only [Bool.and_eq_true,decide_eq_true_eq]
  constructor
  ·rintro ⟨h1,h2⟩;split at h1<;>exact ⟨by omega,by omega,h2⟩
  ·rintro ⟨h1,h2,h3⟩;split<;>exact ⟨by omega,h3⟩
theorem cwithin_eq {m x:Int} {t:List Int} (hl:t.length ≤ 1000000000):community_within m (x::t)=some ((x::t).all (inR m)):=by
 unfold community_within
 rw [joinP_def,min_eq hl,some_bind',max_eq hl]
 have e:(x::t).all (inR m)=(decide (0 ≤ t.foldl mn x) && decide (t.foldl mx x ≤ m)):=by
  rw [mn_all,mx_all,Bool.eq_iff_iff,Bool.and_eq_true]
  simp only [List.all_eq_true,inR,Bool.and_eq_true]
  exact ⟨fun h=>⟨fun y hy=>(h y hy).1,fun y hy=>(h y hy).2⟩,fun h y hy=>⟨h.1 y hy,h.2 y hy⟩⟩
 rw [e]
 by_cases h:0 ≤ t.foldl mn x
 ·rw [if_pos (by simpa using h),some_bind',decide_eq_true h];rfl
 ·rw [if_neg (by simpa using h),decide_eq_false h];rfl
theorem fitsC_eq (c:Community):community_fits c=some (okC c):=by
 unfold community_fits
 rw [cwithin_eq (by simp),some_bind']
 simp [okC]
theorem fitsL_eq (c:Large):community_fitsLarge c=some (okL c):=by
 unfold community_fitsLarge
 rw [cwithin_eq (by simp),some_bind']
 simp [okL]
def validC (l:List Community):Bool:=l.all okC && chainB ltC2 l && decide (l.length ≤ 64)
def validL (l:List Large):Bool:=l.all okL && chainB ltC3 l && decide (l.length ≤ 64)
theorem ge_lt {X:Type} {key:X→List Int} (a b:X):decide (lexC (key a) (key b) ≥ 0)=!ltK key a b:=by
 unfold ltK
 rw [Bool.eq_iff_iff]
 simp
theorem adjV {α:Type} {ok:α→Bool} {lt:α→α→Bool} {l:List α} (hl:l.length ≤ 1000000000) {body:(Unit→Option Bool)→α→Nat→Unit→Option Bool}
  (h :∀next x i,body next x i ()=joinP (τ:=Bool) (fun k5=>Option.bind (some (ok x)) fun v6=>if (!v6)=true then k5 true else if (decide ((i:Int) > 0))=true then Option.bind (geti l (i64w ((i:Int) - 1))) fun v7=>Option.bind (some (lt v7 x)) fun v8=>k5 (cond false true (cond true (!v8) false)) else k5 false) fun v9=>if v9=true then some false else next ()) :
  (joinP (τ:=Unit) (fun k1=>forR (σ:=Unit) (fun _=>k1 ()) body l 0 ()) fun _=>some (decide ((l.length:Int) ≤ 64)))=some (l.all ok && chainB lt l && decide (l.length ≤ 64)):=by
 rw [joinP_def,adjR (ok:=ok) (lt:=lt) (F:=some false) (by omega)]
 ·have e:decide ((l.length:Int) ≤ 64)=decide (l.length ≤ 64):=by rw [Bool.eq_iff_iff];simp;omega
  rw [e]
  generalize (l.all ok && chainB lt l)=b
  cases b<;>rfl
 ·intro next x _
  rw [h,joinP_def,some_bind']
  cases ok x<;>rfl
 ·intro next x y i _ _ hg
  rw [h,joinP_def,some_bind',hg,some_bind',some_bind',if_pos (show decide (((i + 1:Nat):Int) > 0)=true by simp)]
  cases ok x<;>cases lt y x<;>rfl
theorem ref17_Valid_eq {l:List Community} (hl:l.length ≤ 1000000000):ref17_Valid l=some (validC l):=by
 unfold ref17_Valid validC
 exact adjV hl fun next x i=>by simp only [rightC_eq,lessC_eq]
theorem ref17_ValidLarge_eq {l:List Large} (hl:l.length ≤ 1000000000):ref17_ValidLarge l=some (validL l):=by
 unfold ref17_ValidLarge validL
 exact adjV hl fun next x i=>by simp only [rightL_eq,lessL_eq]
theorem community_Valid_eq {l:List Community} (hl:l.length ≤ 1000000000):community_Valid l=some (validC l):=by
 unfold community_Valid community_ascends_api_Community__community_fits__community_compare validC
 rw [adjV (ok:=okC) (lt:=ltC2) hl fun next x i=>by simp only [fitsC_eq,compC_eq,some_bind',ge_lt];rfl]
 rfl
theorem community_ValidLarge_eq {l:List Large} (hl:l.length ≤ 1000000000):community_ValidLarge l=some (validL l):=by
 unfold community_ValidLarge community_ascends_api_Large__community_fitsLarge__community_compareLarge validL
 rw [adjV (ok:=okL) (lt:=ltC3) hl fun next x i=>by simp only [fitsL_eq,compL_eq,some_bind',ge_lt];rfl]
 rfl
theorem validC_iff {l:List Community}:validC l=true ↔ (∀c ∈ l,okC c=true)∧(l.Pairwise fun a b=>ltC2 a b=true)∧l.length ≤ 64:=by
 unfold validC
 rw [Bool.and_eq_true,Bool.and_eq_true,chainB_pw ltC2_tr,List.all_eq_true,decide_eq_true_eq,and_assoc]
theorem validL_iff {l:List Large}:validL l=true ↔ (∀c ∈ l,okL c=true)∧(l.Pairwise fun a b=>ltC3 a b=true)∧l.length ≤ 64:=by
 unfold validL
 rw [Bool.and_eq_true,Bool.and_eq_true,chainB_pw ltC3_tr,List.all_eq_true,decide_eq_true_eq,and_assoc]
end Go.AX.Q18
end
section
namespace Go.AX.Q18
open Go Go.AX
set_option maxRecDepth 8000
theorem hasR {α:Type} {e:α→α→Bool} {x:α} :∀(l:List α) (i:Nat),forR (σ:=Unit) (fun _=>some false) (fun (next:Unit→Option Bool) (y:α) _ _=>if e y x=true then some true else next ()) l i ()=some (l.any fun y=>e y x)
 | [],_=>rfl
 | y::t,i=>by
  show (if e y x=true then some true else forR _ _ t (i + 1) ())=_
  rw [hasR t (i + 1),List.any_cons]
  cases e y x<;>rfl
theorem ref17_Has_eq (l:List Community) (c:Community):ref17_Has l c=some (l.any fun y=>Community.eqd y c):=by
 unfold ref17_Has
 rw [joinP_def]
 exact hasR l 0
theorem ref17_HasLarge_eq (l:List Large) (c:Large):ref17_HasLarge l c=some (l.any fun y=>Large.eqd y c):=by
 unfold ref17_HasLarge
 rw [joinP_def]
 exact hasR l 0
theorem part_pre {α:Type} {l:List α} {n:Nat} (h:n ≤ l.length):part l 0 (n:Int)=some (l.take n):=by
 have:=part_nat (l:=l) (a:=0) (b:=n) (by omega) h
 simpa using this
theorem part_suf {α:Type} {l:List α} {n:Nat} (h:n ≤ l.length):part l (n:Int) (l.length:Int)=some (l.drop n):=by
 rw [part_nat h (Nat.le_refl _),List.take_of_length_le (by simp)]
theorem ins_part {α:Type} {b:Nat} {lt:α→α→Bool} {l:List α} {x:α} (hb:Nat.ble b 65536=true) (hl:l.length + 1 ≤ 1000000000) {ρ:Type} {K:List α→Option ρ} :
  (Option.bind (part l 0 ((l.takeWhile (lt · x)).length:Int)) fun v14=>Option.bind (apnd (α:=α) b [] v14) fun _=>Option.bind (apnd (α:=α) b v14 ([x]:List α)) fun v15=>Option.bind (part l ((l.takeWhile (lt · x)).length:Int) (l.length:Int)) fun v16=>Option.bind (apnd (α:=α) b v15 v16) K)=K (insS lt l x):=by
 have ht:=takeWhile_len_le (lt · x) l
 obtain ⟨h1,h2⟩:=takeWhile_take (lt · x) l
 rw [part_pre (by omega),some_bind',apnd_some hb (by simp;omega),some_bind',apnd_some hb (by simp;omega),some_bind',part_suf (by omega),some_bind',apnd_some hb (by simp;omega),some_bind',h1,h2]
 unfold insS
 simp
def canC:List Community→List Community:=canon Community.eqd ltC2
def canL:List Large→List Large:=canon Large.eqd ltC3
theorem ref17_Add_eq {l:List Community} {c:Community} (hv:validC l=true) (hc:okC c=true) (hl:l.length < 64):ref17_Add l c=some (if l.any (fun y=>Community.eqd y c)=true then l else insS ltC2 l c,0):=by
 unfold ref17_Add
 rw [joinP_def,ref17_Valid_eq (by omega),some_bind',hv,if_neg (by decide),rightC_eq,some_bind',hc]
 show (if (bif false then true else !true)=true then _ else _)=_
 rw [if_neg (by decide),ref17_Has_eq,some_bind']
 by_cases h:(l.any fun y=>Community.eqd y c)=true
 ·rw [if_pos h,if_pos h,apnd_some (by decide) (by simp;omega),some_bind']
 ·rw [if_neg h,if_neg h,if_neg (by simp;omega)]
  rw [posR (p:=(ltC2 · c)) (fun y k9=>Option.bind (ref17_less y c) fun v11=>k9 (cond true v11 false)) (by omega) (fun y _ k=>by rw [lessC_eq];rfl)]
  exact ins_part (K:=fun v17=>some (v17,0)) (by decide) (by omega)
theorem ref17_AddLarge_eq {l:List Large} {c:Large} (hv:validL l=true) (hc:okL c=true) (hl:l.length < 64):ref17_AddLarge l c=some (if l.any (fun y=>Large.eqd y c)=true then l else insS ltC3 l c,0):=by
 unfold ref17_AddLarge
 rw [joinP_def,ref17_ValidLarge_eq (by omega),some_bind',hv,if_neg (by decide),rightL_eq,some_bind',hc]
 show (if (bif false then true else !true)=true then _ else _)=_
 rw [if_neg (by decide),ref17_HasLarge_eq,some_bind']
 by_cases h:(l.any fun y=>Large.eqd y c)=true
 ·rw [if_pos h,if_pos h,apnd_some (by decide) (by simp;omega),some_bind']
 ·rw [if_neg h,if_neg h,if_neg (by simp;omega)]
  rw [posR (p:=(ltC3 · c)) (fun y k9=>Option.bind (ref17_lessLarge y c) fun v11=>k9 (cond true v11 false)) (by omega) (fun y _ k=>by rw [lessL_eq];rfl)]
  exact ins_part (K:=fun v17=>some (v17,0)) (by decide) (by omega)
theorem canC_spec (l:List Community):(canC l).Pairwise (fun a b=>ltC2 a b=true)∧(∀x,x ∈ canC l ↔ x ∈ l)∧(canC l).length ≤ l.length:=canon_spec eqdC ltC2_tr ltC2_tot l
theorem canL_spec (l:List Large):(canL l).Pairwise (fun a b=>ltC3 a b=true)∧(∀x,x ∈ canL l ↔ x ∈ l)∧(canL l).length ≤ l.length:=canon_spec eqdL ltC3_tr ltC3_tot l
theorem canC_valid {l:List Community} (h :∀c ∈ l,okC c=true) (hl:l.length ≤ 64):validC (canC l)=true:=by
 obtain ⟨h1,h2,h3⟩:=canC_spec l
 exact validC_iff.2 ⟨fun c hc=>h c ((h2 c).1 hc),h1,by omega⟩
theorem canL_valid {l:List Large} (h :∀c ∈ l,okL c=true) (hl:l.length ≤ 64):validL (canL l)=true:=by
 obtain ⟨h1,h2,h3⟩:=canL_spec l
 exact validL_iff.2 ⟨fun c hc=>h c ((h2 c).1 hc),h1,by omega⟩
def comms:List UInt8→List Community
 | a::b::c::d::t=>⟨getB [a,b],getB [c,d]⟩::comms t
 | _=>[]
def larges:List Int→List Large
 | a::b::c::t=>⟨a,b,c⟩::larges t
 | _=>[]
theorem comms_cons (a b c d:UInt8) (t:List UInt8):comms (a::b::c::d::t)=⟨getB [a,b],getB [c,d]⟩::comms t:=rfl
theorem larges_cons (a b c:Int) (t:List Int):larges (a::b::c::t)=⟨a,b,c⟩::larges t:=rfl
theorem comms_len :∀l:List UInt8,(comms l).length=l.length / 4
 | a::b::c::d::t=>by
  rw [comms_cons,List.length_cons,comms_len t]
  simp only [List.length_cons]
  omega
 | []=>rfl
 | [_]=>by simp [comms]
 | [_,_]=>by simp [comms]
 | [_,_,_]=>by simp [comms]
theorem larges_len :∀l:List Int,(larges l).length=l.length / 3
 | a::b::c::t=>by
  rw [larges_cons,List.length_cons,larges_len t]
  simp only [List.length_cons]
  omega
 | []=>rfl
 | [_]=>by simp [larges]
 | [_,_]=>by simp [larges]
theorem get2_rng (a b:UInt8):0 ≤ getB [a,b]∧getB [a,b] ≤ 65535:=by
 have:=val_lt [a,b]
 rw [getB_eq (by simp)]
 simp only [List.length_cons,List.length_nil] at this
 omega
theorem comms_ok :∀(l:List UInt8),∀c ∈ comms l,okC c=true
 | a::b::c::d::t=>by
  rw [comms_cons]
  intro x hx
  rcases List.mem_cons.1 hx with rfl | hx
  ·have h1:=get2_rng a b
   have h2:=get2_rng c d
   simp [okC,inR,h1,h2]
  ·exact comms_ok t x hx
 | []=>by intro n h;simp [comms] at h
 | [_]=>by intro n h;simp [comms] at h
 | [_,_]=>by intro n h;simp [comms] at h
 | [_,_,_]=>by intro n h;simp [comms] at h
theorem larges_ok :∀(l:List Int),(∀n ∈ l,0 ≤ n∧n ≤ 4294967295)→∀c ∈ larges l,okL c=true
 | a::b::c::t,h=>by
  rw [larges_cons]
  intro x hx
  rcases List.mem_cons.1 hx with rfl | hx
  ·have h1:=h a (by simp)
   have h2:=h b (by simp)
   have h3:=h c (by simp)
   simp [okL,inR,h1,h2,h3]
  ·exact larges_ok t (fun n hn=>h n (by simp [hn])) x hx
 | [],_=>by intro n h;simp [larges] at h
 | [_],_=>by intro n h;simp [larges] at h
 | [_,_],_=>by intro n h;simp [larges] at h
end Go.AX.Q18
end
section
namespace Go.AX.Q18
open Go Go.AX
set_option maxRecDepth 8000
set_option linter.unusedVariables false
end Go.AX.Q18
end
section
namespace Go.AX.Q18
open Go Go.AX
set_option maxRecDepth 8000
def validP (p:List Segment):Bool:=(ref15_Valid p).getD false
def rdOrigin (d:List UInt8):Option Int:=if d.length=1∧getB d ≤ 2 then some (getB d) else none
def rdPath (d:List UInt8):Option (List Segment):=(rdL d []).bind fun p=>if validP p=true then some p else none
def addrOf (d:List UInt8):Addr:=((addr_FromBytes d).getD (⟨false,0,0⟩,0)).1
def rdNext (d:List UInt8):Option Addr:=if d.length=4 then some (addrOf d) else none
def rd4 (d:List UInt8):Option Int:=if d.length=4 then some (getB d) else none
def rdOTC (d:List UInt8):Option Int:=if d.length=4∧getB d ≠ 0 then some (getB d) else none
def rdComm (d:List UInt8):Option (List Community):=if d.length ≠ 0∧d.length % 4=0∧d.length / 4 ≤ 64 then some (canC (comms d)) else none
def rdLarge (d:List UInt8):Option (List Large):=if d.length ≠ 0∧d.length % 12=0∧d.length / 12 ≤ 64 then some (canL (larges (nums d))) else none
def readS (a:Attrs) (t:Int) (d:List UInt8):Option Attrs:=
 if t=1 then (rdOrigin d).map fun v=>{ a with Origin:=v } else
 if t=2 then (rdPath d).map fun v=>{ a with Path:=v } else
 if t=3 then (rdNext d).map fun v=>{ a with Next:=v } else
 if t=4 then (rd4 d).map fun v=>{ a with MED:=v } else
 if t=5 then (rd4 d).map fun v=>{ a with Pref:=v } else
 if t=8 then (rdComm d).map fun v=>{ a with Communities:=v } else
 if t=32 then (rdLarge d).map fun v=>{ a with Large:=v } else
 if t=35 then (rdOTC d).map fun v=>{ a with OTC:=v } else some a
def stepS (a:Attrs) (x:Unknown):Option Attrs:=if fl x.Type_=0 then some a else if rightB x=true then readS a x.Type_ x.Data else none
instance (a0:List UInt8):Tt (addr_FromBytes a0):=by unfold addr_FromBytes;exact Tt.auto
theorem rdOTC_rng {d:List UInt8} (h:d.length=4):0 ≤ getB d∧getB d ≤ 4294967295:=by
 have:=val_lt d
 rw [getB_eq (by omega)]
 rw [h] at this
 omega
section
variable {ρ:Type} {F:Option ρ} {next:Int×Bool×UInt64×UInt64×Int×Int×Int×(List Segment)×(List Community)×(List Large)→Option ρ} {x:Unknown} {a:Attrs}
end
end Go.AX.Q18
end
section
namespace Go.AX.Q18
open Go Go.AX
set_option maxRecDepth 8000
def numB (n:Int):Bool:=decide (1 ≤ n) && decide (n ≤ 4294967295)
def okSeg (s:Segment):Bool:=decide (s.ASNs.length ≠ 0) && (s.ASNs.all numB && chainB (fun a b=>!s.Set || ltI a b) s.ASNs)
def sgl (a b:Segment):Bool:=b.Set || a.Set
def tot (p:List Segment):Nat:=p.foldl (fun n s=>n + s.ASNs.length) 0
theorem tot_from (p:List Segment) (n:Nat):p.foldl (fun n s=>n + s.ASNs.length) n=n + tot p:=by
 unfold tot
 induction p generalizing n with
 | nil=>rfl
 | cons s t ih=>rw [List.foldl_cons,List.foldl_cons,ih,ih (0 + _)];omega
theorem tot_cons (s:Segment) (p:List Segment):tot (s::p)=s.ASNs.length + tot p:=by
 conv=>lhs;unfold tot
 rw [List.foldl_cons,tot_from];omega
theorem tot_app (p q:List Segment):tot (p ++ q)=tot p + tot q:=by
 induction p with
 | nil=>rw [List.nil_append];exact (Nat.zero_add _).symm
 | cons s t ih=>rw [List.cons_append,tot_cons,tot_cons,ih];omega
theorem tot_mem {p:List Segment} {s:Segment} (h:s ∈ p):s.ASNs.length ≤ tot p:=by
 induction p with
 | nil=>simp at h
 | cons x t ih=>
  rw [tot_cons]
  rcases List.mem_cons.1 h with rfl | h
  ·omega
  ·have:=ih h;omega
def vpath (p:List Segment):Bool:=p.all okSeg && chainB sgl p && decide (tot p ≤ 64)
theorem sum_i64 :∀(p:List Segment) (n:Nat),n + tot p ≤ 1000000000→p.foldl (fun (v:Int) s=>i64w (v + (s.ASNs.length:Int))) (n:Int)=((n + tot p:Nat):Int)
 | [],n,_=>rfl
 | s::t,n,h=>by
  rw [tot_cons] at h
  rw [List.foldl_cons,tot_cons,i64w_id (by omega),show (n:Int) + (s.ASNs.length:Int)=((n + s.ASNs.length:Nat):Int) by omega,sum_i64 t _ (by omega)]
  congr 1
  omega
theorem seg_inner {s:Segment} (hl:s.ASNs.length ≤ 1000000000) {K:Unit→Option Bool} {body:(Unit→Option Bool)→Int→Nat→Unit→Option Bool}
  (hb :∀next x i,body next x i ()=joinP (τ:=Bool) (fun k14=>if (!numB x)=true then k14 true else if s.Set=true then if (cond true (decide ((i:Int) > 0)) false)=true then Option.bind (geti s.ASNs (i64w ((i:Int) - 1))) fun v15=>k14 (cond false true (cond true (decide (v15 ≥ x)) false)) else k14 false else k14 false) fun v16=>if v16=true then some false else next ()) :
  forR K body s.ASNs 0 ()=if s.ASNs.all numB && chainB (fun a b=>!s.Set || ltI a b) s.ASNs then K () else some false:=by
 refine adjR (by omega) (fun next x _=>?_) fun next x y i _ _ hg=>?_
 ·rw [hb,joinP_def]
  cases numB x<;>cases s.Set<;>rfl
 ·rw [hb,joinP_def,hg,some_bind']
  have e:decide (((i + 1:Nat):Int) > 0)=true:=by simp
  have e2:decide (y ≥ x)=!ltI y x:=by unfold ltI;rw [Bool.eq_iff_iff];simp
  rw [e,e2]
  cases numB x<;>cases s.Set<;>cases ltI y x<;>rfl
theorem seg_outer {p:List Segment} (hl:p.length ≤ 1000000000) (ht:tot p ≤ 1000000000) {body:(Int→Option Bool)→Segment→Nat→Int→Option Bool} {inner:Segment→(Unit→Option Bool)→Int→Nat→Unit→Option Bool}
  (hb :∀next x i v,body next x i v=joinP (τ:=Unit) (fun k6=>joinP (τ:=Bool) (fun k7=>if ((x.ASNs.length:Int) == 0)=true then k7 true else if (decide ((i:Int) > 0))=true then if (cond true (!x.Set) false)=true then Option.bind (geti p (i64w ((i:Int) - 1))) fun v8=>k7 (cond false true (cond true (!v8.Set) false)) else k7 false else k7 false) fun v9=>if v9=true then some false else joinP (τ:=Unit) (fun k10=>forR (σ:=Unit) (fun _=>k10 ()) (inner x) x.ASNs 0 ()) fun _=>k6 ()) fun _=>next (i64w (v + (x.ASNs.length:Int))))
  (hi :∀s next x i,inner s next x i ()=joinP (τ:=Bool) (fun k14=>if (!numB x)=true then k14 true else if s.Set=true then if (cond true (decide ((i:Int) > 0)) false)=true then Option.bind (geti s.ASNs (i64w ((i:Int) - 1))) fun v15=>k14 (cond false true (cond true (decide (v15 ≥ x)) false)) else k14 false else k14 false) fun v16=>if v16=true then some false else next ()) :
  (joinP (τ:=Int) (fun k1=>forR (σ:=Int) (fun v=>k1 v) body p 0 0) fun v=>some (decide (v ≤ 64)))=some (vpath p):=by
 rw [joinP_def]
 have hin :∀s ∈ p,∀K:Unit→Option Bool,forR K (inner s) s.ASNs 0 ()=if s.ASNs.all numB && chainB (fun a b=>!s.Set || ltI a b) s.ASNs then K () else some false:=fun s hs K=>seg_inner (by have:=tot_mem hs;omega) (hi s)
 refine (adjRS (g:=fun (v:Int) s=>i64w (v + (s.ASNs.length:Int))) (ok:=okSeg) (lt:=sgl) (F:=some false) (by omega) (fun next x v hx=>?_) fun next x y i v hx _ hg=>?_).trans ?_
 ·rw [hb,joinP_def,joinP_def]
  unfold okSeg
  by_cases h0:x.ASNs.length=0
  ·have e:((x.ASNs.length:Int) == 0)=true:=by simp [h0]
   rw [if_pos e]
   simp [h0]
  ·have e:¬ ((x.ASNs.length:Int) == 0)=true:=by simpa using h0
   rw [if_neg e,if_neg (by simp)]
   show (if false=true then _ else _)=_
   rw [if_neg (by decide),joinP_def,hin x hx]
   simp only [h0,ne_eq,not_false_eq_true,decide_true,Bool.true_and]
 ·rw [hb,joinP_def,joinP_def,hg]
  unfold okSeg sgl
  by_cases h0:x.ASNs.length=0
  ·have e:((x.ASNs.length:Int) == 0)=true:=by simp [h0]
   rw [if_pos e]
   simp [h0]
  ·have e:¬ ((x.ASNs.length:Int) == 0)=true:=by simpa using h0
   have e2:decide (((i + 1:Nat):Int) > 0)=true:=by simp
   rw [if_neg e,if_pos e2,some_bind',joinP_def,hin x hx]
   simp only [h0,ne_eq,not_false_eq_true,decide_true,Bool.true_and]
   generalize (x.ASNs.all numB && chainB (fun a b=>!x.Set || ltI a b) x.ASNs)=c
   cases x.Set<;>cases y.Set<;>cases c<;>rfl
 ·have hs:=sum_i64 p 0 (by omega)
  rw [Nat.zero_add] at hs
  have hs:p.foldl (fun (v:Int) s=>i64w (v + (s.ASNs.length:Int))) 0=(tot p:Int):=hs
  rw [hs]
  unfold vpath
  have e:decide ((tot p:Int) ≤ 64)=decide (tot p ≤ 64):=by rw [Bool.eq_iff_iff];simp;omega
  simp only [e]
  generalize (p.all okSeg && chainB sgl p)=c
  cases c<;>rfl
theorem ref15_Valid_eq {p:List Segment} (hl:p.length ≤ 1000000000) (ht:tot p ≤ 1000000000):ref15_Valid p=some (vpath p):=by
 unfold ref15_Valid
 refine seg_outer hl ht (fun next x i v=>rfl) fun s next x i=>?_
 have e:(!numB x)=(decide (x < 1) || decide (x > 4294967295)):=by unfold numB;rw [Bool.eq_iff_iff];simp<;>omega
 rw [joinP_def,joinP_def,e]
 cases decide (x < 1)<;>cases decide (x > 4294967295)<;>rfl
theorem aspath_Valid_eq {p:List Segment} (hl:p.length ≤ 1000000000) (ht:tot p ≤ 1000000000):aspath_Valid p=some (vpath p):=by
 unfold aspath_Valid
 refine seg_outer hl ht (fun next x i v=>rfl) fun s next x i=>?_
 rw [number_eq]
 rfl
theorem validP_eq {p:List Segment} (hl:p.length ≤ 1000000000) (ht:tot p ≤ 1000000000):validP p=vpath p:=by
 unfold validP
 rw [ref15_Valid_eq hl ht];rfl
theorem addSeg_size (p:List Segment) (b:Bool) {m:List Int} (hm:m.length ≤ 1000000):(addSeg p b m).length ≤ p.length + 1∧tot (addSeg p b m) ≤ tot p + m.length:=by
 unfold addSeg
 cases b
 ·simp only [Bool.false_eq_true,if_false]
  rcases List.eq_nil_or_concat p with rfl | ⟨q,s,rfl⟩
  ·exact ⟨by simp,by simp [tot]⟩
  ·rw [List.concat_eq_append]
   simp only [List.getLast?_concat,List.dropLast_concat]
   split
   ·rw [tot_app,tot_cons]
    exact ⟨by simp,by simp [tot]⟩
   ·rw [tot_app,tot_cons,tot_app,tot_cons]
    exact ⟨by simp,by simp [tot];omega⟩
 ·simp only [if_true]
  rw [tot_app,tot_cons]
  have:=srt_len hm
  exact ⟨by simp,by simp only [tot,List.foldl_nil];omega⟩
theorem rdSeg_size :∀(n:Nat) (b:List UInt8) (p q:List Segment),b.length ≤ 1000000→rdSeg n b p=some q→q.length ≤ p.length + b.length∧tot q ≤ tot p + b.length
 | n,[],p,q,_,h=>by
  rw [rdSeg_nil] at h
  obtain rfl:=Option.some.inj h
  exact ⟨Nat.le_refl _,Nat.le_refl _⟩
 | n + 1,[x],p,q,_,h=>by simp [rdSeg] at h
 | n + 1,k::c::t,p,q,hb,h=>by
  simp only [List.length_cons] at hb
  simp only [rdSeg] at h
  split at h
  ·cases h
  ·rename_i hk
   have h1:=rdSeg_size n _ _ _ (by simp only [List.length_drop];omega) h
   have hn:(nums (t.take (4 * c.toNat))).length=c.toNat:=by rw [nums_len,List.length_take];omega
   have hc:=c.toNat_lt
   have h2:=addSeg_size p (k.toNat == 1) (m:=nums (t.take (4 * c.toNat))) (by omega)
   simp only [List.length_drop] at h1
   simp only [List.length_cons]
   omega
 | 0,x::b,p,q,_,h=>by
  have:rdSeg 0 (x::b) p=none:=by cases b<;>rfl
  rw [this] at h;simp at h
theorem rdL_size {b:List UInt8} {q:List Segment} (hb:b.length ≤ 1000000) (h:rdL b []=some q):q.length ≤ 1000000∧tot q ≤ 1000000:=by
 have:=rdSeg_size _ _ _ _ hb h
 simp only [List.length_nil,tot,List.foldl_nil] at this
 unfold tot
 omega
section
variable {ρ:Type} {F:Option ρ} {next:Int×Bool×UInt64×UInt64×Int×Int×Int×(List Segment)×(List Community)×(List Large)→Option ρ} {x:Unknown} {a:Attrs}
end
end Go.AX.Q18
end
section
namespace Go.AX.Q18
open Go Go.AX
set_option maxRecDepth 8000
section
variable {ρ:Type} {F:Option ρ} {next:Int×(List Segment)×Bool×UInt64×UInt64×Int×Int×Int×(List Community)×(List Large)→Option ρ} {x:Unknown} {a:Attrs}
end
end Go.AX.Q18
end
section
namespace Go.AX.Q18
open Go Go.AX
set_option maxRecDepth 8000
def Dist (l:List Unknown):Prop:=l.Pairwise fun a b=>a.Type_ ≠ b.Type_
structure Fit (l:List Unknown) (a:Attrs):Prop where
 d:Dist l
 z :∀x ∈ l,x.Data.length ≤ 1000000
 p :∀x ∈ l,x.Type_=2→a.Path=[]
 c :∀x ∈ l,x.Type_=8→a.Communities=[]
 l :∀x ∈ l,x.Type_=32→a.Large=[]
theorem stepS_keeps {a a':Attrs} {x:Unknown} (h:stepS a x=some a'):(x.Type_ ≠ 2→a'.Path=a.Path)∧(x.Type_ ≠ 8→a'.Communities=a.Communities)∧(x.Type_ ≠ 32→a'.Large=a.Large)∧a'.Other=a.Other:=by
 unfold stepS at h
 split at h
 ·obtain rfl:=Option.some.inj h
  exact ⟨fun _=>rfl,fun _=>rfl,fun _=>rfl,rfl⟩
 ·split at h
  ·unfold readS at h
   rcases fl_cases x.Type_ with ⟨e,_⟩ | ⟨e,_⟩ | ⟨e,_⟩ | ⟨e,_⟩ | ⟨e,_⟩ | ⟨e,_⟩ | ⟨e,_⟩ | ⟨e,_⟩ | ⟨e1,e2,e3,e4,e5,e6,e7,e8,_⟩
   iterate 8
    ·rw [e] at h ⊢
     obtain ⟨v,_,rfl⟩:=Option.map_eq_some_iff.1 h
     exact ⟨fun q=>by first | rfl | exact absurd rfl q,fun q=>by first | rfl | exact absurd rfl q,fun q=>by first | rfl | exact absurd rfl q,rfl⟩
   ·rw [if_neg e1,if_neg e2,if_neg e3,if_neg e4,if_neg e5,if_neg e6,if_neg e7,if_neg e8] at h
    obtain rfl:=Option.some.inj h
    exact ⟨fun _=>rfl,fun _=>rfl,fun _=>rfl,rfl⟩
  ·simp at h
theorem Fit.next {x:Unknown} {t:List Unknown} {a a':Attrs} (f:Fit (x::t) a) (h:stepS a x=some a'):Fit t a':=by
 obtain ⟨k1,k2,k3,_⟩:=stepS_keeps h
 obtain ⟨d1,d2⟩:=List.pairwise_cons.1 f.d
 exact ⟨d2,fun y hy=>f.z y (List.mem_cons_of_mem _ hy),fun y hy e=>(k1 (e ▸ d1 y hy)).trans (f.p y (List.mem_cons_of_mem _ hy) e),
  fun y hy e=>(k2 (e ▸ d1 y hy)).trans (f.c y (List.mem_cons_of_mem _ hy) e),fun y hy e=>(k3 (e ▸ d1 y hy)).trans (f.l y (List.mem_cons_of_mem _ hy) e)⟩
def conv (x:Unknown):Unknown:=⟨224,x.Type_,x.Data⟩
def keyU (x:Unknown):List Int:=[x.Type_]
theorem keyU_len (a b:Unknown):(keyU a).length=(keyU b).length:=rfl
theorem pw_le_one {α:Type} {R:α→α→Prop} {c:Bool} {x:α}:(if c=true then [x] else []).Pairwise R:=by
 cases c
 ·exact .nil
 ·exact List.pairwise_singleton _ _
end Go.AX.Q18
end
section
namespace Go.AX.Q18
open Go Go.AX
set_option maxRecDepth 8000
def eA:Attrs:=⟨(-1),[],(⟨false,(0:UInt64),(0:UInt64)⟩:Addr),(-1),(-1),(-1),[],[],[]⟩
theorem flat_len {α β:Type} {g:α→List β} (hg :∀x,(g x).length ≤ 1) :∀l:List α,(l.flatMap g).length ≤ l.length
 | []=>by simp
 | x::t=>by
  rw [List.flatMap_cons,List.length_append,List.length_cons]
  have:=flat_len hg t
  have:=hg x
  omega
theorem Read2_eq (a b:Unknown):attribute_Read_2 a b=some (lexC (keyU a) (keyU b)):=by
 unfold attribute_Read_2 keyU
 rw [cmpI_eq,some_bind']
 unfold cmpI lexC lexC
 rfl
end Go.AX.Q18
end
section
namespace Go.AX.Q18
open Go Go.AX
set_option maxRecDepth 8000
def Dk (d:Deck):Prop:=0 ≤ d.At∧d.L.length ≤ 9223372036854775807
theorem make_Mod_plain {v n:Int} (hn:1 ≤ n∧n ≤ 4611686018427387904):Ok (make_Mod v n) fun r=>0 ≤ r∧r < n:=by
 unfold make_Mod
 have h1:=Int.tmod_lt_of_pos v (show 0 < n by omega)
 have h2:-n < Int.tmod v n:=by
  have:=Int.lt_tmod_of_pos v (show 0 < n by omega)
  exact this
 refine .bind (.chk (by omega)) fun _ _=>.join (fun r=>0 ≤ r∧r < n) (fun k hk=>.ite (fun hc=>hk _ ?_) fun hc=>hk _ ?_) fun r hr=>.ret hr
 ·simp only [decide_eq_true_eq] at hc
  rw [i64w_id (by omega)]
  omega
 ·simp only [decide_eq_true_eq] at hc
  omega
theorem make_Next_plain {d:Deck} {n:Int} (hd:Dk d) (hn:1 ≤ n∧n ≤ 4611686018427387904):Ok (make_Deck_Next d n) fun r=>0 ≤ r.1∧r.1 < n∧Dk r.2:=by
 obtain ⟨h1,h2⟩:=hd
 unfold make_Deck_Next
 refine .ite (fun _=>.ret ⟨by simp,by simp;omega,h1,h2⟩) fun h=>?_
 simp only [decide_eq_true_eq] at h
 have e:i64w (i64w (d.At + 1) - 1)=d.At:=by rw [i64w_id (x:=d.At + 1) (by omega),i64w_id (by omega)];omega
 rw [e,i64w_id (x:=d.At + 1) (by omega)]
 refine .bind (.geti (by omega)) fun v _=>.bind (make_Mod_plain hn) fun r hr=>.ret ⟨hr.1,hr.2,by simp only;omega,h2⟩
theorem make_Bytes_plain {d:Deck} {n:Int} (hd:Dk d) (hn:0 ≤ n∧n ≤ 1000):Ok (make_Deck_Bytes d n) fun r=>(r.1.length:Int) ≤ n∧Dk r.2:=by
 unfold make_Deck_Bytes
 rw [i64w_id (by omega)]
 refine .bind (make_Next_plain hd (by omega)) ?_
 rintro ⟨v,d⟩ ⟨v1,v2,hd⟩
 dsimp only at v1 v2 hd ⊢
 refine .join (fun p:Deck×List UInt8=>Dk p.1∧(p.2.length:Int) ≤ n) (fun k hk=>?_) fun p hp=>.ret ⟨hp.2,hp.1⟩
 refine .whileI (fun s:Int×Deck×List UInt8=>0 ≤ s.1∧s.1 + s.2.2.length ≤ n∧Dk s.2.1) (fun s=>s.1.toNat) ⟨v1,by simp only [List.length_nil];omega,hd⟩ (lt_fuel (by simp only;omega)) ?_
 rintro next ⟨c,d,l⟩ ⟨h1,h2,h3⟩ hnx
 dsimp only at h1 h2 h3 ⊢
 refine .ite (fun h=>?_) fun h=>hk (d,l) ⟨h3,by dsimp only;omega⟩
 simp only [decide_eq_true_eq] at h
 refine .bind (make_Next_plain h3 (by omega)) ?_
 rintro ⟨w,d⟩ ⟨w1,w2,hd⟩
 dsimp only at w1 w2 hd ⊢
 refine .bind (Ok.apnd (by decide) (by simp;omega)) fun l2 hl2=>?_
 rw [i64w_id (by omega)]
 exact hnx _ ⟨by dsimp only;omega,by rw [hl2];simp only [List.length_append,List.length_singleton];omega,hd⟩ (by dsimp only;omega)
theorem make_asn_plain {d:Deck} (hd:Dk d):Ok (make_Deck_asn d) fun r=>Dk r.2:=by
 unfold make_Deck_asn
 refine .bind (make_Next_plain hd (by omega)) ?_
 rintro ⟨v,d⟩ ⟨v1,v2,hd⟩
 refine .bind (make_Next_plain hd (by omega)) ?_
 rintro ⟨w,d⟩ ⟨w1,w2,hd⟩
 refine .bind (make_Next_plain hd (by omega)) ?_
 rintro ⟨u,d⟩ ⟨u1,u2,hd⟩
 exact .bind (.geti (by simp only [List.length_cons,List.length_nil];omega)) fun x _=>.ret hd
theorem make_Path_plain {d:Deck} (hd:Dk d):Ok (make_Deck_Path d) fun r=>(r.1.length ≤ 3∧tot r.1 ≤ 12∧vpath r.1=true)∧Dk r.2:=by
 unfold make_Deck_Path
 refine .bind (make_Next_plain hd (by omega)) ?_
 rintro ⟨v,d⟩ ⟨v1,v2,hd⟩
 dsimp only at v1 v2 hd ⊢
 refine .join (fun p:Deck×List Segment=>(p.2.length ≤ 3∧tot p.2 ≤ 12∧vpath p.2=true)∧Dk p.1) (fun k hk=>?_) fun p hp=>.ret hp
 refine .whileI (fun s:Int×Deck×List Segment=>(0 ≤ s.1∧s.1 + s.2.2.length ≤ 3∧4 * s.1 + tot s.2.2 ≤ 12∧vpath s.2.2=true)∧Dk s.2.1) (fun s=>s.1.toNat) ⟨⟨v1,by simp only [List.length_nil];omega,by simp only [tot,List.foldl_nil];omega,rfl⟩,hd⟩ (lt_fuel (by simp only;omega)) ?_
 rintro next ⟨c,d,p⟩ ⟨⟨h1,h2,h3,h4⟩,hd⟩ hnx
 dsimp only at h1 h2 h3 h4 hd ⊢
 refine .ite (fun h=>?_) fun h=>hk (d,p) ⟨⟨by dsimp only;omega,by dsimp only;omega,h4⟩,hd⟩
 simp only [decide_eq_true_eq] at h
 refine .join (fun q:Deck×List Segment=>(q.2.length ≤ p.length + 1∧tot q.2 ≤ tot p + 4∧vpath q.2=true)∧Dk q.1) (fun k8 hk8=>?_) ?_
 rotate_left
 ·rintro ⟨d,q⟩ ⟨⟨q1,q2,q3⟩,hd⟩
  dsimp only at q1 q2 q3 hd ⊢
  rw [i64w_id (by omega)]
  exact hnx _ ⟨⟨by dsimp only;omega,by dsimp only;omega,by dsimp only;omega,q3⟩,hd⟩ (by dsimp only;omega)
 refine .join (fun q:Bool×Deck=>Dk q.2) (fun k9 hk9=>?_) ?_
 ·refine .ite (fun hl=>?_) fun _=>.bind (make_Next_plain hd (by omega)) fun r hr=>hk9 _ hr.2.2
  simp only [decide_eq_true_eq] at hl
  rw [i64w_id (by omega)]
  exact .bind (.geti (by omega)) fun s _=>.ite (fun _=>hk9 _ hd) fun _=>.bind (make_Next_plain hd (by omega)) fun r hr=>hk9 _ hr.2.2
 rintro ⟨set,d⟩ hd
 dsimp only at hd ⊢
 refine .bind (make_Next_plain hd (by omega)) ?_
 rintro ⟨n,d⟩ ⟨n1,n2,hd⟩
 dsimp only at n1 n2 hd ⊢
 rw [i64w_id (x:=1 + n) (by omega)]
 refine .join (fun q:Deck×List Int=>q.2.length ≤ 4∧Dk q.1) (fun k19 hk19=>?_) ?_
 ·refine .whileI (fun s:Int×Deck×List Int=>(0 ≤ s.1∧s.1 + s.2.2.length ≤ 4)∧Dk s.2.1) (fun s=>s.1.toNat) ⟨⟨by dsimp only;omega,by simp only [List.length_nil];omega⟩,hd⟩ (lt_fuel (by simp only;omega)) ?_
  rintro next ⟨m,d,l⟩ ⟨⟨m1,m2⟩,hd⟩ hnx
  dsimp only at m1 m2 hd ⊢
  refine .ite (fun hm=>?_) fun _=>hk19 (d,l) ⟨by dsimp only;omega,hd⟩
  simp only [decide_eq_true_eq] at hm
  refine .join (fun q:Deck×List Int=>q.2.length ≤ l.length + 1∧Dk q.1) (fun k24 hk24=>?_) ?_
  ·refine .bind (make_asn_plain hd) ?_
   rintro ⟨x,d⟩ hd
   dsimp only at hd ⊢
   refine .ite (fun _=>.bind (Ok.apnd (by decide) (by simp;omega)) fun r hr=>hk24 (d,r) ⟨by rw [hr];simp,hd⟩) fun _=>?_
   refine Ok.pos (n:=l.length) (by omega) (fun k' w w1 w2 hk'=>.ite (fun hw=>?_) fun _=>hk' _ (by simp)) fun w w1 w2=>?_
   ·simp only [decide_eq_true_eq] at hw
    exact .bind (.geti (by omega)) fun y _=>hk' _ fun _=>hw
   ·refine .join (fun _=>True) (fun k35 hk35=>.ite (fun _=>hk35 _ trivial) fun hw=>.bind (.geti ?_) fun y _=>hk35 _ trivial) fun b _=>?_
    ·simp only [beq_iff_eq] at hw
     omega
    ·refine .join (fun q:List Int=>q.length ≤ l.length + 1) (fun k38 hk38=>.ite (fun _=>?_) fun _=>hk38 _ (by omega)) fun q hq=>hk24 (d,q) ⟨hq,hd⟩
     refine .bind (Ok.chk (by omega)) fun _ _=>.bind (Ok.apnd (by decide) (by simp;omega)) fun _ _=>.bind (Ok.apnd (by decide) (by simp;omega)) fun a ha=>.bind (Ok.chk (by omega)) fun _ _=>.bind (Ok.apnd (by decide) (by rw [ha];simp;omega)) fun b hb=>hk38 _ ?_
     rw [hb,ha]
     simp only [List.length_append,List.length_take,List.length_drop,List.length_singleton]
     omega
  ·rintro ⟨d,q⟩ ⟨q1,hd⟩
   dsimp only at q1 hd ⊢
   rw [i64w_id (by omega)]
   exact hnx _ ⟨⟨by dsimp only;omega,by dsimp only;omega⟩,hd⟩ (by dsimp only;omega)
 rintro ⟨d,l⟩ ⟨l1,hd⟩
 dsimp only at l1 hd ⊢
 refine .bind (Ok.apnd (by decide) (by simp;omega)) fun p2 hp2=>?_
 have ht:tot p2=tot p + l.length:=by rw [hp2,tot_app,tot_cons];simp [tot]
 have hl2:p2.length=p.length + 1:=by rw [hp2];simp
 rw [ref15_Valid_eq (by omega) (by omega),some_bind']
 refine .join (fun q:List Segment=>q.length ≤ p.length + 1∧tot q ≤ tot p + 4∧vpath q=true) (fun k48 hk48=>.ite (fun _=>?_) fun hv=>hk48 p2 ⟨by omega,by omega,by simpa using hv⟩) fun q hq=>hk8 (d,q) ⟨hq,hd⟩
 rw [i64w_id (by omega)]
 refine .bind (Ok.part (by omega)) fun q hq=>hk48 q ?_
 have e:q=p:=by
  rw [hq.1,hp2]
  have:(((p ++ [(⟨set,l⟩:Segment)]).length:Int) - 1).toNat=p.length:=by simp
  rw [this]
  simp
 rw [e]
 exact ⟨by omega,by omega,h4⟩
theorem validC_add {l:List Community} {c:Community} (hv:validC l=true) (hc:okC c=true) (hl:l.length < 64):validC (if l.any (fun y=>Community.eqd y c)=true then l else insS ltC2 l c)=true∧(if l.any (fun y=>Community.eqd y c)=true then l else insS ltC2 l c).length ≤ l.length + 1:=by
 split
 ·exact ⟨hv,by omega⟩
 ·rename_i h
  obtain ⟨h1,h2,h3⟩:=validC_iff.1 hv
  have hx:c ∉ l:=fun q=>h (List.any_eq_true.2 ⟨c,q,(eqdC _ _).2 rfl⟩)
  rw [validC_iff,insS_len]
  refine ⟨⟨fun y hy=>?_,insS_sorted ltC2_tr ltC2_tot h2 hx,by omega⟩,by omega⟩
  rcases insS_mem.1 hy with hy | rfl
  ·exact h1 y hy
  ·exact hc
theorem validL_add {l:List Large} {c:Large} (hv:validL l=true) (hc:okL c=true) (hl:l.length < 64):validL (if l.any (fun y=>Large.eqd y c)=true then l else insS ltC3 l c)=true∧(if l.any (fun y=>Large.eqd y c)=true then l else insS ltC3 l c).length ≤ l.length + 1:=by
 split
 ·exact ⟨hv,by omega⟩
 ·rename_i h
  obtain ⟨h1,h2,h3⟩:=validL_iff.1 hv
  have hx:c ∉ l:=fun q=>h (List.any_eq_true.2 ⟨c,q,(eqdL _ _).2 rfl⟩)
  rw [validL_iff,insS_len]
  refine ⟨⟨fun y hy=>?_,insS_sorted ltC3_tr ltC3_tot h2 hx,by omega⟩,by omega⟩
  rcases insS_mem.1 hy with hy | rfl
  ·exact h1 y hy
  ·exact hc
theorem make_Communities_plain {d:Deck} (hd:Dk d):Ok (make_Deck_Communities d) fun r=>(validC r.1=true∧r.1.length ≤ 4)∧(validL r.2.1=true∧r.2.1.length ≤ 3)∧Dk r.2.2:=by
 unfold make_Deck_Communities
 refine .bind (make_Next_plain hd (by omega)) ?_
 rintro ⟨v,d⟩ ⟨v1,v2,hd⟩
 dsimp only at v1 v2 hd ⊢
 refine .join (fun p:List Community×Deck=>(validC p.1=true∧p.1.length ≤ 4)∧Dk p.2) (fun k hk=>?_) ?_
 ·refine .whileI (fun s:List Community×Int×Deck=>(validC s.1=true∧0 ≤ s.2.1∧s.2.1 + s.1.length ≤ 4)∧Dk s.2.2) (fun s=>s.2.1.toNat) ⟨⟨rfl,v1,by simp only [List.length_nil];omega⟩,hd⟩ (lt_fuel (by simp only;omega)) ?_
  rintro next ⟨l,c,d⟩ ⟨⟨h1,h2,h3⟩,hd⟩ hnx
  dsimp only at h1 h2 h3 hd ⊢
  refine .ite (fun h=>?_) fun _=>hk (l,d) ⟨⟨h1,by dsimp only;omega⟩,hd⟩
  simp only [decide_eq_true_eq] at h
  refine .bind (make_Next_plain hd (by omega)) ?_
  rintro ⟨a,d⟩ ⟨a1,a2,hd⟩
  dsimp only at a1 a2 hd ⊢
  refine .bind (.geti (by simp only [List.length_cons,List.length_nil];omega)) fun x hx=>.bind (make_Next_plain hd (by omega)) ?_
  rintro ⟨b,d⟩ ⟨b1,b2,hd⟩
  dsimp only at b1 b2 hd ⊢
  refine .bind (make_Next_plain hd (by omega)) ?_
  rintro ⟨e,d⟩ ⟨e1,e2,hd⟩
  dsimp only at e1 e2 hd ⊢
  refine .bind (.geti (by simp only [List.length_cons,List.length_nil];omega)) fun y hy=>?_
  have hok:okC ⟨x,y⟩=true:=by
   have g1:=hx.1
   have g2:=hy.1
   rw [i64w_id (by omega)] at g2
   simp only [List.mem_cons,List.not_mem_nil,or_false] at g1 g2
   simp only [okC,inR,Bool.and_eq_true,decide_eq_true_eq]
   omega
  have hadd:=validC_add h1 hok (by omega)
  rw [ref17_Add_eq h1 hok (by omega),some_bind',i64w_id (by omega)]
  dsimp only
  exact hnx _ ⟨⟨hadd.1,by dsimp only;omega,by have:=hadd.2;dsimp only;omega⟩,hd⟩ (by dsimp only;omega)
 rintro ⟨l,d⟩ ⟨hl,hd⟩
 dsimp only at hl hd ⊢
 refine .bind (make_Next_plain hd (by omega)) ?_
 rintro ⟨v,d⟩ ⟨v1,v2,hd⟩
 dsimp only at v1 v2 hd ⊢
 refine .join (fun p:List Large×Deck=>(validL p.1=true∧p.1.length ≤ 3)∧Dk p.2) (fun k hk=>?_) ?_
 ·refine .whileI (fun s:List Large×Int×Deck=>(validL s.1=true∧0 ≤ s.2.1∧s.2.1 + s.1.length ≤ 3)∧Dk s.2.2) (fun s=>s.2.1.toNat) ⟨⟨rfl,v1,by simp only [List.length_nil];omega⟩,hd⟩ (lt_fuel (by simp only;omega)) ?_
  rintro next ⟨l,c,d⟩ ⟨⟨h1,h2,h3⟩,hd⟩ hnx
  dsimp only at h1 h2 h3 hd ⊢
  refine .ite (fun h=>?_) fun _=>hk (l,d) ⟨⟨h1,by dsimp only;omega⟩,hd⟩
  simp only [decide_eq_true_eq] at h
  refine .bind (make_Next_plain hd (by omega)) ?_
  rintro ⟨a,d⟩ ⟨a1,a2,hd⟩
  dsimp only at a1 a2 hd ⊢
  refine .bind (.geti (by simp only [List.length_cons,List.length_nil];omega)) fun x hx=>.bind (make_Next_plain hd (by omega)) ?_
  rintro ⟨b,d⟩ ⟨b1,b2,hd⟩
  dsimp only at b1 b2 hd ⊢
  refine .bind (make_Next_plain hd (by omega)) ?_
  rintro ⟨e,d⟩ ⟨e1,e2,hd⟩
  dsimp only at e1 e2 hd ⊢
  have hok:okL ⟨x,b,e⟩=true:=by
   have g1:=hx.1
   simp only [List.mem_cons,List.not_mem_nil,or_false] at g1
   simp only [okL,inR,Bool.and_eq_true,decide_eq_true_eq]
   omega
  have hadd:=validL_add h1 hok (by omega)
  rw [ref17_AddLarge_eq h1 hok (by omega),some_bind',i64w_id (by omega)]
  dsimp only
  exact hnx _ ⟨⟨hadd.1,by dsimp only;omega,by have:=hadd.2;dsimp only;omega⟩,hd⟩ (by dsimp only;omega)
 rintro ⟨m,d⟩ ⟨hm,hd⟩
 exact .ret ⟨hl,hm,hd⟩
def Addr.ok (a:Addr):Bool:=cond a.V6 true (cond ((a.Hi.toNat:Int) == 0) (decide ((a.Lo.toNat:Int) < 4294967296)) false)
def okO (x:Unknown):Bool:=decide (1 ≤ x.Type_∧x.Type_ ≤ 255) && (unk x.Type_ && (decide (x.Flags=224) && decide (x.Data.length ≤ 255)))
def ltT (a b:Unknown):Bool:=decide (a.Type_ < b.Type_)
def validO (l:List Unknown):Bool:=l.all okO && chainB ltT l
def validA (a:Attrs):Bool:=validO a.Other && (decide (-1 ≤ a.Origin∧a.Origin ≤ 2) && (vpath a.Path && (a.Next.ok && (decide (-1 ≤ a.MED∧a.MED ≤ 4294967295) && (decide (-1 ≤ a.Pref∧a.Pref ≤ 4294967295) && ((decide (a.OTC=-1) || numB a.OTC) && (validC a.Communities && (validL a.Large && decide (a.Other.length ≤ 8)))))))))
theorem ltT_tr (a b c:Unknown) (h1:ltT a b=true) (h2:ltT b c=true):ltT a c=true:=by simp only [ltT,decide_eq_true_eq] at *;omega
structure SmA (a:Attrs):Prop where
 p:a.Path.length ≤ 1000000
 t:tot a.Path ≤ 1000000
 c:a.Communities.length ≤ 1000000
 l:a.Large.length ≤ 1000000
 o:a.Other.length ≤ 1000000
 d :∀u ∈ a.Other,u.Data.length ≤ 1000000
theorem ref01_Valid_eq (a:Addr):ref01_Valid a=some a.ok:=by
 unfold ref01_Valid Addr.ok
 rw [joinP_def]
 generalize ((a.Hi.toNat:Int) == 0)=x
 generalize decide ((a.Lo.toNat:Int) < 4294967296)=y
 generalize a.V6=z
 cases z<;>cases x<;>rfl
theorem addr_Valid_eq (a:Addr):addr_Valid a=some a.ok:=ref01_Valid_eq a
theorem make_Attrs_plain {d:Deck} (hd:Dk d):Ok (make_Deck_Attrs d) fun r=>(validA r.1=true∧r.1.Path.length ≤ 3∧tot r.1.Path ≤ 12∧r.1.Communities.length ≤ 4∧r.1.Large.length ≤ 3∧r.1.Other.length ≤ 6∧∀u ∈ r.1.Other,u.Data.length ≤ 9)∧Dk r.2:=by
 unfold make_Deck_Attrs
 rw [joinP_def]
 refine .bind (make_Next_plain hd (by omega)) ?_
 rintro ⟨o,d⟩ ⟨o1,o2,hd⟩
 dsimp only at o1 o2 hd ⊢
 refine .bind (make_Path_plain hd) ?_
 rintro ⟨p,d⟩ ⟨hp,hd⟩
 dsimp only at hp hd ⊢
 have e4:make_four 3=some ⟨false,(0:UInt64),(toU64 (3221225984 + ((toU64 (i64w (1 + 3))).toNat:Int)))⟩:=rfl
 have e6:make_six 4=some ⟨true,(2306139568115548160:UInt64),(toU64 (i64w (1 + 4)))⟩:=rfl
 rw [e4,some_bind',e6,some_bind']
 refine .bind (make_Next_plain hd (by omega)) ?_
 rintro ⟨x,d⟩ ⟨x1,x2,hd⟩
 dsimp only at x1 x2 hd ⊢
 refine .bind (.geti (by simp only [List.length_cons,List.length_nil];omega)) fun nx hnx=>?_
 have hnx:nx.ok=true:=by
  have:=hnx.1
  simp only [List.mem_cons,List.not_mem_nil,or_false] at this
  rcases this with rfl | rfl | rfl<;>decide
 refine .bind (make_Next_plain hd (by omega)) ?_
 rintro ⟨y,d⟩ ⟨y1,y2,hd⟩
 dsimp only at y1 y2 hd ⊢
 refine .bind (.geti (by simp only [List.length_cons,List.length_nil];omega)) fun med hmed=>?_
 refine .bind (make_Next_plain hd (by omega)) ?_
 rintro ⟨z,d⟩ ⟨z1,z2,hd⟩
 dsimp only at z1 z2 hd ⊢
 refine .bind (.geti (by simp only [List.length_cons,List.length_nil];omega)) fun pref hpref=>?_
 refine .bind (make_Next_plain hd (by omega)) ?_
 rintro ⟨w,d⟩ ⟨w1,w2,hd⟩
 dsimp only at w1 w2 hd ⊢
 refine .bind (.geti (by simp only [List.length_cons,List.length_nil];omega)) fun otc hotc=>?_
 refine .bind (make_Communities_plain hd) ?_
 rintro ⟨cs,ls,d⟩ ⟨hcs,hls,hd⟩
 dsimp only at hcs hls hd ⊢
 refine .join (fun q:Deck×List Unknown=>((∀u ∈ q.2,okO u=true∧u.Data.length ≤ 9)∧q.2.Pairwise (fun a b=>ltT a b=true)∧q.2.length ≤ 6)∧Dk q.1) (fun k23 hk23=>?_) ?_
 ·refine .forX (fun i s=>((∀u ∈ s.2,okO u=true∧u.Data.length ≤ 9∧∃j,j < i∧([6,7,16,34,200,255]:List Int)[j]?=some u.Type_)∧s.2.Pairwise (fun a b=>ltT a b=true)∧s.2.length ≤ i)∧Dk s.1) ⟨⟨by simp,.nil,by simp⟩,hd⟩ (fun s hs=>hk23 s ⟨⟨fun u hu=>⟨(hs.1.1 u hu).1,(hs.1.1 u hu).2.1⟩,hs.1.2.1,hs.1.2.2⟩,hs.2⟩) ?_
  rintro next kind i ⟨d,l⟩ hkind ⟨⟨g1,g2,g3⟩,hd⟩ hn
  dsimp only at g1 g2 g3 hd ⊢
  refine .bind (make_Next_plain hd (by omega)) ?_
  rintro ⟨c,d⟩ ⟨c1,c2,hd⟩
  dsimp only at c1 c2 hd ⊢
  have hi:i < 6:=(List.getElem?_eq_some_iff.1 hkind).1
  refine .join (fun q:Deck×List Unknown=>((∀u ∈ q.2,okO u=true∧u.Data.length ≤ 9∧∃j,j < i + 1∧([6,7,16,34,200,255]:List Int)[j]?=some u.Type_)∧q.2.Pairwise (fun a b=>ltT a b=true)∧q.2.length ≤ i + 1)∧Dk q.1) (fun k31 hk31=>.ite (fun _=>?_) fun _=>hk31 (d,l) ⟨⟨fun u hu=>?_,g2,by dsimp only;omega⟩,hd⟩) fun q hq=>hn q hq
  ·refine .bind (make_Bytes_plain hd (by omega)) ?_
   rintro ⟨b,d⟩ ⟨hb,hd⟩
   dsimp only at hb hd ⊢
   refine .bind (Ok.apnd (by decide) (by simp;omega)) fun l2 hl2=>hk31 (d,l2) ⟨?_,hd⟩
   dsimp only
   rw [hl2]
   have hlt :∀j,j < i→∀t,([6,7,16,34,200,255]:List Int)[j]?=some t→t < kind:=by
    intro j hj t ht
    match i,j,hi,hj with
    | 1,0,_,_ | 2,0,_,_ | 2,1,_,_ | 3,0,_,_ | 3,1,_,_ | 3,2,_,_ | 4,0,_,_ | 4,1,_,_ | 4,2,_,_ | 4,3,_,_ | 5,0,_,_ | 5,1,_,_ | 5,2,_,_ | 5,3,_,_ | 5,4,_,_=>simp at ht hkind;omega
   have hkk:decide (1 ≤ kind∧kind ≤ 255)=true∧unk kind=true:=by
    have:=List.mem_of_getElem? hkind
    simp only [List.mem_cons,List.not_mem_nil,or_false] at this
    rcases this with rfl | rfl | rfl | rfl | rfl | rfl<;>decide
   refine ⟨fun u hu=>?_,List.pairwise_append.2 ⟨g2,List.pairwise_singleton _ _,fun u hu v hv=>?_⟩,by simp only [List.length_append,List.length_singleton];omega⟩
   ·rcases List.mem_append.1 hu with hu | hu
    ·obtain ⟨q1,q2,j,q3,q4⟩:=g1 u hu
     exact ⟨q1,q2,j,by omega,q4⟩
    ·rw [List.mem_singleton] at hu
     subst hu
     refine ⟨?_,by dsimp only;omega,i,by omega,hkind⟩
     unfold okO
     rw [hkk.1,hkk.2]
     simp only [Bool.true_and,Bool.and_eq_true,decide_eq_true_eq]
     exact ⟨trivial,by omega⟩
   ·rw [List.mem_singleton] at hv
    subst hv
    obtain ⟨_,_,j,q3,q4⟩:=g1 u hu
    have:=hlt j q3 _ q4
    simpa [ltT] using this
  ·obtain ⟨q1,q2,j,q3,q4⟩:=g1 u hu
   exact ⟨q1,q2,j,by omega,q4⟩
 rintro ⟨d,l⟩ ⟨⟨g1,g2,g3⟩,hd⟩
 dsimp only at g1 g2 g3 hd ⊢
 refine .ret ⟨⟨?_,hp.1,hp.2.1,hcs.2,hls.2,g3,fun u hu=>(g1 u hu).2⟩,hd⟩
 have hmed:=hmed.1
 have hpref:=hpref.1
 have hotc:=hotc.1
 simp only [List.mem_cons,List.not_mem_nil,or_false] at hmed hpref hotc
 rw [i64w_id (by omega)]
 have hO:validO l=true:=by
  unfold validO
  rw [Bool.and_eq_true,chainB_pw ltT_tr,List.all_eq_true]
  exact ⟨fun u hu=>(g1 u hu).1,g2⟩
 unfold validA
 simp only [hO,hp.2.2,hnx,hcs.1,hls.1,Bool.true_and,Bool.and_eq_true,decide_eq_true_eq,Bool.or_eq_true,numB]
 omega
end Go.AX.Q18
end
section
namespace Go.AX.Q18
open Go Go.AX
set_option maxRecDepth 8000
theorem allIx {α ρ:Type} {K:Unit→Option ρ} {l:List α} {body:(Unit→Option ρ)→α→Nat→Unit→Option ρ} (h :∀next x (i:Nat),geti l (i:Int)=some x→body next x i ()=next ()):forR K body l 0 ()=K ():=by
 have key :∀(t p:List α),l=p ++ t→forR K body t p.length ()=K ():=by
  intro t
  induction t with
  | nil=>intro p _;rfl
  | cons x t ih=>
   intro p e
   show body (fun s=>forR K body t (p.length + 1) s) x p.length ()=_
   rw [h _ x p.length (by rw [e];exact geti_at p x t)]
   have:=ih (p ++ [x]) (by rw [e];simp)
   simpa using this
 exact key l [] rfl
theorem SameList_refl (l:List Unknown):ref18_SameList l l=some true:=by
 unfold ref18_SameList
 rw [if_neg (by simp),joinP_def]
 refine allIx fun next x i hg=>?_
 rw [joinP_def]
 simp only [hg,some_bind',bne_self_eq_false,cond_false,beq_self_eq_true,Bool.not_true]
 rfl
theorem CSame_refl (l:List Community):ref17_Same l l=some true:=by
 unfold ref17_Same
 rw [if_neg (by simp),joinP_def]
 refine allIx fun next x i hg=>?_
 rw [hg,some_bind',(eqdC x x).2 rfl]
 rfl
theorem LSame_refl (l:List Large):ref17_SameLarge l l=some true:=by
 unfold ref17_SameLarge
 rw [if_neg (by simp),joinP_def]
 refine allIx fun next x i hg=>?_
 rw [hg,some_bind',(eqdL x x).2 rfl]
 rfl
theorem PSame_refl (l:List Segment):ref15_Same l l=some true:=by
 unfold ref15_Same
 rw [if_neg (by simp),joinP_def]
 refine allIx fun next x i hg=>?_
 rw [joinP_def,joinP_def,hg,some_bind',beq_self_eq_true,if_neg (by decide),some_bind']
 show (if (cond false true ((x.ASNs.length:Int) != (x.ASNs.length:Int)))=true then _ else _)=_
 rw [bne_self_eq_false,if_neg (by decide),joinP_def]
 refine allIx fun next x2 i2 hg2=>?_
 rw [some_bind',hg2,some_bind',bne_self_eq_false]
 rfl
theorem eqdA (a b:Addr):Addr.eqd a b=true ↔ a=b:=by
 unfold Addr.eqd
 simp only [Bool.and_eq_true,beq_iff_eq,Bool.and_true,Int.natCast_inj,UInt64.toNat_inj]
 constructor
 ·rintro ⟨h1,h2,h3⟩;cases a;cases b;simp_all
 ·rintro rfl;exact ⟨rfl,rfl,rfl⟩
theorem Same_refl (a:Attrs):ref18_Same a a=some true:=by
 unfold ref18_Same
 rw [joinP_def,if_pos (by simp),PSame_refl,some_bind',(eqdA _ _).2 rfl,CSame_refl,some_bind',LSame_refl,some_bind',SameList_refl,some_bind',beq_self_eq_true,beq_self_eq_true,beq_self_eq_true]
 rfl
theorem awake:law18_awake=some true:=by kernel_rfl
theorem ltT_K (a b:Unknown):ltK keyU a b=ltT a b:=by
 unfold ltK keyU ltT
 rw [lexC_cons,lexC_nil,Bool.eq_iff_iff,decide_eq_true_eq,decide_eq_true_eq]
 split
 ·simp [*]
 ·split<;>omega
theorem refO {l:List Unknown} (hl:l.length ≤ 1000000) {K:Unit→Option Bool} :
  forR (σ:=Unit) K (fun next2 x3 i4 _=>
   joinP (τ:=Bool) (fun k5=>
    if (decide (x3.Type_ < 1))=true then
     k5 true
    else
     if (cond false true (decide (x3.Type_ > 255)))=true then
      k5 true
     else
      Option.bind (ref18_unknown x3.Type_) fun v6=>
      if (cond false true (!v6))=true then
       k5 true
      else
       if (cond false true (x3.Flags != 224))=true then
        k5 true
       else
        if (cond false true (decide ((x3.Data.length:Int) > 255)))=true then
         k5 true
        else
         if (decide ((i4:Int) > 0))=true then
          Option.bind (geti l (i64w ((i4:Int) - 1))) fun v7=>
          k5 (cond false true (cond true (decide (v7.Type_ ≥ x3.Type_)) false))
         else
          k5 false
   ) fun v8=>
   if v8=true then
    some false
   else
    next2 ()) l 0 ()=if validO l=true then K () else some false:=by
 have hok :∀x:Unknown,okO x=!(decide (x.Type_ < 1) || (decide (x.Type_ > 255) || ((!unk x.Type_) || ((x.Flags != 224) || decide ((x.Data.length:Int) > 255))))):=by
  intro x
  unfold okO
  have e1:decide (1 ≤ x.Type_∧x.Type_ ≤ 255)=(!decide (x.Type_ < 1) && !decide (x.Type_ > 255)):=by rw [Bool.eq_iff_iff];simp
  have e2:decide (x.Flags=224)=!(x.Flags != 224):=by rw [Bool.eq_iff_iff];simp
  have e3:decide (x.Data.length ≤ 255)=!decide ((x.Data.length:Int) > 255):=by rw [Bool.eq_iff_iff];simp;omega
  rw [e1,e2,e3]
  cases decide (x.Type_ < 1)<;>cases decide (x.Type_ > 255)<;>cases unk x.Type_<;>cases (x.Flags != 224)<;>cases decide ((x.Data.length:Int) > 255)<;>rfl
 refine adjR (ok:=okO) (lt:=ltT) (by omega) (fun next x _=>?_) fun next x y i _ _ hg=>?_
 ·rw [joinP_def,ref18_unknown_eq,some_bind',hok]
  cases decide (x.Type_ < 1)<;>cases decide (x.Type_ > 255)<;>cases unk x.Type_<;>cases (x.Flags != 224)<;>cases decide ((x.Data.length:Int) > 255)<;>rfl
 ·have e:decide (((i + 1:Nat):Int) > 0)=true:=by simp
  have e2:decide (y.Type_ ≥ x.Type_)=!ltT y x:=by unfold ltT;rw [Bool.eq_iff_iff];simp
  rw [joinP_def,ref18_unknown_eq,some_bind',hok,hg,some_bind',e,e2]
  cases decide (x.Type_ < 1)<;>cases decide (x.Type_ > 255)<;>cases unk x.Type_<;>cases (x.Flags != 224)<;>cases decide ((x.Data.length:Int) > 255)<;>cases ltT y x<;>rfl
theorem others_eq {l:List Unknown} (hl:l.length ≤ 1000000):attribute_others l=some (validO l && decide (l.length ≤ 8)):=by
 unfold attribute_others
 rw [joinP_def]
 have hok :∀x:Unknown,okO x=(unk x.Type_ && ((decide (1 ≤ x.Type_) && decide (x.Type_ ≤ 255)) && (!(x.Flags != 224) && !decide ((x.Data.length:Int) > 255)))):=by
  intro x
  unfold okO
  have e1:decide (1 ≤ x.Type_∧x.Type_ ≤ 255)=(decide (1 ≤ x.Type_) && decide (x.Type_ ≤ 255)):=by rw [Bool.eq_iff_iff];simp
  have e2:decide (x.Flags=224)=!(x.Flags != 224):=by rw [Bool.eq_iff_iff];simp
  have e3:decide (x.Data.length ≤ 255)=!decide ((x.Data.length:Int) > 255):=by rw [Bool.eq_iff_iff];simp;omega
  rw [e1,e2,e3]
  cases decide (1 ≤ x.Type_)<;>cases decide (x.Type_ ≤ 255)<;>cases unk x.Type_<;>cases (x.Flags != 224)<;>cases decide ((x.Data.length:Int) > 255)<;>rfl
 refine (adjR (ok:=okO) (lt:=ltT) (F:=some false) (by omega) (fun next x _=>?_) fun next x y i _ _ hg=>?_).trans ?_
 ·rw [joinP_def,attribute_unknown_eq,some_bind',within_eq,hok]
  cases decide (1 ≤ x.Type_)<;>cases decide (x.Type_ ≤ 255)<;>cases unk x.Type_<;>cases (x.Flags != 224)<;>cases decide ((x.Data.length:Int) > 255)<;>rfl
 ·have e:decide (((i + 1:Nat):Int) > 0)=true:=by simp
  have e2:decide (y.Type_ ≥ x.Type_)=!ltT y x:=by unfold ltT;rw [Bool.eq_iff_iff];simp
  rw [joinP_def,attribute_unknown_eq,some_bind',within_eq,hok,hg,e]
  simp only [some_bind',e2]
  cases decide (1 ≤ x.Type_)<;>cases decide (x.Type_ ≤ 255)<;>cases unk x.Type_<;>cases (x.Flags != 224)<;>cases decide ((x.Data.length:Int) > 255)<;>cases ltT y x<;>rfl
 ·have e:decide ((l.length:Int) ≤ 8)=decide (l.length ≤ 8):=by rw [Bool.eq_iff_iff];simp;omega
  rw [e]
  unfold validO
  generalize (l.all okO && chainB ltT l)=b
  cases b<;>rfl
theorem Valid_ref {a:Attrs} (h:SmA a):ref18_Valid a=some (validA a):=by
 unfold ref18_Valid
 rw [joinP_def]
 refine (refO h.o).trans ?_
 unfold validA
 by_cases hO:validO a.Other=true
 rotate_left
 ·have hO:validO a.Other=false:=by simpa using hO
  rw [hO];rfl
 rw [hO,if_pos rfl,joinP_def,ref15_Valid_eq (by have:=h.p;omega) (by have:=h.t;omega),some_bind',ref01_Valid_eq,some_bind',ref17_Valid_eq (by have:=h.c;omega),ref17_ValidLarge_eq (by have:=h.l;omega)]
 simp only [some_bind']
 have d1:decide (-1 ≤ a.Origin∧a.Origin ≤ 2)=(decide (a.Origin ≥ -1) && decide (a.Origin ≤ 2)):=by rw [Bool.eq_iff_iff];simp
 have d2:decide (-1 ≤ a.MED∧a.MED ≤ 4294967295)=(decide (a.MED ≥ -1) && decide (a.MED ≤ 4294967295)):=by rw [Bool.eq_iff_iff];simp
 have d3:decide (-1 ≤ a.Pref∧a.Pref ≤ 4294967295)=(decide (a.Pref ≥ -1) && decide (a.Pref ≤ 4294967295)):=by rw [Bool.eq_iff_iff];simp
 have d4:numB a.OTC=(decide (a.OTC ≥ 1) && decide (a.OTC ≤ 4294967295)):=rfl
 have d5:decide (a.OTC=-1)=(a.OTC == -1):=rfl
 have d6:decide (a.Other.length ≤ 8)=decide ((a.Other.length:Int) ≤ 8):=by rw [Bool.eq_iff_iff];simp;omega
 rw [d1,d2,d3,d4,d5,d6]
 generalize decide (a.Origin ≥ -1)=b1
 generalize decide (a.Origin ≤ 2)=b2
 generalize vpath a.Path=b3
 generalize a.Next.ok=b4
 generalize decide (a.MED ≥ -1)=b5
 generalize decide (a.MED ≤ 4294967295)=b6
 generalize decide (a.Pref ≥ -1)=b7
 generalize decide (a.Pref ≤ 4294967295)=b8
 generalize (a.OTC == -1)=b9
 generalize decide (a.OTC ≥ 1)=b10
 generalize decide (a.OTC ≤ 4294967295)=b11
 generalize validC a.Communities=b12
 generalize validL a.Large=b13
 generalize decide ((a.Other.length:Int) ≤ 8)=b14
 cases b1
 ·rfl
 cases b2
 ·rfl
 cases b3
 ·rfl
 cases b4
 ·rfl
 cases b5
 ·rfl
 cases b6
 ·rfl
 cases b7
 ·rfl
 cases b8
 ·rfl
 cases b9<;>cases b10<;>cases b11<;>cases b12<;>cases b13<;>cases b14<;>rfl
theorem Valid_prog {a:Attrs} (h:SmA a):attribute_Valid a=some (validA a):=by
 unfold attribute_Valid validA
 rw [joinP_def,within_eq,some_bind',aspath_Valid_eq (by have:=h.p;omega) (by have:=h.t;omega),some_bind',addr_Valid_eq,some_bind',within_eq,some_bind',within_eq,some_bind',community_Valid_eq (by have:=h.c;omega),community_ValidLarge_eq (by have:=h.l;omega),others_eq h.o,number_eq]
 simp only [some_bind']
 have d1:decide (-1 ≤ a.Origin∧a.Origin ≤ 2)=(decide (-1 ≤ a.Origin) && decide (a.Origin ≤ 2)):=by rw [Bool.eq_iff_iff];simp
 have d2:decide (-1 ≤ a.MED∧a.MED ≤ 4294967295)=(decide (-1 ≤ a.MED) && decide (a.MED ≤ 4294967295)):=by rw [Bool.eq_iff_iff];simp
 have d3:decide (-1 ≤ a.Pref∧a.Pref ≤ 4294967295)=(decide (-1 ≤ a.Pref) && decide (a.Pref ≤ 4294967295)):=by rw [Bool.eq_iff_iff];simp
 have d4:numB a.OTC=(decide (1 ≤ a.OTC) && decide (a.OTC ≤ 4294967295)):=rfl
 have d5:decide (a.OTC=-1)=(a.OTC == -1):=rfl
 rw [d1,d2,d3,d4,d5]
 generalize (decide (-1 ≤ a.Origin) && decide (a.Origin ≤ 2))=b1
 generalize vpath a.Path=b3
 generalize a.Next.ok=b4
 generalize (decide (-1 ≤ a.MED) && decide (a.MED ≤ 4294967295))=b5
 generalize (decide (-1 ≤ a.Pref) && decide (a.Pref ≤ 4294967295))=b7
 generalize (a.OTC == -1)=b9
 generalize (decide (1 ≤ a.OTC) && decide (a.OTC ≤ 4294967295))=b10
 generalize validC a.Communities=b12
 generalize validL a.Large=b13
 generalize validO a.Other=b14
 generalize decide (a.Other.length ≤ 8)=b15
 cases b1
 ·simp
 cases b3
 ·simp
 cases b4
 ·simp
 cases b5
 ·simp
 cases b7
 ·simp
 cases b9<;>cases b10<;>cases b12<;>cases b13<;>cases b14<;>cases b15<;>rfl
end Go.AX.Q18
end
section
namespace Go.AX.Q18
open Go Go.AX
set_option maxRecDepth 8000
def w4 (n:Int):List UInt8:=[(toU8 (Int.fdiv n (2 ^ (min (Int.toNat 24) 64)))),(toU8 (Int.fdiv n (2 ^ (min (Int.toNat 16) 64)))),(toU8 (Int.fdiv n (2 ^ (min (Int.toNat 8) 64)))),(toU8 n)]
def w2 (n:Int):List UInt8:=[(toU8 (Int.fdiv n (2 ^ (min (Int.toNat 8) 64)))),(toU8 n)]
theorem sh_i (k n:Nat) (hk:k < 64) (hn:n=8 * k) (h8:k < 9):min (Int.toNat ((toU64 (8 * ((toU64 (k:Int)).toNat:Int))).toNat:Int)) 64=min (Int.toNat (n:Int)) 64:=by
 have h1:(toU64 (k:Int)).toNat=k:=by
  unfold toU64
  simp only [UInt64.toNat_ofNat']
  omega
 rw [h1]
 have h2:(toU64 (8 * (k:Int))).toNat=n:=by
  unfold toU64
  simp only [UInt64.toNat_ofNat']
  omega
 rw [h2]
theorem fdiv_one (n:Int):Int.fdiv n (2 ^ (min (Int.toNat ((0:Nat):Int)) 64))=n:=by
 have:((2:Int) ^ (min (Int.toNat ((0:Nat):Int)) 64))=1:=rfl
 rw [this,Int.fdiv_one]
theorem word_eq (v:Int) {n:Int} (hn:n=4 ∨ n=2):ref18_word v n=some (if n=4 then w4 v else w2 v):=by
 unfold ref18_word
 rw [joinP_def]
 have s3:=sh_i 3 24 (by omega) rfl (by omega)
 have s2:=sh_i 2 16 (by omega) rfl (by omega)
 have s1:=sh_i 1 8 (by omega) rfl (by omega)
 have s0:=sh_i 0 0 (by omega) rfl (by omega)
 have s3:min (Int.toNat ((toU64 (8 * ((toU64 (3:Int)).toNat:Int))).toNat:Int)) 64=min (Int.toNat 24) 64:=s3
 have s2:min (Int.toNat ((toU64 (8 * ((toU64 (2:Int)).toNat:Int))).toNat:Int)) 64=min (Int.toNat 16) 64:=s2
 have s1:min (Int.toNat ((toU64 (8 * ((toU64 (1:Int)).toNat:Int))).toNat:Int)) 64=min (Int.toNat 8) 64:=s1
 have s0:min (Int.toNat ((toU64 (8 * ((toU64 (0:Int)).toNat:Int))).toNat:Int)) 64=min (Int.toNat ((0:Nat):Int)) 64:=s0
 refine (whileR_eq (fun s:Int×List UInt8=>(s.1=3 ∨ s.1=2 ∨ s.1=1 ∨ s.1=0 ∨ s.1=-1)∧s.2.length + (s.1 + 1).toNat ≤ 4) (fun s=>(s.1 + 1).toNat) (fun s=>some (s.2 ++ (w4 v).drop (3 - s.1).toNat)) ?_ fuel (i64w (n - 1),[]) ?_ ?_).trans ?_
 ·rintro next ⟨i,l⟩ ⟨hi,hl⟩ hk
  dsimp only at hi hl ⊢
  rcases hi with rfl | rfl | rfl | rfl | rfl
  ·rw [if_pos (by decide),s3,apnd_some (by decide) (by simp only [List.length_singleton];omega),some_bind',i64w_id (by omega),hk _ ⟨by simp,by simp only [List.length_append,List.length_singleton];omega⟩ (by simp only;omega)]
   simp [w4]
  ·rw [if_pos (by decide),s2,apnd_some (by decide) (by simp only [List.length_singleton];omega),some_bind',i64w_id (by omega),hk _ ⟨by simp,by simp only [List.length_append,List.length_singleton];omega⟩ (by simp only;omega)]
   simp [w4]
  ·rw [if_pos (by decide),s1,apnd_some (by decide) (by simp only [List.length_singleton];omega),some_bind',i64w_id (by omega),hk _ ⟨by simp,by simp only [List.length_append,List.length_singleton];omega⟩ (by simp only;omega)]
   simp [w4]
  ·rw [if_pos (by decide),s0,fdiv_one,apnd_some (by decide) (by simp only [List.length_singleton];omega),some_bind',i64w_id (by omega),hk _ ⟨by simp,by simp only [List.length_append,List.length_singleton];omega⟩ (by simp only;omega)]
   simp [w4]
  ·rw [if_neg (by decide)]
   simp [w4]
 ·dsimp only
  rw [i64w_id (by omega)]
  rcases hn with rfl | rfl
  ·exact ⟨.inl rfl,by decide⟩
  ·exact ⟨.inr (.inr (.inl rfl)),by decide⟩
 ·dsimp only
  rw [i64w_id (by omega)]
  exact lt_fuel (by omega)
 ·dsimp only
  rw [i64w_id (by omega)]
  rcases hn with rfl | rfl<;>rfl
theorem word4 (v:Int):ref18_word v 4=some (w4 v):=word_eq v (.inl rfl)
theorem word2 (v:Int):ref18_word v 2=some (w2 v):=word_eq v (.inr rfl)
theorem w4_len (n:Int):(w4 n).length=4:=rfl
theorem flat4_len (l:List Int):(l.flatMap w4).length=4 * l.length:=by
 induction l with
 | nil=>rfl
 | cons x t ih=>rw [List.flatMap_cons,List.length_append,ih,w4_len,List.length_cons];omega
theorem put_eq {b:List UInt8} {l:List Int} (h:b.length + 4 * l.length ≤ 1000000000):attribute_put b l=some (b ++ l.flatMap w4):=by
 unfold attribute_put
 rw [joinP_def]
 refine (appR (g:=w4) (N:=1000000000) (by rw [flat4_len];omega) fun next x i v _ hv=>?_).trans rfl
 have e:([(toU8 (Int.fdiv x (2 ^ (min (Int.toNat 24) 64)))),(toU8 (Int.fdiv x (2 ^ (min (Int.toNat 16) 64)))),(toU8 (Int.fdiv x (2 ^ (min (Int.toNat 8) 64)))),(toU8 x)]:List UInt8)=w4 x:=rfl
 rw [e,apnd_some (by decide) hv,some_bind']
theorem put_nil_eq (n:Int):attribute_put_nil [n]=some (w4 n):=by
 have:attribute_put_nil [n]=attribute_put [] [n]:=rfl
 rw [this,put_eq (by simp)]
 rfl
def segB (s:Segment):List UInt8:=[(if s.Set=true then (1:UInt8) else 2),toU8 (s.ASNs.length:Int)] ++ s.ASNs.flatMap w4
def pathB (p:List Segment):List UInt8:=p.flatMap segB
theorem segB_len (s:Segment):(segB s).length=2 + 4 * s.ASNs.length:=by
 unfold segB
 rw [List.length_append,flat4_len];rfl
theorem pathB_len (p:List Segment):(pathB p).length=2 * p.length + 4 * tot p:=by
 unfold pathB
 induction p with
 | nil=>rfl
 | cons s t ih=>rw [List.flatMap_cons,List.length_append,ih,segB_len,List.length_cons,tot_cons];omega
theorem path_prog {p:List Segment} (h:2 * p.length + 4 * tot p ≤ 100000000):attribute_path p=some (pathB p):=by
 unfold attribute_path
 rw [joinP_def]
 have hl:=pathB_len p
 unfold pathB at hl ⊢
 refine (appR (g:=segB) (N:=100000000) (by rw [hl];simp only [List.length_nil];omega) fun next s i v _ hv=>?_).trans rfl
 rw [segB_len] at hv
 rw [joinP_ite,apnd_some (by decide) (by simp;omega),some_bind',put_eq (by simp;omega),some_bind',List.append_assoc]
 rfl
theorem path_ref {p:List Segment} (h:2 * p.length + 4 * tot p ≤ 100000000) {ρ:Type} {K:List UInt8→Option ρ}:joinP (τ:=(List UInt8)) (fun k7=>
     forR (σ:=(List UInt8)) (fun v8=>
      k7 v8
     ) (fun next9 (x10:Segment) i11 v8=>
      joinP (τ:=(List UInt8)) (fun k12=>
       joinP (τ:=UInt8) (fun k13=>
        if x10.Set=true then
         k13 (1:UInt8)
        else
         k13 (2:UInt8)
       ) fun v14=>
       Option.bind (apnd (α:=UInt8) 1 v8 ([v14,(toU8 (x10.ASNs.length:Int))]:List UInt8)) fun v15=>
       joinP (τ:=(List UInt8)) (fun k16=>
        forR (σ:=(List UInt8)) (fun v17=>
         k16 v17
        ) (fun next18 (x19:Int) i20 v17=>
         Option.bind (ref18_word x19 4) fun v21=>
         Option.bind (apnd (α:=UInt8) 1 v17 v21) fun v22=>
         next18 v22
        ) x10.ASNs 0 v15
       ) fun v23=>
       k12 v23
      ) fun v24=>
      next9 v24
     ) p 0 ([]:List UInt8)
    ) K=K (pathB p):=by
 rw [joinP_def]
 have hl:=pathB_len p
 unfold pathB at hl ⊢
 refine (appR (g:=segB) (N:=100000000) (by rw [hl];simp only [List.length_nil];omega) fun next s i v _ hv=>?_).trans rfl
 rw [segB_len] at hv
 rw [joinP_def,joinP_ite,apnd_some (by decide) (by simp;omega),some_bind',joinP_def]
 refine (appR (g:=w4) (N:=1000000000) (by rw [flat4_len];simp;omega) fun next x i v _ hv=>?_).trans ?_
 ·rw [word4,some_bind',apnd_some (by decide) hv,some_bind']
 ·rw [List.append_assoc]
  rfl
def commB (c:Community):List UInt8:=w2 c.A ++ w2 c.B
def largeB (c:Large):List UInt8:=w4 c.A ++ (w4 c.B ++ w4 c.C)
theorem commB_len (c:Community):(commB c).length=4:=rfl
theorem largeB_len (c:Large):(largeB c).length=12:=rfl
theorem flatC_len (l:List Community):(l.flatMap commB).length=4 * l.length:=by
 induction l with
 | nil=>rfl
 | cons x t ih=>rw [List.flatMap_cons,List.length_append,ih,commB_len,List.length_cons];omega
theorem flatL_len (l:List Large):(l.flatMap largeB).length=12 * l.length:=by
 induction l with
 | nil=>rfl
 | cons x t ih=>rw [List.flatMap_cons,List.length_append,ih,largeB_len,List.length_cons];omega
theorem toU8_nat (n:Nat):toU8 (n:Int)=UInt8.ofNat n:=by
 unfold toU8
 apply UInt8.toNat_inj.1
 simp only [UInt8.toNat_ofNat']
 omega
theorem u8_mod {a b:Nat} (h:a % 256=b % 256):UInt8.ofNat a=UInt8.ofNat b:=by
 apply UInt8.toNat_inj.1
 simp only [UInt8.toNat_ofNat']
 exact h
theorem fd (n k:Nat):Int.fdiv (n:Int) (2 ^ (min (Int.toNat (k:Int)) 64))=((n / 2 ^ (min k 64):Nat):Int):=by
 rw [Int.toNat_natCast]
 have:((2:Int) ^ (min k 64))=((2 ^ (min k 64):Nat):Int):=by simp
 rw [this,Int.fdiv_eq_ediv_of_nonneg _ (Int.natCast_nonneg _),Int.natCast_ediv]
theorem w4_nat (n:Nat):w4 (n:Int)=[UInt8.ofNat (n / 16777216),UInt8.ofNat (n / 65536),UInt8.ofNat (n / 256),UInt8.ofNat n]:=by
 have h1:=fd n 24
 have h2:=fd n 16
 have h3:=fd n 8
 have h1:Int.fdiv (n:Int) (2 ^ (min (Int.toNat 24) 64))=((n / 2 ^ (min 24 64):Nat):Int):=h1
 have h2:Int.fdiv (n:Int) (2 ^ (min (Int.toNat 16) 64))=((n / 2 ^ (min 16 64):Nat):Int):=h2
 have h3:Int.fdiv (n:Int) (2 ^ (min (Int.toNat 8) 64))=((n / 2 ^ (min 8 64):Nat):Int):=h3
 unfold w4
 rw [h1,h2,h3,toU8_nat,toU8_nat,toU8_nat,toU8_nat]
 rfl
theorem w2_nat (n:Nat):w2 (n:Int)=[UInt8.ofNat (n / 256),UInt8.ofNat n]:=by
 have h3:=fd n 8
 have h3:Int.fdiv (n:Int) (2 ^ (min (Int.toNat 8) 64))=((n / 2 ^ (min 8 64):Nat):Int):=h3
 unfold w2
 rw [h3,toU8_nat,toU8_nat]
 rfl
theorem comm_word {c:Community} (h:okC c=true):w4 (i64w ((BitVec.ofInt 64 (i64w (c.A * (2 ^ (min (Int.toNat 16) 64)))) ||| BitVec.ofInt 64 c.B).toNat:Int))=commB c:=by
 simp only [okC,inR,Bool.and_eq_true,decide_eq_true_eq] at h
 obtain ⟨a,ha⟩ :∃a:Nat,c.A=a:=⟨c.A.toNat,by omega⟩
 obtain ⟨b,hb⟩ :∃b:Nat,c.B=b:=⟨c.B.toNat,by omega⟩
 unfold commB
 rw [ha,hb] at h ⊢
 have e:((a:Int) * (2 ^ (min (Int.toNat 16) 64)))=((a * 65536:Nat):Int):=by
  have:min (Int.toNat 16) 64=16:=rfl
  rw [this];omega
 rw [e,i64w_id (x:=((a * 65536:Nat):Int)) (by omega),BitVec.ofInt_natCast,BitVec.ofInt_natCast,BitVec.toNat_or,BitVec.toNat_ofNat,BitVec.toNat_ofNat,Nat.mod_eq_of_lt (show a * 65536 < 2 ^ 64 by omega),Nat.mod_eq_of_lt (show b < 2 ^ 64 by omega),
  show a * 65536=2 ^ 16 * a by omega,← Nat.two_pow_add_eq_or_of_lt (show b < 2 ^ 16 by omega),i64w_id (by omega),w4_nat,w2_nat,w2_nat]
 have q1:(2 ^ 16 * a + b) / 16777216=a / 256:=by omega
 have q2:(2 ^ 16 * a + b) / 65536=a:=by omega
 have q3:UInt8.ofNat ((2 ^ 16 * a + b) / 256)=UInt8.ofNat (b / 256):=u8_mod (by omega)
 have q4:UInt8.ofNat (2 ^ 16 * a + b)=UInt8.ofNat b:=u8_mod (by omega)
 rw [q1,q2,q3,q4]
 rfl
theorem comms_prog {l:List Community} (hv :∀c ∈ l,okC c=true) (h:l.length ≤ 1000000):attribute_communities l=some (l.flatMap commB):=by
 unfold attribute_communities
 rw [joinP_def]
 refine (appR (g:=commB) (N:=100000000) (by rw [flatC_len];simp only [List.length_nil];omega) fun next c i v hc hl=>?_).trans rfl
 rw [commB_len] at hl
 rw [put_eq (by simp;omega),some_bind',List.flatMap_cons,List.flatMap_nil,List.append_nil,comm_word (hv c hc)]
theorem large_prog {l:List Large} (h:l.length ≤ 1000000):attribute_large l=some (l.flatMap largeB):=by
 unfold attribute_large
 rw [joinP_def]
 refine (appR (g:=largeB) (N:=100000000) (by rw [flatL_len];simp only [List.length_nil];omega) fun next c i v hc hl=>?_).trans rfl
 rw [largeB_len] at hl
 rw [put_eq (by simp;omega),some_bind']
 simp [largeB]
end Go.AX.Q18
end
section
namespace Go.AX.Q18
open Go Go.AX
set_option maxRecDepth 8000
def b4 (n:Nat):List UInt8:=[UInt8.ofNat (n / 16777216),UInt8.ofNat (n / 65536),UInt8.ofNat (n / 256),UInt8.ofNat n]
theorem toU64_nat (n:Nat):toU64 (n:Int)=UInt64.ofNat n:=by
 unfold toU64
 apply UInt64.toNat_inj.1
 simp only [UInt64.toNat_ofNat']
 omega
theorem lo_byte {x:UInt64} {k n:Nat} (hn:n=8 * k) (hk:k < 8) (hx:x.toNat < 4294967296):toU8 ((toU64 (Int.fdiv (x.toNat:Int) (2 ^ (min (Int.toNat (n:Int)) 64)))).toNat:Int)=UInt8.ofNat (x.toNat / 2 ^ n):=by
 rw [fd,Nat.min_eq_left (by omega),toU64_nat,toU8_nat]
 congr 1
 rw [UInt64.toNat_ofNat',Nat.mod_eq_of_lt]
 exact Nat.lt_of_le_of_lt (Nat.div_le_self _ _) (by omega)
theorem Addr.four {a:Addr} (h:a.ok=true) (h6:a.V6=false):a.Hi.toNat=0∧a.Lo.toNat < 4294967296:=by
 unfold Addr.ok at h
 rw [h6,cond_false] at h
 cases h1:((a.Hi.toNat:Int) == 0)
 ·rw [h1] at h;simp at h
 ·rw [h1,cond_true,decide_eq_true_eq] at h
  simp only [beq_iff_eq] at h1
  omega
theorem Bytes_ref {a:Addr} (h:a.ok=true) (h6:a.V6=false):ref01_Bytes a=some (b4 a.Lo.toNat):=by
 obtain ⟨_,hlo⟩:=Addr.four h h6
 unfold ref01_Bytes
 rw [ref01_Valid_eq,some_bind',h,if_neg (by decide),joinP_def,h6,if_neg (by decide)]
 show joinP _ _=_
 rw [joinP_def]
 have s3:=sh_i 3 24 (by omega) rfl (by omega)
 have s2:=sh_i 2 16 (by omega) rfl (by omega)
 have s1:=sh_i 1 8 (by omega) rfl (by omega)
 have s0:=sh_i 0 0 (by omega) rfl (by omega)
 have s3:min (Int.toNat ((toU64 (8 * ((toU64 (Int.tmod 3 8)).toNat:Int))).toNat:Int)) 64=min (Int.toNat ((24:Nat):Int)) 64:=s3
 have s2:min (Int.toNat ((toU64 (8 * ((toU64 (Int.tmod 2 8)).toNat:Int))).toNat:Int)) 64=min (Int.toNat ((16:Nat):Int)) 64:=s2
 have s1:min (Int.toNat ((toU64 (8 * ((toU64 (Int.tmod 1 8)).toNat:Int))).toNat:Int)) 64=min (Int.toNat ((8:Nat):Int)) 64:=s1
 have s0:min (Int.toNat ((toU64 (8 * ((toU64 (Int.tmod 0 8)).toNat:Int))).toNat:Int)) 64=min (Int.toNat ((0:Nat):Int)) 64:=s0
 refine (whileR_eq (fun s:Int×List UInt8=>(s.1=3 ∨ s.1=2 ∨ s.1=1 ∨ s.1=0 ∨ s.1=-1)∧s.2.length + (s.1 + 1).toNat ≤ 4) (fun s=>(s.1 + 1).toNat) (fun s=>some (s.2 ++ (b4 a.Lo.toNat).drop (3 - s.1).toNat)) ?_ fuel (i64w (4 - 1),[]) ?_ ?_).trans ?_
 ·rintro next ⟨i,l⟩ ⟨hi,hl⟩ hk
  dsimp only at hi hl ⊢
  rcases hi with rfl | rfl | rfl | rfl | rfl
  ·rw [if_pos (by decide),joinP_def,if_neg (by decide),s3]
   show Option.bind _ _=_
   rw [lo_byte (n:=24) (k:=3) rfl (by omega) hlo,apnd_some (by decide) (by simp only [List.length_singleton];omega),some_bind',i64w_id (by omega),hk _ ⟨by simp,by simp only [List.length_append,List.length_singleton];omega⟩ (by simp only;omega)]
   simp [b4]
  ·rw [if_pos (by decide),joinP_def,if_neg (by decide),s2]
   show Option.bind _ _=_
   rw [lo_byte (n:=16) (k:=2) rfl (by omega) hlo,apnd_some (by decide) (by simp only [List.length_singleton];omega),some_bind',i64w_id (by omega),hk _ ⟨by simp,by simp only [List.length_append,List.length_singleton];omega⟩ (by simp only;omega)]
   simp [b4]
  ·rw [if_pos (by decide),joinP_def,if_neg (by decide),s1]
   show Option.bind _ _=_
   rw [lo_byte (n:=8) (k:=1) rfl (by omega) hlo,apnd_some (by decide) (by simp only [List.length_singleton];omega),some_bind',i64w_id (by omega),hk _ ⟨by simp,by simp only [List.length_append,List.length_singleton];omega⟩ (by simp only;omega)]
   simp [b4]
  ·rw [if_pos (by decide),joinP_def,if_neg (by decide),s0]
   show Option.bind _ _=_
   rw [lo_byte (n:=0) (k:=0) rfl (by omega) hlo,apnd_some (by decide) (by simp only [List.length_singleton];omega),some_bind',i64w_id (by omega),hk _ ⟨by simp,by simp only [List.length_append,List.length_singleton];omega⟩ (by simp only;omega)]
   simp [b4]
  ·rw [if_neg (by decide)]
   simp [b4]
 ·dsimp only
  rw [i64w_id (by omega)]
  exact ⟨.inl rfl,by decide⟩
 ·dsimp only
  rw [i64w_id (by omega)]
  exact lt_fuel (by omega)
 ·dsimp only
  rw [i64w_id (by omega)]
  rfl
theorem lo_shift {x:UInt64} {h:UInt64} (hx:x.toNat < 4294967296) (hh:h.toNat=0):(toU64 ((BitVec.ofInt 64 ((toU64 (Int.fdiv (x.toNat:Int) (2 ^ (min (Int.toNat 8) 64)))).toNat:Int) ||| BitVec.ofInt 64 ((toU64 ((h.toNat:Int) * (2 ^ (min (Int.toNat 56) 64)))).toNat:Int)).toNat:Int)).toNat=x.toNat / 256∧
  (toU64 (Int.fdiv (h.toNat:Int) (2 ^ (min (Int.toNat 8) 64)))).toNat=0:=by
 have e1:Int.fdiv (x.toNat:Int) (2 ^ (min (Int.toNat 8) 64))=((x.toNat / 256:Nat):Int):=fd x.toNat 8
 have e2:Int.fdiv (h.toNat:Int) (2 ^ (min (Int.toNat 8) 64))=((h.toNat / 256:Nat):Int):=fd h.toNat 8
 rw [e1,e2,hh,toU64_nat]
 have e3:(((0:Nat):Int) * (2 ^ (min (Int.toNat 56) 64)))=((0:Nat):Int):=by simp
 rw [e3,toU64_nat,toU64_nat]
 have e4:(UInt64.ofNat 0).toNat=0:=rfl
 have e5:(UInt64.ofNat (x.toNat / 256)).toNat=x.toNat / 256:=by rw [UInt64.toNat_ofNat'];omega
 rw [e4,e5,BitVec.ofInt_natCast,BitVec.ofInt_natCast,BitVec.toNat_or,BitVec.toNat_ofNat,BitVec.toNat_ofNat,Nat.zero_mod,Nat.or_zero,Nat.mod_eq_of_lt (by omega)]
 exact ⟨e5,rfl⟩
theorem Bytes_prog {a:Addr} (h:a.ok=true) (h6:a.V6=false):addr_Bytes a=some (b4 a.Lo.toNat):=by
 obtain ⟨hhi,hlo⟩:=Addr.four h h6
 unfold addr_Bytes
 rw [addr_Valid_eq,some_bind',h,if_neg (by decide),joinP_def,h6,if_neg (by decide)]
 have ck:chk ((0:Int) ≤ 4∧(4:Int) ≤ 4∧(4:Int) ≤ 1048576)=some ():=by unfold chk;rw [if_pos (by decide)]
 show Option.bind (chk ((0:Int) ≤ 4∧(4:Int) ≤ 4∧(4:Int) ≤ 1048576)) _=_
 rw [ck,some_bind',joinP_def]
 refine (whileR_eq (fun s:Int×Addr×List UInt8=>∃j:Nat,j ≤ 4∧s.1=3 - (j:Int)∧s.2.1.Hi.toNat=0∧s.2.1.Lo.toNat=a.Lo.toNat / 256 ^ j∧s.2.2=List.replicate (4 - j) 0 ++ (b4 a.Lo.toNat).drop (4 - j)) (fun s=>(s.1 + 1).toNat) (fun s=>some (b4 a.Lo.toNat)) ?_ fuel (i64w (4 - 1),a,List.replicate (Int.toNat 4) (0:UInt8)) ?_ ?_).trans rfl
 ·rintro next ⟨i,x,l⟩ ⟨j,hj,h1,h2,h3,h4⟩ hk
  dsimp only at h1 h2 h3 h4 ⊢
  subst h1
  have hx:x.Lo.toNat < 4294967296:=by
   rw [h3];exact Nat.lt_of_le_of_lt (Nat.div_le_self _ _) hlo
  obtain ⟨s1,s2⟩:=lo_shift hx h2
  have hlt:j=4 ∨ j < 4:=by omega
  rcases hlt with rfl | hlt
  ·rw [if_neg (by decide),h4]
   simp [b4]
  ·have hlen:l.length=4:=by rw [h4];simp [b4]<;>omega
   have hg :∃y,geti l (3 - (j:Int))=some y:=by
    obtain ⟨y,hy,_⟩:=Ok.geti (l:=l) (i:=3 - (j:Int)) (by omega)
    exact ⟨y,hy⟩
   obtain ⟨y,hy⟩:=hg
   have hs:seti l (3 - (j:Int)) (toU8 (x.Lo.toNat:Int))=some (l.set (3 - j) (UInt8.ofNat x.Lo.toNat)):=by
    unfold seti
    rw [if_pos (by omega),toU8_nat]
    congr 2
    omega
   rw [if_pos (by simp only [decide_eq_true_eq];omega),hy,some_bind',hs,some_bind',i64w_id (by omega)]
   refine hk _ ⟨j + 1,by omega,by simp only;omega,s2,?_,?_⟩ (by simp only;omega)
   ·simp only
    rw [s1,h3,Nat.div_div_eq_div_mul,Nat.pow_succ]
   ·simp only
    rw [h4,h3]
    match j,hlt with
    | 0,_=>simp [b4]
    | 1,_=>simp [b4]
    | 2,_=>simp [b4]
    | 3,_=>simp [b4]
 ·refine ⟨0,by omega,by dsimp only;rw [i64w_id (by omega)];rfl,hhi,by simp,?_⟩
  simp [b4]
 ·dsimp only
  rw [i64w_id (by omega)]
  exact lt_fuel (by omega)
theorem Bytes_tt (a:Addr) :∃r,addr_Bytes a=some r:=by
 have:Ok (addr_Bytes a) fun _=>True:=by
  unfold addr_Bytes
  rw [addr_Valid_eq]
  refine .bind (P:=fun _=>True) ⟨_,rfl,trivial⟩ fun v _=>.ite (fun _=>.ret trivial) fun _=>?_
  refine .join (fun n:Int=>n=16 ∨ n=4) (fun k hk=>.ite (fun _=>hk _ (.inl rfl)) fun _=>hk _ (.inr rfl)) fun n hn=>?_
  refine .bind (Ok.chk (by omega)) fun _ _=>.join (fun _=>True) (fun k hk=>?_) fun _ _=>.ret trivial
  refine .whileI (fun s:Int×Addr×List UInt8=>-1 ≤ s.1∧s.1 < n∧(s.2.2.length:Int)=n) (fun s=>(s.1 + 1).toNat) ⟨by dsimp only;rw [i64w_id (by omega)];omega,by dsimp only;rw [i64w_id (by omega)];omega,by dsimp only;rw [List.length_replicate];omega⟩ (lt_fuel (by dsimp only;rw [i64w_id (by omega)];omega)) ?_
  rintro next ⟨i,x,l⟩ ⟨h1,h2,h3⟩ hnx
  dsimp only at h1 h2 h3 ⊢
  refine .ite (fun h=>?_) fun _=>hk _ trivial
  simp only [decide_eq_true_eq] at h
  refine .bind (.geti (by omega)) fun _ _=>.bind (.seti (by omega)) fun l2 hl2=>?_
  rw [i64w_id (by omega)]
  exact hnx _ ⟨by dsimp only;omega,by dsimp only;omega,by dsimp only;omega⟩ (by dsimp only;omega)
 obtain ⟨r,h,_⟩:=this
 exact ⟨r,h⟩
def hasNext (a:Attrs):Bool:=!a.Next.V6 && !(Addr.eqd a.Next ⟨false,0,0⟩)
def G (a:Attrs) (k:Int):Option (List UInt8):=
 if k=1 then (if a.Origin ≠ -1 then some [toU8 a.Origin] else none) else
 if k=2 then (if a.Origin ≠ -1 ∨ a.Path ≠ [] then some (pathB a.Path) else none) else
 if k=3 then (if hasNext a=true then some (b4 a.Next.Lo.toNat) else none) else
 if k=4 then (if a.MED ≠ -1 then some (w4 a.MED) else none) else
 if k=5 then (if a.Pref ≠ -1 then some (w4 a.Pref) else none) else
 if k=8 then (if a.Communities ≠ [] then some (a.Communities.flatMap commB) else none) else
 if k=32 then (if a.Large ≠ [] then some (a.Large.flatMap largeB) else none) else
 if k=35 then (if a.OTC ≠ -1 then some (w4 a.OTC) else none) else none
def ent (a:Attrs) (k:Int):List Unknown:=match G a k with
 | some b=>[⟨fl k,k,b⟩]
 | none=>[]
def ofK (l:List Unknown) (k:Int):List Unknown:=l.flatMap fun x=>if (x.Type_ == k)=true then [x] else []
def wrS (a:Attrs):List Unknown:=(List.range' 0 256).flatMap fun (k:Nat)=>ent a k ++ ofK a.Other k
theorem G_none {a:Attrs} {k:Int} (h:fl k=0):G a k=none:=by
 rcases fl_cases k with ⟨_,e⟩ | ⟨_,e⟩ | ⟨_,e⟩ | ⟨_,e⟩ | ⟨_,e⟩ | ⟨_,e⟩ | ⟨_,e⟩ | ⟨_,e⟩ | ⟨e1,e2,e3,e4,e5,e6,e7,e8,_⟩
 iterate 8 (rw [e] at h;exact absurd h (by decide))
 unfold G
 rw [if_neg e1,if_neg e2,if_neg e3,if_neg e4,if_neg e5,if_neg e6,if_neg e7,if_neg e8]
theorem ofK_mem {l:List Unknown} {k:Int} {y:Unknown}:y ∈ ofK l k ↔ y ∈ l∧y.Type_=k:=by
 unfold ofK
 rw [List.mem_flatMap]
 constructor
 ·rintro ⟨x,hx,h⟩
  split at h
  ·rename_i hc
   rw [List.mem_singleton] at h
   subst h
   exact ⟨hx,by simpa using hc⟩
  ·simp at h
 ·rintro ⟨hy,e⟩
  exact ⟨y,hy,by rw [if_pos (by simpa using e)];simp⟩
theorem ent_mem {a:Attrs} {k:Int} {y:Unknown}:y ∈ ent a k ↔∃b,G a k=some b∧y=⟨fl k,k,b⟩:=by
 unfold ent
 cases G a k with
 | none=>simp
 | some b=>simp
theorem ent_type {a:Attrs} {k:Int} {y:Unknown} (h:y ∈ ent a k):y.Type_=k:=by
 obtain ⟨b,_,rfl⟩:=ent_mem.1 h
 rfl
theorem wr_mem {a:Attrs} (hO:validO a.Other=true) {y:Unknown}:y ∈ wrS a ↔ (∃k,y ∈ ent a k) ∨ y ∈ a.Other:=by
 unfold wrS
 simp only [List.mem_flatMap,List.mem_range'_1,List.mem_append]
 constructor
 ·rintro ⟨k,hk,h | h⟩
  ·exact .inl ⟨_,h⟩
  ·exact .inr (ofK_mem.1 h).1
 ·rintro (⟨k,h⟩ | h)
  ·obtain ⟨b,hb,_⟩:=ent_mem.1 h
   have hk:0 ≤ k∧k < 256:=by
    rcases fl_cases k with ⟨e,_⟩ | ⟨e,_⟩ | ⟨e,_⟩ | ⟨e,_⟩ | ⟨e,_⟩ | ⟨e,_⟩ | ⟨e,_⟩ | ⟨e,_⟩ | e
    iterate 8 omega
    rw [G_none e.2.2.2.2.2.2.2.2] at hb;cases hb
   refine ⟨k.toNat,by omega,.inl ?_⟩
   rw [show ((k.toNat:Nat):Int)=k by omega]
   exact h
  ·unfold validO at hO
   rw [Bool.and_eq_true,List.all_eq_true] at hO
   have:=hO.1 y h
   simp only [okO,Bool.and_eq_true,decide_eq_true_eq] at this
   exact ⟨y.Type_.toNat,by omega,.inr (ofK_mem.2 ⟨h,by omega⟩)⟩
theorem other_unk {l:List Unknown} (hO:validO l=true) {x:Unknown} (h:x ∈ l):unk x.Type_=true∧1 ≤ x.Type_∧x.Type_ ≤ 255∧x.Flags=224∧x.Data.length ≤ 255:=by
 unfold validO at hO
 rw [Bool.and_eq_true,List.all_eq_true] at hO
 have:=hO.1 x h
 simp only [okO,Bool.and_eq_true,decide_eq_true_eq] at this
 exact ⟨this.2.1,this.1.1,this.1.2,this.2.2.1,this.2.2.2⟩
theorem unk_fl {t:Int} (h:unk t=true):fl t=0:=by
 simp only [unk,Bool.and_eq_true,decide_eq_true_eq] at h
 exact h.1
theorem other_strict {l:List Unknown} (hO:validO l=true):l.Pairwise fun a b=>ltT a b=true:=by
 unfold validO at hO
 rw [Bool.and_eq_true] at hO
 exact (chainB_pw ltT_tr).1 hO.2
theorem wr_strict {a:Attrs} (hO:validO a.Other=true):(wrS a).Pairwise fun a b=>ltK keyU a b=true:=by
 unfold wrS
 rw [List.pairwise_flatMap]
 have ht :∀(k:Nat) y,y ∈ ent a k ++ ofK a.Other k→y.Type_=k:=by
  intro k y hy
  rcases List.mem_append.1 hy with h | h
  ·exact ent_type h
  ·exact (ofK_mem.1 h).2
 constructor
 ·intro k _
  rw [List.pairwise_append]
  refine ⟨?_,?_,?_⟩
  ·unfold ent
   split
   ·exact List.pairwise_singleton _ _
   ·exact .nil
  ·unfold ofK
   rw [List.pairwise_flatMap]
   refine ⟨fun x _=>pw_le_one,(other_strict hO).imp fun {p q} hpq x hx y hy=>?_⟩
   have e1:p.Type_=k:=by
    split at hx
    ·simpa using ‹(p.Type_ == (k:Int))=true›
    ·simp at hx
   have e2:q.Type_=k:=by
    split at hy
    ·simpa using ‹(q.Type_ == (k:Int))=true›
    ·simp at hy
   simp only [ltT,decide_eq_true_eq] at hpq
   omega
  ·intro x hx y hy
   obtain ⟨b,hb,_⟩:=ent_mem.1 hx
   obtain ⟨hy1,hy2⟩:=ofK_mem.1 hy
   have:=unk_fl (other_unk hO hy1).1
   rw [hy2] at this
   rw [G_none this] at hb;cases hb
 ·refine (List.pairwise_lt_range' (s:=0) (n:=256)).imp fun {p q} hpq x hx y hy=>?_
  have e1:=ht p x hx
  have e2:=ht q y hy
  rw [ltT_K]
  simp only [ltT,decide_eq_true_eq]
  omega
end Go.AX.Q18
end
section
namespace Go.AX.Q18
open Go Go.AX
set_option maxRecDepth 8000
set_option linter.unusedVariables false
def WR3 (a0:Attrs) (v26:List (Int×(List UInt8))):Option ((List Unknown)×Int):=
 joinP (τ:=Bool) (fun k27=>
  if (!(Addr.eqd a0.Next (⟨false,(0:UInt64),(0:UInt64)⟩:Addr))) then
   k27 (cond true (!a0.Next.V6) false)
  else
   k27 false
 ) fun v28=>
 joinP (τ:=(List (Int×(List UInt8)))) (fun k29=>
  if v28 then
   Option.bind (ref01_Bytes a0.Next) fun v30=>
   k29 (mset v26 3 v30)
  else
   k29 v26
 ) fun v31=>
 joinP (τ:=(List (Int×(List UInt8)))) (fun k32=>
  if (decide (a0.MED ≥ 0)) then
   Option.bind (ref18_word a0.MED 4) fun v33=>
   k32 (mset v31 4 v33)
  else
   k32 v31
 ) fun v34=>
 joinP (τ:=(List (Int×(List UInt8)))) (fun k35=>
  if (decide (a0.Pref ≥ 0)) then
   Option.bind (ref18_word a0.Pref 4) fun v36=>
   k35 (mset v34 5 v36)
  else
   k35 v34
 ) fun v37=>
 joinP (τ:=(List (Int×(List UInt8)))×(List UInt8)) (fun k38=>
  Option.bind (chk ((mget v37 8).isNone=true)) fun _=>
  forR (σ:=(List (Int×(List UInt8)))×(List UInt8)) (fun (v39,v40)=>
   k38 (v39,v40)
  ) (fun next41 (x42:Community) i43 (v39,v40)=>
   Option.bind (ref18_word x42.A 2) fun v44=>
   Option.bind (apnd (α:=UInt8) 1 v40 v44) fun v45=>
   Option.bind (ref18_word x42.B 2) fun v46=>
   Option.bind (apnd (α:=UInt8) 1 v45 v46) fun v47=>
   next41 ((mset v39 8 v47),v47)
  ) a0.Communities 0 (v37,[])
 ) fun (v48,v49)=>
 joinP (τ:=(List (Int×(List UInt8)))×(List UInt8)) (fun k50=>
  Option.bind (chk ((mget v48 32).isNone=true)) fun _=>
  forR (σ:=(List (Int×(List UInt8)))×(List UInt8)) (fun (v51,v52)=>
   k50 (v51,v52)
  ) (fun next53 (x54:Large) i55 (v51,v52)=>
   Option.bind (ref18_word x54.A 4) fun v56=>
   Option.bind (apnd (α:=UInt8) 1 v52 v56) fun v57=>
   Option.bind (ref18_word x54.B 4) fun v58=>
   Option.bind (apnd (α:=UInt8) 1 v57 v58) fun v59=>
   Option.bind (ref18_word x54.C 4) fun v60=>
   Option.bind (apnd (α:=UInt8) 1 v59 v60) fun v61=>
   next53 ((mset v51 32 v61),v61)
  ) a0.Large 0 (v48,[])
 ) fun (v62,v63)=>
 joinP (τ:=(List (Int×(List UInt8)))) (fun k64=>
  if (decide (a0.OTC ≥ 0)) then
   Option.bind (ref18_word a0.OTC 4) fun v65=>
   k64 (mset v62 35 v65)
  else
   k64 v62
 ) fun v66=>
 joinP (τ:=(List Unknown)) (fun k67=>
  whileR (σ:=Int×(List Unknown)) (fun next68 (v69,v70)=>
   if (decide (v69 < 256)) then
    joinP (τ:=(List Unknown)) (fun k71=>
     Option.bind (some (Option.getD (mget v66 v69) [])) fun v72=>
     Option.bind (some (Option.isSome (mget v66 v69))) fun v73=>
     joinP (τ:=(List Unknown)) (fun k74=>
      if v73 then
       Option.bind (ref18_flags v69) fun v75=>
       Option.bind (apnd (α:=UInt8) 1 [] v72) fun _=>
       Option.bind (apnd (α:=Unknown) 40 v70 ([(⟨v75,v69,v72⟩:Unknown)]:List Unknown)) fun v76=>
       k74 v76
      else
       k74 v70
     ) fun v77=>
     joinP (τ:=(List Unknown)) (fun k78=>
      forR (σ:=(List Unknown)) (fun v79=>
       k78 v79
      ) (fun next80 (x81:Unknown) i82 v79=>
       joinP (τ:=(List Unknown)) (fun k83=>
        if (x81.Type_ == v69) then
         Option.bind (apnd (α:=UInt8) 1 [] x81.Data) fun _=>
         Option.bind (apnd (α:=Unknown) 40 v79 ([{ x81 with Type_:=v69 }]:List Unknown)) fun v84=>
         k83 v84
        else
         k83 v79
       ) fun v85=>
       next80 v85
      ) a0.Other 0 v77
     ) fun v86=>
     k71 v86
    ) fun v87=>
    next68 ((i64w (v69 + 1)),v87)
   else
    k67 v70
  ) fuel (0,[])
 ) fun v88=>
 some (v88,0)
def WR4 (a0:Attrs) (v31:List (Int×(List UInt8))):Option ((List Unknown)×Int):=
 joinP (τ:=(List (Int×(List UInt8)))) (fun k32=>
  if (decide (a0.MED ≥ 0)) then
   Option.bind (ref18_word a0.MED 4) fun v33=>
   k32 (mset v31 4 v33)
  else
   k32 v31
 ) fun v34=>
 joinP (τ:=(List (Int×(List UInt8)))) (fun k35=>
  if (decide (a0.Pref ≥ 0)) then
   Option.bind (ref18_word a0.Pref 4) fun v36=>
   k35 (mset v34 5 v36)
  else
   k35 v34
 ) fun v37=>
 joinP (τ:=(List (Int×(List UInt8)))×(List UInt8)) (fun k38=>
  Option.bind (chk ((mget v37 8).isNone=true)) fun _=>
  forR (σ:=(List (Int×(List UInt8)))×(List UInt8)) (fun (v39,v40)=>
   k38 (v39,v40)
  ) (fun next41 (x42:Community) i43 (v39,v40)=>
   Option.bind (ref18_word x42.A 2) fun v44=>
   Option.bind (apnd (α:=UInt8) 1 v40 v44) fun v45=>
   Option.bind (ref18_word x42.B 2) fun v46=>
   Option.bind (apnd (α:=UInt8) 1 v45 v46) fun v47=>
   next41 ((mset v39 8 v47),v47)
  ) a0.Communities 0 (v37,[])
 ) fun (v48,v49)=>
 joinP (τ:=(List (Int×(List UInt8)))×(List UInt8)) (fun k50=>
  Option.bind (chk ((mget v48 32).isNone=true)) fun _=>
  forR (σ:=(List (Int×(List UInt8)))×(List UInt8)) (fun (v51,v52)=>
   k50 (v51,v52)
  ) (fun next53 (x54:Large) i55 (v51,v52)=>
   Option.bind (ref18_word x54.A 4) fun v56=>
   Option.bind (apnd (α:=UInt8) 1 v52 v56) fun v57=>
   Option.bind (ref18_word x54.B 4) fun v58=>
   Option.bind (apnd (α:=UInt8) 1 v57 v58) fun v59=>
   Option.bind (ref18_word x54.C 4) fun v60=>
   Option.bind (apnd (α:=UInt8) 1 v59 v60) fun v61=>
   next53 ((mset v51 32 v61),v61)
  ) a0.Large 0 (v48,[])
 ) fun (v62,v63)=>
 joinP (τ:=(List (Int×(List UInt8)))) (fun k64=>
  if (decide (a0.OTC ≥ 0)) then
   Option.bind (ref18_word a0.OTC 4) fun v65=>
   k64 (mset v62 35 v65)
  else
   k64 v62
 ) fun v66=>
 joinP (τ:=(List Unknown)) (fun k67=>
  whileR (σ:=Int×(List Unknown)) (fun next68 (v69,v70)=>
   if (decide (v69 < 256)) then
    joinP (τ:=(List Unknown)) (fun k71=>
     Option.bind (some (Option.getD (mget v66 v69) [])) fun v72=>
     Option.bind (some (Option.isSome (mget v66 v69))) fun v73=>
     joinP (τ:=(List Unknown)) (fun k74=>
      if v73 then
       Option.bind (ref18_flags v69) fun v75=>
       Option.bind (apnd (α:=UInt8) 1 [] v72) fun _=>
       Option.bind (apnd (α:=Unknown) 40 v70 ([(⟨v75,v69,v72⟩:Unknown)]:List Unknown)) fun v76=>
       k74 v76
      else
       k74 v70
     ) fun v77=>
     joinP (τ:=(List Unknown)) (fun k78=>
      forR (σ:=(List Unknown)) (fun v79=>
       k78 v79
      ) (fun next80 (x81:Unknown) i82 v79=>
       joinP (τ:=(List Unknown)) (fun k83=>
        if (x81.Type_ == v69) then
         Option.bind (apnd (α:=UInt8) 1 [] x81.Data) fun _=>
         Option.bind (apnd (α:=Unknown) 40 v79 ([{ x81 with Type_:=v69 }]:List Unknown)) fun v84=>
         k83 v84
        else
         k83 v79
       ) fun v85=>
       next80 v85
      ) a0.Other 0 v77
     ) fun v86=>
     k71 v86
    ) fun v87=>
    next68 ((i64w (v69 + 1)),v87)
   else
    k67 v70
  ) fuel (0,[])
 ) fun v88=>
 some (v88,0)
def WR5 (a0:Attrs) (v34:List (Int×(List UInt8))):Option ((List Unknown)×Int):=
 joinP (τ:=(List (Int×(List UInt8)))) (fun k35=>
  if (decide (a0.Pref ≥ 0)) then
   Option.bind (ref18_word a0.Pref 4) fun v36=>
   k35 (mset v34 5 v36)
  else
   k35 v34
 ) fun v37=>
 joinP (τ:=(List (Int×(List UInt8)))×(List UInt8)) (fun k38=>
  Option.bind (chk ((mget v37 8).isNone=true)) fun _=>
  forR (σ:=(List (Int×(List UInt8)))×(List UInt8)) (fun (v39,v40)=>
   k38 (v39,v40)
  ) (fun next41 (x42:Community) i43 (v39,v40)=>
   Option.bind (ref18_word x42.A 2) fun v44=>
   Option.bind (apnd (α:=UInt8) 1 v40 v44) fun v45=>
   Option.bind (ref18_word x42.B 2) fun v46=>
   Option.bind (apnd (α:=UInt8) 1 v45 v46) fun v47=>
   next41 ((mset v39 8 v47),v47)
  ) a0.Communities 0 (v37,[])
 ) fun (v48,v49)=>
 joinP (τ:=(List (Int×(List UInt8)))×(List UInt8)) (fun k50=>
  Option.bind (chk ((mget v48 32).isNone=true)) fun _=>
  forR (σ:=(List (Int×(List UInt8)))×(List UInt8)) (fun (v51,v52)=>
   k50 (v51,v52)
  ) (fun next53 (x54:Large) i55 (v51,v52)=>
   Option.bind (ref18_word x54.A 4) fun v56=>
   Option.bind (apnd (α:=UInt8) 1 v52 v56) fun v57=>
   Option.bind (ref18_word x54.B 4) fun v58=>
   Option.bind (apnd (α:=UInt8) 1 v57 v58) fun v59=>
   Option.bind (ref18_word x54.C 4) fun v60=>
   Option.bind (apnd (α:=UInt8) 1 v59 v60) fun v61=>
   next53 ((mset v51 32 v61),v61)
  ) a0.Large 0 (v48,[])
 ) fun (v62,v63)=>
 joinP (τ:=(List (Int×(List UInt8)))) (fun k64=>
  if (decide (a0.OTC ≥ 0)) then
   Option.bind (ref18_word a0.OTC 4) fun v65=>
   k64 (mset v62 35 v65)
  else
   k64 v62
 ) fun v66=>
 joinP (τ:=(List Unknown)) (fun k67=>
  whileR (σ:=Int×(List Unknown)) (fun next68 (v69,v70)=>
   if (decide (v69 < 256)) then
    joinP (τ:=(List Unknown)) (fun k71=>
     Option.bind (some (Option.getD (mget v66 v69) [])) fun v72=>
     Option.bind (some (Option.isSome (mget v66 v69))) fun v73=>
     joinP (τ:=(List Unknown)) (fun k74=>
      if v73 then
       Option.bind (ref18_flags v69) fun v75=>
       Option.bind (apnd (α:=UInt8) 1 [] v72) fun _=>
       Option.bind (apnd (α:=Unknown) 40 v70 ([(⟨v75,v69,v72⟩:Unknown)]:List Unknown)) fun v76=>
       k74 v76
      else
       k74 v70
     ) fun v77=>
     joinP (τ:=(List Unknown)) (fun k78=>
      forR (σ:=(List Unknown)) (fun v79=>
       k78 v79
      ) (fun next80 (x81:Unknown) i82 v79=>
       joinP (τ:=(List Unknown)) (fun k83=>
        if (x81.Type_ == v69) then
         Option.bind (apnd (α:=UInt8) 1 [] x81.Data) fun _=>
         Option.bind (apnd (α:=Unknown) 40 v79 ([{ x81 with Type_:=v69 }]:List Unknown)) fun v84=>
         k83 v84
        else
         k83 v79
       ) fun v85=>
       next80 v85
      ) a0.Other 0 v77
     ) fun v86=>
     k71 v86
    ) fun v87=>
    next68 ((i64w (v69 + 1)),v87)
   else
    k67 v70
  ) fuel (0,[])
 ) fun v88=>
 some (v88,0)
def WR8 (a0:Attrs) (v37:List (Int×(List UInt8))):Option ((List Unknown)×Int):=
 joinP (τ:=(List (Int×(List UInt8)))×(List UInt8)) (fun k38=>
  Option.bind (chk ((mget v37 8).isNone=true)) fun _=>
  forR (σ:=(List (Int×(List UInt8)))×(List UInt8)) (fun (v39,v40)=>
   k38 (v39,v40)
  ) (fun next41 (x42:Community) i43 (v39,v40)=>
   Option.bind (ref18_word x42.A 2) fun v44=>
   Option.bind (apnd (α:=UInt8) 1 v40 v44) fun v45=>
   Option.bind (ref18_word x42.B 2) fun v46=>
   Option.bind (apnd (α:=UInt8) 1 v45 v46) fun v47=>
   next41 ((mset v39 8 v47),v47)
  ) a0.Communities 0 (v37,[])
 ) fun (v48,v49)=>
 joinP (τ:=(List (Int×(List UInt8)))×(List UInt8)) (fun k50=>
  Option.bind (chk ((mget v48 32).isNone=true)) fun _=>
  forR (σ:=(List (Int×(List UInt8)))×(List UInt8)) (fun (v51,v52)=>
   k50 (v51,v52)
  ) (fun next53 (x54:Large) i55 (v51,v52)=>
   Option.bind (ref18_word x54.A 4) fun v56=>
   Option.bind (apnd (α:=UInt8) 1 v52 v56) fun v57=>
   Option.bind (ref18_word x54.B 4) fun v58=>
   Option.bind (apnd (α:=UInt8) 1 v57 v58) fun v59=>
   Option.bind (ref18_word x54.C 4) fun v60=>
   Option.bind (apnd (α:=UInt8) 1 v59 v60) fun v61=>
   next53 ((mset v51 32 v61),v61)
  ) a0.Large 0 (v48,[])
 ) fun (v62,v63)=>
 joinP (τ:=(List (Int×(List UInt8)))) (fun k64=>
  if (decide (a0.OTC ≥ 0)) then
   Option.bind (ref18_word a0.OTC 4) fun v65=>
   k64 (mset v62 35 v65)
  else
   k64 v62
 ) fun v66=>
 joinP (τ:=(List Unknown)) (fun k67=>
  whileR (σ:=Int×(List Unknown)) (fun next68 (v69,v70)=>
   if (decide (v69 < 256)) then
    joinP (τ:=(List Unknown)) (fun k71=>
     Option.bind (some (Option.getD (mget v66 v69) [])) fun v72=>
     Option.bind (some (Option.isSome (mget v66 v69))) fun v73=>
     joinP (τ:=(List Unknown)) (fun k74=>
      if v73 then
       Option.bind (ref18_flags v69) fun v75=>
       Option.bind (apnd (α:=UInt8) 1 [] v72) fun _=>
       Option.bind (apnd (α:=Unknown) 40 v70 ([(⟨v75,v69,v72⟩:Unknown)]:List Unknown)) fun v76=>
       k74 v76
      else
       k74 v70
     ) fun v77=>
     joinP (τ:=(List Unknown)) (fun k78=>
      forR (σ:=(List Unknown)) (fun v79=>
       k78 v79
      ) (fun next80 (x81:Unknown) i82 v79=>
       joinP (τ:=(List Unknown)) (fun k83=>
        if (x81.Type_ == v69) then
         Option.bind (apnd (α:=UInt8) 1 [] x81.Data) fun _=>
         Option.bind (apnd (α:=Unknown) 40 v79 ([{ x81 with Type_:=v69 }]:List Unknown)) fun v84=>
         k83 v84
        else
         k83 v79
       ) fun v85=>
       next80 v85
      ) a0.Other 0 v77
     ) fun v86=>
     k71 v86
    ) fun v87=>
    next68 ((i64w (v69 + 1)),v87)
   else
    k67 v70
  ) fuel (0,[])
 ) fun v88=>
 some (v88,0)
def WRk (a0:Attrs) (v66:List (Int×(List UInt8))):Option ((List Unknown)×Int):=
 joinP (τ:=(List Unknown)) (fun k67=>
  whileR (σ:=Int×(List Unknown)) (fun next68 (v69,v70)=>
   if (decide (v69 < 256)) then
    joinP (τ:=(List Unknown)) (fun k71=>
     Option.bind (some (Option.getD (mget v66 v69) [])) fun v72=>
     Option.bind (some (Option.isSome (mget v66 v69))) fun v73=>
     joinP (τ:=(List Unknown)) (fun k74=>
      if v73 then
       Option.bind (ref18_flags v69) fun v75=>
       Option.bind (apnd (α:=UInt8) 1 [] v72) fun _=>
       Option.bind (apnd (α:=Unknown) 40 v70 ([(⟨v75,v69,v72⟩:Unknown)]:List Unknown)) fun v76=>
       k74 v76
      else
       k74 v70
     ) fun v77=>
     joinP (τ:=(List Unknown)) (fun k78=>
      forR (σ:=(List Unknown)) (fun v79=>
       k78 v79
      ) (fun next80 (x81:Unknown) i82 v79=>
       joinP (τ:=(List Unknown)) (fun k83=>
        if (x81.Type_ == v69) then
         Option.bind (apnd (α:=UInt8) 1 [] x81.Data) fun _=>
         Option.bind (apnd (α:=Unknown) 40 v79 ([{ x81 with Type_:=v69 }]:List Unknown)) fun v84=>
         k83 v84
        else
         k83 v79
       ) fun v85=>
       next80 v85
      ) a0.Other 0 v77
     ) fun v86=>
     k71 v86
    ) fun v87=>
    next68 ((i64w (v69 + 1)),v87)
   else
    k67 v70
  ) fuel (0,[])
 ) fun v88=>
 some (v88,0)
end Go.AX.Q18
end
section
namespace Go.AX.Q18
open Go Go.AX
set_option maxRecDepth 8000
theorem ent_len (a:Attrs) (k:Int):(ent a k).length ≤ 1:=by unfold ent;split<;>simp
theorem ofK_len (l:List Unknown) (k:Int):(ofK l k).length ≤ l.length:=flat_len (fun x=>by split<;>simp) l
structure Puts (m:List (Int×List UInt8)) (a:Attrs) (ks:List Int):Prop where
 h :∀k,mget m k=if k ∈ ks then G a k else none
theorem Puts.add {m:List (Int×List UInt8)} {a:Attrs} {ks:List Int} (p:Puts m a ks) (k:Int) {b:List UInt8} (hb:G a k=some b):Puts (mset m k b) a (k::ks):=⟨fun j=>by
 rw [mget_mset,p.h]
 by_cases h:j=k
 ·subst h;simp [hb]
 ·have:(j == k)=false:=by simpa using h
  rw [this];simp [h]⟩
theorem Puts.skip {m:List (Int×List UInt8)} {a:Attrs} {ks:List Int} (p:Puts m a ks) (k:Int) (hb:G a k=none):Puts m a (k::ks):=⟨fun j=>by
 rw [p.h]
 by_cases h:j=k
 ·subst h;simp [hb]
 ·simp [h]⟩
theorem putR {β ρ:Type} {w:β→List UInt8} {k:Int} {N:Nat} {K:List (Int×List UInt8)×List UInt8→Option ρ} {body:(List (Int×List UInt8)×List UInt8→Option ρ)→β→Nat→List (Int×List UInt8)×List UInt8→Option ρ} {l:List β} {m:List (Int×List UInt8)}
  {R:Option ρ} (hN:(l.flatMap w).length ≤ N) (hb :∀next x i m b,x ∈ l→b.length + (w x).length ≤ N→body next x i (m,b)=next (mset m k (b ++ w x),b ++ w x))
  (hK :∀m' b',(∀j,mget m' j=if l ≠ []∧j=k then some (l.flatMap w) else mget m j)→K (m',b')=R):forR K body l 0 (m,[])=R:=by
 have key :∀(t:List β) (i:Nat) (m:List (Int×List UInt8)) (b:List UInt8),(∀x ∈ t,x ∈ l)→b.length + (t.flatMap w).length ≤ N→∃m' b',forR K body t i (m,b)=K (m',b')∧∀j,mget m' j=if t ≠ []∧j=k then some (b ++ t.flatMap w) else mget m j:=by
  intro t
  induction t with
  | nil=>intro i m b _ _;exact ⟨m,b,rfl,fun j=>by simp⟩
  | cons x t ih=>
   intro i m b hx hl
   rw [List.flatMap_cons,List.length_append] at hl
   obtain ⟨m',b',e,h⟩:=ih (i + 1) (mset m k (b ++ w x)) (b ++ w x) (fun y hy=>hx y (List.mem_cons_of_mem _ hy)) (by rw [List.length_append];omega)
   refine ⟨m',b',?_,fun j=>?_⟩
   ·show body (fun s=>forR K body t (i + 1) s) x i (m,b)=_
    rw [hb _ x i m b (hx x (by simp)) (by omega)]
    exact e
   ·rw [h j,mget_mset]
    by_cases hj:j=k
    ·subst hj
     by_cases ht:t=[]
     ·subst ht;simp
     ·simp [ht,List.flatMap_cons]
    ·simp [hj]
 obtain ⟨m',b',e,h⟩:=key l 0 m [] (fun _ h=>h) (by simpa using hN)
 rw [e]
 exact hK m' b' fun j=>by rw [h j,List.nil_append]
theorem kindsR {a:Attrs} {m:List (Int×List UInt8)} {ρ:Type} {K:List Unknown→Option ρ} (hO:a.Other.length ≤ 1000000) (hd :∀x ∈ a.Other,x.Data.length ≤ 1000000) (hg :∀k b,G a k=some b→b.length ≤ 1000000)
  (hm :∀k,mget m k=G a k) :
  joinP (τ:=(List Unknown)) (fun k67=>
   whileR (σ:=Int×(List Unknown)) (fun next68 p=>match p with
    | (v69,v70)=>if (decide (v69 < 256))=true then
     joinP (τ:=(List Unknown)) (fun k71=>
      Option.bind (some (Option.getD (mget m v69) [])) fun v72=>
      Option.bind (some (Option.isSome (mget m v69))) fun v73=>
      joinP (τ:=(List Unknown)) (fun k74=>
       if v73=true then
        Option.bind (ref18_flags v69) fun v75=>
        Option.bind (apnd (α:=UInt8) 1 [] v72) fun _=>
        Option.bind (apnd (α:=Unknown) 40 v70 ([(⟨v75,v69,v72⟩:Unknown)]:List Unknown)) fun v76=>
        k74 v76
       else
        k74 v70
      ) fun v77=>
      joinP (τ:=(List Unknown)) (fun k78=>
       forR (σ:=(List Unknown)) (fun v79=>
        k78 v79
       ) (fun next80 (x81:Unknown) i82 v79=>
        joinP (τ:=(List Unknown)) (fun k83=>
         if (x81.Type_ == v69)=true then
          Option.bind (apnd (α:=UInt8) 1 [] x81.Data) fun _=>
          Option.bind (apnd (α:=Unknown) 40 v79 ([{ x81 with Type_:=v69 }]:List Unknown)) fun v84=>
          k83 v84
         else
          k83 v79
        ) fun v85=>
        next80 v85
       ) a.Other 0 v77
      ) fun v86=>
      k71 v86
     ) fun v87=>
     next68 ((i64w (v69 + 1)),v87)
    else
     k67 v70
   ) fuel (0,[])
  ) K=K (wrS a):=by
 rw [joinP_def]
 refine (whileR_eq (fun s:Int×List Unknown=>∃k:Nat,s.1=k∧k ≤ 256∧s.2.length ≤ k * 1000001) (fun s=>(256 - s.1).toNat) (fun s=>K (s.2 ++ (List.range' s.1.toNat (256 - s.1.toNat)).flatMap fun (k:Nat)=>ent a k ++ ofK a.Other k)) ?_ fuel (0,[]) ⟨0,rfl,by omega,by simp⟩ (lt_fuel (by simp only;omega))).trans rfl
 rintro next ⟨kk,v⟩ ⟨k,rfl,hk2,hv⟩ hn
 dsimp only at hv ⊢
 by_cases hk:k < 256
 ·rw [if_pos (by simp only [decide_eq_true_eq];omega),joinP_def,some_bind',some_bind',hm]
  have he:=ent_len a k
  have hent :∀q:List Unknown→Option ρ,joinP (τ:=(List Unknown)) (fun k74=>
       if (G a k).isSome=true then
        Option.bind (ref18_flags k) fun v75=>
        Option.bind (apnd (α:=UInt8) 1 [] ((G a k).getD [])) fun _=>
        Option.bind (apnd (α:=Unknown) 40 v ([(⟨v75,k,((G a k).getD [])⟩:Unknown)]:List Unknown)) fun v76=>
        k74 v76
       else
        k74 v
      ) q=q (v ++ ent a k):=by
   intro q
   rw [joinP_def]
   unfold ent
   cases hG:G a k with
   | none=>rw [if_neg (by decide),List.append_nil]
   | some b=>
    have:=hg k b hG
    rw [if_pos (show (some b).isSome=true from rfl),ref18_flags_eq,some_bind',Option.getD_some,apnd_some (by decide) (by simp;omega),some_bind',apnd_some (by decide) (by simp;omega),some_bind']
  rw [hent,joinP_def]
  have hlen:=ofK_len a.Other k
  refine (appR (g:=fun x:Unknown=>if (x.Type_ == (k:Int))=true then [x] else []) (N:=(k + 1) * 1000001) (by unfold ofK at hlen;rw [List.length_append];omega) fun next2 x i w hx hw=>?_).trans ?_
  ·rw [joinP_def]
   by_cases hc:(x.Type_ == (k:Int))=true
   ·rw [if_pos hc] at hw
    have:=hd x hx
    simp only [List.length_singleton] at hw
    rw [if_pos hc,if_pos hc,apnd_some (by decide) (by simp;omega),some_bind',apnd_some (by decide) (by simp;omega),some_bind']
    have e:x.Type_=(k:Int):=by simpa using hc
    rw [← e]
   ·rw [if_neg hc,if_neg hc,List.append_nil]
  ·show next (i64w ((k:Int) + 1),v ++ ent a k ++ ofK a.Other k)=_
   rw [i64w_id (by omega),hn _ ⟨k + 1,by simp,by omega,by simp only [List.length_append];omega⟩ (by simp only;omega)]
   have e1:((k:Int) + 1).toNat=k + 1:=by omega
   have e2:256 - k=(256 - (k + 1)) + 1:=by omega
   simp only [e1,Int.toNat_natCast]
   rw [e2,List.range'_succ,List.flatMap_cons,List.append_assoc,List.append_assoc,List.append_assoc]
 ·rw [if_neg (by simp only [decide_eq_true_eq];omega)]
  have:256 - (k:Int).toNat=0:=by omega
  rw [this]
  simp
structure VA (a:Attrs):Prop where
 O:validO a.Other=true
 o:-1 ≤ a.Origin∧a.Origin ≤ 2
 p:vpath a.Path=true
 n:a.Next.ok=true
 m:-1 ≤ a.MED∧a.MED ≤ 4294967295
 r:-1 ≤ a.Pref∧a.Pref ≤ 4294967295
 t:a.OTC=-1 ∨ (1 ≤ a.OTC∧a.OTC ≤ 4294967295)
 c:validC a.Communities=true
 l:validL a.Large=true
 e:a.Other.length ≤ 8
theorem VA_iff {a:Attrs}:validA a=true ↔ VA a:=by
 unfold validA numB
 simp only [Bool.and_eq_true,Bool.or_eq_true,decide_eq_true_eq]
 constructor
 ·rintro ⟨h1,h2,h3,h4,h5,h6,h7,h8,h9,h10⟩
  exact ⟨h1,h2,h3,h4,h5,h6,h7,h8,h9,h10⟩
 ·rintro ⟨h1,h2,h3,h4,h5,h6,h7,h8,h9,h10⟩
  exact ⟨h1,h2,h3,h4,h5,h6,h7,h8,h9,h10⟩
theorem vpath_sizes {p:List Segment} (h:vpath p=true):p.length ≤ tot p∧tot p ≤ 64:=by
 unfold vpath at h
 simp only [Bool.and_eq_true,List.all_eq_true,decide_eq_true_eq] at h
 refine ⟨?_,h.2⟩
 have h1:=h.1.1
 clear h
 induction p with
 | nil=>exact Nat.le_refl _
 | cons s t ih=>
  rw [tot_cons,List.length_cons]
  have h2:=ih fun x hx=>h1 x (List.mem_cons_of_mem _ hx)
  have h3:=h1 s (by simp)
  simp only [okSeg,Bool.and_eq_true,decide_eq_true_eq] at h3
  omega
theorem VA.sm {a:Attrs} (v:VA a):SmA a:=by
 obtain ⟨h1,h2⟩:=vpath_sizes v.p
 have h3:=(validC_iff.1 v.c).2.2
 have h4:=(validL_iff.1 v.l).2.2
 have h5:=v.e
 exact ⟨by omega,by omega,by omega,by omega,by omega,fun u hu=>by have:=(other_unk v.O hu).2.2.2.2;omega⟩
theorem G_len {a:Attrs} (v:VA a) {k:Int} {b:List UInt8} (h:G a k=some b):b.length ≤ 768:=by
 obtain ⟨h1,h2⟩:=vpath_sizes v.p
 have h3:=(validC_iff.1 v.c).2.2
 have h4:=(validL_iff.1 v.l).2.2
 unfold G at h
 split at h
 ·split at h
  ·obtain rfl:=Option.some.inj h;simp
  ·cases h
 split at h
 ·split at h
  ·obtain rfl:=Option.some.inj h;rw [pathB_len];omega
  ·cases h
 split at h
 ·split at h
  ·obtain rfl:=Option.some.inj h;simp [b4]
  ·cases h
 split at h
 ·split at h
  ·obtain rfl:=Option.some.inj h;rw [w4_len];omega
  ·cases h
 split at h
 ·split at h
  ·obtain rfl:=Option.some.inj h;rw [w4_len];omega
  ·cases h
 split at h
 ·split at h
  ·obtain rfl:=Option.some.inj h;rw [flatC_len];omega
  ·cases h
 split at h
 ·split at h
  ·obtain rfl:=Option.some.inj h;rw [flatL_len];omega
  ·cases h
 split at h
 ·split at h
  ·obtain rfl:=Option.some.inj h;rw [w4_len];omega
  ·cases h
 ·cases h
theorem Write_ref {a:Attrs} (v:VA a):ref18_Write a=some (wrS a,0):=by
 have hs:=vpath_sizes v.p
 have hc:=(validC_iff.1 v.c).2.2
 have hl:=(validL_iff.1 v.l).2.2
 unfold ref18_Write
 rw [Valid_ref v.sm,some_bind',VA_iff.2 v,if_neg (by decide)]
 have p0:Puts [] a []:=⟨fun k=>by simp [mget]⟩
 rw [joinP_ite]
 have p1:Puts (if decide (a.Origin ≥ 0)=true then mset ([]:List (Int×List UInt8)) (1:Int) [toU8 a.Origin] else []) a [1]:=by
  by_cases h:a.Origin ≥ 0
  ·rw [if_pos (by simpa using h)]
   exact p0.add 1 (by unfold G;rw [if_pos rfl,if_pos (by omega)])
  ·rw [if_neg (by simpa using h)]
   exact p0.skip 1 (by unfold G;rw [if_pos rfl,if_neg (by have:=v.o;omega)])
 generalize (if decide (a.Origin ≥ 0)=true then mset ([]:List (Int×List UInt8)) (1:Int) [toU8 a.Origin] else [])=m1 at p1
 rw [joinP_ite]
 have eb:(if decide (a.Origin ≥ 0)=true then true else (cond false true (decide ((a.Path.length:Int) > 0))))=decide (a.Origin ≠ -1 ∨ a.Path ≠ []):=by
  have:=v.o
  have e:(a.Path ≠ []) ↔ 0 < a.Path.length:=List.length_pos_iff.symm
  by_cases h:a.Origin ≥ 0
  ·rw [if_pos (by simpa using h),decide_eq_true (.inl (by omega))]
  ·rw [if_neg (by simpa using h),cond_false]
   have h1:a.Origin=-1:=by omega
   have e2:(a.Origin ≠ -1 ∨ a.Path ≠ []) ↔ 0 < a.Path.length:=by rw [e];omega
   rw [Bool.eq_iff_iff,decide_eq_true_eq,decide_eq_true_eq,e2]
   omega
 rw [eb,joinP_def]
 have step2 :∃m2,Puts m2 a [2,1]∧∀(ρ:Type) (q:List (Int×List UInt8)→Option ρ),(if decide (a.Origin ≠ -1 ∨ a.Path ≠ [])=true then q (mset m1 2 (pathB a.Path)) else q m1)=q m2:=by
  by_cases h:a.Origin ≠ -1 ∨ a.Path ≠ []
  ·exact ⟨_,p1.add 2 (by unfold G;rw [if_neg (by decide),if_pos rfl,if_pos h]),fun ρ q=>by rw [if_pos (by simpa using h)]⟩
  ·exact ⟨_,p1.skip 2 (by unfold G;rw [if_neg (by decide),if_pos rfl,if_neg h]),fun ρ q=>by rw [if_neg (by simpa using h)]⟩
 rw [path_ref (by omega)]
 obtain ⟨m2,p2,e2⟩:=step2
 refine (e2 _ (WR3 a)).trans ?_
 unfold WR3
 have en :∀{ρ:Type} (q:Bool→Option ρ),joinP (τ:=Bool) (fun k27=>if (!(Addr.eqd a.Next (⟨false,(0:UInt64),(0:UInt64)⟩:Addr)))=true then k27 (cond true (!a.Next.V6) false) else k27 false) q=q (hasNext a):=by
  intro ρ q
  rw [joinP_def]
  unfold hasNext
  cases a.Next.V6<;>cases Addr.eqd a.Next ⟨false,0,0⟩<;>rfl
 refine (en _).trans ?_
 rw [joinP_def]
 have step3 :∃m3,Puts m3 a [3,2,1]∧∀(ρ:Type) (q:List (Int×List UInt8)→Option ρ),(if hasNext a=true then Option.bind (ref01_Bytes a.Next) fun v30=>q (mset m2 3 v30) else q m2)=q m3:=by
  by_cases h:hasNext a=true
  ·have h6:a.Next.V6=false:=by
    unfold hasNext at h
    cases h6:a.Next.V6
    ·rfl
    ·rw [h6] at h;simp at h
   exact ⟨_,p2.add 3 (by unfold G;rw [if_neg (by decide),if_neg (by decide),if_pos rfl,if_pos h]),fun ρ q=>by rw [if_pos h,Bytes_ref v.n h6,some_bind']⟩
  ·exact ⟨_,p2.skip 3 (by unfold G;rw [if_neg (by decide),if_neg (by decide),if_pos rfl,if_neg h]),fun ρ q=>by rw [if_neg h]⟩
 obtain ⟨m3,p3,e3⟩:=step3
 refine (e3 _ (WR4 a)).trans ?_
 unfold WR4
 rw [joinP_def]
 have step4 :∃m4,Puts m4 a [4,3,2,1]∧∀(ρ:Type) (q:List (Int×List UInt8)→Option ρ),(if decide (a.MED ≥ 0)=true then Option.bind (ref18_word a.MED 4) fun v33=>q (mset m3 4 v33) else q m3)=q m4:=by
  have:=v.m
  by_cases h:a.MED ≥ 0
  ·exact ⟨_,p3.add 4 (by unfold G;rw [if_neg (by decide),if_neg (by decide),if_neg (by decide),if_pos rfl,if_pos (by omega)]),fun ρ q=>by rw [if_pos (by simpa using h),word4,some_bind']⟩
  ·exact ⟨_,p3.skip 4 (by unfold G;rw [if_neg (by decide),if_neg (by decide),if_neg (by decide),if_pos rfl,if_neg (by omega)]),fun ρ q=>by rw [if_neg (by simpa using h)]⟩
 obtain ⟨m4,p4,e4⟩:=step4
 refine (e4 _ (WR5 a)).trans ?_
 unfold WR5
 rw [joinP_def]
 have step5 :∃m5,Puts m5 a [5,4,3,2,1]∧∀(ρ:Type) (q:List (Int×List UInt8)→Option ρ),(if decide (a.Pref ≥ 0)=true then Option.bind (ref18_word a.Pref 4) fun v33=>q (mset m4 5 v33) else q m4)=q m5:=by
  have:=v.r
  by_cases h:a.Pref ≥ 0
  ·exact ⟨_,p4.add 5 (by unfold G;rw [if_neg (by decide),if_neg (by decide),if_neg (by decide),if_neg (by decide),if_pos rfl,if_pos (by omega)]),fun ρ q=>by rw [if_pos (by simpa using h),word4,some_bind']⟩
  ·exact ⟨_,p4.skip 5 (by unfold G;rw [if_neg (by decide),if_neg (by decide),if_neg (by decide),if_neg (by decide),if_pos rfl,if_neg (by omega)]),fun ρ q=>by rw [if_neg (by simpa using h)]⟩
 obtain ⟨m5,p5,e5⟩:=step5
 refine (e5 _ (WR8 a)).trans ?_
 unfold WR8
 have ck8:chk ((mget m5 8).isNone=true)=some ():=by
  have hn:mget m5 8=none:=by rw [p5.h,if_neg (by decide)]
  unfold chk
  rw [hn]
  rfl
 rw [joinP_def,ck8,some_bind']
 refine putR (w:=commB) (k:=8) (N:=1000000) (l:=a.Communities) (by rw [flatC_len];omega) (fun next x i m b _ hb=>by
  rw [commB_len] at hb
  dsimp only
  rw [word2,some_bind',apnd_some (by decide) (by simp [w2];omega),some_bind',word2,some_bind',apnd_some (by decide) (by simp [w2];omega),some_bind',List.append_assoc]
  rfl) fun m8 b8 h8=>?_
 have p8:Puts m8 a [8,5,4,3,2,1]:=⟨fun j=>by
  rw [h8 j,p5.h]
  by_cases hj:j=8
  ·subst hj
   have:G a 8=if a.Communities ≠ [] then some (a.Communities.flatMap commB) else none:=rfl
   simp [this]
  ·simp [hj]⟩
 dsimp only
 have ck32:chk ((mget m8 32).isNone=true)=some ():=by
  have hn:mget m8 32=none:=by rw [p8.h,if_neg (by decide)]
  unfold chk
  rw [hn]
  rfl
 rw [joinP_def,ck32,some_bind']
 refine putR (w:=largeB) (k:=32) (N:=1000000) (l:=a.Large) (by rw [flatL_len];omega) (fun next x i m b _ hb=>by
  rw [largeB_len] at hb
  dsimp only
  rw [word4,some_bind',apnd_some (by decide) (by simp [w4];omega),some_bind',word4,some_bind',apnd_some (by decide) (by simp [w4];omega),some_bind',word4,some_bind',apnd_some (by decide) (by simp [w4];omega),some_bind',List.append_assoc,List.append_assoc]
  rfl) fun m9 b9 h9=>?_
 have p9:Puts m9 a [32,8,5,4,3,2,1]:=⟨fun j=>by
  rw [h9 j,p8.h]
  by_cases hj:j=32
  ·subst hj
   have:G a 32=if a.Large ≠ [] then some (a.Large.flatMap largeB) else none:=rfl
   simp [this]
  ·simp [hj]⟩
 dsimp only
 rw [joinP_def]
 have step35 :∃m10,Puts m10 a [35,32,8,5,4,3,2,1]∧∀(ρ:Type) (q:List (Int×List UInt8)→Option ρ),(if decide (a.OTC ≥ 0)=true then Option.bind (ref18_word a.OTC 4) fun v33=>q (mset m9 35 v33) else q m9)=q m10:=by
  have:=v.t
  have hG:G a 35=if a.OTC ≠ -1 then some (w4 a.OTC) else none:=rfl
  by_cases h:a.OTC ≥ 0
  ·exact ⟨_,p9.add 35 (by rw [hG,if_pos (by omega)]),fun ρ q=>by rw [if_pos (by simpa using h),word4,some_bind']⟩
  ·exact ⟨_,p9.skip 35 (by rw [hG,if_neg (by omega)]),fun ρ q=>by rw [if_neg (by simpa using h)]⟩
 obtain ⟨m10,p10,e10⟩:=step35
 refine (e10 _ (WRk a)).trans ?_
 unfold WRk
 refine (kindsR (a:=a) (by have:=v.e;omega) (fun x hx=>by have:=(other_unk v.O hx).2.2.2.2;omega) (fun k b h=>by have:=G_len v h;omega) fun k=>?_).trans rfl
 rw [p10.h]
 split
 ·rfl
 ·rename_i hk
  simp only [List.mem_cons,List.not_mem_nil,or_false,not_or] at hk
  unfold G
  rw [if_neg hk.2.2.2.2.2.2.2,if_neg hk.2.2.2.2.2.2.1,if_neg hk.2.2.2.2.2.1,if_neg hk.2.2.2.2.1,if_neg hk.2.2.2.1,if_neg hk.2.2.1,if_neg hk.2.1,if_neg hk.1]
theorem Write_ref_bad {a:Attrs} (h:SmA a) (hv:validA a=false):ref18_Write a=some ([],1):=by
 unfold ref18_Write
 rw [Valid_ref h,some_bind',hv]
 rfl
end Go.AX.Q18
end
section
namespace Go.AX.Q18
open Go Go.AX
set_option maxRecDepth 8000
theorem addR {v:List Unknown} {k f:Int} {d:List UInt8} {c:Bool} {ρ:Type} {K:List Unknown→Option ρ} (hf:fl k=f) (hv:v.length ≤ 1000000) :
  joinP (τ:=(List Unknown)) (fun k33=>
   joinP (τ:=(List Unknown)) (fun k34=>
    if c=true then
     Option.bind (some (Option.getD (mget glob0 k) 0)) fun v35=>
     Option.bind (apnd (α:=Unknown) 40 v ([(⟨v35,k,d⟩:Unknown)]:List Unknown)) fun v36=>
     k34 v36
    else
     k34 v
   ) fun v37=>
   k33 v37
  ) K=K (v ++ if c=true then [⟨fl k,k,d⟩] else []):=by
 rw [joinP_def,joinP_def,mget_fl]
 cases c
 ·rw [if_neg (by decide),if_neg (by decide),List.append_nil]
 ·rw [if_pos rfl,if_pos rfl,some_bind',apnd_some (by decide) (by simp;omega),some_bind']
theorem Write2_eq (a b:Unknown):attribute_Write_2 a b=some (lexC (keyU a) (keyU b)):=Read2_eq a b
def known8:List Int:=[1,2,3,4,5,8,32,35]
def outS (a:Attrs):List Unknown:=known8.flatMap (ent a) ++ a.Other
theorem ent_known {a:Attrs} {k:Int} {y:Unknown} (h:y ∈ ent a k):k ∈ known8:=by
 obtain ⟨b,hb,_⟩:=ent_mem.1 h
 rcases fl_cases k with ⟨e,_⟩ | ⟨e,_⟩ | ⟨e,_⟩ | ⟨e,_⟩ | ⟨e,_⟩ | ⟨e,_⟩ | ⟨e,_⟩ | ⟨e,_⟩ | e
 iterate 8 (subst e;decide)
 rw [G_none e.2.2.2.2.2.2.2.2] at hb;cases hb
theorem outS_mem {a:Attrs} {y:Unknown}:y ∈ outS a ↔ (∃k,y ∈ ent a k) ∨ y ∈ a.Other:=by
 unfold outS
 rw [List.mem_append,List.mem_flatMap]
 exact ⟨fun h=>h.imp_left fun ⟨k,_,h⟩=>⟨k,h⟩,fun h=>h.imp_left fun ⟨k,h⟩=>⟨k,ent_known h,h⟩⟩
theorem outS_dist {a:Attrs} (hO:validO a.Other=true):(outS a).Pairwise fun x y=>keyU x ≠ keyU y:=by
 unfold outS
 have hk :∀{x y:Unknown},x.Type_ ≠ y.Type_→keyU x ≠ keyU y:=fun h e=>h (by simpa [keyU] using e)
 refine List.pairwise_append.2 ⟨?_,(other_strict hO).imp fun {x y} h=>hk (by simp only [ltT,decide_eq_true_eq] at h;omega),fun x hx y hy=>hk fun e=>?_⟩
 ·rw [List.pairwise_flatMap]
  refine ⟨fun k _=>?_,?_⟩
  ·unfold ent
   split
   ·exact List.pairwise_singleton _ _
   ·exact .nil
  ·have:known8.Pairwise (· ≠ ·):=by decide
   exact this.imp fun {k j} h x hx y hy=>hk (by rw [ent_type hx,ent_type hy];exact h)
 ·obtain ⟨k,_,hx⟩:=List.mem_flatMap.1 hx
  obtain ⟨b,hb,_⟩:=ent_mem.1 hx
  have:=unk_fl (other_unk hO hy).1
  rw [← e,ent_type hx] at this
  rw [G_none this] at hb;cases hb
theorem outS_sort {a:Attrs} (hO:validO a.Other=true) (hl:(outS a).length ≤ 1000000):sortF attribute_Write_2 (outS a)=some (wrS a):=by
 obtain ⟨r,h1,h2,h3⟩:=sortF_K keyU_len Write2_eq (l:=outS a) (by omega)
 rw [h1]
 congr 1
 refine ltK_ext keyU_len (strict_of keyU_len h3 ?_) (wr_strict hO) fun x=>?_
 ·exact (h2.pairwise_iff fun h e=>h e.symm).2 (outS_dist hO)
 ·rw [h2.mem_iff,outS_mem,wr_mem hO]
theorem cloneR {l:List Unknown} (hl:l.length ≤ 1000) (hd :∀x ∈ l,x.Data.length ≤ 1000000) {v:List Unknown} (hv:v.length ≤ 1000) {ρ:Type} {K:List Unknown→Option ρ} :
  joinP (τ:=(List Unknown)) (fun k67=>
   forR (σ:=(List Unknown)) (fun v68=>
    k67 v68
   ) (fun next69 (x70:Unknown) i71 v68=>
    Option.bind (slices_Clone_byte_byte x70.Data) fun v72=>
    Option.bind (apnd (α:=Unknown) 40 v68 ([{ x70 with Data:=v72 }]:List Unknown)) fun v73=>
    next69 v73
   ) l 0 v
  ) K=K (v ++ l):=by
 rw [joinP_def]
 have e:l.flatMap (fun x=>[x])=l:=by simp
 refine (appR (g:=fun x:Unknown=>[x]) (N:=100000) (by rw [e];omega) fun next x i w hx hw=>?_).trans (by rw [e])
 have:=hd x hx
 simp only [List.length_singleton] at hw
 unfold slices_Clone_byte_byte
 rw [apnd_some (by decide) (by simp;omega),some_bind',some_bind',List.nil_append,apnd_some (by decide) (by simp;omega),some_bind']
theorem ent_len8 (a:Attrs):(known8.flatMap (ent a)).length ≤ 8:=flat_len (ent_len a) known8
theorem Write_prog {a:Attrs} (v:VA a):attribute_Write a=some (wrS a,0):=by
 have hs:=vpath_sizes v.p
 have hc:=(validC_iff.1 v.c)
 have hl:=(validL_iff.1 v.l).2.2
 unfold attribute_Write
 rw [Valid_prog v.sm,some_bind',VA_iff.2 v,if_neg (by decide)]
 have s1 :∀{ρ:Type} (q:List Unknown→Option ρ),joinP (τ:=(List Unknown)) (fun k2=>
   joinP (τ:=(List Unknown)) (fun k3=>
    if (a.Origin != (-1))=true then
     Option.bind (some (Option.getD (mget glob0 1) 0)) fun v4=>
     Option.bind (apnd (α:=Unknown) 40 [] ([(⟨v4,1,([(toU8 a.Origin)]:List UInt8)⟩:Unknown)]:List Unknown)) fun _=>
     k3 ([(⟨v4,1,([(toU8 a.Origin)]:List UInt8)⟩:Unknown)]:List Unknown)
    else
     k3 []
   ) fun v5=>
   k2 v5
  ) q=q (ent a 1):=by
  intro ρ q
  have hG:G a 1=if a.Origin ≠ -1 then some [toU8 a.Origin] else none:=rfl
  unfold ent
  rw [joinP_def,joinP_def,mget_fl,hG]
  by_cases h:a.Origin=-1
  ·rw [if_neg (by simp [h]),if_neg (by simp [h])]
  ·rw [if_pos (by simpa using h),if_pos h,some_bind',apnd_some (by decide) (by simp),some_bind']
 rw [s1]
 have hpath:attribute_path a.Path=some (pathB a.Path):=path_prog (by omega)
 have s2 :∀{ρ:Type} (w:List Unknown) (hw:w.length ≤ 1) (q:List Unknown→Option ρ),joinP (τ:=(List Unknown)) (fun k7=>
   if (a.Origin != (-1))=true then
    Option.bind (attribute_path a.Path) fun v8=>
    joinP (τ:=(List Unknown)) (fun k9=>
     Option.bind (some (Option.getD (mget glob0 2) 0)) fun v10=>
     Option.bind (apnd (α:=Unknown) 40 w ([(⟨v10,2,v8⟩:Unknown)]:List Unknown)) fun v11=>
     k9 v11
    ) fun v12=>
    k7 v12
   else
    Option.bind (attribute_path a.Path) fun v13=>
    joinP (τ:=(List Unknown)) (fun k14=>
     joinP (τ:=(List Unknown)) (fun k15=>
      if (cond false true (decide ((a.Path.length:Int) > 0)))=true then
       Option.bind (some (Option.getD (mget glob0 2) 0)) fun v16=>
       Option.bind (apnd (α:=Unknown) 40 w ([(⟨v16,2,v13⟩:Unknown)]:List Unknown)) fun v17=>
       k15 v17
      else
       k15 w
     ) fun v18=>
     k14 v18
    ) fun v19=>
    k7 v19
  ) q=q (w ++ ent a 2):=by
  intro ρ w hw q
  have hG:G a 2=if a.Origin ≠ -1 ∨ a.Path ≠ [] then some (pathB a.Path) else none:=rfl
  have e:(a.Path ≠ []) ↔ 0 < a.Path.length:=List.length_pos_iff.symm
  unfold ent
  rw [joinP_def,hpath,mget_fl,hG]
  by_cases h:a.Origin=-1
  ·rw [if_neg (by simp [h]),some_bind',joinP_def,joinP_def,cond_false]
   by_cases h2:0 < a.Path.length
   ·rw [if_pos (by simp only [decide_eq_true_eq];omega),if_pos (.inr (e.2 h2)),some_bind',apnd_some (by decide) (by simp;omega),some_bind']
   ·rw [if_neg (by simp only [decide_eq_true_eq];omega),if_neg (by rw [e];omega),List.append_nil]
  ·rw [if_pos (by simpa using h),if_pos (.inl h),some_bind',joinP_def,some_bind',apnd_some (by decide) (by simp;omega),some_bind']
 have l1:=ent_len a 1
 have l2:=ent_len a 2
 have l3:=ent_len a 3
 have l4:=ent_len a 4
 have l5:=ent_len a 5
 have l8:=ent_len a 8
 have l32:=ent_len a 32
 refine (s2 _ (by omega) _).trans ?_
 have s3 :∀{ρ:Type} (w:List Unknown) (hw:w.length ≤ 2) (q:List Unknown→Option ρ),joinP (τ:=(List Unknown)) (fun k21=>
   if (!a.Next.V6)=true then
    Option.bind (addr_Bytes a.Next) fun v22=>
    joinP (τ:=(List Unknown)) (fun k23=>
     joinP (τ:=(List Unknown)) (fun k24=>
      if (cond true (!(Addr.eqd a.Next (⟨false,(0:UInt64),(0:UInt64)⟩:Addr))) false)=true then
       Option.bind (some (Option.getD (mget glob0 3) 0)) fun v25=>
       Option.bind (apnd (α:=Unknown) 40 w ([(⟨v25,3,v22⟩:Unknown)]:List Unknown)) fun v26=>
       k24 v26
      else
       k24 w
     ) fun v27=>
     k23 v27
    ) fun v28=>
    k21 v28
   else
    Option.bind (addr_Bytes a.Next) fun v29=>
    joinP (τ:=Unit) (fun k30=>
     k30 ()
    ) fun _=>
    k21 w
  ) q=q (w ++ ent a 3):=by
  intro ρ w hw q
  have hG:G a 3=if hasNext a=true then some (b4 a.Next.Lo.toNat) else none:=rfl
  unfold ent
  rw [joinP_def,mget_fl,hG]
  unfold hasNext
  cases h6:a.Next.V6
  ·rw [if_pos (by rfl),Bytes_prog v.n h6,some_bind',joinP_def,joinP_def]
   cases Addr.eqd a.Next ⟨false,0,0⟩
   ·rw [if_pos (by rfl),if_pos (by rfl),some_bind',apnd_some (by decide) (by simp;omega),some_bind']
   ·rw [if_neg (by decide),if_neg (by decide),List.append_nil]
  ·obtain ⟨r,hr⟩:=Bytes_tt a.Next
   rw [if_neg (by decide),hr,some_bind',joinP_def,if_neg (by simp),List.append_nil]
 refine (s3 _ (by rw [List.length_append];omega) _).trans ?_
 rw [put_nil_eq,some_bind']
 have en :∀(k:Int) (c:Bool) (d:List UInt8),G a k=(if c=true then some d else none)→(if c=true then [(⟨fl k,k,d⟩:Unknown)] else [])=ent a k:=by
  intro k c d h
  unfold ent
  rw [h]
  cases c<;>rfl
 have c4:G a 4=if (a.MED != (-1))=true then some (w4 a.MED) else none:=by
  have:G a 4=if a.MED ≠ -1 then some (w4 a.MED) else none:=rfl
  rw [this];simp only [bne_iff_ne]
 have c5:G a 5=if (a.Pref != (-1))=true then some (w4 a.Pref) else none:=by
  have:G a 5=if a.Pref ≠ -1 then some (w4 a.Pref) else none:=rfl
  rw [this];simp only [bne_iff_ne]
 have c35:G a 35=if (a.OTC != (-1))=true then some (w4 a.OTC) else none:=by
  have:G a 35=if a.OTC ≠ -1 then some (w4 a.OTC) else none:=rfl
  rw [this];simp only [bne_iff_ne]
 have c8:G a 8=if decide ((a.Communities.length:Int) > 0)=true then some (a.Communities.flatMap commB) else none:=by
  have:G a 8=if a.Communities ≠ [] then some (a.Communities.flatMap commB) else none:=rfl
  rw [this]
  cases a.Communities with
  | nil=>rfl
  | cons x t=>rw [if_pos (by simp),if_pos (by simp)]
 have c32:G a 32=if decide ((a.Large.length:Int) > 0)=true then some (a.Large.flatMap largeB) else none:=by
  have:G a 32=if a.Large ≠ [] then some (a.Large.flatMap largeB) else none:=rfl
  rw [this]
  cases a.Large with
  | nil=>rfl
  | cons x t=>rw [if_pos (by simp),if_pos (by simp)]
 refine (addR (f:=fl 4) rfl (by simp only [List.length_append];omega)).trans ?_
 rw [en 4 _ _ c4,put_nil_eq,some_bind']
 refine (addR (f:=fl 5) rfl (by simp only [List.length_append];omega)).trans ?_
 rw [en 5 _ _ c5,comms_prog hc.1 (by omega),some_bind']
 refine (addR (f:=fl 8) rfl (by simp only [List.length_append];omega)).trans ?_
 rw [en 8 _ _ c8,large_prog (by omega),some_bind']
 refine (addR (f:=fl 32) rfl (by simp only [List.length_append];omega)).trans ?_
 rw [en 32 _ _ c32,put_nil_eq,some_bind']
 refine (addR (f:=fl 35) rfl (by simp only [List.length_append];omega)).trans ?_
 rw [en 35 _ _ c35]
 have l35:=ent_len a 35
 refine (cloneR (by have:=v.e;omega) v.sm.d (by simp only [List.length_append];omega)).trans ?_
 have e:ent a 1 ++ ent a 2 ++ ent a 3 ++ ent a 4 ++ ent a 5 ++ ent a 8 ++ ent a 32 ++ ent a 35 ++ a.Other=outS a:=by
  unfold outS known8
  simp only [List.flatMap_cons,List.flatMap_nil,List.append_nil,List.append_assoc]
 rw [e,outS_sort v.O (by unfold outS;rw [List.length_append];have:=ent_len8 a;have:=v.e;omega),some_bind']
theorem Write_prog_bad {a:Attrs} (h:SmA a) (hv:validA a=false):attribute_Write a=some ([],1):=by
 unfold attribute_Write
 rw [Valid_prog h,some_bind',hv]
 rfl
end Go.AX.Q18
end
section
namespace Go.AX.Q18
open Go Go.AX
set_option maxRecDepth 8000
theorem New_eq (l:List Int):make_New l=some ⟨l,0⟩:=rfl
end Go.AX.Q18
end
section
namespace Go.AX.Q18
open Go Go.AX
set_option maxRecDepth 8000
theorem or_step {u v:Nat} (hu:u < 2 ^ 64) (hv:v < 256):toU64 ((BitVec.ofInt 64 ((toU64 ((u:Int) * (2 ^ (min (Int.toNat 8) 64)))).toNat:Int) ||| BitVec.ofInt 64 ((toU64 (v:Int)).toNat:Int)).toNat:Int)=UInt64.ofNat (u * 256 + v):=by
 have h1:((u:Int) * (2 ^ (min (Int.toNat 8) 64)))=((u * 256:Nat):Int):=by
  have:min (Int.toNat 8) 64=8:=rfl
  rw [this];omega
 rw [h1,toU64_nat,toU64_nat,toU64_nat]
 have h2:(UInt64.ofNat v).toNat=v:=by simp only [UInt64.toNat_ofNat'];omega
 have h3:(UInt64.ofNat (u * 256)).toNat=2 ^ 8 * (u % 2 ^ 56):=by simp only [UInt64.toNat_ofNat'];omega
 rw [h2,h3,BitVec.ofInt_natCast,BitVec.ofInt_natCast,BitVec.toNat_or,BitVec.toNat_ofNat,BitVec.toNat_ofNat,Nat.mod_eq_of_lt (show 2 ^ 8 * (u % 2 ^ 56) < 2 ^ 64 by omega),Nat.mod_eq_of_lt (show v < 2 ^ 64 by omega),
  ← Nat.two_pow_add_eq_or_of_lt (show v < 2 ^ 8 by omega)]
 apply UInt64.toNat_inj.1
 simp only [UInt64.toNat_ofNat']
 omega
theorem hi_step {h l:UInt64} (hh:h.toNat=0) (hl:l.toNat < 72057594037927936):(toU64 ((BitVec.ofInt 64 ((toU64 ((h.toNat:Int) * (2 ^ (min (Int.toNat 8) 64)))).toNat:Int) ||| BitVec.ofInt 64 ((toU64 (Int.fdiv (l.toNat:Int) (2 ^ (min (Int.toNat 56) 64)))).toNat:Int)).toNat:Int))=0:=by
 have e1:Int.fdiv (l.toNat:Int) (2 ^ (min (Int.toNat 56) 64))=((l.toNat / 2 ^ (min 56 64):Nat):Int):=fd l.toNat 56
 have e2:l.toNat / 2 ^ (min 56 64)=0:=Nat.div_eq_of_lt hl
 rw [e1,e2,hh]
 have e3:(((0:Nat):Int) * (2 ^ (min (Int.toNat 8) 64)))=((0:Nat):Int):=by simp
 rw [e3,toU64_nat]
 rfl
def fbStep (v4:Addr) (x6:UInt8):Addr:=⟨v4.V6,(toU64 ((BitVec.ofInt 64 ((toU64 ((v4.Hi.toNat:Int) * (2 ^ (min (Int.toNat 8) 64)))).toNat:Int) ||| BitVec.ofInt 64 ((toU64 (Int.fdiv (v4.Lo.toNat:Int) (2 ^ (min (Int.toNat 56) 64)))).toNat:Int)).toNat:Int)),(toU64 ((BitVec.ofInt 64 ((toU64 ((v4.Lo.toNat:Int) * (2 ^ (min (Int.toNat 8) 64)))).toNat:Int) ||| BitVec.ofInt 64 ((toU64 (x6.toNat:Int)).toNat:Int)).toNat:Int))⟩
theorem fb_step {m:Nat} (hm:m < 16777216) (x:UInt8):fbStep ⟨false,0,UInt64.ofNat m⟩ x=⟨false,0,UInt64.ofNat (m * 256 + x.toNat)⟩:=by
 have e:(UInt64.ofNat m).toNat=m:=by rw [UInt64.toNat_ofNat'];omega
 unfold fbStep
 dsimp only
 rw [hi_step rfl (by omega),or_step (by omega) x.toNat_lt,e]
end Go.AX.Q18
end
section
namespace Go.AX.Q18
open Go Go.AX
set_option maxRecDepth 8000
end Go.AX.Q18
end
section
namespace Go.AX.Q18
open Go Go.AX
set_option maxRecDepth 8000
end Go.AX.Q18
end
section
namespace Go.AX.Q18
open Go Go.AX
set_option maxRecDepth 8000
def sizeOf (b:List UInt8) (h:Nat):Nat:=val ((b.drop 2).take (h - 2))
end Go.AX.Q18
end
section
namespace Go.AX.Q18
open Go Go.AX
set_option maxRecDepth 8000
theorem light_plain (l:List Unknown):Ok (law18_light l) fun r=>r=true→l.length ≤ 30∧∀x ∈ l,x.Data.length ≤ 600:=by
 unfold law18_light
 refine .join (fun _=>∀x ∈ l,x.Data.length ≤ 600) (fun k hk=>?_) fun _ h=>.ret fun q=>⟨by simp only [decide_eq_true_eq] at q;omega,h⟩
 refine .forX (fun i _=>∀x ∈ l.take i,x.Data.length ≤ 600) (by simp) (fun s hs=>hk () (by rw [List.take_length] at hs;exact hs)) fun next x i s hx hI hn=>.ite (fun _=>.ret (by simp)) fun h=>hn _ fun y hy=>?_
 rw [List.take_add_one,hx] at hy
 rcases List.mem_append.1 hy with hy | hy
 ·exact hI y hy
 ·simp only [Option.toList_some,List.mem_singleton] at hy
  subst hy
  simp only [decide_eq_true_eq] at h
  omega
theorem addrOf_ok {d:List UInt8} (h:d.length=4):(addrOf d).ok=true:=by
 match d,h with
 | [a,b,c,e],_=>
  have h1 :∀K:Addr→Option (Addr×Int),forR (σ:=Addr) (fun v4=>K v4) (fun next5 x6 _ v4=>next5 (fbStep v4 x6)) [a,b,c,e] 0 ⟨false,0,UInt64.ofNat 0⟩=K ⟨false,0,UInt64.ofNat (val [a,b,c,e])⟩:=by
   intro K
   have ha:=a.toNat_lt
   have hb:=b.toNat_lt
   have hc:=c.toNat_lt
   rw [foldR]
   rw [List.foldl_cons,fb_step (by omega),List.foldl_cons,fb_step (by omega),List.foldl_cons,fb_step (by omega),List.foldl_cons,fb_step (by omega),List.foldl_nil]
   rfl
  have main:addr_FromBytes [a,b,c,e]=some (⟨false,0,UInt64.ofNat (val [a,b,c,e])⟩,0):=h1 fun v8=>some (v8,0)
  have hv:=val_lt [a,b,c,e]
  simp only [List.length_cons,List.length_nil] at hv
  unfold addrOf
  rw [main]
  show Addr.ok ⟨false,0,UInt64.ofNat (val [a,b,c,e])⟩=true
  have e2:(UInt64.ofNat (val [a,b,c,e])).toNat=val [a,b,c,e]:=by rw [UInt64.toNat_ofNat'];omega
  have e3:decide (((UInt64.ofNat (val [a,b,c,e])).toNat:Int) < 4294967296)=true:=decide_eq_true (by rw [e2];omega)
  unfold Addr.ok
  dsimp only
  rw [e3]
  rfl
structure VB (a:Attrs):Prop where
 o:-1 ≤ a.Origin∧a.Origin ≤ 2
 p:vpath a.Path=true
 n:a.Next.ok=true
 m:-1 ≤ a.MED∧a.MED ≤ 4294967295
 r:-1 ≤ a.Pref∧a.Pref ≤ 4294967295
 t:a.OTC=-1 ∨ (1 ≤ a.OTC∧a.OTC ≤ 4294967295)
 c:validC a.Communities=true
 l:validL a.Large=true
theorem VB.empty:VB eA:=⟨by decide,rfl,by decide,by decide,by decide,.inl rfl,rfl,rfl⟩
theorem VB.step {a a':Attrs} {x:Unknown} (v:VB a) (hd:x.Data.length ≤ 1000000) (h:stepS a x=some a'):VB a':=by
 unfold stepS at h
 split at h
 ·obtain rfl:=Option.some.inj h
  exact v
 split at h
 rotate_left
 ·cases h
 unfold readS at h
 split at h
 ·obtain ⟨n,hn,rfl⟩:=Option.map_eq_some_iff.1 h
  unfold rdOrigin at hn
  split at hn
  ·rename_i hc
   obtain rfl:=Option.some.inj hn
   have:0 ≤ getB x.Data:=by rw [getB_eq (by omega)];omega
   exact ⟨⟨by dsimp only;omega,hc.2⟩,v.p,v.n,v.m,v.r,v.t,v.c,v.l⟩
  ·cases hn
 split at h
 ·obtain ⟨n,hn,rfl⟩:=Option.map_eq_some_iff.1 h
  unfold rdPath at hn
  cases hq:rdL x.Data [] with
  | none=>rw [hq] at hn;cases hn
  | some p=>
   rw [hq,Option.bind_some] at hn
   have hs:=rdL_size hd hq
   rw [validP_eq (by omega) (by omega)] at hn
   split at hn
   ·obtain rfl:=Option.some.inj hn
    exact ⟨v.o,‹_›,v.n,v.m,v.r,v.t,v.c,v.l⟩
   ·cases hn
 split at h
 ·obtain ⟨n,hn,rfl⟩:=Option.map_eq_some_iff.1 h
  unfold rdNext at hn
  split at hn
  ·obtain rfl:=Option.some.inj hn
   exact ⟨v.o,v.p,addrOf_ok ‹_›,v.m,v.r,v.t,v.c,v.l⟩
  ·cases hn
 split at h
 ·obtain ⟨n,hn,rfl⟩:=Option.map_eq_some_iff.1 h
  unfold rd4 at hn
  split at hn
  ·obtain rfl:=Option.some.inj hn
   have:=rdOTC_rng ‹_›
   exact ⟨v.o,v.p,v.n,⟨by dsimp only;omega,by dsimp only;omega⟩,v.r,v.t,v.c,v.l⟩
  ·cases hn
 split at h
 ·obtain ⟨n,hn,rfl⟩:=Option.map_eq_some_iff.1 h
  unfold rd4 at hn
  split at hn
  ·obtain rfl:=Option.some.inj hn
   have:=rdOTC_rng ‹_›
   exact ⟨v.o,v.p,v.n,v.m,⟨by dsimp only;omega,by dsimp only;omega⟩,v.t,v.c,v.l⟩
  ·cases hn
 split at h
 ·obtain ⟨n,hn,rfl⟩:=Option.map_eq_some_iff.1 h
  unfold rdComm at hn
  split at hn
  ·rename_i hc
   obtain rfl:=Option.some.inj hn
   exact ⟨v.o,v.p,v.n,v.m,v.r,v.t,canC_valid (comms_ok _) (by rw [comms_len];omega),v.l⟩
  ·cases hn
 split at h
 ·obtain ⟨n,hn,rfl⟩:=Option.map_eq_some_iff.1 h
  unfold rdLarge at hn
  split at hn
  ·rename_i hc
   obtain rfl:=Option.some.inj hn
   exact ⟨v.o,v.p,v.n,v.m,v.r,v.t,v.c,canL_valid (larges_ok _ (nums_rng _)) (by rw [larges_len,nums_len];omega)⟩
  ·cases hn
 split at h
 ·obtain ⟨n,hn,rfl⟩:=Option.map_eq_some_iff.1 h
  unfold rdOTC at hn
  split at hn
  ·rename_i hc
   obtain rfl:=Option.some.inj hn
   have:=rdOTC_rng hc.1
   have:=hc.2
   exact ⟨v.o,v.p,v.n,v.m,v.r,.inr ⟨by dsimp only;omega,by dsimp only;omega⟩,v.c,v.l⟩
  ·cases hn
 ·obtain rfl:=Option.some.inj h
  exact v
theorem PCopy_eq {p:List Segment} (h:p.length ≤ 1000) (h2 :∀s ∈ p,s.ASNs.length ≤ 1000):ref15_Copy p=some p:=by
 unfold ref15_Copy
 rw [joinP_def]
 have e:p.flatMap (fun s=>[s])=p:=by simp
 refine (appR (g:=fun s:Segment=>[s]) (N:=100000) (by rw [e];simp only [List.length_nil];omega) fun next s i v hs hv=>?_).trans (by rw [e];rfl)
 have:=h2 s hs
 simp only [List.length_singleton] at hv
 rw [apnd_some (by decide) (by simp;omega),some_bind',apnd_some (by decide) (by simp;omega),some_bind']
theorem Copy_eq {a:Attrs} (v:VA a):ref18_Copy a=some a:=by
 have hs:=vpath_sizes v.p
 have hc:=(validC_iff.1 v.c).2.2
 have hl:=(validL_iff.1 v.l).2.2
 unfold ref18_Copy
 rw [PCopy_eq (by omega) (fun s h=>by have:=tot_mem h;omega),some_bind',apnd_some (by decide) (by simp;omega),some_bind',apnd_some (by decide) (by simp;omega),some_bind',joinP_def]
 have e:a.Other.flatMap (fun s=>[s])=a.Other:=by simp
 refine (appR (g:=fun s:Unknown=>[s]) (N:=100000) (by rw [e];have:=v.e;simp only [List.length_nil];omega) fun next x i w hx hv=>?_).trans (by rw [e];rfl)
 have:=(other_unk v.O hx).2.2.2.2
 simp only [List.length_singleton] at hv
 rw [apnd_some (by decide) (by simp;omega),some_bind',apnd_some (by decide) (by simp;omega),some_bind']
end Go.AX.Q18
end
section
namespace Go.AX.Q18
open Go Go.AX
set_option maxRecDepth 8000
theorem tot_le {p:List Segment} {n:Nat} (h :∀s ∈ p,s.ASNs.length ≤ n):tot p ≤ n * p.length:=by
 induction p with
 | nil=>simp [tot]
 | cons s t ih=>
  rw [tot_cons,List.length_cons,Nat.mul_add]
  have:=ih fun x hx=>h x (List.mem_cons_of_mem _ hx)
  have:=h s (by simp)
  omega
def SmL (p:List Segment) (c:List Community) (l:List Large) (o:List Unknown):Prop:=
 p.length ≤ 1000∧tot p ≤ 2000∧c.length ≤ 1000∧l.length ≤ 1000∧o.length ≤ 1000∧∀u ∈ o,u.Data.length ≤ 1000
theorem SmL.a {a:Attrs} (h:SmL a.Path a.Communities a.Large a.Other):SmA a:=by
 obtain ⟨h1,h2,h3,h4,h5,h6⟩:=h
 exact ⟨by omega,by omega,by omega,by omega,by omega,fun u hu=>by have:=h6 u hu;omega⟩
theorem some_plain (a:Attrs):Ok (law18_some a) fun r=>r=true→SmA a:=by
 unfold law18_some
 refine .join (fun _=>∀s ∈ a.Path,s.ASNs.length ≤ 80) (fun k hk=>?_) fun _ h1=>?_
 ·refine .forX (fun i _=>∀x ∈ a.Path.take i,x.ASNs.length ≤ 80) (by simp) (fun s hs=>hk () (by rw [List.take_length] at hs;exact hs)) fun next x i s hx hI hn=>.ite (fun _=>.ret (by simp)) fun h=>hn _ fun y hy=>?_
  rw [List.take_add_one,hx] at hy
  rcases List.mem_append.1 hy with hy | hy
  ·exact hI y hy
  ·simp only [Option.toList_some,List.mem_singleton] at hy
   subst hy
   simp only [decide_eq_true_eq] at h
   omega
 ·refine .join (fun r:Bool=>r=true→SmA a) (fun k hk=>.ite (fun h2=>.ite (fun h3=>.ite (fun h4=>.bind (light_plain _) fun r hr=>hk _ fun q=>?_) fun _=>hk _ (by simp)) fun _=>hk _ (by simp)) fun _=>hk _ (by simp)) fun r hr=>.ret hr
  have ht:=tot_le h1
  simp only [cond_true,decide_eq_true_eq] at h2 h3 h4 q
  obtain ⟨h5,h6⟩:=hr q
  exact SmL.a ⟨by omega,by omega,by omega,by omega,by omega,fun u hu=>by have:=h6 u hu;omega⟩
theorem bent_plain {a:Attrs} (v:VA a) (hp:a.Path.length ≤ 3) (ht:tot a.Path ≤ 12) (hc:a.Communities.length ≤ 4) (hl:a.Large.length ≤ 3) (ho:a.Other.length ≤ 6) (hd :∀u ∈ a.Other,u.Data.length ≤ 9) (x y:Int):Ok (law18_bent a x y) SmA:=by
 have base:SmL a.Path a.Communities a.Large a.Other:=⟨by omega,by omega,by omega,by omega,by omega,fun u hu=>by have:=hd u hu;omega⟩
 unfold law18_bent
 rw [Copy_eq v,some_bind']
 refine .bind (make_Mod_plain (by omega)) fun m hm=>.bind (.geti (by simp only [List.length_cons,List.length_nil];omega)) fun g hg=>.bind (make_Mod_plain (by omega)) fun w hw=>?_
 refine .join (fun q:Int×UInt64×Int×Int×Int×List Segment×List Community×List Large×List Unknown=>SmL q.2.2.2.2.2.1 q.2.2.2.2.2.2.1 q.2.2.2.2.2.2.2.1 q.2.2.2.2.2.2.2.2) (fun k5 hk5=>?_) ?_
 rotate_left
 ·rintro ⟨q1,q2,q3,q4,q5,q6,q7,q8,q9⟩ h
  exact .ret (SmL.a h)
 refine .ite (fun _=>hk5 _ base) fun _=>.join (fun q:UInt64×Int×Int×Int×List Segment×List Community×List Large×List Unknown=>SmL q.2.2.2.2.1 q.2.2.2.2.2.1 q.2.2.2.2.2.2.1 q.2.2.2.2.2.2.2) (fun k6 hk6=>?_) ?_
 rotate_left
 ·rintro ⟨q1,q2,q3,q4,q5,q6,q7,q8⟩ h
  exact hk5 _ h
 refine .ite (fun _=>hk6 _ base) fun _=>.join (fun q:UInt64×Int×Int×List Segment×List Community×List Large×List Unknown=>SmL q.2.2.2.1 q.2.2.2.2.1 q.2.2.2.2.2.1 q.2.2.2.2.2.2) (fun k7 hk7=>?_) ?_
 rotate_left
 ·rintro ⟨q1,q2,q3,q4,q5,q6,q7⟩ h
  exact hk6 _ h
 refine .ite (fun _=>hk7 _ base) fun _=>.join (fun q:UInt64×Int×List Segment×List Community×List Large×List Unknown=>SmL q.2.2.1 q.2.2.2.1 q.2.2.2.2.1 q.2.2.2.2.2) (fun k8 hk8=>?_) ?_
 rotate_left
 ·rintro ⟨q1,q2,q3,q4,q5,q6⟩ h
  exact hk7 _ h
 refine .ite (fun _=>hk8 _ base) fun _=>.join (fun q:UInt64×List Segment×List Community×List Large×List Unknown=>SmL q.2.1 q.2.2.1 q.2.2.2.1 q.2.2.2.2) (fun k9 hk9=>?_) ?_
 rotate_left
 ·rintro ⟨q1,q2,q3,q4,q5⟩ h
  exact hk8 _ h
 refine .ite (fun _=>hk9 _ base) fun _=>.join (fun q:List Segment×List Community×List Large×List Unknown=>SmL q.1 q.2.1 q.2.2.1 q.2.2.2) (fun k10 hk10=>?_) ?_
 rotate_left
 ·rintro ⟨q1,q2,q3,q4⟩ h
  exact hk9 _ h
 refine .ite (fun _=>.bind (make_Mod_plain (by omega)) fun n hn=>.bind (Ok.apnd (by decide) (by simp only [List.length_singleton];omega)) fun c hc2=>hk10 _ ?_) fun _=>.join (fun q:List Segment×List Large×List Unknown=>SmL q.1 a.Communities q.2.1 q.2.2) (fun k13 hk13=>?_) ?_
 ·have:c.length=a.Communities.length + 1:=by rw [hc2];simp
  obtain ⟨h1,h2,h3,h4,h5,h6⟩:=base
  exact ⟨h1,h2,by dsimp only;omega,h4,h5,h6⟩
 rotate_left
 ·rintro ⟨q1,q2,q3⟩ h
  exact hk10 _ h
 refine .ite (fun _=>?_) fun _=>.join (fun q:List Segment×List Large=>SmL q.1 a.Communities q.2 a.Other) (fun k19 hk19=>.ite (fun _=>?_) fun _=>?_) ?_
 ·refine .bind (make_Mod_plain (by omega)) fun n hn=>.bind (make_Mod_plain (by omega)) fun n2 hn2=>.bind (.geti (by simp only [List.length_cons,List.length_nil];omega)) fun t ht2=>.bind (make_Mod_plain (by omega)) fun n3 hn3=>?_
  rw [i64w_id (x:=254 + n3) (by omega)]
  refine .bind (Ok.chk (by omega)) fun _ _=>.bind (Ok.apnd (by decide) (by simp only [List.length_singleton];omega)) fun o ho2=>hk13 _ ?_
  obtain ⟨h1,h2,h3,h4,h5,h6⟩:=base
  refine ⟨h1,h2,h3,h4,?_,?_⟩
  ·dsimp only
   rw [ho2]
   simp only [List.length_append,List.length_singleton]
   omega
  ·intro u hu
   dsimp only at hu
   rw [ho2] at hu
   rcases List.mem_append.1 hu with hu | hu
   ·exact h6 u hu
   ·rw [List.mem_singleton] at hu
    subst hu
    simp only [List.length_replicate]
    omega
 ·refine .bind (make_Mod_plain (by omega)) fun n hn=>.bind (Ok.apnd (by decide) (by simp only [List.length_singleton];omega)) fun p hp2=>hk19 _ ?_
  obtain ⟨h1,h2,h3,h4,h5,h6⟩:=base
  refine ⟨?_,?_,h3,h4,h5,h6⟩
  ·dsimp only
   rw [hp2]
   simp only [List.length_append,List.length_singleton]
   omega
  ·dsimp only
   rw [hp2,tot_app,tot_cons]
   simp only [tot,List.foldl_nil,List.length_singleton] at ht ⊢
   omega
 ·refine .bind (Ok.apnd (by decide) (by omega)) fun l2 hl2=>hk19 _ ?_
  obtain ⟨h1,h2,h3,h4,h5,h6⟩:=base
  refine ⟨h1,h2,h3,?_,h5,h6⟩
  dsimp only
  rw [hl2]
  simp only [List.length_append]
  omega
 ·rintro ⟨q1,q2⟩ h
  exact hk13 _ h
theorem both {a:Attrs} (h:SmA a) :∃r e,attribute_Write a=some (r,e)∧ref18_Write a=some (r,e):=by
 cases hv:validA a with
 | true=>exact ⟨_,_,Write_prog (VA_iff.1 hv),Write_ref (VA_iff.1 hv)⟩
 | false=>exact ⟨_,_,Write_prog_bad h hv,Write_ref_bad h hv⟩
theorem attributeWrites (a:Attrs) (l:List Int) (x y:Int) (hl:l.length ≤ maxLen):law18_AttributeWrites a l x y=some true:=by
 have hd:Dk ⟨l,0⟩:=⟨Int.le_refl _,Nat.le_trans hl (by decide)⟩
 have main:Ok (law18_AttributeWrites a l x y) fun r=>r=true:=by
  unfold law18_AttributeWrites
  refine .bind (some_plain a) fun s hs=>.ite (fun _=>?_) fun h=>?_
  ·rw [awake,some_bind']
   exact .ret rfl
  have sa:SmA a:=hs (by simpa using h)
  rw [New_eq,some_bind']
  refine .bind (make_Attrs_plain hd) ?_
  rintro ⟨b,d⟩ ⟨⟨hv,hp,ht,hc,hg,ho,hu⟩,_⟩
  dsimp only at hv hp ht hc hg ho hu ⊢
  have v:=VA_iff.1 hv
  refine .bind (bent_plain v hp ht hc hg ho hu x y) fun c sc=>?_
  have e0 :∃e,ref18_Empty=some e∧SmA e:=⟨_,rfl,SmL.a ⟨by simp,by simp [tot],by simp,by simp,by simp,by simp⟩⟩
  obtain ⟨e,he,se⟩:=e0
  rw [he,some_bind']
  refine .join (fun _=>True) (fun k hk=>?_) fun _ _=>?_
  ·refine .forX (fun _ _=>True) trivial (fun s _=>hk () trivial) fun next z i s hz _ hn=>?_
   have sz:SmA z:=by
    have:=List.mem_of_getElem? hz
    simp only [List.mem_cons,List.not_mem_nil,or_false] at this
    rcases this with rfl | rfl | rfl | rfl
    ·exact sa
    ·exact v.sm
    ·exact sc
    ·exact se
   obtain ⟨r,q,h1,h2⟩:=both sz
   rw [h1,some_bind',h2,some_bind']
   dsimp only
   rw [joinP_def,Valid_prog sz,some_bind',Valid_ref sz,some_bind',if_neg (by simp),SameList_refl,some_bind',if_neg (by decide)]
   show Ok (if (cond false true (q != q))=true then some false else next ()) _
   rw [if_neg (by simp)]
   exact hn _ trivial
  ·rw [joinP_def,joinP_def,joinP_def,Same_refl,some_bind',if_pos (by rfl),awake,some_bind']
   exact .ret rfl
 obtain ⟨r,h1,h2⟩:=main
 rw [h1,h2]
end Go.AX.Q18
end
section
namespace Go.AX.Q18
open Go Go.AX
def okIs (l:List Int):Prop:=l.length ≤ maxLen∧l.length * 8 ≤ reachBytes∧∀a ∈ l,I64 a
end Go.AX.Q18
end
section
namespace Go.AX.Q18
open Go Go.AX
theorem attributeWritesW (a:Attrs) (l:List Int) (x y:Int) (_:Attrs.wf a) (h:okIs l) (_:I64 x) (_:I64 y):law18_AttributeWrites a l x y=some true:=attributeWrites a l x y h.1
end Go.AX.Q18
end
section
namespace Go.AX.Q18
open Go Go.AX Go.Proofs
set_option maxRecDepth 100000
set_option maxHeartbeats 4000000
set_option linter.unusedVariables false
theorem law18_light_ok {wl:Prop} {a0:List Unknown} {r:Bool} (h:law18_light a0=some r):CallsOK (Wl wl) Tryz.prog 17 [AV.d (D.l 3 Unknown.toD a0)] [] (.d (D.b r)) []:=by
 refine ok Tryz.f17 (by kernel_rfl) (by kernel_rfl) ⟨rfl,?_⟩;unfold law18_light at h;refine ⟨a0.length,List.length_map _,?_⟩;revert h;refine cut_join (fun _=>⟨AV.d (D.l 3 Unknown.toD a0)::dd 18 ([]),nn 19 ([])⟩) ?_ ?_
 ·intro k1 h;revert h;refine loop_for 5 3 Unknown.toD rfl (fun i2 _=>⟨AV.d (D.l 3 Unknown.toD a0)::dd 4 (AV.d (D.l 3 Unknown.toD a0)::AV.d (D.i (a0.length:Int))::AV.d (D.i (i2:Int))::dd 11 ([])),nn 19 ([])⟩) ?_ ?_ ?_
  ·exact wk
  ·rintro _ K3 h;(conv=>whnf);refine .go ?_;(conv=>whnf);refine sel_f lt_f ?_;exact join_end wk h
  ·rintro next4 i2 x5 _ K3 hii2 hxi2 hwi2 h hK6;(conv=>whnf);refine .go ?_;(conv=>whnf);refine sel_t (lt_t hii2) ?_;(conv=>whnf);refine .go ?_;refine ⟨idx_b (f:=Unknown.toD) hii2,Unknown.toD x5,hxi2,rfl,?_⟩;refine ⟨x5.Data.length,List.length_map _,?_⟩;(conv=>whnf);refine .go ?_;revert h;refine sel_if ?_ ?_<;>intro h
   ·cases h;exact ⟨rfl,rfl⟩
   ·refine ⟨_,hwi2,?_⟩;exact hK6 _ _ wk h
 ·rintro _ h;refine ⟨a0.length,List.length_map _,?_⟩;cases h;exact ⟨rfl,rfl⟩
theorem law18_some_ok {wl:Prop} {a0:Attrs} {r:Bool} (h:law18_some a0=some r):CallsOK (Wl wl) Tryz.prog 4 [AV.d (Attrs.toD a0)] [] (.d (D.b r)) []:=by
 refine ok Tryz.f4 (by kernel_rfl) (by kernel_rfl) ⟨rfl,?_⟩;unfold law18_some at h;refine ⟨a0.Path.length,List.length_map _,?_⟩;revert h;refine cut_join (fun _=>⟨X::AV.ref 1 0::dd 36 ([]),N::some (OB.box (Attrs.av a0))::nn 36 ([])⟩) ?_ ?_
 ·intro k1 h;revert h;refine loop_for 6 2 Segment.toD rfl (fun i2 _=>⟨X::AV.ref 1 0::dd 4 (AV.d (D.l 2 Segment.toD a0.Path)::AV.d (D.i (a0.Path.length:Int))::AV.d (D.i (i2:Int))::dd 29 ([])),N::some (OB.box (Attrs.av a0))::nn 36 ([])⟩) ?_ ?_ ?_
  ·exact wk
  ·rintro _ K3 h;(conv=>whnf);refine .go ?_;(conv=>whnf);refine sel_f lt_f ?_;exact join_end wk h
  ·rintro next4 i2 x5 _ K3 hii2 hxi2 hwi2 h hK6;(conv=>whnf);refine .go ?_;(conv=>whnf);refine sel_t (lt_t hii2) ?_;(conv=>whnf);refine .go ?_;refine ⟨idx_b (f:=Segment.toD) hii2,Segment.toD x5,hxi2,rfl,?_⟩;refine ⟨x5.ASNs.length,List.length_map _,?_⟩;(conv=>whnf);refine .go ?_;revert h;refine sel_if ?_ ?_<;>intro h
   ·cases h;exact ⟨rfl,rfl⟩
   ·refine ⟨_,hwi2,?_⟩;exact hK6 _ _ wk h
 ·rintro _ h;revert h;refine cut_join (fun v7=>⟨X::X::AV.d (D.b v7)::dd 35 ([]),nn 38 ([])⟩) ?_ ?_
  ·intro k8 h;refine ⟨a0.Path.length,List.length_map _,?_⟩;revert h;refine sel_if ?_ ?_<;>intro h
   ·refine ⟨a0.Communities.length,List.length_map _,?_⟩;revert h;refine sel_if ?_ ?_<;>intro h
    ·refine ⟨a0.Large.length,List.length_map _,?_⟩;revert h;refine sel_if ?_ ?_<;>intro h
     ·obtain ⟨v9,g10,h⟩:=bind_inv h;refine ⟨_,_,some [],law18_light_ok g10,?_⟩;exact join_end wk h
     ·exact join_end wk h
    ·exact join_end wk h
   ·exact join_end wk h
  ·rintro v7 h;cases h;exact ⟨rfl,rfl⟩
theorem attribute_get_ok {wl:Prop} {a0:List UInt8} {r:Int} (h:attribute_get a0=some r):CallsOK (Wl wl) Tryz.prog 56 [AV.d (D.l 1 D.u8 a0)] [] (.d (D.i r)) []:=by
 refine ok Tryz.f56 (by kernel_rfl) (by kernel_rfl) ⟨rfl,?_⟩;unfold attribute_get at h;refine ⟨a0.length,List.length_map _,?_⟩;revert h;refine cut_join (fun v1=>⟨X::X::X::AV.d (D.i v1)::dd 15 ([]),nn 19 ([])⟩) ?_ ?_
 ·intro k2 h;revert h;refine loop_for 6 1 D.u8 rfl (fun i3 v4=>⟨X::X::X::AV.d (D.i v4)::X::X::AV.d (D.l 1 D.u8 a0)::AV.d (D.i (a0.length:Int))::AV.d (D.i (i3:Int))::dd 10 ([]),nn 19 ([])⟩) ?_ ?_ ?_
  ·exact wk
  ·rintro v4 K5 h;(conv=>whnf);refine .go ?_;(conv=>whnf);refine sel_f lt_f ?_;exact join_end wk h
  ·rintro next6 i3 x7 v4 K5 hii3 hxi3 hwi3 h hK8;(conv=>whnf);refine .go ?_;(conv=>whnf);refine sel_t (lt_t hii3) ?_;(conv=>whnf);refine .go ?_;refine ⟨idx_b (f:=D.u8) hii3,D.u8 x7,hxi3,rfl,?_⟩;refine ⟨by decide,_,rfl,?_⟩;refine ⟨_,i64_of_u8 x7,?_⟩;refine ⟨_,rfl,?_⟩;refine ⟨_,hwi3,?_⟩;exact hK8 _ _ wk h
 ·rintro v1 h;cases h;exact ⟨rfl,rfl⟩
theorem attribute_Split_ok {wl:Prop} {a0:List UInt8} {r:(List Unknown)×Int} (h:attribute_Split a0=some r):CallsOK (Wl wl) Tryz.prog 18 [AV.d (D.l 1 D.u8 a0)] [] (.tup [.d (D.l 3 Unknown.toD r.1),.d (D.i r.2)]) []:=by
 refine ok Tryz.f18 (by kernel_rfl) (by kernel_rfl) ⟨rfl,?_⟩;unfold attribute_Split at h;revert h;refine cut_join (fun v1=>⟨dd 4 (AV.own 4 (List.map Unknown.toD v1).length::dd 53 ([])),nn 4 (some (OB.row 62 3 (List.map Unknown.toD v1) .no)::nn 53 ([]))⟩) ?_ ?_
 ·intro k2 h;revert h;refine loop_while (fun (v3,v4)=>⟨AV.d (D.l 1 D.u8 v3)::X::X::X::AV.own 4 (List.map Unknown.toD v4).length::dd 53 ([]),nn 4 (some (OB.row 62 3 (List.map Unknown.toD v4) .no)::nn 53 ([]))⟩) ?_ ?_
  ·exact wk
  rintro next5 ⟨v3,v4⟩ K6 h hK7;refine ⟨v3.length,List.length_map _,?_⟩;(conv=>whnf);refine .go ?_;revert h;refine sel_if ?_ ?_<;>intro h
  ·(conv=>whnf);refine .go ?_;obtain ⟨v8,g9,h⟩:=bind_inv h;refine ⟨geti_b (f:=D.u8) g9,D.u8 v8,geti_d (f:=D.u8) g9,rfl,?_⟩;refine ⟨_,u8_wrap _,?_⟩;revert h;refine cut_join (fun v10=>⟨AV.d (D.l 1 D.u8 v3)::X::X::X::AV.own 4 (List.map Unknown.toD v4).length::AV.d (D.i v10)::dd 52 ([]),nn 4 (some (OB.row 62 3 (List.map Unknown.toD v4) .no)::nn 53 ([]))⟩) ?_ ?_
   ·intro k11 h;revert h;refine sel_if ?_ ?_<;>intro h
    ·exact join_end wk h
    ·exact join_end wk h
   ·rintro v10 h;revert h;refine cut_join (fun v12=>⟨AV.d (D.l 1 D.u8 v3)::X::X::X::AV.own 4 (List.map Unknown.toD v4).length::AV.d (D.i v10)::dd 23 (AV.d (D.b v12)::dd 28 ([])),nn 4 (some (OB.row 62 3 (List.map Unknown.toD v4) .no)::nn 53 ([]))⟩) ?_ ?_
    ·intro k13 h;refine ⟨v3.length,List.length_map _,?_⟩;revert h;refine sel_if ?_ ?_<;>intro h
     ·exact join_end wk h
     ·refine ⟨v3.length,List.length_map _,?_⟩;refine ⟨_,rfl,?_⟩;obtain ⟨v14,g15,h⟩:=bind_inv h;refine ⟨part_b (f:=D.u8) g15,_,part_z (f:=D.u8) g15,?_⟩;obtain ⟨v16,g17,h⟩:=bind_inv h;refine ⟨_,_,some [],attribute_get_ok g17,?_⟩;exact join_end wk h
    ·rintro v12 h;(conv=>whnf);refine .go ?_;revert h;refine sel_if ?_ ?_<;>intro h
     ·(conv=>whnf);refine .inl ?_;refine ⟨rfl,?_⟩;cases h;exact ⟨rfl,rfl⟩
     ·obtain ⟨v18,g19,h⟩:=bind_inv h;refine ⟨part_b (f:=D.u8) g19,_,part_z (f:=D.u8) g19,?_⟩;obtain ⟨v20,g21,h⟩:=bind_inv h;refine ⟨_,_,some [],attribute_get_ok g21,?_⟩;refine ⟨_,rfl,?_⟩;(conv=>whnf);refine .inl (dOB (by kernel_rfl) ?_);obtain ⟨v22,g23,h⟩:=bind_inv h;refine ⟨geti_b (f:=D.u8) g23,D.u8 v22,geti_d (f:=D.u8) g23,rfl,?_⟩;refine ⟨_,u8_wrap _,?_⟩;refine ⟨_,i64_of_u8 (toU8 ((BitVec.ofInt 8 (v22.toNat:Int) &&& BitVec.ofInt 8 224).toNat:Int)),?_⟩;obtain ⟨v24,g25,h⟩:=bind_inv h;refine ⟨geti_b (f:=D.u8) g25,D.u8 v24,geti_d (f:=D.u8) g25,rfl,?_⟩;refine ⟨_,i64_of_u8 v24,?_⟩;obtain ⟨v26,g27,h⟩:=bind_inv h;refine ⟨part_b (f:=D.u8) g27,_,part_z (f:=D.u8) g27,?_⟩;obtain ⟨_,g28,h⟩:=bind_inv h;refine ⟨apnd_b0 (g:=D.u8) g28,?_⟩;(conv=>whnf);refine .inl ?_;refine ⟨rfl,?_⟩;refine ⟨rfl,?_⟩;obtain ⟨v29,g30,h⟩:=bind_inv h;refine ⟨rfl,apnd_b (f:=Unknown.toD) (g:=Unknown.toD) g30,_,apnd_z (f:=Unknown.toD) g30,?_⟩;(conv=>whnf);refine cOB (by kernel_rfl) ?_;obtain ⟨v31,g32,h⟩:=bind_inv h;refine ⟨part_b0 (f:=D.u8) g32,_,part_z0 (f:=D.u8) g32,?_⟩;exact hK7 _ _ wk h
  ·exact join_end wk h
 ·rintro v1 h;(conv=>whnf);refine .inl ?_;refine ⟨rfl,?_⟩;cases h;exact ⟨rfl,rfl⟩
theorem slices_Clone_byte_byte_ok {wl:Prop} {a0:List UInt8} {r:(List UInt8)} (h:slices_Clone_byte_byte a0=some r):CallsOK (Wl wl) Tryz.prog 34 [AV.d (D.l 1 D.u8 a0)] [] (.d (D.l 1 D.u8 r)) []:=by
 refine ok Tryz.f34 (by kernel_rfl) (by kernel_rfl) ⟨rfl,?_⟩;unfold slices_Clone_byte_byte at h;refine ⟨?_,fun hz=>?_⟩
 ·(conv=>whnf);refine .go ?_;obtain ⟨v1,g2,h⟩:=bind_inv h;refine ⟨rfl,apnd_b (f:=D.u8) (g:=D.u8) g2,_,apnd_z (f:=D.u8) g2,?_⟩;(conv=>whnf);refine .inl ?_;(conv=>whnf);refine .inl ?_;refine ⟨rfl,?_⟩;cases h;exact ⟨rfl,rfl⟩
 ·obtain rfl:a0=[]:=(by simpa using hz);replace h:=nil_conv h;(conv=>whnf);refine .go ?_;(conv=>whnf);refine .inl ?_;cases h;exact ⟨rfl,rfl⟩
theorem attribute_within_ok {wl:Prop} {a0:Int} {a1:Int} {a2:Int} {r:Bool} (h:attribute_within a0 a1 a2=some r):CallsOK (Wl wl) Tryz.prog 41 [AV.d (D.i a0),AV.d (D.i a1),AV.d (D.i a2)] [] (.d (D.b r)) []:=by
 refine ok Tryz.f41 (by kernel_rfl) (by kernel_rfl) ⟨rfl,?_⟩;unfold attribute_within at h;revert h;refine cut_join (fun v1=>⟨dd 6 (AV.d (D.b v1)::dd 8 ([])),nn 15 ([])⟩) ?_ ?_
 ·intro k2 h;revert h;refine sel_if ?_ ?_<;>intro h
  ·exact join_end wk h
  ·exact join_end wk h
 ·rintro v1 h;cases h;exact ⟨rfl,rfl⟩
theorem attribute_firsts_ok {wl:Prop} {a0:List Unknown} {r:(List Unknown)} (h:attribute_firsts a0=some r):CallsOK (Wl wl) Tryz.prog 57 [AV.d (D.l 3 Unknown.toD a0)] [] (.d (D.l 3 Unknown.toD r)) []:=by
 refine ok Tryz.f57 (by kernel_rfl) (by kernel_rfl) ⟨rfl,?_⟩;unfold attribute_firsts at h;refine ⟨a0.length,List.length_map _,?_⟩;revert h;refine cut_join (fun v1=>⟨dd 4 (AV.own 4 (List.map Unknown.toD v1).length::dd 23 ([])),nn 4 (some (OB.row 62 3 (List.map Unknown.toD v1) .no)::nn 23 ([]))⟩) ?_ ?_
 ·intro k2 h;revert h;refine loop_for 8 3 Unknown.toD rfl (fun i3 (v4,v5)=>⟨X::X::X::AV.mp 7::AV.own 4 (List.map Unknown.toD v5).length::X::X::X::AV.d (D.l 3 Unknown.toD a0)::AV.d (D.i (a0.length:Int))::AV.d (D.i (i3:Int))::dd 17 ([]),nn 4 (some (OB.row 62 3 (List.map Unknown.toD v5) .no)::N::N::some (OB.map 3 4 (entsD D.i D.b v4))::nn 20 ([]))⟩) ?_ ?_ ?_
  ·exact wk
  ·rintro ⟨v4,v5⟩ K6 h;(conv=>whnf);refine .go ?_;(conv=>whnf);refine sel_f lt_f ?_;exact join_end wk h
  ·rintro next7 i3 x8 ⟨v4,v5⟩ K6 hii3 hxi3 hwi3 h hK9;(conv=>whnf);refine .go ?_;(conv=>whnf);refine sel_t (lt_t hii3) ?_;(conv=>whnf);refine .go ?_;refine ⟨idx_b (f:=Unknown.toD) hii3,Unknown.toD x8,hxi3,rfl,?_⟩;obtain ⟨v10,g11,h⟩:=bind_inv h;refine ⟨_,mapGet_ok (ek:=D.i) (ev:=D.b) (l:=v4) (k:=x8.Type_) keyEq_i,D.b v10,mget_dg (z:=false) rfl g11,_,rfl,?_⟩;revert h;refine cut_join (fun v12=>⟨X::X::X::AV.mp 7::AV.own 4 (List.map Unknown.toD v12).length::X::AV.ref 6 0::X::AV.d (D.l 3 Unknown.toD a0)::AV.d (D.i (a0.length:Int))::AV.d (D.i (i3:Int))::dd 17 ([]),nn 4 (some (OB.row 62 3 (List.map Unknown.toD v12) .no)::N::some (OB.box (Unknown.av x8))::some (OB.map 3 4 (entsD D.i D.b v4))::nn 20 ([]))⟩) ?_ ?_
   ·intro k13 h;revert h;refine sel_if ?_ ?_<;>intro h
    ·refine ⟨rfl,?_⟩;obtain ⟨v14,g15,h⟩:=bind_inv h;refine ⟨rfl,apnd_b (f:=Unknown.toD) (g:=Unknown.toD) g15,_,apnd_z (f:=Unknown.toD) g15,?_⟩;exact join_end wk h
    ·exact join_end wk h
   ·rintro v12 h;refine ⟨_,mapSet_ok (ek:=D.i) (ev:=D.b) (l:=v4) (k:=x8.Type_) (v:=true) keyEq_i,?_⟩;refine ⟨_,hwi3,?_⟩;exact hK9 _ _ wk h
 ·rintro v1 h;(conv=>whnf);refine .inl ?_;(conv=>whnf);refine .inl ?_;refine ⟨rfl,?_⟩;cases h;exact ⟨rfl,rfl⟩
theorem attribute_unknown_ok {wl:Prop} {a0:Int} {r:Bool} (h:attribute_unknown a0=some r):CallsOK (Wl wl) Tryz.prog 60 [AV.d (D.i a0)] [] (.d (D.b r)) []:=by
 refine ok Tryz.f60 (by kernel_rfl) (by kernel_rfl) ⟨rfl,?_⟩;unfold attribute_unknown at h;revert h;refine cut_join (fun v1=>⟨X::X::AV.d (D.b v1)::dd 12 ([]),nn 15 ([])⟩) ?_ ?_
 ·intro k2 h;obtain ⟨v3,g4,h⟩:=bind_inv h;refine ⟨_,mapGet_ok (ek:=D.i) (ev:=D.i) (l:=glob0) (k:=a0) keyEq_i,D.i v3,mget_dg (z:=0) rfl g4,_,rfl,?_⟩;revert h;refine sel_if ?_ ?_<;>intro h
  ·revert h;refine sel_if ?_ ?_<;>intro h
   ·exact join_end wk h
   ·exact join_end wk h
  ·exact join_end wk h
 ·rintro v1 h;cases h;exact ⟨rfl,rfl⟩
theorem attribute_Read_1_ok {wl:Prop} {a0:Unknown} {r:Bool} (h:attribute_Read_1 a0=some r):CallsOK (Wl wl) Tryz.prog 59 [AV.d (Unknown.toD a0)] [] (.d (D.b r)) []:=by
 refine ok Tryz.f59 (by kernel_rfl) (by kernel_rfl) ⟨rfl,?_⟩;unfold attribute_Read_1 at h;revert h;refine cut_join (fun v1=>⟨X::X::AV.d (D.b v1)::dd 9 ([]),nn 12 ([])⟩) ?_ ?_
 ·intro k2 h;obtain ⟨v3,g4,h⟩:=bind_inv h;refine ⟨_,_,some [],attribute_unknown_ok g4,?_⟩;revert h;refine sel_if ?_ ?_<;>intro h
  ·refine ⟨_,rfl,?_⟩;exact join_end wk h
  ·exact join_end wk h
 ·rintro v1 h;cases h;exact ⟨rfl,rfl⟩
theorem attribute_right_ok {wl:Prop} {a0:Unknown} {r:Bool} (h:attribute_right a0=some r):CallsOK (Wl wl) Tryz.prog 81 [AV.d (Unknown.toD a0)] [] (.d (D.b r)) []:=by
 refine ok Tryz.f81 (by kernel_rfl) (by kernel_rfl) ⟨rfl,?_⟩;unfold attribute_right at h;revert h;refine cut_join (fun v1=>⟨X::X::AV.d (D.b v1)::dd 22 ([]),nn 25 ([])⟩) ?_ ?_
 ·intro k2 h;obtain ⟨v3,g4,h⟩:=bind_inv h;refine ⟨_,mapGet_ok (ek:=D.i) (ev:=D.i) (l:=glob0) (k:=a0.Type_) keyEq_i,D.i v3,mget_dg (z:=0) rfl g4,_,rfl,?_⟩;refine ⟨_,rfl,?_⟩;refine ⟨_,rfl,?_⟩;revert h;refine sel_if ?_ ?_<;>intro h
  ·obtain ⟨v5,g6,h⟩:=bind_inv h;refine ⟨_,mapGet_ok (ek:=D.i) (ev:=D.i) (l:=glob0) (k:=a0.Type_) keyEq_i,D.i v5,mget_dg (z:=0) rfl g6,_,rfl,?_⟩;revert h;refine sel_if ?_ ?_<;>intro h
   ·exact join_end wk h
   ·refine ⟨_,rfl,?_⟩;exact join_end wk h
  ·exact join_end wk h
 ·rintro v1 h;cases h;exact ⟨rfl,rfl⟩
theorem aspath_Number_ok {wl:Prop} {a0:Int} {r:Bool} (h:aspath_Number a0=some r):CallsOK (Wl wl) Tryz.prog 44 [AV.d (D.i a0)] [] (.d (D.b r)) []:=by
 refine ok Tryz.f44 (by kernel_rfl) (by kernel_rfl) ⟨rfl,?_⟩;unfold aspath_Number at h;revert h;refine cut_join (fun v1=>⟨X::X::AV.d (D.b v1)::dd 6 ([]),nn 9 ([])⟩) ?_ ?_
 ·intro k2 h;revert h;refine sel_if ?_ ?_<;>intro h
  ·exact join_end wk h
  ·exact join_end wk h
 ·rintro v1 h;cases h;exact ⟨rfl,rfl⟩
theorem aspath_Valid_ok {wl:Prop} {a0:List Segment} {r:Bool} (h:aspath_Valid a0=some r):CallsOK (Wl wl) Tryz.prog 42 [AV.d (D.l 2 Segment.toD a0)] [] (.d (D.b r)) []:=by
 refine ok Tryz.f42 (by kernel_rfl) (by kernel_rfl) ⟨rfl,?_⟩;unfold aspath_Valid at h;refine ⟨a0.length,List.length_map _,?_⟩;revert h;refine cut_join (fun v1=>⟨X::X::X::AV.d (D.i v1)::dd 71 ([]),nn 75 ([])⟩) ?_ ?_
 ·intro k2 h;revert h;refine loop_for 8 2 Segment.toD rfl (fun i3 v4=>⟨AV.d (D.l 2 Segment.toD a0)::X::X::AV.d (D.i v4)::dd 4 (AV.d (D.l 2 Segment.toD a0)::AV.d (D.i (a0.length:Int))::AV.d (D.i (i3:Int))::dd 64 ([])),nn 75 ([])⟩) ?_ ?_ ?_
  ·exact wk
  ·rintro v4 K5 h;(conv=>whnf);refine .go ?_;(conv=>whnf);refine sel_f lt_f ?_;exact join_end wk h
  ·rintro next6 i3 x7 v4 K5 hii3 hxi3 hwi3 h hK8;(conv=>whnf);refine .go ?_;(conv=>whnf);refine sel_t (lt_t hii3) ?_;revert h;refine cut_join (fun _=>⟨AV.d (D.l 2 Segment.toD a0)::X::X::AV.d (D.i (i64w (v4 + (x7.ASNs.length:Int))))::dd 4 (AV.d (D.l 2 Segment.toD a0)::AV.d (D.i (a0.length:Int))::AV.d (D.i (i3:Int))::dd 64 ([])),nn 75 ([])⟩) ?_ ?_
   ·intro k9 h;refine ⟨idx_b (f:=Segment.toD) hii3,Segment.toD x7,hxi3,rfl,?_⟩;revert h;refine cut_join (fun v10=>⟨AV.d (D.l 2 Segment.toD a0)::X::X::AV.d (D.i v4)::X::AV.ref 5 0::X::X::AV.d (D.l 2 Segment.toD a0)::AV.d (D.i (a0.length:Int))::AV.d (D.i (i3:Int))::dd 25 (AV.d (D.b v10)::dd 38 ([])),nn 5 (some (OB.box (Segment.av x7))::nn 69 ([]))⟩) ?_ ?_
    ·intro k11 h;refine ⟨x7.ASNs.length,List.length_map _,?_⟩;revert h;refine sel_if ?_ ?_<;>intro h
     ·exact join_end wk h
     ·revert h;refine sel_if ?_ ?_<;>intro h
      ·revert h;refine sel_if ?_ ?_<;>intro h
       ·refine ⟨_,rfl,?_⟩;obtain ⟨v12,g13,h⟩:=bind_inv h;refine ⟨geti_b (f:=Segment.toD) g13,Segment.toD v12,geti_d (f:=Segment.toD) g13,rfl,?_⟩;exact join_end wk h
       ·exact join_end wk h
      ·exact join_end wk h
    ·rintro v10 h;(conv=>whnf);refine .go ?_;revert h;refine sel_if ?_ ?_<;>intro h
     ·cases h;exact ⟨rfl,rfl⟩
     ·refine ⟨x7.ASNs.length,List.length_map _,?_⟩;revert h;refine cut_join (fun _=>⟨AV.d (D.l 2 Segment.toD a0)::X::X::AV.d (D.i v4)::X::AV.ref 5 0::X::X::AV.d (D.l 2 Segment.toD a0)::AV.d (D.i (a0.length:Int))::AV.d (D.i (i3:Int))::dd 64 ([]),nn 5 (some (OB.box (Segment.av x7))::nn 69 ([]))⟩) ?_ ?_
      ·intro k14 h;revert h;refine loop_for 38 1 D.i rfl (fun i15 _=>⟨AV.d (D.l 2 Segment.toD a0)::X::X::AV.d (D.i v4)::X::AV.ref 5 0::X::X::AV.d (D.l 2 Segment.toD a0)::AV.d (D.i (a0.length:Int))::AV.d (D.i (i3:Int))::dd 27 (AV.d (D.l 1 D.i x7.ASNs)::AV.d (D.i (x7.ASNs.length:Int))::AV.d (D.i (i15:Int))::dd 34 ([])),nn 5 (some (OB.box (Segment.av x7))::nn 69 ([]))⟩) ?_ ?_ ?_
       ·exact wk
       ·rintro _ K16 h;(conv=>whnf);refine .go ?_;(conv=>whnf);refine sel_f lt_f ?_;exact join_end wk h
       ·rintro next17 i15 x18 _ K16 hii15 hxi15 hwi15 h hK19;(conv=>whnf);refine .go ?_;(conv=>whnf);refine sel_t (lt_t hii15) ?_;(conv=>whnf);refine .go ?_;refine ⟨idx_b (f:=D.i) hii15,D.i x18,hxi15,rfl,?_⟩;revert h;refine cut_join (fun v20=>⟨AV.d (D.l 2 Segment.toD a0)::X::X::AV.d (D.i v4)::X::AV.ref 5 0::X::X::AV.d (D.l 2 Segment.toD a0)::AV.d (D.i (a0.length:Int))::AV.d (D.i (i3:Int))::dd 27 (AV.d (D.l 1 D.i x7.ASNs)::AV.d (D.i (x7.ASNs.length:Int))::AV.d (D.i (i15:Int))::dd 24 (AV.d (D.b v20)::dd 9 ([]))),nn 5 (some (OB.box (Segment.av x7))::nn 69 ([]))⟩) ?_ ?_
        ·intro k21 h;obtain ⟨v22,g23,h⟩:=bind_inv h;refine ⟨_,_,some [],aspath_Number_ok g23,?_⟩;revert h;refine sel_if ?_ ?_<;>intro h
         ·exact join_end wk h
         ·revert h;refine sel_if ?_ ?_<;>intro h
          ·revert h;refine sel_if ?_ ?_<;>intro h
           ·refine ⟨_,rfl,?_⟩;obtain ⟨v24,g25,h⟩:=bind_inv h;refine ⟨geti_b (f:=D.i) g25,D.i v24,geti_d (f:=D.i) g25,rfl,?_⟩;exact join_end wk h
           ·exact join_end wk h
          ·exact join_end wk h
        ·rintro v20 h;(conv=>whnf);refine .go ?_;revert h;refine sel_if ?_ ?_<;>intro h
         ·cases h;exact ⟨rfl,rfl⟩
         ·refine ⟨_,hwi15,?_⟩;exact hK19 _ _ wk h
      ·rintro _ h;refine ⟨x7.ASNs.length,List.length_map _,?_⟩;refine ⟨_,rfl,?_⟩;exact join_end wk h
   ·rintro _ h;refine ⟨_,hwi3,?_⟩;exact hK8 _ _ wk h
 ·rintro v1 h;cases h;exact ⟨rfl,rfl⟩
theorem attribute_numbers_ok {wl:Prop} {a0:List UInt8} {r:(List Int)} (h:attribute_numbers a0=some r):CallsOK (Wl wl) Tryz.prog 130 [AV.d (D.l 1 D.u8 a0)] [] (AV.own 0 (List.map D.i r).length) [.row 3 1 (List.map D.i r) .no]:=by
 refine ok Tryz.f130 (by kernel_rfl) (by kernel_rfl) ⟨rfl,?_⟩;unfold attribute_numbers at h;revert h;refine cut_join (fun v1=>⟨X::X::X::AV.own 3 (List.map D.i v1).length::dd 12 ([]),N::N::N::some (OB.row 3 1 (List.map D.i v1) .no)::nn 12 ([])⟩) ?_ ?_
 ·intro k2 h;revert h;refine loop_while (fun (v3,v4)=>⟨AV.d (D.l 1 D.u8 v3)::X::X::AV.own 3 (List.map D.i v4).length::dd 12 ([]),N::N::N::some (OB.row 3 1 (List.map D.i v4) .no)::nn 12 ([])⟩) ?_ ?_
  ·exact wk
  rintro next5 ⟨v3,v4⟩ K6 h hK7;refine ⟨v3.length,List.length_map _,?_⟩;(conv=>whnf);refine .go ?_;revert h;refine sel_if ?_ ?_<;>intro h
  ·(conv=>whnf);refine .go ?_;obtain ⟨v8,g9,h⟩:=bind_inv h;refine ⟨part_b (f:=D.u8) g9,_,part_z (f:=D.u8) g9,?_⟩;obtain ⟨v10,g11,h⟩:=bind_inv h;refine ⟨_,_,some [],attribute_get_ok g11,?_⟩;refine ⟨rfl,?_⟩;obtain ⟨v12,g13,h⟩:=bind_inv h;refine ⟨rfl,apnd_b (f:=D.i) (g:=D.i) g13,_,apnd_z (f:=D.i) g13,?_⟩;obtain ⟨v14,g15,h⟩:=bind_inv h;refine ⟨part_b0 (f:=D.u8) g15,_,part_z0 (f:=D.u8) g15,?_⟩;exact hK7 _ _ wk h
  ·exact join_end wk h
 ·rintro v1 h;(conv=>whnf);refine .inl ?_;(conv=>whnf);refine .inr ?_;cases h;exact ⟨rfl,rfl⟩
theorem slices_Compact_int_int_ok {wl:Prop} {a0:List Int} {r:(List Int)} (h:slices_Compact_int_int a0=some r):CallsOK (Wl wl) Tryz.prog 132 [AV.own 0 (List.map D.i a0).length] [.row 3 1 (List.map D.i a0) .no] (AV.own 1 (List.map D.i r).length) [.gone,.row 3 1 (List.map D.i r) .no]:=by
 refine ok Tryz.f132 (by kernel_rfl) (by kernel_rfl) ⟨rfl,?_⟩;unfold slices_Compact_int_int at h;refine ⟨a0.length,by first | exact List.length_map _ | rfl | (simp only [List.length_map];omega),?_⟩;(conv=>whnf);refine .go ?_;revert h;refine sel_if ?_ ?_<;>intro h
 ·(conv=>whnf);refine .inr ?_;cases h;exact ⟨rfl,rfl⟩
 ·revert h;refine cut_join (fun _=>⟨AV.own 0 (List.map D.i a0).length::dd 60 ([]),some (OB.row 3 1 (List.map D.i a0) .no)::nn 61 ([])⟩) ?_ ?_
  ·intro k1 h;revert h;refine loop_while (fun v2=>⟨AV.own 0 (List.map D.i a0).length::X::X::AV.d (D.i v2)::dd 57 ([]),some (OB.row 3 1 (List.map D.i a0) .no)::nn 61 ([])⟩) ?_ ?_
   ·exact wk
   rintro next3 v2 K4 h hK5;refine ⟨a0.length,by first | exact List.length_map _ | rfl | (simp only [List.length_map];omega),?_⟩;(conv=>whnf);refine .go ?_;revert h;refine sel_if ?_ ?_<;>intro h
   ·revert h;refine cut_join (fun _=>⟨AV.own 0 (List.map D.i a0).length::X::X::AV.d (D.i v2)::dd 57 ([]),some (OB.row 3 1 (List.map D.i a0) .no)::nn 61 ([])⟩) ?_ ?_
    ·intro k6 h;(conv=>whnf);refine .inl (dOB (by kernel_rfl) ?_);obtain ⟨v7,g8,h⟩:=bind_inv h;refine ⟨rfl,geti_b (f:=D.i) g8,?_⟩;refine ⟨rfl,D.i v7,(geti_d (f:=D.i) g8),?_⟩;refine ⟨_,rfl,?_⟩;obtain ⟨v9,g10,h⟩:=bind_inv h;refine ⟨rfl,geti_b (f:=D.i) g10,?_⟩;refine ⟨rfl,D.i v9,(geti_d (f:=D.i) g10),?_⟩;(conv=>whnf);refine cOB (by kernel_rfl) ?_;(conv=>whnf);refine .go ?_;revert h;refine sel_if ?_ ?_<;>intro h
     ·(conv=>whnf);refine .inr (.inl ?_);obtain ⟨_,g11,h⟩:=bind_inv h;have g56c:=chk_inv g11;refine ⟨view_b0 (f:=D.i) g11,rfl,(Int.toNat v2),(Int.toNat (a0.length:Int) - Int.toNat v2),rfl,(by rw [List.length_map]),?_⟩;revert h;refine cut_join (fun (v12,v13)=>⟨AV.own 0 (List.map D.i v13).length::X::X::AV.d (D.i v12)::dd 57 ([]),some (OB.row 3 1 (List.map D.i v13) .no)::nn 61 ([])⟩) ?_ ?_
      ·intro k14 h;revert h;refine loop_while (fun (v15,v16,v17)=>⟨AV.own 0 (List.map D.i v17).length::X::X::AV.d (D.i v15)::AV.osl 0 (Int.toNat v2) (Int.toNat (a0.length:Int) - Int.toNat v2) (List.map D.i v17).length::AV.d (D.i v16)::dd 55 ([]),some (OB.row 3 1 (List.map D.i v17) .no)::nn 61 ([])⟩) ?_ ?_
       ·exact wk
       rintro next18 ⟨v15,v16,v17⟩ K19 h hK20;refine ⟨(Int.toNat (a0.length:Int) - Int.toNat v2),rfl,?_⟩;(conv=>whnf);refine .go ?_;revert h;refine sel_if ?_ ?_<;>intro h
       ·(conv=>whnf);refine .go ?_;(conv=>whnf);refine .inl (dOB (by kernel_rfl) ?_);obtain ⟨v21,g22,h⟩:=bind_inv h;refine ⟨(by first | rfl | (simp only [List.length_map,List.length_set];omega) | (simp only [List.length_map,List.length_set,List.length_append,List.length_take,List.length_drop,List.length_replicate];omega)),view_i g22,_,rfl,?_⟩;refine ⟨rfl,D.i v21,(view_d (f:=D.i) g22),?_⟩;refine ⟨_,rfl,?_⟩;obtain ⟨v23,g24,h⟩:=bind_inv h;refine ⟨(by first | rfl | (simp only [List.length_map,List.length_set];omega) | (simp only [List.length_map,List.length_set,List.length_append,List.length_take,List.length_drop,List.length_replicate];omega)),view_i g24,_,rfl,?_⟩;refine ⟨rfl,D.i v23,(view_d (f:=D.i) g24),?_⟩;(conv=>whnf);refine cOB (by kernel_rfl) ?_;revert h;refine cut_join (fun (v25,v26)=>⟨AV.own 0 (List.map D.i v26).length::X::X::AV.d (D.i v25)::AV.osl 0 (Int.toNat v2) (Int.toNat (a0.length:Int) - Int.toNat v2) (List.map D.i v26).length::AV.d (D.i v16)::dd 55 ([]),some (OB.row 3 1 (List.map D.i v26) .no)::nn 61 ([])⟩) ?_ ?_
        ·intro k27 h;revert h;refine sel_if ?_ ?_<;>intro h
         ·obtain ⟨v28,g29,h⟩:=bind_inv h;refine ⟨(by first | rfl | (simp only [List.length_map,List.length_set];omega) | (simp only [List.length_map,List.length_set,List.length_append,List.length_take,List.length_drop,List.length_replicate];omega)),view_i g29,_,rfl,?_⟩;refine ⟨rfl,D.i v28,(view_d (f:=D.i) g29),?_⟩;obtain ⟨v30,g31,h⟩:=bind_inv h;refine ⟨rfl,geti_b (f:=D.i) g31,?_⟩;obtain ⟨v32,g33,h⟩:=bind_inv h;have g33l:=seti_len g33;refine ⟨rfl,rfl,D.i v30,(geti_d (f:=D.i) g31),?_⟩;refine ⟨_,seti_z (f:=D.i) g33,?_⟩;refine ⟨_,rfl,?_⟩;exact join_end wk h
         ·exact join_end wk h
        ·rintro ⟨v25,v26⟩ h;refine ⟨_,rfl,?_⟩;exact hK20 _ _ wk h
       ·exact join_end wk h
      ·rintro ⟨v12,v13⟩ h;(conv=>whnf);refine .inr (.inl ?_);obtain ⟨_,g34,h⟩:=bind_inv h;have g96c:=chk_inv g34;refine ⟨view_b0 (f:=D.i) g34,rfl,(Int.toNat v12),(Int.toNat (v13.length:Int) - Int.toNat v12),rfl,(by rw [List.length_map]),?_⟩;refine ⟨(by first | rfl | (simp only [List.length_map,List.length_set];omega) | (simp only [List.length_map,List.length_set,List.length_append,List.length_take,List.length_drop,List.length_replicate];omega)),D.i 0,rfl,List.map D.i (List.take (Int.toNat v12) v13 ++ List.replicate (Int.toNat (v13.length:Int) - Int.toNat v12) 0 ++ List.drop ((Int.toNat v12) + (Int.toNat (v13.length:Int) - Int.toNat v12)) v13),clear_z,?_⟩;(conv=>whnf);refine .inr (.inr ?_);obtain ⟨v35,g36,h⟩:=bind_inv h;refine ⟨move_b (f:=D.i) g36,(by first | rfl | (simp only [List.length_map];omega) | (simp only [List.length_map,List.length_set,List.length_append,List.length_take,List.length_drop,List.length_replicate];omega)),_,part_z (f:=D.i) g36,?_⟩;(conv=>whnf);refine .inl ?_;(conv=>whnf);refine .inr ?_;cases h;exact ⟨rfl,rfl⟩
     ·exact join_end wk h
    ·rintro _ h;refine ⟨_,rfl,?_⟩;exact hK5 _ _ wk h
   ·exact join_end wk h
  ·rintro _ h;(conv=>whnf);refine .inr ?_;cases h;exact ⟨rfl,rfl⟩
theorem addr_FromBytes_ok {wl:Prop} {a0:List UInt8} {r:Addr×Int} (h:addr_FromBytes a0=some r):CallsOK (Wl wl) Tryz.prog 133 [AV.d (D.l 1 D.u8 a0)] [] (.tup [.d (Addr.toD r.1),.d (D.i r.2)]) []:=by
 refine ok Tryz.f133 (by kernel_rfl) (by kernel_rfl) ⟨rfl,?_⟩;unfold addr_FromBytes at h;revert h;refine cut_join (fun v1=>⟨AV.d (D.l 1 D.u8 a0)::X::AV.ref 2 0::dd 11 (AV.d (D.b v1)::dd 28 ([])),N::N::some (OB.box Addr.zv)::nn 40 ([])⟩) ?_ ?_
 ·intro k2 h;refine ⟨a0.length,List.length_map _,?_⟩;revert h;refine sel_if ?_ ?_<;>intro h
  ·refine ⟨a0.length,List.length_map _,?_⟩;exact join_end wk h
  ·exact join_end wk h
 ·rintro v1 h;(conv=>whnf);refine .go ?_;revert h;refine sel_if ?_ ?_<;>intro h
  ·cases h;exact ⟨rfl,rfl⟩
  ·refine ⟨a0.length,List.length_map _,?_⟩;refine ⟨a0.length,List.length_map _,?_⟩;revert h;refine cut_join (fun v3=>⟨X::X::AV.ref 2 0::X::AV.ref 4 0::dd 38 ([]),N::N::some (OB.box Addr.zv)::N::some (OB.box (Addr.av v3))::nn 38 ([])⟩) ?_ ?_
   ·intro k4 h;revert h;refine loop_for 20 1 D.u8 rfl (fun i5 v6=>⟨X::X::AV.ref 2 0::X::AV.ref 4 0::dd 15 (AV.d (D.l 1 D.u8 a0)::AV.d (D.i (a0.length:Int))::AV.d (D.i (i5:Int))::dd 20 ([])),N::N::some (OB.box Addr.zv)::N::some (OB.box (Addr.av v6))::nn 38 ([])⟩) ?_ ?_ ?_
    ·exact wk
    ·rintro v6 K7 h;(conv=>whnf);refine .go ?_;(conv=>whnf);refine sel_f lt_f ?_;exact join_end wk h
    ·rintro next8 i5 x9 v6 K7 hii5 hxi5 hwi5 h hK10;(conv=>whnf);refine .go ?_;(conv=>whnf);refine sel_t (lt_t hii5) ?_;(conv=>whnf);refine .go ?_;refine ⟨idx_b (f:=D.u8) hii5,D.u8 x9,hxi5,rfl,?_⟩;refine ⟨by decide,_,u64_wrap _,?_⟩;refine ⟨by decide,_,u64_shr v6.Lo _,?_⟩;refine ⟨_,u64_wrap _,?_⟩;refine ⟨by decide,_,u64_wrap _,?_⟩;refine ⟨_,u64_wrap _,?_⟩;refine ⟨_,u64_wrap _,?_⟩;refine ⟨_,hwi5,?_⟩;exact hK10 _ _ wk h
   ·rintro v3 h;cases h;exact ⟨rfl,rfl⟩
end Go.AX.Q18
end
section
namespace Go.AX.Q18
open Go Go.AX Go.Proofs
set_option maxRecDepth 100000
set_option maxHeartbeats 4000000
set_option linter.unusedVariables false
theorem slices_Min_int_int_ok {wl:Prop} {a0:List Int} {r:Int} (h:slices_Min_int_int a0=some r):CallsOK (Wl wl) Tryz.prog 101 [AV.d (D.l 1 D.i a0)] [] (.d (D.i r)) []:=by
 refine ok Tryz.f101 (by kernel_rfl) (by kernel_rfl) ⟨rfl,?_⟩;unfold slices_Min_int_int at h;refine ⟨a0.length,List.length_map _,?_⟩;(conv=>whnf);refine .go ?_;revert h;refine sel_if ?_ ?_<;>intro h
 ·exact nomatch h
 ·obtain ⟨v1,g2,h⟩:=bind_inv h;refine ⟨geti_b (f:=D.i) g2,D.i v1,geti_d (f:=D.i) g2,rfl,?_⟩;revert h;refine cut_join (fun v3=>⟨X::X::X::AV.d (D.i v3)::dd 21 ([]),nn 25 ([])⟩) ?_ ?_
  ·intro k4 h;revert h;refine loop_while (fun (v5,v6)=>⟨AV.d (D.l 1 D.i a0)::X::X::AV.d (D.i v5)::AV.d (D.i v6)::dd 20 ([]),nn 25 ([])⟩) ?_ ?_
   ·exact wk
   rintro next7 ⟨v5,v6⟩ K8 h hK9;refine ⟨a0.length,List.length_map _,?_⟩;(conv=>whnf);refine .go ?_;revert h;refine sel_if ?_ ?_<;>intro h
   ·(conv=>whnf);refine .go ?_;obtain ⟨v10,g11,h⟩:=bind_inv h;refine ⟨geti_b (f:=D.i) g11,D.i v10,geti_d (f:=D.i) g11,rfl,?_⟩;refine ⟨_,rfl,?_⟩;refine ⟨_,rfl,?_⟩;exact hK9 _ _ wk h
   ·exact join_end wk h
  ·rintro v3 h;cases h;exact ⟨rfl,rfl⟩
theorem slices_Max_int_int_ok {wl:Prop} {a0:List Int} {r:Int} (h:slices_Max_int_int a0=some r):CallsOK (Wl wl) Tryz.prog 102 [AV.d (D.l 1 D.i a0)] [] (.d (D.i r)) []:=by
 refine ok Tryz.f102 (by kernel_rfl) (by kernel_rfl) ⟨rfl,?_⟩;unfold slices_Max_int_int at h;refine ⟨a0.length,List.length_map _,?_⟩;(conv=>whnf);refine .go ?_;revert h;refine sel_if ?_ ?_<;>intro h
 ·exact nomatch h
 ·obtain ⟨v1,g2,h⟩:=bind_inv h;refine ⟨geti_b (f:=D.i) g2,D.i v1,geti_d (f:=D.i) g2,rfl,?_⟩;revert h;refine cut_join (fun v3=>⟨X::X::X::AV.d (D.i v3)::dd 21 ([]),nn 25 ([])⟩) ?_ ?_
  ·intro k4 h;revert h;refine loop_while (fun (v5,v6)=>⟨AV.d (D.l 1 D.i a0)::X::X::AV.d (D.i v5)::AV.d (D.i v6)::dd 20 ([]),nn 25 ([])⟩) ?_ ?_
   ·exact wk
   rintro next7 ⟨v5,v6⟩ K8 h hK9;refine ⟨a0.length,List.length_map _,?_⟩;(conv=>whnf);refine .go ?_;revert h;refine sel_if ?_ ?_<;>intro h
   ·(conv=>whnf);refine .go ?_;obtain ⟨v10,g11,h⟩:=bind_inv h;refine ⟨geti_b (f:=D.i) g11,D.i v10,geti_d (f:=D.i) g11,rfl,?_⟩;refine ⟨_,rfl,?_⟩;refine ⟨_,rfl,?_⟩;exact hK9 _ _ wk h
   ·exact join_end wk h
  ·rintro v3 h;cases h;exact ⟨rfl,rfl⟩
theorem community_within_ok {wl:Prop} {a0:Int} {a1:List Int} {r:Bool} (h:community_within a0 a1=some r):CallsOK (Wl wl) Tryz.prog 94 [AV.d (D.i a0),AV.d (D.l 1 D.i a1)] [] (.d (D.b r)) []:=by
 refine ok Tryz.f94 (by kernel_rfl) (by kernel_rfl) ⟨rfl,?_⟩;unfold community_within at h;revert h;refine cut_join (fun v1=>⟨dd 4 (AV.d (D.b v1)::dd 9 ([])),nn 14 ([])⟩) ?_ ?_
 ·intro k2 h;obtain ⟨v3,g4,h⟩:=bind_inv h;refine ⟨_,_,some [],slices_Min_int_int_ok g4,?_⟩;revert h;refine sel_if ?_ ?_<;>intro h
  ·obtain ⟨v5,g6,h⟩:=bind_inv h;refine ⟨_,_,some [],slices_Max_int_int_ok g6,?_⟩;exact join_end wk h
  ·exact join_end wk h
 ·rintro v1 h;cases h;exact ⟨rfl,rfl⟩
theorem community_fits_ok {wl:Prop} {a0:Community} {r:Bool} (h:community_fits a0=some r):CallsOK (Wl wl) Tryz.prog 71 [AV.d (Community.toD a0)] [] (.d (D.b r)) []:=by
 refine ok Tryz.f71 (by kernel_rfl) (by kernel_rfl) ⟨rfl,?_⟩;unfold community_fits at h;refine ⟨rfl,?_⟩;obtain ⟨v1,g2,h⟩:=bind_inv h;refine ⟨_,_,none,community_within_ok g2,?_⟩;cases h;exact ⟨rfl,rfl⟩
theorem cmp_isNaN_int_ok {wl:Prop} {a0:Int} {r:Bool} (h:cmp_isNaN_int a0=some r):CallsOK (Wl wl) Tryz.prog 69 [AV.d (D.i a0)] [] (.d (D.b r)) []:=by
 refine ok Tryz.f69 (by kernel_rfl) (by kernel_rfl) ⟨rfl,?_⟩;unfold cmp_isNaN_int at h;cases h;exact ⟨rfl,rfl⟩
theorem cmp_Compare_int_ok {wl:Prop} {a0:Int} {a1:Int} {r:Int} (h:cmp_Compare_int a0 a1=some r):CallsOK (Wl wl) Tryz.prog 37 [AV.d (D.i a0),AV.d (D.i a1)] [] (.d (D.i r)) []:=by
 refine ok Tryz.f37 (by kernel_rfl) (by kernel_rfl) ⟨rfl,?_⟩;unfold cmp_Compare_int at h;obtain ⟨v1,g2,h⟩:=bind_inv h;refine ⟨_,_,some [],cmp_isNaN_int_ok g2,?_⟩;obtain ⟨v3,g4,h⟩:=bind_inv h;refine ⟨_,_,some [],cmp_isNaN_int_ok g4,?_⟩;(conv=>whnf);refine .go ?_;revert h;refine sel_if ?_ ?_<;>intro h
 ·(conv=>whnf);refine .go ?_;revert h;refine sel_if ?_ ?_<;>intro h
  ·cases h;exact ⟨rfl,rfl⟩
  ·cases h;exact ⟨rfl,rfl⟩
 ·(conv=>whnf);refine .go ?_;revert h;refine sel_if ?_ ?_<;>intro h
  ·cases h;exact ⟨rfl,rfl⟩
  ·(conv=>whnf);refine .go ?_;revert h;refine sel_if ?_ ?_<;>intro h
   ·cases h;exact ⟨rfl,rfl⟩
   ·(conv=>whnf);refine .go ?_;revert h;refine sel_if ?_ ?_<;>intro h
    ·cases h;exact ⟨rfl,rfl⟩
    ·cases h;exact ⟨rfl,rfl⟩
theorem cmp_Or_int_ok {wl:Prop} {a0:List Int} {r:Int} (h:cmp_Or_int a0=some r):CallsOK (Wl wl) Tryz.prog 95 [AV.d (D.l 1 D.i a0)] [] (.d (D.i r)) []:=by
 refine ok Tryz.f95 (by kernel_rfl) (by kernel_rfl) ⟨rfl,?_⟩;unfold cmp_Or_int at h;refine ⟨a0.length,List.length_map _,?_⟩;revert h;refine cut_join (fun _=>⟨X::X::X::AV.d (D.i 0)::dd 14 ([]),nn 18 ([])⟩) ?_ ?_
 ·intro k1 h;revert h;refine loop_for 6 1 D.i rfl (fun i2 _=>⟨X::X::X::AV.d (D.i 0)::X::X::AV.d (D.l 1 D.i a0)::AV.d (D.i (a0.length:Int))::AV.d (D.i (i2:Int))::dd 9 ([]),nn 18 ([])⟩) ?_ ?_ ?_
  ·exact wk
  ·rintro _ K3 h;(conv=>whnf);refine .go ?_;(conv=>whnf);refine sel_f lt_f ?_;exact join_end wk h
  ·rintro next4 i2 x5 _ K3 hii2 hxi2 hwi2 h hK6;(conv=>whnf);refine .go ?_;(conv=>whnf);refine sel_t (lt_t hii2) ?_;(conv=>whnf);refine .go ?_;refine ⟨idx_b (f:=D.i) hii2,D.i x5,hxi2,rfl,?_⟩;(conv=>whnf);refine .go ?_;revert h;refine sel_if ?_ ?_<;>intro h
   ·cases h;exact ⟨rfl,rfl⟩
   ·refine ⟨_,hwi2,?_⟩;exact hK6 _ _ wk h
 ·rintro _ h;cases h;exact ⟨rfl,rfl⟩
theorem community_compare_ok {wl:Prop} {a0:Community} {a1:Community} {r:Int} (h:community_compare a0 a1=some r):CallsOK (Wl wl) Tryz.prog 72 [AV.d (Community.toD a0),AV.d (Community.toD a1)] [] (.d (D.i r)) []:=by
 refine ok Tryz.f72 (by kernel_rfl) (by kernel_rfl) ⟨rfl,?_⟩;unfold community_compare at h;(conv=>whnf);refine .inl (dOB (by kernel_rfl) ?_);obtain ⟨v1,g2,h⟩:=bind_inv h;refine ⟨_,_,cmp_Compare_int_ok g2,.inl rfl,?_⟩;obtain ⟨v3,g4,h⟩:=bind_inv h;refine ⟨_,_,cmp_Compare_int_ok g4,.inl rfl,?_⟩;refine ⟨rfl,?_⟩;obtain ⟨v5,g6,h⟩:=bind_inv h;refine ⟨_,_,cmp_Or_int_ok g6,.inl rfl,?_⟩;(conv=>whnf);refine cOB (by kernel_rfl) ?_;cases h;exact ⟨rfl,rfl⟩
theorem community_ascends_api_Community__community_fits__community_compare_ok {wl:Prop} {a0:List Community} {r:Bool} (h:community_ascends_api_Community__community_fits__community_compare a0=some r):CallsOK (Wl wl) Tryz.prog 70 [AV.d (D.l 2 Community.toD a0),AV.fn 71 [],AV.fn 72 []] [] (.d (D.b r)) []:=by
 refine ok Tryz.f70 (by kernel_rfl) (by kernel_rfl) ⟨rfl,?_⟩;unfold community_ascends_api_Community__community_fits__community_compare at h;refine ⟨a0.length,List.length_map _,?_⟩;revert h;refine cut_join (fun _=>⟨AV.d (D.l 2 Community.toD a0)::dd 38 ([]),nn 39 ([])⟩) ?_ ?_
 ·intro k1 h;revert h;refine loop_for 9 2 Community.toD rfl (fun i2 _=>⟨AV.d (D.l 2 Community.toD a0)::AV.fn 71 []::AV.fn 72 []::dd 6 (AV.d (D.l 2 Community.toD a0)::AV.d (D.i (a0.length:Int))::AV.d (D.i (i2:Int))::dd 27 ([])),nn 39 ([])⟩) ?_ ?_ ?_
  ·exact wk
  ·rintro _ K3 h;(conv=>whnf);refine .go ?_;(conv=>whnf);refine sel_f lt_f ?_;exact join_end wk h
  ·rintro next4 i2 x5 _ K3 hii2 hxi2 hwi2 h hK6;(conv=>whnf);refine .go ?_;(conv=>whnf);refine sel_t (lt_t hii2) ?_;(conv=>whnf);refine .go ?_;refine ⟨idx_b (f:=Community.toD) hii2,Community.toD x5,hxi2,rfl,?_⟩;revert h;refine cut_join (fun v7=>⟨AV.d (D.l 2 Community.toD a0)::AV.fn 71 []::AV.fn 72 []::dd 6 (AV.d (D.l 2 Community.toD a0)::AV.d (D.i (a0.length:Int))::AV.d (D.i (i2:Int))::dd 22 (AV.d (D.b v7)::dd 4 ([]))),nn 39 ([])⟩) ?_ ?_
   ·intro k8 h;(conv=>whnf);refine .inl (dOB (by kernel_rfl) ?_);obtain ⟨v9,g10,h⟩:=bind_inv h;refine ⟨_,_,community_fits_ok g10,.inl rfl,?_⟩;revert h;refine sel_if ?_ ?_<;>intro h
    ·(conv=>whnf);refine cOB (by kernel_rfl) ?_;exact join_end wk h
    ·revert h;refine sel_if ?_ ?_<;>intro h
     ·refine ⟨_,rfl,?_⟩;obtain ⟨v11,g12,h⟩:=bind_inv h;refine ⟨geti_b (f:=Community.toD) g12,Community.toD v11,geti_d (f:=Community.toD) g12,rfl,?_⟩;obtain ⟨v13,g14,h⟩:=bind_inv h;refine ⟨_,_,community_compare_ok g14,.inl rfl,?_⟩;(conv=>whnf);refine cOB (by kernel_rfl) ?_;exact join_end wk h
     ·(conv=>whnf);refine cOB (by kernel_rfl) ?_;exact join_end wk h
   ·rintro v7 h;(conv=>whnf);refine .go ?_;revert h;refine sel_if ?_ ?_<;>intro h
    ·cases h;exact ⟨rfl,rfl⟩
    ·refine ⟨_,hwi2,?_⟩;exact hK6 _ _ wk h
 ·rintro _ h;refine ⟨a0.length,List.length_map _,?_⟩;cases h;exact ⟨rfl,rfl⟩
theorem community_Valid_ok {wl:Prop} {a0:List Community} {r:Bool} (h:community_Valid a0=some r):CallsOK (Wl wl) Tryz.prog 45 [AV.d (D.l 2 Community.toD a0)] [] (.d (D.b r)) []:=by
 refine ok Tryz.f45 (by kernel_rfl) (by kernel_rfl) ⟨rfl,?_⟩;unfold community_Valid at h;obtain ⟨v1,g2,h⟩:=bind_inv h;refine ⟨_,_,some [],community_ascends_api_Community__community_fits__community_compare_ok g2,?_⟩;cases h;exact ⟨rfl,rfl⟩
theorem slices_Compact_api_Community_api_Community_ok {wl:Prop} {a0:List Community} {r:(List Community)} (h:slices_Compact_api_Community_api_Community a0=some r):CallsOK (Wl wl) Tryz.prog 140 [AV.own 0 (List.map Community.toD a0).length] [.row 66 2 (List.map Community.toD a0) .no] (AV.own 1 (List.map Community.toD r).length) [.gone,.row 66 2 (List.map Community.toD r) .no]:=by
 refine ok Tryz.f140 (by kernel_rfl) (by kernel_rfl) ⟨rfl,?_⟩;unfold slices_Compact_api_Community_api_Community at h;refine ⟨a0.length,by first | exact List.length_map _ | rfl | (simp only [List.length_map];omega),?_⟩;(conv=>whnf);refine .go ?_;revert h;refine sel_if ?_ ?_<;>intro h
 ·(conv=>whnf);refine .inr ?_;cases h;exact ⟨rfl,rfl⟩
 ·revert h;refine cut_join (fun _=>⟨AV.own 0 (List.map Community.toD a0).length::dd 60 ([]),some (OB.row 66 2 (List.map Community.toD a0) .no)::nn 61 ([])⟩) ?_ ?_
  ·intro k1 h;revert h;refine loop_while (fun v2=>⟨AV.own 0 (List.map Community.toD a0).length::X::X::AV.d (D.i v2)::dd 57 ([]),some (OB.row 66 2 (List.map Community.toD a0) .no)::nn 61 ([])⟩) ?_ ?_
   ·exact wk
   rintro next3 v2 K4 h hK5;refine ⟨a0.length,by first | exact List.length_map _ | rfl | (simp only [List.length_map];omega),?_⟩;(conv=>whnf);refine .go ?_;revert h;refine sel_if ?_ ?_<;>intro h
   ·revert h;refine cut_join (fun _=>⟨AV.own 0 (List.map Community.toD a0).length::X::X::AV.d (D.i v2)::dd 57 ([]),some (OB.row 66 2 (List.map Community.toD a0) .no)::nn 61 ([])⟩) ?_ ?_
    ·intro k6 h;(conv=>whnf);refine .inl (dOB (by kernel_rfl) ?_);obtain ⟨v7,g8,h⟩:=bind_inv h;refine ⟨rfl,geti_b (f:=Community.toD) g8,?_⟩;refine ⟨rfl,Community.toD v7,(geti_d (f:=Community.toD) g8),?_⟩;refine ⟨_,rfl,?_⟩;obtain ⟨v9,g10,h⟩:=bind_inv h;refine ⟨rfl,geti_b (f:=Community.toD) g10,?_⟩;refine ⟨rfl,Community.toD v9,(geti_d (f:=Community.toD) g10),?_⟩;(conv=>whnf);refine cOB (by kernel_rfl) ?_;(conv=>whnf);refine .go ?_;revert h;refine sel_if ?_ ?_<;>intro h
     ·(conv=>whnf);refine .inr (.inl ?_);obtain ⟨_,g11,h⟩:=bind_inv h;have g56c:=chk_inv g11;refine ⟨view_b0 (f:=Community.toD) g11,rfl,(Int.toNat v2),(Int.toNat (a0.length:Int) - Int.toNat v2),rfl,(by rw [List.length_map]),?_⟩;revert h;refine cut_join (fun (v12,v13)=>⟨AV.own 0 (List.map Community.toD v13).length::X::X::AV.d (D.i v12)::dd 57 ([]),some (OB.row 66 2 (List.map Community.toD v13) .no)::nn 61 ([])⟩) ?_ ?_
      ·intro k14 h;revert h;refine loop_while (fun (v15,v16,v17)=>⟨AV.own 0 (List.map Community.toD v17).length::X::X::AV.d (D.i v15)::AV.osl 0 (Int.toNat v2) (Int.toNat (a0.length:Int) - Int.toNat v2) (List.map Community.toD v17).length::AV.d (D.i v16)::dd 55 ([]),some (OB.row 66 2 (List.map Community.toD v17) .no)::nn 61 ([])⟩) ?_ ?_
       ·exact wk
       rintro next18 ⟨v15,v16,v17⟩ K19 h hK20;refine ⟨(Int.toNat (a0.length:Int) - Int.toNat v2),rfl,?_⟩;(conv=>whnf);refine .go ?_;revert h;refine sel_if ?_ ?_<;>intro h
       ·(conv=>whnf);refine .go ?_;(conv=>whnf);refine .inl (dOB (by kernel_rfl) ?_);obtain ⟨v21,g22,h⟩:=bind_inv h;refine ⟨(by first | rfl | (simp only [List.length_map,List.length_set];omega) | (simp only [List.length_map,List.length_set,List.length_append,List.length_take,List.length_drop,List.length_replicate];omega)),view_i g22,_,rfl,?_⟩;refine ⟨rfl,Community.toD v21,(view_d (f:=Community.toD) g22),?_⟩;refine ⟨_,rfl,?_⟩;obtain ⟨v23,g24,h⟩:=bind_inv h;refine ⟨(by first | rfl | (simp only [List.length_map,List.length_set];omega) | (simp only [List.length_map,List.length_set,List.length_append,List.length_take,List.length_drop,List.length_replicate];omega)),view_i g24,_,rfl,?_⟩;refine ⟨rfl,Community.toD v23,(view_d (f:=Community.toD) g24),?_⟩;(conv=>whnf);refine cOB (by kernel_rfl) ?_;revert h;refine cut_join (fun (v25,v26)=>⟨AV.own 0 (List.map Community.toD v26).length::X::X::AV.d (D.i v25)::AV.osl 0 (Int.toNat v2) (Int.toNat (a0.length:Int) - Int.toNat v2) (List.map Community.toD v26).length::AV.d (D.i v16)::dd 55 ([]),some (OB.row 66 2 (List.map Community.toD v26) .no)::nn 61 ([])⟩) ?_ ?_
        ·intro k27 h;revert h;refine sel_if ?_ ?_<;>intro h
         ·obtain ⟨v28,g29,h⟩:=bind_inv h;refine ⟨(by first | rfl | (simp only [List.length_map,List.length_set];omega) | (simp only [List.length_map,List.length_set,List.length_append,List.length_take,List.length_drop,List.length_replicate];omega)),view_i g29,_,rfl,?_⟩;refine ⟨rfl,Community.toD v28,(view_d (f:=Community.toD) g29),?_⟩;obtain ⟨v30,g31,h⟩:=bind_inv h;refine ⟨rfl,geti_b (f:=Community.toD) g31,?_⟩;obtain ⟨v32,g33,h⟩:=bind_inv h;have g33l:=seti_len g33;refine ⟨rfl,rfl,Community.toD v30,(geti_d (f:=Community.toD) g31),?_⟩;refine ⟨_,seti_z (f:=Community.toD) g33,?_⟩;refine ⟨_,rfl,?_⟩;exact join_end wk h
         ·exact join_end wk h
        ·rintro ⟨v25,v26⟩ h;refine ⟨_,rfl,?_⟩;exact hK20 _ _ wk h
       ·exact join_end wk h
      ·rintro ⟨v12,v13⟩ h;(conv=>whnf);refine .inr (.inl ?_);obtain ⟨_,g34,h⟩:=bind_inv h;have g96c:=chk_inv g34;refine ⟨view_b0 (f:=Community.toD) g34,rfl,(Int.toNat v12),(Int.toNat (v13.length:Int) - Int.toNat v12),rfl,(by rw [List.length_map]),?_⟩;refine ⟨(by first | rfl | (simp only [List.length_map,List.length_set];omega) | (simp only [List.length_map,List.length_set,List.length_append,List.length_take,List.length_drop,List.length_replicate];omega)),Community.toD (⟨0,0⟩:Community),rfl,List.map Community.toD (List.take (Int.toNat v12) v13 ++ List.replicate (Int.toNat (v13.length:Int) - Int.toNat v12) (⟨0,0⟩:Community) ++ List.drop ((Int.toNat v12) + (Int.toNat (v13.length:Int) - Int.toNat v12)) v13),clear_z,?_⟩;(conv=>whnf);refine .inr (.inr ?_);obtain ⟨v35,g36,h⟩:=bind_inv h;refine ⟨move_b (f:=Community.toD) g36,(by first | rfl | (simp only [List.length_map];omega) | (simp only [List.length_map,List.length_set,List.length_append,List.length_take,List.length_drop,List.length_replicate];omega)),_,part_z (f:=Community.toD) g36,?_⟩;(conv=>whnf);refine .inl ?_;(conv=>whnf);refine .inr ?_;cases h;exact ⟨rfl,rfl⟩
     ·exact join_end wk h
    ·rintro _ h;refine ⟨_,rfl,?_⟩;exact hK5 _ _ wk h
   ·exact join_end wk h
  ·rintro _ h;(conv=>whnf);refine .inr ?_;cases h;exact ⟨rfl,rfl⟩
theorem attribute_readCommunities_1_ok {wl:Prop} {a0:Community} {a1:Community} {r:Int} (h:attribute_readCommunities_1 a0 a1=some r):CallsOK (Wl wl) Tryz.prog 135 [AV.d (Community.toD a0),AV.d (Community.toD a1)] [] (.d (D.i r)) []:=by
 refine ok Tryz.f135 (by kernel_rfl) (by kernel_rfl) ⟨rfl,?_⟩;unfold attribute_readCommunities_1 at h;(conv=>whnf);refine .inl (dOB (by kernel_rfl) ?_);obtain ⟨v1,g2,h⟩:=bind_inv h;refine ⟨_,_,cmp_Compare_int_ok g2,.inl rfl,?_⟩;obtain ⟨v3,g4,h⟩:=bind_inv h;refine ⟨_,_,cmp_Compare_int_ok g4,.inl rfl,?_⟩;refine ⟨rfl,?_⟩;obtain ⟨v5,g6,h⟩:=bind_inv h;refine ⟨_,_,cmp_Or_int_ok g6,.inl rfl,?_⟩;(conv=>whnf);refine cOB (by kernel_rfl) ?_;cases h;exact ⟨rfl,rfl⟩
theorem community_fitsLarge_ok {wl:Prop} {a0:Large} {r:Bool} (h:community_fitsLarge a0=some r):CallsOK (Wl wl) Tryz.prog 74 [AV.d (Large.toD a0)] [] (.d (D.b r)) []:=by
 refine ok Tryz.f74 (by kernel_rfl) (by kernel_rfl) ⟨rfl,?_⟩;unfold community_fitsLarge at h;refine ⟨rfl,?_⟩;obtain ⟨v1,g2,h⟩:=bind_inv h;refine ⟨_,_,none,community_within_ok g2,?_⟩;cases h;exact ⟨rfl,rfl⟩
theorem community_compareLarge_ok {wl:Prop} {a0:Large} {a1:Large} {r:Int} (h:community_compareLarge a0 a1=some r):CallsOK (Wl wl) Tryz.prog 75 [AV.d (Large.toD a0),AV.d (Large.toD a1)] [] (.d (D.i r)) []:=by
 refine ok Tryz.f75 (by kernel_rfl) (by kernel_rfl) ⟨rfl,?_⟩;unfold community_compareLarge at h;(conv=>whnf);refine .inl (dOB (by kernel_rfl) ?_);obtain ⟨v1,g2,h⟩:=bind_inv h;refine ⟨_,_,cmp_Compare_int_ok g2,.inl rfl,?_⟩;obtain ⟨v3,g4,h⟩:=bind_inv h;refine ⟨_,_,cmp_Compare_int_ok g4,.inl rfl,?_⟩;obtain ⟨v5,g6,h⟩:=bind_inv h;refine ⟨_,_,cmp_Compare_int_ok g6,.inl rfl,?_⟩;refine ⟨rfl,?_⟩;obtain ⟨v7,g8,h⟩:=bind_inv h;refine ⟨_,_,cmp_Or_int_ok g8,.inl rfl,?_⟩;(conv=>whnf);refine cOB (by kernel_rfl) ?_;cases h;exact ⟨rfl,rfl⟩
theorem community_ascends_api_Large__community_fitsLarge__community_compareLarge_ok {wl:Prop} {a0:List Large} {r:Bool} (h:community_ascends_api_Large__community_fitsLarge__community_compareLarge a0=some r):CallsOK (Wl wl) Tryz.prog 73 [AV.d (D.l 3 Large.toD a0),AV.fn 74 [],AV.fn 75 []] [] (.d (D.b r)) []:=by
 refine ok Tryz.f73 (by kernel_rfl) (by kernel_rfl) ⟨rfl,?_⟩;unfold community_ascends_api_Large__community_fitsLarge__community_compareLarge at h;refine ⟨a0.length,List.length_map _,?_⟩;revert h;refine cut_join (fun _=>⟨AV.d (D.l 3 Large.toD a0)::dd 38 ([]),nn 39 ([])⟩) ?_ ?_
 ·intro k1 h;revert h;refine loop_for 9 3 Large.toD rfl (fun i2 _=>⟨AV.d (D.l 3 Large.toD a0)::AV.fn 74 []::AV.fn 75 []::dd 6 (AV.d (D.l 3 Large.toD a0)::AV.d (D.i (a0.length:Int))::AV.d (D.i (i2:Int))::dd 27 ([])),nn 39 ([])⟩) ?_ ?_ ?_
  ·exact wk
  ·rintro _ K3 h;(conv=>whnf);refine .go ?_;(conv=>whnf);refine sel_f lt_f ?_;exact join_end wk h
  ·rintro next4 i2 x5 _ K3 hii2 hxi2 hwi2 h hK6;(conv=>whnf);refine .go ?_;(conv=>whnf);refine sel_t (lt_t hii2) ?_;(conv=>whnf);refine .go ?_;refine ⟨idx_b (f:=Large.toD) hii2,Large.toD x5,hxi2,rfl,?_⟩;revert h;refine cut_join (fun v7=>⟨AV.d (D.l 3 Large.toD a0)::AV.fn 74 []::AV.fn 75 []::dd 6 (AV.d (D.l 3 Large.toD a0)::AV.d (D.i (a0.length:Int))::AV.d (D.i (i2:Int))::dd 22 (AV.d (D.b v7)::dd 4 ([]))),nn 39 ([])⟩) ?_ ?_
   ·intro k8 h;(conv=>whnf);refine .inl (dOB (by kernel_rfl) ?_);obtain ⟨v9,g10,h⟩:=bind_inv h;refine ⟨_,_,community_fitsLarge_ok g10,.inl rfl,?_⟩;revert h;refine sel_if ?_ ?_<;>intro h
    ·(conv=>whnf);refine cOB (by kernel_rfl) ?_;exact join_end wk h
    ·revert h;refine sel_if ?_ ?_<;>intro h
     ·refine ⟨_,rfl,?_⟩;obtain ⟨v11,g12,h⟩:=bind_inv h;refine ⟨geti_b (f:=Large.toD) g12,Large.toD v11,geti_d (f:=Large.toD) g12,rfl,?_⟩;obtain ⟨v13,g14,h⟩:=bind_inv h;refine ⟨_,_,community_compareLarge_ok g14,.inl rfl,?_⟩;(conv=>whnf);refine cOB (by kernel_rfl) ?_;exact join_end wk h
     ·(conv=>whnf);refine cOB (by kernel_rfl) ?_;exact join_end wk h
   ·rintro v7 h;(conv=>whnf);refine .go ?_;revert h;refine sel_if ?_ ?_<;>intro h
    ·cases h;exact ⟨rfl,rfl⟩
    ·refine ⟨_,hwi2,?_⟩;exact hK6 _ _ wk h
 ·rintro _ h;refine ⟨a0.length,List.length_map _,?_⟩;cases h;exact ⟨rfl,rfl⟩
theorem community_ValidLarge_ok {wl:Prop} {a0:List Large} {r:Bool} (h:community_ValidLarge a0=some r):CallsOK (Wl wl) Tryz.prog 46 [AV.d (D.l 3 Large.toD a0)] [] (.d (D.b r)) []:=by
 refine ok Tryz.f46 (by kernel_rfl) (by kernel_rfl) ⟨rfl,?_⟩;unfold community_ValidLarge at h;obtain ⟨v1,g2,h⟩:=bind_inv h;refine ⟨_,_,some [],community_ascends_api_Large__community_fitsLarge__community_compareLarge_ok g2,?_⟩;cases h;exact ⟨rfl,rfl⟩
theorem slices_Compact_api_Large_api_Large_ok {wl:Prop} {a0:List Large} {r:(List Large)} (h:slices_Compact_api_Large_api_Large a0=some r):CallsOK (Wl wl) Tryz.prog 142 [AV.own 0 (List.map Large.toD a0).length] [.row 80 3 (List.map Large.toD a0) .no] (AV.own 1 (List.map Large.toD r).length) [.gone,.row 80 3 (List.map Large.toD r) .no]:=by
 refine ok Tryz.f142 (by kernel_rfl) (by kernel_rfl) ⟨rfl,?_⟩;unfold slices_Compact_api_Large_api_Large at h;refine ⟨a0.length,by first | exact List.length_map _ | rfl | (simp only [List.length_map];omega),?_⟩;(conv=>whnf);refine .go ?_;revert h;refine sel_if ?_ ?_<;>intro h
 ·(conv=>whnf);refine .inr ?_;cases h;exact ⟨rfl,rfl⟩
 ·revert h;refine cut_join (fun _=>⟨AV.own 0 (List.map Large.toD a0).length::dd 60 ([]),some (OB.row 80 3 (List.map Large.toD a0) .no)::nn 61 ([])⟩) ?_ ?_
  ·intro k1 h;revert h;refine loop_while (fun v2=>⟨AV.own 0 (List.map Large.toD a0).length::X::X::AV.d (D.i v2)::dd 57 ([]),some (OB.row 80 3 (List.map Large.toD a0) .no)::nn 61 ([])⟩) ?_ ?_
   ·exact wk
   rintro next3 v2 K4 h hK5;refine ⟨a0.length,by first | exact List.length_map _ | rfl | (simp only [List.length_map];omega),?_⟩;(conv=>whnf);refine .go ?_;revert h;refine sel_if ?_ ?_<;>intro h
   ·revert h;refine cut_join (fun _=>⟨AV.own 0 (List.map Large.toD a0).length::X::X::AV.d (D.i v2)::dd 57 ([]),some (OB.row 80 3 (List.map Large.toD a0) .no)::nn 61 ([])⟩) ?_ ?_
    ·intro k6 h;(conv=>whnf);refine .inl (dOB (by kernel_rfl) ?_);obtain ⟨v7,g8,h⟩:=bind_inv h;refine ⟨rfl,geti_b (f:=Large.toD) g8,?_⟩;refine ⟨rfl,Large.toD v7,(geti_d (f:=Large.toD) g8),?_⟩;refine ⟨_,rfl,?_⟩;obtain ⟨v9,g10,h⟩:=bind_inv h;refine ⟨rfl,geti_b (f:=Large.toD) g10,?_⟩;refine ⟨rfl,Large.toD v9,(geti_d (f:=Large.toD) g10),?_⟩;(conv=>whnf);refine cOB (by kernel_rfl) ?_;(conv=>whnf);refine .go ?_;revert h;refine sel_if ?_ ?_<;>intro h
     ·(conv=>whnf);refine .inr (.inl ?_);obtain ⟨_,g11,h⟩:=bind_inv h;have g56c:=chk_inv g11;refine ⟨view_b0 (f:=Large.toD) g11,rfl,(Int.toNat v2),(Int.toNat (a0.length:Int) - Int.toNat v2),rfl,(by rw [List.length_map]),?_⟩;revert h;refine cut_join (fun (v12,v13)=>⟨AV.own 0 (List.map Large.toD v13).length::X::X::AV.d (D.i v12)::dd 57 ([]),some (OB.row 80 3 (List.map Large.toD v13) .no)::nn 61 ([])⟩) ?_ ?_
      ·intro k14 h;revert h;refine loop_while (fun (v15,v16,v17)=>⟨AV.own 0 (List.map Large.toD v17).length::X::X::AV.d (D.i v15)::AV.osl 0 (Int.toNat v2) (Int.toNat (a0.length:Int) - Int.toNat v2) (List.map Large.toD v17).length::AV.d (D.i v16)::dd 55 ([]),some (OB.row 80 3 (List.map Large.toD v17) .no)::nn 61 ([])⟩) ?_ ?_
       ·exact wk
       rintro next18 ⟨v15,v16,v17⟩ K19 h hK20;refine ⟨(Int.toNat (a0.length:Int) - Int.toNat v2),rfl,?_⟩;(conv=>whnf);refine .go ?_;revert h;refine sel_if ?_ ?_<;>intro h
       ·(conv=>whnf);refine .go ?_;(conv=>whnf);refine .inl (dOB (by kernel_rfl) ?_);obtain ⟨v21,g22,h⟩:=bind_inv h;refine ⟨(by first | rfl | (simp only [List.length_map,List.length_set];omega) | (simp only [List.length_map,List.length_set,List.length_append,List.length_take,List.length_drop,List.length_replicate];omega)),view_i g22,_,rfl,?_⟩;refine ⟨rfl,Large.toD v21,(view_d (f:=Large.toD) g22),?_⟩;refine ⟨_,rfl,?_⟩;obtain ⟨v23,g24,h⟩:=bind_inv h;refine ⟨(by first | rfl | (simp only [List.length_map,List.length_set];omega) | (simp only [List.length_map,List.length_set,List.length_append,List.length_take,List.length_drop,List.length_replicate];omega)),view_i g24,_,rfl,?_⟩;refine ⟨rfl,Large.toD v23,(view_d (f:=Large.toD) g24),?_⟩;(conv=>whnf);refine cOB (by kernel_rfl) ?_;revert h;refine cut_join (fun (v25,v26)=>⟨AV.own 0 (List.map Large.toD v26).length::X::X::AV.d (D.i v25)::AV.osl 0 (Int.toNat v2) (Int.toNat (a0.length:Int) - Int.toNat v2) (List.map Large.toD v26).length::AV.d (D.i v16)::dd 55 ([]),some (OB.row 80 3 (List.map Large.toD v26) .no)::nn 61 ([])⟩) ?_ ?_
        ·intro k27 h;revert h;refine sel_if ?_ ?_<;>intro h
         ·obtain ⟨v28,g29,h⟩:=bind_inv h;refine ⟨(by first | rfl | (simp only [List.length_map,List.length_set];omega) | (simp only [List.length_map,List.length_set,List.length_append,List.length_take,List.length_drop,List.length_replicate];omega)),view_i g29,_,rfl,?_⟩;refine ⟨rfl,Large.toD v28,(view_d (f:=Large.toD) g29),?_⟩;obtain ⟨v30,g31,h⟩:=bind_inv h;refine ⟨rfl,geti_b (f:=Large.toD) g31,?_⟩;obtain ⟨v32,g33,h⟩:=bind_inv h;have g33l:=seti_len g33;refine ⟨rfl,rfl,Large.toD v30,(geti_d (f:=Large.toD) g31),?_⟩;refine ⟨_,seti_z (f:=Large.toD) g33,?_⟩;refine ⟨_,rfl,?_⟩;exact join_end wk h
         ·exact join_end wk h
        ·rintro ⟨v25,v26⟩ h;refine ⟨_,rfl,?_⟩;exact hK20 _ _ wk h
       ·exact join_end wk h
      ·rintro ⟨v12,v13⟩ h;(conv=>whnf);refine .inr (.inl ?_);obtain ⟨_,g34,h⟩:=bind_inv h;have g96c:=chk_inv g34;refine ⟨view_b0 (f:=Large.toD) g34,rfl,(Int.toNat v12),(Int.toNat (v13.length:Int) - Int.toNat v12),rfl,(by rw [List.length_map]),?_⟩;refine ⟨(by first | rfl | (simp only [List.length_map,List.length_set];omega) | (simp only [List.length_map,List.length_set,List.length_append,List.length_take,List.length_drop,List.length_replicate];omega)),Large.toD (⟨0,0,0⟩:Large),rfl,List.map Large.toD (List.take (Int.toNat v12) v13 ++ List.replicate (Int.toNat (v13.length:Int) - Int.toNat v12) (⟨0,0,0⟩:Large) ++ List.drop ((Int.toNat v12) + (Int.toNat (v13.length:Int) - Int.toNat v12)) v13),clear_z,?_⟩;(conv=>whnf);refine .inr (.inr ?_);obtain ⟨v35,g36,h⟩:=bind_inv h;refine ⟨move_b (f:=Large.toD) g36,(by first | rfl | (simp only [List.length_map];omega) | (simp only [List.length_map,List.length_set,List.length_append,List.length_take,List.length_drop,List.length_replicate];omega)),_,part_z (f:=Large.toD) g36,?_⟩;(conv=>whnf);refine .inl ?_;(conv=>whnf);refine .inr ?_;cases h;exact ⟨rfl,rfl⟩
     ·exact join_end wk h
    ·rintro _ h;refine ⟨_,rfl,?_⟩;exact hK5 _ _ wk h
   ·exact join_end wk h
  ·rintro _ h;(conv=>whnf);refine .inr ?_;cases h;exact ⟨rfl,rfl⟩
theorem attribute_readLarge_1_ok {wl:Prop} {a0:Large} {a1:Large} {r:Int} (h:attribute_readLarge_1 a0 a1=some r):CallsOK (Wl wl) Tryz.prog 137 [AV.d (Large.toD a0),AV.d (Large.toD a1)] [] (.d (D.i r)) []:=by
 refine ok Tryz.f137 (by kernel_rfl) (by kernel_rfl) ⟨rfl,?_⟩;unfold attribute_readLarge_1 at h;(conv=>whnf);refine .inl (dOB (by kernel_rfl) ?_);obtain ⟨v1,g2,h⟩:=bind_inv h;refine ⟨_,_,cmp_Compare_int_ok g2,.inl rfl,?_⟩;obtain ⟨v3,g4,h⟩:=bind_inv h;refine ⟨_,_,cmp_Compare_int_ok g4,.inl rfl,?_⟩;obtain ⟨v5,g6,h⟩:=bind_inv h;refine ⟨_,_,cmp_Compare_int_ok g6,.inl rfl,?_⟩;refine ⟨rfl,?_⟩;obtain ⟨v7,g8,h⟩:=bind_inv h;refine ⟨_,_,cmp_Or_int_ok g8,.inl rfl,?_⟩;(conv=>whnf);refine cOB (by kernel_rfl) ?_;cases h;exact ⟨rfl,rfl⟩
end Go.AX.Q18
end
section
namespace Go.AX.Q18
open Go Go.AX Go.Proofs
set_option maxRecDepth 100000
set_option maxHeartbeats 4000000
set_option linter.unusedVariables false
end Go.AX.Q18
end
section
namespace Go.AX.Q18
open Go Go.AX Go.Proofs
set_option maxRecDepth 100000
set_option maxHeartbeats 4000000
set_option linter.unusedVariables false
end Go.AX.Q18
end
section
namespace Go.AX.Q18
open Go Go.AX Go.Proofs
set_option maxRecDepth 100000
set_option maxHeartbeats 4000000
set_option linter.unusedVariables false
theorem attribute_Read_2_ok {wl:Prop} {a0:Unknown} {a1:Unknown} {r:Int} (h:attribute_Read_2 a0 a1=some r):CallsOK (Wl wl) Tryz.prog 62 [AV.d (Unknown.toD a0),AV.d (Unknown.toD a1)] [] (.d (D.i r)) []:=by
 refine ok Tryz.f62 (by kernel_rfl) (by kernel_rfl) ⟨rfl,?_⟩;unfold attribute_Read_2 at h;obtain ⟨v1,g2,h⟩:=bind_inv h;refine ⟨_,_,some [],cmp_Compare_int_ok g2,?_⟩;cases h;exact ⟨rfl,rfl⟩
theorem slices_IndexFunc_api_Unknown_api_Unknown__attribute_Read_1_ok {wl:Prop} {a0:List Unknown} {r:Int} (h:slices_IndexFunc_api_Unknown_api_Unknown__attribute_Read_1 a0=some r):CallsOK (Wl wl) Tryz.prog 80 [AV.d (D.l 3 Unknown.toD a0),AV.fn 59 []] [] (.d (D.i r)) []:=by
 refine ok Tryz.f80 (by kernel_rfl) (by kernel_rfl) ⟨rfl,?_⟩;unfold slices_IndexFunc_api_Unknown_api_Unknown__attribute_Read_1 at h;refine ⟨a0.length,List.length_map _,?_⟩;revert h;refine cut_join (fun _=>⟨dd 19 ([]),nn 19 ([])⟩) ?_ ?_
 ·intro k1 h;revert h;refine loop_for 6 3 Unknown.toD rfl (fun i2 _=>⟨AV.d (D.l 3 Unknown.toD a0)::AV.fn 59 []::dd 4 (AV.d (D.l 3 Unknown.toD a0)::AV.d (D.i (a0.length:Int))::AV.d (D.i (i2:Int))::dd 10 ([])),nn 19 ([])⟩) ?_ ?_ ?_
  ·exact wk
  ·rintro _ K3 h;(conv=>whnf);refine .go ?_;(conv=>whnf);refine sel_f lt_f ?_;exact join_end wk h
  ·rintro next4 i2 x5 _ K3 hii2 hxi2 hwi2 h hK6;(conv=>whnf);refine .go ?_;(conv=>whnf);refine sel_t (lt_t hii2) ?_;(conv=>whnf);refine .go ?_;refine ⟨idx_b (f:=Unknown.toD) hii2,Unknown.toD x5,hxi2,rfl,?_⟩;obtain ⟨v7,g8,h⟩:=bind_inv h;refine ⟨_,_,some [],attribute_Read_1_ok g8,?_⟩;(conv=>whnf);refine .go ?_;revert h;refine sel_if ?_ ?_<;>intro h
   ·cases h;exact ⟨rfl,rfl⟩
   ·refine ⟨_,hwi2,?_⟩;exact hK6 _ _ wk h
 ·rintro _ h;cases h;exact ⟨rfl,rfl⟩
theorem slices_ContainsFunc_api_Unknown_api_Unknown__attribute_Read_1_ok {wl:Prop} {a0:List Unknown} {r:Bool} (h:slices_ContainsFunc_api_Unknown_api_Unknown__attribute_Read_1 a0=some r):CallsOK (Wl wl) Tryz.prog 58 [AV.d (D.l 3 Unknown.toD a0),AV.fn 59 []] [] (.d (D.b r)) []:=by
 refine ok Tryz.f58 (by kernel_rfl) (by kernel_rfl) ⟨rfl,?_⟩;unfold slices_ContainsFunc_api_Unknown_api_Unknown__attribute_Read_1 at h;obtain ⟨v1,g2,h⟩:=bind_inv h;refine ⟨_,_,some [],slices_IndexFunc_api_Unknown_api_Unknown__attribute_Read_1_ok g2,?_⟩;cases h;exact ⟨rfl,rfl⟩
end Go.AX.Q18
end
