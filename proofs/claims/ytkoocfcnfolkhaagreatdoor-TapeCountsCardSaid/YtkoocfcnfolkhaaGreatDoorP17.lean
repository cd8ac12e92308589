/- An order's sums of registers. Conditions: the fields are words, the order's parts in their ranges. -/
import Derived.Test.YtkoocfcnfolkhaaGreatDoorCpuSumA
import Derived.Test.YtkoocfcnfolkhaaGreatDoorCpuSumB
import Derived.Test.YtkoocfcnfolkhaaGreatDoorCpuSumC
import Derived.Test.YtkoocfcnfolkhaaGreatDoorCpuSumD
import Derived.Test.YtkoocfcnfolkhaaGreatDoorSq
import Derived.Test.YtkoocfcnfolkhaaGreatDoorSh
import Derived.Test.YtkoocfcnfolkhaaGreatDoorRows
import Derived.Test.YtkoocfcnfolkhaaGreatDoorBase
import Derived.Test.YtkoocfcnfolkhaaGreatDoorBase2
import Derived.Test.YtkoocfcnfolkhaaGreatDoorCpuGoes
set_option linter.unusedVariables false
set_option linter.unusedSimpArgs false
set_option maxHeartbeats 4000000
set_option maxRecDepth 100000
namespace Go.Proofs.YtkoocfcnfolkhaaGreatDoor
open Go.RowKit Go.Mq
theorem z4v(c:Cp)(op:Int)(D S:Nat)(n v cy:Int)(get put:Value)(hD:D<8)(hS8:S<8)(hn: -16<=n/\n<=15)(hsh:op=12\/op=13->0<=n)(cb db B:Nat)(hBc:B<=cb)(hBd:B<=db)(hdc:db≠cb)(w:World)(hc:Blk w cb (cpuC c) 27)(hd:Blk w db (doC cb get put op D S n v cy) 203)(hi:c.In):
  Calls Tryz.prog 101 #[.pointer (some ⟨db,0,none⟩)] w fun e w'=>e= .returned (.bool (isSum op))/\Blk w' cb (cpuC (sumR c op D S n)) 27/\Kp B (·=cb) w w'/\St cb w w':=by
 by_cases h12:op=12
 ·exact z5C c op D S n v cy get put hD hS8 hn hsh cb db B hBc hBd hdc w hc hd hi (fun _=>Or.inl h12)
 by_cases h13:op=13
 ·exact z5C c op D S n v cy get put hD hS8 hn hsh cb db B hBc hBd hdc w hc hd hi (fun _=>Or.inr h13)
 by_cases h15:op=15
 ·exact z9Z c op D S n v cy get put hD hS8 hn hsh cb db B hBc hBd hdc w hc hd hi h15
 by_cases h14:op=14
 ·exact z9Y c op D S n v cy get put hD hS8 hn hsh cb db B hBc hBd hdc w hc hd hi h14
 by_cases hf:isFl op=true
 ·exact z9X c op D S n v cy get put hD hS8 hn hsh cb db B hBc hBd hdc w hc hd hi hf h12 h13 h14 h15
 ·refine z5C c op D S n v cy get put hD hS8 hn hsh cb db B hBc hBd hdc w hc hd hi (fun h=> ?_)
  simp only[isSum,Bool.or_eq_true,beq_iff_eq]at h
  rcases h with(h|h)|h
  ·exact Or.inl h
  ·exact Or.inr h
  ·exact absurd h hf
theorem bldTo{P:Program}{ops:Array Oper}{rest:List Oper}{o:Oper}{a:Act}{w:World}{Q:Exit->Act->World->Prop}(hg:o.guard=none)(t:TypeId)(parts:Array (Nat×Operand))(ho:o.op= .build t parts)
  (d:Option Tmp)(hd:o.dst=d)(cells:Array Value)(hf:P.built t (parts.map fun(i,x)=>(i,a.eval x)).toList=some cells)
  (h:wpList P ops Q rest (a.put d (.agg cells)) w):wpList P ops Q (o::rest) a w:=by
 subst hd
 refine wpList_build hg t parts ho (by rw[hf];rfl) ?_
 rw[hf]
 exact h
def shdL:List Bool:=[false,true,true,true,true,true,true,true,true,true,true,true,true,true,true,true,false,false,false,false,false,false,false,true,false,false,false,false,true,false,false,false]
def shsL:List Bool:=[false,true,false,true,true,true,true,true,true,true,true,true,false,false,true,false,false,false,false,false,false,false,true,false,false,false,false,false,true,false,false,false]
def shnL:List Bool:=[false,false,false,true,true,true,true,false,false,false,false,false,true,true,false,true,false,false,false,false,false,false,false,false,false,false,false,false,false,false,false,false]
def shwL:List Bool:=[false,false,true,false,false,false,false,false,false,false,false,false,false,false,false,false,true,true,true,true,true,false,false,false,false,false,false,false,false,true,false,false]
def shcL:List Int:=[1,1,2,3,3,2,2,1,1,1,1,1,1,1,1,1,2,2,2,2,4,4,3,3,1,1,5,1,6,2,0,5]
def shmL:List (List UInt8):=[[110,111,112],[109,111,118],[108,100,105],[108,100],[115,116],[108,100,98],[115,116,98],[97,100,100],[115,117,98],[97,110,100],[111,114],[120,111,114],[115,104,108],[115,104,114],[99,109,112],[97,100,100,105],[106,109,112],[106,122],[106,110],[106,99],[99,97,108,108],[114,101,116],[112,117,115,104],[112,111,112],[101,105],[100,105],[114,116,105],[104,108,116],[109,117,108],[106,110,122],[],[116,114,97,112]]
def shCell(k:Nat):List Value:=[.bool (shdL.getD k false),.bool (shsL.getD k false),.bool (shnL.getD k false),.bool (shwL.getD k false),.int .i64 (shcL.getD k 0),.string ⟨(shmL.getD k []).toArray⟩]
def shC:Array Value:=((List.range 32).flatMap shCell).toArray
def shZ:Array Value:=((List.range 32).flatMap fun _=>[Value.bool false,.bool false,.bool false,.bool false,.int .i64 0,.string ⟨#[]⟩]).toArray
theorem z2J(w:World):Calls Tryz.prog 95 #[] w fun e w'=>e= .returned (.agg shC)/\Below w.heap.size w w':=by
 obtain⟨Z,eZ⟩:∃Z,Z=shZ:=⟨_,rfl⟩
 obtain⟨C,eC⟩:∃C,C=shC:=⟨_,rfl⟩
 have hz:∀w,(zeroValue 190).run Tryz.prog w= .ok (.agg Z) w:=fun w=>by rw[eZ];kernel_rfl
 have sZ:Z.size=192:=by rw[eZ];kernel_rfl
 have sC:C.size=192:=by rw[eC];kernel_rfl
 rw[<-eC]
 have hZ:=zh eZ
 have hC:=zh eC
 clear eZ eC
 go_enter Tryz.func95,Tryz.ntmps95
 go_wp2_with (first|(refine bldTo rfl 189 _ rfl (some 1) rfl (shCell 0).toArray kR ?_)|(refine bldTo rfl 189 _ rfl (some 2) rfl (shCell 1).toArray kR ?_)|(refine bldTo rfl 189 _ rfl (some 3) rfl (shCell 2).toArray kR ?_)|(refine bldTo rfl 189 _ rfl (some 4) rfl (shCell 3).toArray kR ?_)|(refine bldTo rfl 189 _ rfl (some 5) rfl (shCell 4).toArray kR ?_)|(refine bldTo rfl 189 _ rfl (some 6) rfl (shCell 5).toArray kR ?_)|(refine bldTo rfl 189 _ rfl (some 7) rfl (shCell 6).toArray kR ?_)|(refine bldTo rfl 189 _ rfl (some 8) rfl (shCell 7).toArray kR ?_)|(refine bldTo rfl 189 _ rfl (some 9) rfl (shCell 8).toArray kR ?_)|(refine bldTo rfl 189 _ rfl (some 10) rfl (shCell 9).toArray kR ?_)|(refine bldTo rfl 189 _ rfl (some 11) rfl (shCell 10).toArray kR ?_)|(refine bldTo rfl 189 _ rfl (some 12) rfl (shCell 11).toArray kR ?_)|(refine bldTo rfl 189 _ rfl (some 13) rfl (shCell 12).toArray kR ?_)|(refine bldTo rfl 189 _ rfl (some 14) rfl (shCell 13).toArray kR ?_)|(refine bldTo rfl 189 _ rfl (some 15) rfl (shCell 14).toArray kR ?_)|(refine bldTo rfl 189 _ rfl (some 16) rfl (shCell 15).toArray kR ?_)|(refine bldTo rfl 189 _ rfl (some 17) rfl (shCell 16).toArray kR ?_)|(refine bldTo rfl 189 _ rfl (some 18) rfl (shCell 17).toArray kR ?_)|(refine bldTo rfl 189 _ rfl (some 19) rfl (shCell 18).toArray kR ?_)|(refine bldTo rfl 189 _ rfl (some 20) rfl (shCell 19).toArray kR ?_)|(refine bldTo rfl 189 _ rfl (some 21) rfl (shCell 20).toArray kR ?_)|(refine bldTo rfl 189 _ rfl (some 22) rfl (shCell 21).toArray kR ?_)|(refine bldTo rfl 189 _ rfl (some 23) rfl (shCell 22).toArray kR ?_)|(refine bldTo rfl 189 _ rfl (some 24) rfl (shCell 23).toArray kR ?_)|(refine bldTo rfl 189 _ rfl (some 25) rfl (shCell 24).toArray kR ?_)|(refine bldTo rfl 189 _ rfl (some 26) rfl (shCell 25).toArray kR ?_)|(refine bldTo rfl 189 _ rfl (some 27) rfl (shCell 26).toArray kR ?_)|(refine bldTo rfl 189 _ rfl (some 28) rfl (shCell 27).toArray kR ?_)|(refine bldTo rfl 189 _ rfl (some 29) rfl (shCell 28).toArray kR ?_)|(refine bldTo rfl 189 _ rfl (some 30) rfl (shCell 29).toArray kR ?_)|(refine bldTo rfl 189 _ rfl (some 31) rfl (shCell 31).toArray kR ?_)|(refine bldTo rfl 190 _ rfl (some 32) rfl C (by rw[hC.out];kernel_rfl) ?_)|(simp only[Act.put,List.setIfInBounds_toArray,List.set_cons_zero,List.set_cons_succ];refine z0j rfl 190 (.tmp 0) (.tmp 32) rfl (w.heap.size) C rfl rfl 190 _ (show Blk _ (w.heap.size) Z 190 from kB) (by rw[sC];kernel_rfl) (by rw[sC,sZ]) (by rw[hC.out];kernel_rfl) ?_;intro w2 hp_w2 K_w2))
 have K7:=(by with_reducible assumption:Hid (Blk _ (w.heap.size) C 190))
 exact bodyPost_ret (results_cell_row Tryz.results95 _ _ (w.heap.size) 190 _ (0,0) _ rfl (Hid.out K7) Tryz.underlying190 rfl (by rw[sC];kernel_rfl)) rfl ⟨rfl,kL⟩
theorem pmark{F R:World->Prop}{W:World}(h:R W)(k:∀W',R W'->F W'):F W:=k W h
theorem and7(n:Int)(h:U16 n):bits .and .u16 n 7=n%8:=by
 have:=bits_mask .u16 16 kD (fun n h h'=>by rw[z0l];omega) 3 kO n h.1 (by unfold U16 at h;omega)
 simpa using this
theorem and31(n:Int)(h:U16 n):bits .and .u16 n 31=n%32:=by
 have:=bits_mask .u16 16 kD (fun n h h'=>by rw[z0l];omega) 5 kO n h.1 (by unfold U16 at h;omega)
 simpa using this
theorem z0aT(n:Int)(h0:0<=n)(h1:n<65536):bits .and .i64 n 15=n%16:=by
 have:=bits_mask .i64 63 kD (fun n h h'=>by rw[IntKind.wrap_i64];omega) 4 kO n h0 kO
 simpa using this
theorem gcut{G:Prop}{F:Nat->World->Prop}(R:Nat->World->Prop)(h:(∀g W,R g W->F g W)->G)(H:∀g W,R g W->F g W):G:=h H
theorem z9n(w:World)(k:Nat)(h:k<32):(Instr.index 190 (.agg shC) (.int .i64 (k:Int))).run Tryz.prog w= .ok (.agg (shCell k).toArray) w:=
 match k,h with
 |0,_=>by kernel_rfl
 |1,_=>by kernel_rfl
 |2,_=>by kernel_rfl
 |3,_=>by kernel_rfl
 |4,_=>by kernel_rfl
 |5,_=>by kernel_rfl
 |6,_=>by kernel_rfl
 |7,_=>by kernel_rfl
 |8,_=>by kernel_rfl
 |9,_=>by kernel_rfl
 |10,_=>by kernel_rfl
 |11,_=>by kernel_rfl
 |12,_=>by kernel_rfl
 |13,_=>by kernel_rfl
 |14,_=>by kernel_rfl
 |15,_=>by kernel_rfl
 |16,_=>by kernel_rfl
 |17,_=>by kernel_rfl
 |18,_=>by kernel_rfl
 |19,_=>by kernel_rfl
 |20,_=>by kernel_rfl
 |21,_=>by kernel_rfl
 |22,_=>by kernel_rfl
 |23,_=>by kernel_rfl
 |24,_=>by kernel_rfl
 |25,_=>by kernel_rfl
 |26,_=>by kernel_rfl
 |27,_=>by kernel_rfl
 |28,_=>by kernel_rfl
 |29,_=>by kernel_rfl
 |30,_=>by kernel_rfl
 |31,_=>by kernel_rfl
 |k+32,h=>absurd h kO
def hasD(k:Int):Bool:=shdL.getD k.toNat false
def hasS(k:Int):Bool:=shsL.getD k.toNat false
def hasN(k:Int):Bool:=shnL.getD k.toNat false
def hasW(k:Int):Bool:=shwL.getD k.toNat false
def cycO(k:Int):Int:=shcL.getD k.toNat 0
def namO(k:Int):ByteArray:=⟨(shmL.getD k.toNat []).toArray⟩
theorem z6s(k:Int)(h0:0<=k)(h1:k<32)(w:World):(Instr.index 190 (.agg shC) (.int .i64 k)).run Tryz.prog w= .ok (.agg #[.bool (hasD k),.bool (hasS k),.bool (hasN k),.bool (hasW k),.int .i64 (cycO k),.string (namO k)]) w:=by
 obtain⟨n,rfl⟩:∃n:Nat,k=(n:Int):=⟨k.toNat,by omega⟩
 rw[z9n w n kO]
 rfl
theorem pat(k:Int)(h0:0<=k)(h1:k<32)(h3:k≠30):
  (hasD k=false/\hasS k=false/\hasN k=false/\hasW k=false)\/(hasD k=true/\hasS k=true/\hasN k=false/\hasW k=false)\/
  (hasD k=true/\hasS k=false/\hasN k=false/\hasW k=true)\/(hasD k=false/\hasS k=false/\hasN k=false/\hasW k=true)\/
  (hasD k=false/\hasS k=true/\hasN k=false/\hasW k=false)\/(hasD k=true/\hasS k=false/\hasN k=false/\hasW k=false)\/
  (hasD k=true/\hasS k=true/\hasN k=true/\hasW k=false/\k≠12/\k≠13)\/(hasD k=true/\hasS k=false/\hasN k=true/\hasW k=false/\(k=12\/k=13\/k=15)):=by
 rcases(by omega:k=0\/k=1\/k=2\/k=3\/k=4\/k=5\/k=6\/k=7\/k=8\/k=9\/k=10\/k=11\/k=12\/k=13\/k=14\/k=15\/k=16\/k=17\/k=18\/k=19\/k=20\/k=21\/k=22\/k=23\/k=24\/k=25\/k=26\/k=27\/k=28\/k=29\/k=31)with rfl|rfl|rfl|rfl|rfl|rfl|rfl|rfl|rfl|rfl|rfl|rfl|rfl|rfl|rfl|rfl|rfl|rfl|rfl|rfl|rfl|rfl|rfl|rfl|rfl|rfl|rfl|rfl|rfl|rfl|rfl
 all_goals decide
theorem z2Z(w:World)(b o:Nat)(v v':Value):(w.setCell ⟨b,o,none⟩ v).setCell ⟨b,o,none⟩ v'=w.setCell ⟨b,o,none⟩ v':=by
 unfold World.setCell
 congr 1
 apply Array.ext
 ·simp
 ·intro i h1 h2
  simp only[Array.getElem_modify]
  split
  ·have hi:i<w.heap.size:=by simpa using h2
   cases hx:w.heap[i]<;>simp[hx]
  ·rfl
def RowOf(a b:Int)(q1 q2 q3 q4:Bool)(d s n x l:Int):Prop:=
 (q1=false/\q2=false/\q3=false/\q4=false/\d=0/\s=0/\n=0/\x=0/\l=1)\/
 (q1=true/\q2=true/\q3=false/\q4=false/\d=a/256%8/\s=a/32%8/\n=0/\x=0/\l=1)\/
 (q1=true/\q2=false/\q3=false/\q4=true/\d=a/256%8/\s=0/\n=0/\x=b/\l=2)\/
 (q1=false/\q2=false/\q3=false/\q4=true/\d=0/\s=0/\n=0/\x=b/\l=2)\/
 (q1=false/\q2=true/\q3=false/\q4=false/\d=0/\s=a/32%8/\n=0/\x=0/\l=1)\/
 (q1=true/\q2=false/\q3=false/\q4=false/\d=a/256%8/\s=0/\n=0/\x=0/\l=1)\/
 (q1=true/\q2=true/\q3=true/\q4=false/\d=a/256%8/\s=a/32%8/\n=a%32-32/\x=0/\l=1/\(a/2048==12)=false/\(a/2048==13)=false/\15<a%32)\/
 (q1=true/\q2=true/\q3=true/\q4=false/\d=a/256%8/\s=a/32%8/\n=a%32/\x=0/\l=1/\(a/2048==12)=false/\(a/2048==13)=false/\¬15<a%32)\/
 (q1=true/\q2=false/\q3=true/\q4=false/\d=a/256%8/\s=0/\n=a%32-32/\x=0/\l=1/\(a/2048==12)=false/\(a/2048==13)=false/\15<a%32)\/
 (q1=true/\q2=false/\q3=true/\q4=false/\d=a/256%8/\s=0/\n=a%32/\x=0/\l=1/\(a/2048==12)=false/\(a/2048==13)=false/\¬15<a%32)\/
 (q1=true/\q2=false/\q3=true/\q4=false/\d=a/256%8/\s=0/\n=a%32%16/\x=0/\l=1/\(a/2048==12)=true)\/
 (q1=true/\q2=false/\q3=true/\q4=false/\d=a/256%8/\s=0/\n=a%32%16/\x=0/\l=1/\(a/2048==12)=false/\(a/2048==13)=true)
theorem z0y(a b:Int)(ha:U16 a)(hb:U16 b)(w:World)(hop:¬(a/2048=30))(c:Int)(m:ByteArray)(q1 q2 q3 q4:Bool)(d s n x l:Int)(hq:RowOf a b q1 q2 q3 q4 d s n x l)
  (hidx:∀w,(Instr.index 190 (.agg shC) (.int .i64 (a/2048))).run Tryz.prog w= .ok (.agg #[.bool q1,.bool q2,.bool q3,.bool q4,.int .i64 c,.string m]) w):
  Calls Tryz.prog 100 #[.int .u16 a,.int .u16 b] w fun e w'=>e= .returned (.tuple #[.agg #[.int .i64 (a/2048),.int .i64 d,.int .i64 s,.int .i64 n,.int .i64 x],.int .i64 l])/\Below w.heap.size w w':=by
 have ha':=ha
 have hb':=hb
 unfold U16 at ha' hb'
 have w1:wrap64 (a/2048)=a/2048:=by unfold wrap64;omega
 have w2:wrap64 (a/256%8)=a/256%8:=by unfold wrap64;omega
 have w3:wrap64 (a/32%8)=a/32%8:=by unfold wrap64;omega
 have w4:wrap64 (a%32)=a%32:=by unfold wrap64;omega
 have w5:wrap64 (a%32-32)=a%32-32:=by unfold wrap64;omega
 have w8:wrap64 b=b:=by unfold wrap64;omega
 have m1:bits .and .u16 (a/256) 7=a/256%8:=and7 _ (by unfold U16;omega)
 have m2:bits .and .u16 (a/32) 7=a/32%8:=and7 _ (by unfold U16;omega)
 have m3:bits .and .u16 a 31=a%32:=and31 _ ha
 have m4:bits .and .i64 (a%32) 15=a%32%16:=z0aT _ kO kO
 have HQ:=zh hq
 clear ha hb hq
 have S:=zh z2J
 generalize shC=C at*
 have ss:=z2Z
 go_enter Tryz.func100,Tryz.ntmps100
 go_wp2_with fail
 apply gcut (fun g X=>w.heap.size+1+1<=g/\Below w.heap.size w X/\Hid (Blk X (w.heap.size) (#[.int .i64 0,.int .i64 0,.int .i64 0,.int .i64 0,.int .i64 0]) 148)/\Hid (Blk X (w.heap.size+1) (#[.int .i64 (a/2048),.int .i64 0,.int .i64 0,.int .i64 0,.int .i64 0]) 148)/\Hid (Blk X (g) (#[.bool q1,.bool q2,.bool q3,.bool q4,.int .i64 c,.string m]) 189))
 ·intro hk
  refine wp_region_held_drew (S:=fun X=>Below w.heap.size w X/\Blk X (w.heap.size) (#[.int .i64 0,.int .i64 0,.int .i64 0,.int .i64 0,.int .i64 0]) 148/\Blk X (w.heap.size+1) (#[.int .i64 (a/2048),.int .i64 0,.int .i64 0,.int .i64 0,.int .i64 0]) 148) kR ⟨kL,(show Blk _ (w.heap.size) (#[.int .i64 0,.int .i64 0,.int .i64 0,.int .i64 0,.int .i64 0]) (148)from kB),(show Blk _ (w.heap.size+1) (#[.int .i64 (a/2048),.int .i64 0,.int .i64 0,.int .i64 0,.int .i64 0]) (148)from kB)⟩ (fun hS=> ?_)
  refine tI 1 rfl (by intro w hSw;have c0:=hSw.2.1.cell;have c1:=hSw.2.2.cell;go_simp;try with_reducible rfl) hS ?_
  try simp only[yA,yB,yC,Act.put,yD,yE,yF]
  refine tI 2 rfl (by intro w hSw;have c0:=hSw.2.1.cell;have c1:=hSw.2.2.cell;go_simp;try with_reducible rfl) hS ?_
  try simp only[yA,yB,yC,Act.put,yD,yE,yF]
  refine wpAnyH_ready (rs:=[0,4]) kR kS ?_
  refine AllReadyH.cons rfl (fun K hK=> ?_) (AllReadyH.cons rfl (fun K hK=> ?_) AllReadyH.nil)
  ·go_simp
   refine(S.out _).mono ?_
   rintro e w5 ⟨rfl,hb_w5⟩
   try go_wp2_with fail
   refine hK.out _ _ ⟨below_then hS.1 hb_w5,hS.2.1.below hb_w5,hS.2.2.below hb_w5⟩ (fun hS=> ?_)
   clear hK K
   try simp only[yA,yB,yC,Act.put,yD,yE,yF]
   refine tI 3 rfl (by intro w hSw;have c0:=hSw.2.1.cell;have c1:=hSw.2.2.cell;go_simp;try with_reducible rfl) hS ?_
   try simp only[yA,yB,yC,Act.put,yD,yE,yF]
   refine rH 4 fun K hK=> ?_
   go_simp
   obtain⟨g7,e7⟩:∃g,g=w5.heap.size:=⟨_,rfl⟩
   have hg7:w.heap.size+1+1<=g7:=by have:=hS.2.2.lt;omega
   refine hK.out _ _ ⟨below_alloc hS.1 _,hS.2.1.alloc _,hS.2.2.alloc _⟩ (fun hS=> ?_)
   clear hK K
   have a7:Hid (Blk (w5.alloc (.cells #[.bool false,.bool false,.bool false,.bool false,.int .i64 0,.string ⟨#[]⟩] 189)) g7 #[.bool false,.bool false,.bool false,.bool false,.int .i64 0,.string ⟨#[]⟩] 189):=zh (Blk.new_at _ _ _ _ e7)
   rw[<-e7]
   clear e7
   try simp only[yA,yB,yC,Act.put,yD,yE,yF]
   refine rH 5 fun K hK=> ?_
   rw[if_pos (by rfl)]
   refine wp_store_row 189 (.tmp 7) (.tmp 19) rfl g7 #[.bool q1,.bool q2,.bool q3,.bool q4,.int .i64 c,.string m] rfl rfl 189 #[.bool false,.bool false,.bool false,.bool false,.int .i64 0,.string ⟨#[]⟩] a7.out kR rfl (by simp[Value.oneCell']) ?_
   have K7:=zh (setRow_heap _ g7 _ #[.bool q1,.bool q2,.bool q3,.bool q4,.int .i64 c,.string m] 189 (0,0) a7.out)
   refine hK.out _ _ ⟨below_put hS.1 (z0b _ g7 _) kO,hS.2.1.put (z0b _ g7 _) kO,hS.2.2.put (z0b _ g7 _) kO⟩ (fun hS=> ?_)
   clear hK K
   try simp only[yA,yB,yC,Act.put,yD,yE,yF]
   refine wpAnyH_done kR ?_ _
   refine pmark (R:=fun X=>Below w.heap.size w X/\Hid (Blk X (w.heap.size) (#[.int .i64 0,.int .i64 0,.int .i64 0,.int .i64 0,.int .i64 0]) 148)/\Hid (Blk X (w.heap.size+1) (#[.int .i64 (a/2048),.int .i64 0,.int .i64 0,.int .i64 0,.int .i64 0]) 148)/\Hid (Blk X g7 (#[.bool q1,.bool q2,.bool q3,.bool q4,.int .i64 c,.string m]) 189)) (F:=fun X=>Exit.then _ _ Exit.normal _ X) ⟨hS.1,zh hS.2.1,zh hS.2.2,K7⟩ ?_
   clear hS K7 a7
   try clear hb_w5
   try clear w5
   intro W hbW
   exact hk g7 W ⟨hg7,hbW⟩
  ·go_simp
   obtain⟨g7,e7⟩:∃g,g=w.heap.size+1+1:=⟨_,rfl⟩
   have hg7:w.heap.size+1+1<=g7:=by omega
   refine hK.out _ _ ⟨below_alloc hS.1 _,hS.2.1.alloc _,hS.2.2.alloc _⟩ (fun hS=> ?_)
   clear hK K
   refine pmark (R:=fun X=>(Below w.heap.size w X/\Blk X (w.heap.size) (#[.int .i64 0,.int .i64 0,.int .i64 0,.int .i64 0,.int .i64 0]) 148/\Blk X (w.heap.size+1) (#[.int .i64 (a/2048),.int .i64 0,.int .i64 0,.int .i64 0,.int .i64 0]) 148)/\Hid (Blk X (w.heap.size+1+1) #[.bool false,.bool false,.bool false,.bool false,.int .i64 0,.string ⟨#[]⟩] 189)) (F:=fun X=>wpAnyH _ _ _ _ _ _ _ _ X) ⟨hS,zh kB⟩ ?_
   clear hS
   intro W7 hS
   obtain⟨hS,a7⟩:=hS
   rw[<-e7]at a7⊢
   clear e7
   try simp only[yA,yB,yC,Act.put,yD,yE,yF]
   refine rH 0 fun K hK=> ?_
   go_simp
   refine(S.out _).mono ?_
   rintro e w5 ⟨rfl,hb_w5⟩
   try go_wp2_with fail
   refine hK.out _ _ ⟨below_then hS.1 hb_w5,hS.2.1.below hb_w5,hS.2.2.below hb_w5⟩ (fun hS=> ?_)
   replace a7:=zh (a7.out.below hb_w5)
   clear hK K
   try simp only[yA,yB,yC,Act.put,yD,yE,yF]
   refine tI 3 rfl (by intro w hSw;have c0:=hSw.2.1.cell;have c1:=hSw.2.2.cell;go_simp;try with_reducible rfl) hS ?_
   try simp only[yA,yB,yC,Act.put,yD,yE,yF]
   refine rH 5 fun K hK=> ?_
   rw[if_pos (by rfl)]
   refine wp_store_row 189 (.tmp 7) (.tmp 19) rfl g7 #[.bool q1,.bool q2,.bool q3,.bool q4,.int .i64 c,.string m] rfl rfl 189 #[.bool false,.bool false,.bool false,.bool false,.int .i64 0,.string ⟨#[]⟩] a7.out kR rfl (by simp[Value.oneCell']) ?_
   have K7:=zh (setRow_heap _ g7 _ #[.bool q1,.bool q2,.bool q3,.bool q4,.int .i64 c,.string m] 189 (0,0) a7.out)
   refine hK.out _ _ ⟨below_put hS.1 (z0b _ g7 _) kO,hS.2.1.put (z0b _ g7 _) kO,hS.2.2.put (z0b _ g7 _) kO⟩ (fun hS=> ?_)
   clear hK K
   try simp only[yA,yB,yC,Act.put,yD,yE,yF]
   refine wpAnyH_done kR ?_ _
   refine pmark (R:=fun X=>Below w.heap.size w X/\Hid (Blk X (w.heap.size) (#[.int .i64 0,.int .i64 0,.int .i64 0,.int .i64 0,.int .i64 0]) 148)/\Hid (Blk X (w.heap.size+1) (#[.int .i64 (a/2048),.int .i64 0,.int .i64 0,.int .i64 0,.int .i64 0]) 148)/\Hid (Blk X g7 (#[.bool q1,.bool q2,.bool q3,.bool q4,.int .i64 c,.string m]) 189)) (F:=fun X=>Exit.then _ _ Exit.normal _ X) ⟨hS.1,zh hS.2.1,zh hS.2.2,K7⟩ ?_
   clear hS K7 a7
   try clear hb_w5
   try clear w5
   intro W hbW
   exact hk g7 W ⟨hg7,hbW⟩
 intro g7 w6 ⟨hg7,hbw6,Kw6_0,Kw6_1,Kw6_2⟩
 obtain⟨lw6_0,cw6_0,fw6_0⟩:=Kw6_0.out.use
 obtain⟨lw6_1,cw6_1,fw6_1⟩:=Kw6_1.out.use
 obtain⟨lw6_2,cw6_2,fw6_2⟩:=Kw6_2.out.use
 clear hidx S
 have n1:¬w.heap.size=g7:=by omega
 have n2:¬w.heap.size+1=g7:=by omega
 have n3:¬g7=w.heap.size+1:=by omega
 clear w1 hop Kw6_0 Kw6_1 Kw6_2
 have HQ:=HQ.out
 unfold RowOf at HQ
 rcases HQ with⟨rfl,rfl,rfl,rfl,rfl,rfl,rfl,rfl,rfl⟩|⟨rfl,rfl,rfl,rfl,rfl,rfl,rfl,rfl,rfl⟩|⟨rfl,rfl,rfl,rfl,rfl,rfl,rfl,rfl,rfl⟩|⟨rfl,rfl,rfl,rfl,rfl,rfl,rfl,rfl,rfl⟩|⟨rfl,rfl,rfl,rfl,rfl,rfl,rfl,rfl,rfl⟩|⟨rfl,rfl,rfl,rfl,rfl,rfl,rfl,rfl,rfl⟩|⟨rfl,rfl,rfl,rfl,rfl,rfl,rfl,rfl,rfl,e1,e2,e3⟩|⟨rfl,rfl,rfl,rfl,rfl,rfl,rfl,rfl,rfl,e1,e2,e3⟩|⟨rfl,rfl,rfl,rfl,rfl,rfl,rfl,rfl,rfl,e1,e2,e3⟩|⟨rfl,rfl,rfl,rfl,rfl,rfl,rfl,rfl,rfl,e1,e2,e3⟩|⟨rfl,rfl,rfl,rfl,rfl,rfl,rfl,rfl,rfl,e1⟩|⟨rfl,rfl,rfl,rfl,rfl,rfl,rfl,rfl,rfl,e1,e2⟩
 all_goals
  go_wp2
  refine bodyPost_ret (by simp[results,Tryz.results100,go_sem,cw6_0,fw6_0,lw6_0]) rfl ⟨rfl,?_⟩
  exact kL
@[ext] structure Od where
 op:Int
 d:Int
 s:Int
 n:Int
 w:Int
def readO(a b:Int):Od:=⟨if a/2048=30 then 31 else a/2048,if hasD (a/2048)then a/256%8 else 0,if hasS (a/2048)then a/32%8 else 0,
 if hasN (a/2048)then(if a/2048=12\/a/2048=13 then a%32%16 else if 15<a%32 then a%32-32 else a%32)else 0,if hasW (a/2048)then b else 0⟩
def readL(a:Int):Int:=if hasW (a/2048)then 2 else 1
theorem z8Q(a b:Int)(ha:U16 a)(hb:U16 b)(w:World)(hop:a/2048=30):Calls Tryz.prog 100 #[.int .u16 a,.int .u16 b] w fun e w'=>e= .returned (.tuple #[.agg #[.int .i64 31,.int .i64 0,.int .i64 0,.int .i64 0,.int .i64 0],.int .i64 1])/\Below w.heap.size w w':=by
 go_enter Tryz.func100,Tryz.ntmps100
 go_wp2
 refine bodyPost_ret (v:= .tuple #[.agg #[.int .i64 31,.int .i64 0,.int .i64 0,.int .i64 0,.int .i64 0],.int .i64 1]) (by simp[results,Tryz.results100,go_sem]) rfl ⟨rfl,?_⟩
 exact kL
theorem z4A(a b:Int)(ha:U16 a)(hb:U16 b)(w:World):
  Calls Tryz.prog 100 #[.int .u16 a,.int .u16 b] w fun e w'=>e= .returned (.tuple #[.agg #[.int .i64 (readO a b).op,.int .i64 (readO a b).d,.int .i64 (readO a b).s,.int .i64 (readO a b).n,.int .i64 (readO a b).w],.int .i64 (readL a)])/\Below w.heap.size w w':=by
 have h0:0<=a/2048:=by unfold U16 at ha;omega
 have h1:a/2048<32:=by unfold U16 at ha;omega
 by_cases h30:a/2048=30
 ·have:=z8Q a b ha hb w h30
  unfold readO readL
  rw[h30]
  exact this
 ·have hi:=z6s (a/2048) h0 h1
  simp only[readO,readL,if_neg h30]
  rcases pat (a/2048) h0 h1 h30 with⟨e1,e2,e3,e4⟩|⟨e1,e2,e3,e4⟩|⟨e1,e2,e3,e4⟩|⟨e1,e2,e3,e4⟩|⟨e1,e2,e3,e4⟩|⟨e1,e2,e3,e4⟩|⟨e1,e2,e3,e4,e5,e6⟩|⟨e1,e2,e3,e4,e5⟩
  all_goals rw[e1,e2,e3,e4]at hi⊢
  ·exact z0y a b ha hb w h30 _ _ _ _ _ _ _ _ _ _ _ (.inl ⟨rfl,rfl,rfl,rfl,rfl,rfl,rfl,rfl,rfl⟩) hi
  ·exact z0y a b ha hb w h30 _ _ _ _ _ _ _ _ _ _ _ (.inr (.inl ⟨rfl,rfl,rfl,rfl,rfl,rfl,rfl,rfl,rfl⟩)) hi
  ·exact z0y a b ha hb w h30 _ _ _ _ _ _ _ _ _ _ _ (.inr (.inr (.inl ⟨rfl,rfl,rfl,rfl,rfl,rfl,rfl,rfl,rfl⟩))) hi
  ·exact z0y a b ha hb w h30 _ _ _ _ _ _ _ _ _ _ _ (.inr (.inr (.inr (.inl ⟨rfl,rfl,rfl,rfl,rfl,rfl,rfl,rfl,rfl⟩)))) hi
  ·exact z0y a b ha hb w h30 _ _ _ _ _ _ _ _ _ _ _ (.inr (.inr (.inr (.inr (.inl ⟨rfl,rfl,rfl,rfl,rfl,rfl,rfl,rfl,rfl⟩))))) hi
  ·exact z0y a b ha hb w h30 _ _ _ _ _ _ _ _ _ _ _ (.inr (.inr (.inr (.inr (.inr (.inl ⟨rfl,rfl,rfl,rfl,rfl,rfl,rfl,rfl,rfl⟩)))))) hi
  ·by_cases g:15<a%32
   ·have:=z0y a b ha hb w h30 _ _ _ _ _ _ _ _ _ _ _ (.inr (.inr (.inr (.inr (.inr (.inr (.inl ⟨rfl,rfl,rfl,rfl,rfl,rfl,rfl,rfl,rfl,beq_eq_false_iff_ne.2 e5,beq_eq_false_iff_ne.2 e6,g⟩))))))) hi
    simpa [e5,e6,g]using this
   ·have:=z0y a b ha hb w h30 _ _ _ _ _ _ _ _ _ _ _ (.inr (.inr (.inr (.inr (.inr (.inr (.inr (.inl ⟨rfl,rfl,rfl,rfl,rfl,rfl,rfl,rfl,rfl,beq_eq_false_iff_ne.2 e5,beq_eq_false_iff_ne.2 e6,g⟩)))))))) hi
    simpa [e5,e6,g]using this
  ·by_cases g12:a/2048=12
   ·have:=z0y a b ha hb w h30 _ _ _ _ _ _ _ _ _ _ _ (.inr (.inr (.inr (.inr (.inr (.inr (.inr (.inr (.inr (.inr (.inl ⟨rfl,rfl,rfl,rfl,rfl,rfl,rfl,rfl,rfl,beq_iff_eq.2 g12⟩))))))))))) hi
    simpa [g12]using this
   ·by_cases g13:a/2048=13
    ·have:=z0y a b ha hb w h30 _ _ _ _ _ _ _ _ _ _ _ (.inr (.inr (.inr (.inr (.inr (.inr (.inr (.inr (.inr (.inr (.inr ⟨rfl,rfl,rfl,rfl,rfl,rfl,rfl,rfl,rfl,beq_eq_false_iff_ne.2 g12,beq_iff_eq.2 g13⟩))))))))))) hi
     simpa [g13]using this
    ·by_cases g:15<a%32
     ·have:=z0y a b ha hb w h30 _ _ _ _ _ _ _ _ _ _ _ (.inr (.inr (.inr (.inr (.inr (.inr (.inr (.inr (.inl ⟨rfl,rfl,rfl,rfl,rfl,rfl,rfl,rfl,rfl,beq_eq_false_iff_ne.2 g12,beq_eq_false_iff_ne.2 g13,g⟩))))))))) hi
      simpa [g12,g13,g]using this
     ·have:=z0y a b ha hb w h30 _ _ _ _ _ _ _ _ _ _ _ (.inr (.inr (.inr (.inr (.inr (.inr (.inr (.inr (.inr (.inl ⟨rfl,rfl,rfl,rfl,rfl,rfl,rfl,rfl,rfl,beq_eq_false_iff_ne.2 g12,beq_eq_false_iff_ne.2 g13,g⟩)))))))))) hi
      simpa [g12,g13,g]using this
def wordsN(op:Int):Int:=if hasW op then 2 else 1
theorem z2S(op:Int)(h0:0<=op)(h1:op<32)(h30:op≠30)(w:World):
  Calls Tryz.prog 94 #[.int .i64 op] w fun e w'=>e= .returned (.tuple #[.int .i64 (cycO op),.int .i64 (wordsN op),.int .i64 0])/\Below w.heap.size w w':=by
 have SH:=zh z2J
 have IX:=z6s op h0 h1
 have t30:(op==30)=false:=beq_eq_false_iff_ne.2 h30
 unfold wordsN
 by_cases hw:hasW op=true
 ·rw[hw]at IX⊢
  generalize cycO op=cy at*
  generalize namO op=na at*
  generalize hasD op=q1 at*
  generalize hasS op=q2 at*
  generalize hasN op=q3 at*
  go_enter Tryz.func94,Tryz.ntmps94
  go_wp2_with fail
  refine(SH.out _).mono ?_
  rintro e w1 ⟨rfl,hb1⟩
  have hs1:=hb1.size
  go_wp2
  go_ret3
  exact⟨rfl,kL⟩
 ·have hw':hasW op=false:=by simpa using hw
  rw[hw']at IX⊢
  generalize cycO op=cy at*
  generalize namO op=na at*
  generalize hasD op=q1 at*
  generalize hasS op=q2 at*
  generalize hasN op=q3 at*
  go_enter Tryz.func94,Tryz.ntmps94
  go_wp2_with fail
  refine(SH.out _).mono ?_
  rintro e w1 ⟨rfl,hb1⟩
  have hs1:=hb1.size
  go_wp2
  go_ret3
  exact⟨rfl,kL⟩
end Go.Proofs.YtkoocfcnfolkhaaGreatDoor
namespace Go.Mq
open Go.RowKit
end Go.Mq
namespace Go.Proofs.YtkoocfcnfolkhaaGreatDoor
open Go.RowKit Go.Mq
theorem z9x{fg fp:FuncId}{ag cg ap cp:Array Value}{σ:Type}{b:Bus σ}{Rel:World->σ->Prop}{B:Nat}(hb:BusOk Tryz.prog fg fp ag cg ap cp b Rel B)(m:σ)(hm:4<=b.room m)(c:Cp)(hi:c.In)(rings:Bool)(w:World)(hr:Rel w m)(hB:B<=w.heap.size)(h:rings=true)(hmay:c.may=true):
  Calls Tryz.prog 65 #[.agg (cpuC c),.agg #[.func (.func fg) ag cg,.func (.func fp) ap cp],.bool rings] w fun e w'=>e= .returned (.tuple #[.agg (cpuC (lvC b m c 2)),.int .i64 6])/\Rel w' (lvS b m c 2)/\Kp B NoX w w':=by
 subst h
 have LV:=zh (fun w'=>z3M hb m hm c hi 2 (by unfold U16;omega) w.heap.size hB w')
 have HR:=zh (fun w' (h:St B w w')=>hb.stable w w' m hr h)
 have hm2:=hmay
 clear hr
 rw[show(.agg (cpuC c):Value)= .agg #[.int .u16 (c.r 0),.int .u16 (c.r 1),.int .u16 (c.r 2),.int .u16 (c.r 3),.int .u16 (c.r 4),.int .u16 (c.r 5),.int .u16 (c.r 6),.int .u16 (c.r 7),.int .u16 c.pc,.bool c.z,.bool c.n,.bool c.c,.bool c.v,.bool true,.bool c.wt]from by unfold cpuC;rw[hmay]]
 go_enter Tryz.func65,Tryz.ntmps65
 go_wp2_with (first|((with_reducible show wpList _ _ _ _ _ _);refine lW 123 4 rfl rfl (w.heap.size+1) rfl #[.func (.func fg) ag cg,.func (.func fp) ap cp] kB Tryz.underlying123 ?_))
 have hc0:∀W,Blk W w.heap.size #[.int .u16 (c.r 0),.int .u16 (c.r 1),.int .u16 (c.r 2),.int .u16 (c.r 3),.int .u16 (c.r 4),.int .u16 (c.r 5),.int .u16 (c.r 6),.int .u16 (c.r 7),.int .u16 c.pc,.bool c.z,.bool c.n,.bool c.c,.bool c.v,.bool true,.bool c.wt] 27->Blk W w.heap.size (cpuC c) 27:=fun W h=>by unfold cpuC;rw[hm2];exact h
 refine(LV.out _ (HR.out _ kT) (hc0 _ kB)).mono ?_
 rintro e w1 ⟨rfl,hc1,hr1,k1⟩
 have hs1:=k1.size
 have Kc1:=zh hc1
 have Kr1:=zh ((show Blk _ (w.heap.size+1+1) #[.int .u16 0,.int .u16 0,.int .u16 0,.int .u16 0,.int .u16 0,.int .u16 0,.int .u16 0,.int .u16 0,.int .u16 0,.bool false,.bool false,.bool false,.bool false,.bool false,.bool false] 27 from kB).kp k1 kO (by show ¬(_=_);omega))
 have k2:Kp B NoX w w1:=Kp.then kP k1 (fun i h1 h2=>absurd h2 (Nat.ne_of_lt h1))
 have one:=z1l (lvC b m c 2)
 go_wp2_with (first|((with_reducible show wpList _ _ _ _ _ _);first|(refine lW 27 3 rfl rfl (w.heap.size) rfl (cpuC (lvC b m c 2)) kB Tryz.underlying27 ?_)|(refine sW 27 6 21 rfl rfl (w.heap.size+1+1) (cpuC (lvC b m c 2)) rfl rfl #[.int .u16 0,.int .u16 0,.int .u16 0,.int .u16 0,.int .u16 0,.int .u16 0,.int .u16 0,.int .u16 0,.int .u16 0,.bool false,.bool false,.bool false,.bool false,.bool false,.bool false] kB ?_;intro w3 hp_w3 K_w3)))
 exact bodyPost_ret (z0k Tryz.results65 _ _ (w.heap.size+1+1) 27 (cpuC (lvC b m c 2)) _ rfl K_w3.out Tryz.underlying27 rfl kR) rfl ⟨rfl,hb.stable _ _ _ hr1 (St.put (St.refl B _) hp_w3 kO (Or.inr (Blk.nw (by first|assumption|exact Hid.out (by assumption)) kD))),k2.put hp_w3 (Or.inl kO)⟩
theorem z9w{fg fp:FuncId}{ag cg ap cp:Array Value}{σ:Type}{b:Bus σ}{Rel:World->σ->Prop}{B:Nat}(hb:BusOk Tryz.prog fg fp ag cg ap cp b Rel B)(m:σ)(hm:4<=b.room m)(c:Cp)(hi:c.In)(rings:Bool)(w:World)(hr:Rel w m)(hB:B<=w.heap.size)(h:(rings&&c.may)=false)(hwt:c.wt=true):
  Calls Tryz.prog 65 #[.agg (cpuC c),.agg #[.func (.func fg) ag cg,.func (.func fp) ap cp],.bool rings] w fun e w'=>e= .returned (.tuple #[.agg (cpuC c),.int .i64 1])/\Rel w' m/\Kp B NoX w w':=by
 have HR:=zh (fun w' (h:St B w w')=>hb.stable w w' m hr h)
 have hm2:=hwt
 have one:=z1l c
 have hc0:∀W,Blk W w.heap.size #[.int .u16 (c.r 0),.int .u16 (c.r 1),.int .u16 (c.r 2),.int .u16 (c.r 3),.int .u16 (c.r 4),.int .u16 (c.r 5),.int .u16 (c.r 6),.int .u16 (c.r 7),.int .u16 c.pc,.bool c.z,.bool c.n,.bool c.c,.bool c.v,.bool c.may,.bool true] 27->Blk W w.heap.size (cpuC c) 27:=fun W h=>by unfold cpuC;rw[hm2];exact h
 clear hr
 replace one:=zh one
 rw[show(#[.agg (cpuC c),.agg #[.func (.func fg) ag cg,.func (.func fp) ap cp],.bool rings]:Array Value)= #[.agg #[.int .u16 (c.r 0),.int .u16 (c.r 1),.int .u16 (c.r 2),.int .u16 (c.r 3),.int .u16 (c.r 4),.int .u16 (c.r 5),.int .u16 (c.r 6),.int .u16 (c.r 7),.int .u16 c.pc,.bool c.z,.bool c.n,.bool c.c,.bool c.v,.bool c.may,.bool true],.agg #[.func (.func fg) ag cg,.func (.func fp) ap cp],.bool rings]from by unfold cpuC;rw[hwt]]
 replace one:=one.out
 cases rings
 ·go_enter Tryz.func65,Tryz.ntmps65
  go_wp2_with (first|((with_reducible show wpList _ _ _ _ _ _);first|(refine z0P rfl 27 (.tmp 3) rfl w.heap.size rfl 27 (cpuC c) (hc0 _ kB) _ Tryz.underlying27 rfl kR ?_)|(refine sW 27 6 24 rfl rfl (w.heap.size+1+1) (cpuC c) rfl rfl #[.int .u16 0,.int .u16 0,.int .u16 0,.int .u16 0,.int .u16 0,.int .u16 0,.int .u16 0,.int .u16 0,.int .u16 0,.bool false,.bool false,.bool false,.bool false,.bool false,.bool false] kB ?_;intro w3 hp_w3 K_w3)))
  exact bodyPost_ret (z0k Tryz.results65 _ _ (w.heap.size+1+1) 27 (cpuC c) _ rfl K_w3.out Tryz.underlying27 rfl kR) rfl ⟨rfl,HR.out _ (St.put kT hp_w3 kO (Or.inl om7)),Kp.put kP hp_w3 (Or.inl kO)⟩
 ·have hmay:c.may=false:=by simpa using h
  rw[hmay]at hc0⊢
  go_enter Tryz.func65,Tryz.ntmps65
  go_wp2_with (first|((with_reducible show wpList _ _ _ _ _ _);first|(refine z0P rfl 27 (.tmp 3) rfl w.heap.size rfl 27 (cpuC c) (hc0 _ kB) _ Tryz.underlying27 rfl kR ?_)|(refine sW 27 6 24 rfl rfl (w.heap.size+1+1) (cpuC c) rfl rfl #[.int .u16 0,.int .u16 0,.int .u16 0,.int .u16 0,.int .u16 0,.int .u16 0,.int .u16 0,.int .u16 0,.int .u16 0,.bool false,.bool false,.bool false,.bool false,.bool false,.bool false] kB ?_;intro w4 hp_w4 K_w4)))
  exact bodyPost_ret (z0k Tryz.results65 _ _ (w.heap.size+1+1) 27 (cpuC c) _ rfl K_w4.out Tryz.underlying27 rfl kR) rfl ⟨rfl,HR.out _ (St.put kT hp_w4 kO (Or.inl om7)),Kp.put kP hp_w4 (Or.inl kO)⟩
end Go.Proofs.YtkoocfcnfolkhaaGreatDoor
