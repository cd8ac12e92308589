/- The program writes an order as words. Conditions: the parts are ints. -/
import Derived.Test.YtkoocfcnfolkhaaGreatDoorSq
import Derived.Test.YtkoocfcnfolkhaaGreatDoorSh
import Derived.Test.YtkoocfcnfolkhaaGreatDoorRows
import Derived.Test.YtkoocfcnfolkhaaGreatDoorP16
import Derived.Test.YtkoocfcnfolkhaaGreatDoorOrderChk
import Derived.Test.YtkoocfcnfolkhaaGreatDoorP30
import Derived.Test.YtkoocfcnfolkhaaGreatDoorBase
import Derived.Lib.LaidTab
import Derived.Lib.LaidU8
import Derived.Lib.ItoaNum
import Derived.Lib.Space
import Derived.Stop.LaidErr
import Derived.LaidHandle
set_option linter.unusedVariables false
set_option linter.unusedSimpArgs false
set_option maxHeartbeats 1000000
set_option maxRecDepth 100000
namespace Go.Proofs.YtkoocfcnfolkhaaGreatDoor
open Go.RowKit Go.Mq
theorem z4U(k:Nat)(a b:Int)(h0:0<=a)(h1:a<=65535)(h2:a%2^k=0)(hb:0<=b)(hb':b<2^k)(hk:(2:Int)^k<=65536):bits .or .u16 a b=a+b:=by
 rw[show a=((a.toNat:Nat):Int)from by omega,show b=((b.toNat:Nat):Int)from by omega,u16_or_nat _ _ kO kO,nat_join k _ _ ?_ ?_]
 ·omega
 ·have:((a.toNat%2^k:Nat):Int)=a%2^k:=by
   rw[Int.natCast_emod,Int.toNat_of_nonneg h0];simp
  omega
 ·have:((2^k:Nat):Int)=2^k:=by simp
  omega
theorem z3H{w:World}{g base:Nat}{c:Value}{e:TypeId}(h:Blk w g #[c] e)(hb:base<=g):w.ownsRow base e 1 (.slice (some ⟨g,0,none⟩) 1 1) 1 [c]:=
 ⟨rfl,Or.inr ⟨g,1,#[c],rfl,hb,h,Nat.le_refl _,by unfold maxLen;omega,rfl,rfl⟩⟩
theorem z6H(op D S N V k:Int)(w:World)(hk:¬k=0)
  (hC:∀w,Calls Tryz.prog 93 #[.agg #[.int .i64 op,.int .i64 D,.int .i64 S,.int .i64 N,.int .i64 V]] w fun e w'=>e= .returned (.int .i64 k)/\Below w.heap.size w w'):
  Calls Tryz.prog 60 #[.agg #[.int .i64 op,.int .i64 D,.int .i64 S,.int .i64 N,.int .i64 V]] w fun e w'=>e= .returned (.tuple #[.slice none 0 0,.int .i64 k])/\Below w.heap.size w w':=by
 have hk':(k==0)=false:=by simpa using hk
 have C:=zh hC
 clear hC
 go_enter Tryz.func60,Tryz.ntmps60
 go_wp2_with fail
 refine(C.out _).mono ?_
 rintro e w1 ⟨rfl,hb1⟩
 go_wp2
 refine bodyPost_ret (v:= .tuple #[.slice none 0 0,.int .i64 k]) (by simp[results,Tryz.results60,go_sem]) rfl ⟨rfl,?_⟩
 exact kL
theorem z0bp:(Tryz.prog.info? 24).map (fun i=>(i.zero,i.size,i.bytes))=some (some (.int .u16 0),1,2):=by kernel_rfl
theorem z5Z(op D S N V:Int)(w:World)(h0:0<=op)(h1:op<=31)(d0:0<=D)(d1:D<=7)(s0:0<=S)(s1:S<=7)(n0: -16<=N)(n1:N<=15)(w0:0<=V)(w1:V<=65535)
  (hC:∀w,Calls Tryz.prog 93 #[.agg #[.int .i64 op,.int .i64 D,.int .i64 S,.int .i64 N,.int .i64 V]] w fun e w'=>e= .returned (.int .i64 0)/\Below w.heap.size w w') 
  (d s n x:Bool)(c:Int)(m:ByteArray)
  (hidx:∀w,(Instr.index 190 (.agg shC) (.int .i64 op)).run Tryz.prog w= .ok (.agg #[.bool d,.bool s,.bool n,.bool x,.int .i64 c,.string m]) w):
  Calls Tryz.prog 60 #[.agg #[.int .i64 op,.int .i64 D,.int .i64 S,.int .i64 N,.int .i64 V]] w fun e w'=>∃v,e= .returned (.tuple #[v,.int .i64 0])/\w'.ownsRow w.heap.size 24 1 v (if x then 2 else 1) (if x then [.int .u16 (op*2048+D*256+S*32+N%32),.int .u16 V]else [.int .u16 (op*2048+D*256+S*32+N%32)])/\Below w.heap.size w w':=by
 have C:=zh hC
 clear hC
 have A:=zh z0N
 have u1:IntKind.u16.wrap op=op:=by rw[z0n];omega
 have u2:IntKind.u16.wrap (op*2048)=op*2048:=by rw[z0n];omega
 have u3:IntKind.u16.wrap D=D:=by rw[z0n];omega
 have u4:IntKind.u16.wrap (D*256)=D*256:=by rw[z0n];omega
 have u5:IntKind.u16.wrap S=S:=by rw[z0n];omega
 have u6:IntKind.u16.wrap (S*32)=S*32:=by rw[z0n];omega
 have u7:IntKind.u16.wrap N=N%65536:=by rw[z0n]
 have u8:IntKind.u16.wrap V=V:=by rw[z0n];omega
 have a1:bits .and .u16 (N%65536) 31=N%32:=by rw[and31 _ (by unfold U16;omega)];omega
 have o1:bits .or .u16 (op*2048) (D*256)=op*2048+D*256:=z4U 11 _ _ kO kO kO kO kO kD
 have o2:bits .or .u16 (op*2048+D*256) (S*32)=op*2048+D*256+S*32:=z4U 8 _ _ kO kO kO kO kO kD
 have o3:bits .or .u16 (op*2048+D*256+S*32) (N%32)=op*2048+D*256+S*32+N%32:=z4U 5 _ _ kO kO kO kO kO kD
 clear h0 h1 d0 d1 s0 s1 n0 n1 w0 w1
 have fd:∀w,(Instr.field 189 (.agg #[.bool d,.bool s,.bool n,.bool x,.int .i64 c,.string m]) 3).run Tryz.prog w= .ok (.bool x) w:=fun w=>by kernel_rfl
 generalize shC=G at*
 obtain⟨i0,hi,hz0,hz1,hz2⟩:=info_parts z0bp
 have HI:=zh (And.intro hi (And.intro hz0 (And.intro hz1 hz2)))
 clear hi hz0 hz1 hz2
 go_enter Tryz.func60,Tryz.ntmps60
 go_wp2_with fail
 refine(C.out _).mono ?_
 rintro e w1 ⟨rfl,hb1⟩
 have Kw1_0:Hid (Blk w1 (w.heap.size) #[.int .i64 op,.int .i64 D,.int .i64 S,.int .i64 N,.int .i64 V] 148):=zh kB
 obtain⟨lw1_0,cw1_0,fw1_0⟩:=Kw1_0.out.use
 go_wp2_with fail
 refine z0h (R:=fun W=>Below w.heap.size w W/\Hid (Blk W (w.heap.size) (#[.int .i64 op,.int .i64 D,.int .i64 S,.int .i64 N,.int .i64 V]) 148)/\Hid (Blk W (w1.heap.size) (#[.int .u16 (op*2048+D*256+S*32+N%32)]) 24)) ⟨kL,zh kB,zh kB⟩ ?_
 rintro w2 ⟨hbw2,Kw2_0,Kw2_1⟩
 clear Kw1_0 cw1_0 fw1_0
 obtain⟨lw2_0,cw2_0,fw2_0⟩:=Kw2_0.out.use
 obtain⟨lw2_1,cw2_1,fw2_1⟩:=Kw2_1.out.use
 refine wp_region_held_drew (S:=fun W=>Below w2.heap.size w2 W/\Blk W (w.heap.size) (#[.int .i64 op,.int .i64 D,.int .i64 S,.int .i64 N,.int .i64 V]) 148/\Blk W (w1.heap.size) (#[.int .u16 (op*2048+D*256+S*32+N%32)]) 24) kR ⟨(Below.refl _ _).drew,Blk.drew (show Blk w2 (w.heap.size) (#[.int .i64 op,.int .i64 D,.int .i64 S,.int .i64 N,.int .i64 V]) 148 from kB),Blk.drew (show Blk w2 (w1.heap.size) (#[.int .u16 (op*2048+D*256+S*32+N%32)]) 24 from kB)⟩ (fun hS=> ?_)
 refine tH 1 hS ?_
 try simp only[yA,yB,yC,Act.put,yD,yE,yF]
 refine tI 2 rfl (by intro w hSw;have c0:=(hSw.2.1).cell;have c1:=(hSw.2.2).cell;go_simp;try with_reducible rfl) hS ?_
 try simp only[yA,yB,yC,Act.put,yD,yE,yF]
 refine rH 0 fun K hK=> ?_
 go_simp
 refine(A.out _).mono ?_
 rintro e w3 ⟨rfl,hb_w3⟩
 try go_wp2_with fail
 refine hK.out _ _ ⟨below_then hS.1 hb_w3,hS.2.1.below hb_w3,hS.2.2.below hb_w3⟩ (fun hS=> ?_)
 clear hK K
 try simp only[yA,yB,yC,Act.put,yD,yE,yF]
 refine tH 3 hS ?_
 try simp only[yA,yB,yC,Act.put,yD,yE,yF]
 refine tH 4 hS ?_
 try simp only[yA,yB,yC,Act.put,yD,yE,yF]
 refine wpAnyH_done kR ?_ _
 have hbw3:Below w2.heap.size w2 w3:=hS.1
 have Bw3_0:=zh hS.2.1
 have Bw3_1:=zh hS.2.2
 clear hS
 have Kw3_0:Hid (Blk w3 (w.heap.size) #[.int .i64 op,.int .i64 D,.int .i64 S,.int .i64 N,.int .i64 V] 148):=zh kB
 have Kw3_1:Hid (Blk w3 (w1.heap.size) #[.int .u16 (op*2048+D*256+S*32+N%32)] 24):=zh kB
 clear Kw2_0 cw2_0 fw2_0 Kw2_1 cw2_1 fw2_1
 obtain⟨lw3_0,cw3_0,fw3_0⟩:=Kw3_0.out.use
 obtain⟨lw3_1,cw3_1,fw3_1⟩:=Kw3_1.out.use
 have hsz:w.heap.size+1<=w1.heap.size:=by have:=hb1.size;simpa using this
 have hs3:w1.heap.size<w3.heap.size:=Kw3_1.out.lt
 cases x
 ·go_wp2
  refine bodyPost_ret (v:= .tuple #[.slice (some ⟨w1.heap.size,0,none⟩) 1 1,.int .i64 0]) (by simp[results,Tryz.results60,go_sem]) rfl ⟨_,rfl,z3H Kw3_1.out kO,kL⟩
 ·go_wp2_with (first
   |(at_builtin;refine wpList_append_own _ rfl (.tmp 36) (.tmp 40) 152 rfl (w.heap.size) 24 i0 (.int .u16 0) 1 2 Tryz.underlying152 HI.out.1 HI.out.2.1 HI.out.2.2.1 HI.out.2.2.2 rfl kD _ _ _ rfl ((z3H Kw3_1.out kO).alloc _) ⟨w3.heap.size,0,none⟩ 1 1 [.int .u16 V] rfl rfl ?c1 ?c2 ?c3 ?c4 ?c5 ?_)
   |fail)
  case c1=>
   intro j u hj
   match j,hj with
   |0,hj=>simp at hj;subst hj;simp[Addr.add]
  case c2=>intro u hu;simp at hu;subst hu;rfl
  case c3=>unfold maxLen;omega
  case c4=>omega
  case c5=>simp;omega
  intro v' w5 hown hgrow _
  have hb5:Below w.heap.size w w5:=z0p (below_alloc kL _) (by simp;omega) hgrow ((z3H Kw3_1.out kO).alloc _) kO
  go_wp2
  refine bodyPost_ret (v:= .tuple #[v',.int .i64 0]) (by simp[results,Tryz.results60,go_sem]) rfl ⟨_,rfl,hown,hb5⟩
def lowO(op:Int):Int:=if op=12\/op=13 then 0 else-16
def partsO(o:Od):Bool:=partV (hasD o.op) o.d 0 7&&partV (hasS o.op) o.s 0 7&&partV (hasN o.op) o.n (lowO o.op) 15&&partV (hasW o.op) o.w 0 65535
def checkO(o:Od):Int:=if o.op<0\/31<o.op\/o.op=30 then 5 else if partsO o=true then 0 else 3
def wordO(o:Od):Int:=o.op*2048+o.d*256+o.s*32+o.n%32
def wordsO(o:Od):List Int:=if hasW o.op then [wordO o,o.w]else [wordO o]
theorem z0dk(op D S N V:Int)(h:op<0)(w:World):
  Calls Tryz.prog 93 #[.agg #[.int .i64 op,.int .i64 D,.int .i64 S,.int .i64 N,.int .i64 V]] w fun e w'=>e= .returned (.int .i64 5)/\Below w.heap.size w w':=by
 have h2:(decide (op<0)||decide (31<op)||op==30)=true:=by simp;omega
 go_enter Tryz.func93,Tryz.ntmps93
 go_wp2
 go_ret
 exact⟨rfl,kL⟩
theorem z0dl(op D S N V:Int)(h:31<op)(w:World):
  Calls Tryz.prog 93 #[.agg #[.int .i64 op,.int .i64 D,.int .i64 S,.int .i64 N,.int .i64 V]] w fun e w'=>e= .returned (.int .i64 5)/\Below w.heap.size w w':=by
 have h2:(decide (op<0)||decide (31<op)||op==30)=true:=by simp;omega
 go_enter Tryz.func93,Tryz.ntmps93
 go_wp2
 go_ret
 exact⟨rfl,kL⟩
theorem z0dj(op D S N V:Int)(h:op=30)(w:World):
  Calls Tryz.prog 93 #[.agg #[.int .i64 op,.int .i64 D,.int .i64 S,.int .i64 N,.int .i64 V]] w fun e w'=>e= .returned (.int .i64 5)/\Below w.heap.size w w':=by
 have h2:(decide (op<0)||decide (31<op)||op==30)=true:=by simp;omega
 go_enter Tryz.func93,Tryz.ntmps93
 go_wp2
 go_ret
 exact⟨rfl,kL⟩
theorem z2b(op D S N V:Int)(w:World):
  Calls Tryz.prog 93 #[.agg #[.int .i64 op,.int .i64 D,.int .i64 S,.int .i64 N,.int .i64 V]] w fun e w'=>e= .returned (.int .i64 (checkO ⟨op,D,S,N,V⟩))/\Below w.heap.size w w':=by
 unfold checkO partsO lowO
 by_cases h:op<0\/31<op\/op=30
 ·rw[if_pos h]
  rcases h with h|h|h
  ·exact z0dk op D S N V h w
  ·exact z0dl op D S N V h w
  ·exact z0dj op D S N V h w
 ·rw[if_neg h]
  have hi:=z2e op kO kO
  by_cases h12:op=12
  ·rw[if_pos (Or.inl h12)]
   exact chk_x op D S N V w kO kO kO (by simpa using h12) _ _ _ _ _ _ hi
  ·by_cases h13:op=13
   ·rw[if_pos (Or.inr h13)]
    exact chk_y op D S N V w kO kO kO (by simpa using h12) (by simpa using h13) _ _ _ _ _ _ hi
   ·rw[if_neg (show ¬(op=12\/op=13)from fun g=>g.elim h12 h13)]
    exact chk_z op D S N V w kO kO kO (by simpa using h12) (by simpa using h13) _ _ _ _ _ _ hi
theorem z5s(o:Od)(h:checkO o=0):(0<=o.op/\o.op<=31/\o.op≠30)/\(0<=o.d/\o.d<=7)/\(0<=o.s/\o.s<=7)/\(-16<=o.n/\o.n<=15)/\(0<=o.w/\o.w<=65535)/\partsO o=true:=by
 unfold checkO at h
 by_cases g:o.op<0\/31<o.op\/o.op=30
 ·rw[if_pos g]at h;omega
 ·rw[if_neg g]at h
  by_cases p:partsO o=true
  ·refine⟨by omega,?_⟩
   have p':=p
   unfold partsO partV lowO at p'
   simp only[Bool.and_eq_true]at p'
   obtain⟨⟨⟨p1,p2⟩,p3⟩,p4⟩:=p'
   refine⟨?_,?_,?_,?_,p⟩
   ·cases hh:hasD o.op<;>rw[hh]at p1<;>simp at p1<;>omega
   ·cases hh:hasS o.op<;>rw[hh]at p2<;>simp at p2<;>omega
   ·cases hh:hasN o.op<;>rw[hh]at p3<;>simp at p3
    ·omega
    ·split at p3<;>omega
   ·cases hh:hasW o.op<;>rw[hh]at p4<;>simp at p4<;>omega
  ·rw[if_neg p]at h;omega
theorem z8s(o:Od)(h:checkO o≠0)(w:World):
  Calls Tryz.prog 60 #[.agg #[.int .i64 o.op,.int .i64 o.d,.int .i64 o.s,.int .i64 o.n,.int .i64 o.w]] w fun e w'=>e= .returned (.tuple #[.slice none 0 0,.int .i64 (checkO o)])/\Below w.heap.size w w':=
 z6H o.op o.d o.s o.n o.w (checkO o) w h (z2b o.op o.d o.s o.n o.w)
theorem z6I(o:Od)(h:checkO o=0)(w:World):
  Calls Tryz.prog 60 #[.agg #[.int .i64 o.op,.int .i64 o.d,.int .i64 o.s,.int .i64 o.n,.int .i64 o.w]] w fun e w'=>∃v,e= .returned (.tuple #[v,.int .i64 0])/\w'.ownsRow w.heap.size 24 1 v (wordsO o).length ((wordsO o).map (Value.int .u16))/\Below w.heap.size w w':=by
 obtain⟨⟨h0,h1,h2⟩,⟨d0,d1⟩,⟨s0,s1⟩,⟨n0,n1⟩,⟨w0,w1⟩,_⟩:=z5s o h
 have hc:∀w,Calls Tryz.prog 93 #[.agg #[.int .i64 o.op,.int .i64 o.d,.int .i64 o.s,.int .i64 o.n,.int .i64 o.w]] w fun e w'=>e= .returned (.int .i64 0)/\Below w.heap.size w w':=by
  intro w
  have:=z2b o.op o.d o.s o.n o.w w
  rw[show checkO ⟨o.op,o.d,o.s,o.n,o.w⟩=0 from h]at this
  exact this
 have:=z5Z o.op o.d o.s o.n o.w w h0 h1 d0 d1 s0 s1 n0 n1 w0 w1 hc _ _ _ _ _ _ (z2e o.op h0 kO)
 unfold wordsO wordO
 cases hh:hasW o.op<;>rw[hh]at this<;>simpa using this
end Go.Proofs.YtkoocfcnfolkhaaGreatDoor
namespace Go.Mq
open Go
def nmB(i:Nat)(c:UInt8):Bool:=(decide (97<=c.toNat)&&decide (c.toNat<=122))||c.toNat==95||(decide (0<i)&&decide (48<=c.toNat)&&decide (c.toNat<=57))
def nmsB:Nat->List UInt8->Bool
 |_,[]=>true
 |i,c::r=>nmB i c&&nmsB (i+1) r
def regF:List UInt8->Option Int
 |[r,d]=>if r.toNat=114/\48<=d.toNat/\d.toNat<=55 then some ((d.toNat:Int)-48)else none
 |_=>none
def isNm(s:List UInt8):Bool:=decide (1<=s.length)&&decide (s.length<=12)&&nmsB 0 s&&(regF s).isNone
end Go.Mq
namespace Go.Proofs.YtkoocfcnfolkhaaGreatDoor
open Go Go.Mq
def opGo(s:List UInt8):List Nat->Option Nat
 |[]=>none
 |k::r=>if k≠30/\(namO k).data.toList=s then some k else opGo s r
def opF(s:List UInt8):Option Nat:=opGo s (List.range 32)
def prtL(k:Nat):List UInt8:=(if hasD k then [100]else [])++(if hasS k then [115]else [])++(if hasN k then [110]else [])++(if hasW k then [119]else [])
structure It where
 ln:Int
 o:Od
 raw:Bool
 nm:List UInt8
structure Bd where
 its:List It
 nms:List (List UInt8×Int)
 sz:Int
def findN(l:List (List UInt8×Int))(k:List UInt8):Option Int:=(l.find? fun e=>e.1==k).map (·.2)
def putI(b:Bd)(it:It)(words:Int):Int×Bd:=if 1024<b.sz+2*words then(2,b)else(0,⟨b.its++[it],b.nms,b.sz+2*words⟩)
structure Fl where
 o:Od
 nm:List UInt8
def fill1(q:Fl)(c:UInt8)(a:List UInt8):Option Fl:=
 if c=100 then(regF a).map fun n=>{q with o:={q.o with d:=n}}
 else if c=115 then(regF a).map fun n=>{q with o:={q.o with s:=n}}
 else if c=110 then(wholeZ a).map fun n=>{q with o:={q.o with n:=n}}
 else if isNm a then some {q with nm:=a}
 else(wholeZ a).map fun n=>{q with o:={q.o with w:=n}}
def fillA:Fl->List UInt8->List (List UInt8)->Option Fl
 |q,c::cs,a::r=>match fill1 q c a with
  |none=>none
  |some q'=>fillA q' cs r
 |q,_,_=>some q
def argsF(rest:List UInt8):List (List UInt8):=if rest=[]then []else Lib.splitK [44,32] 0 (Lib.count rest [44,32]) rest
def wordF(b:Bd)(i:Int)(args:List (List UInt8)):Int×Bd:=match args with
 |[a]=>if isNm a then putI b ⟨i,⟨0,0,0,0,0⟩,true,a⟩ 1 else match wholeZ a with
  |none=>(1,b)
  |some n=>if n<0\/65535<n then(3,b)else putI b ⟨i,⟨0,0,0,0,n⟩,true,[]⟩ 1
 |_=>(4,b)
def orderF(b:Bd)(i:Int)(k:Nat)(args:List (List UInt8)):Int×Bd:=
 if args.length≠(prtL k).length then(4,b)else match fillA ⟨⟨k,0,0,0,0⟩,[]⟩ (prtL k) args with
  |none=>(1,b)
  |some q=>if checkO q.o≠0 then(checkO q.o,b)else putI b ⟨i,q.o,false,q.nm⟩ (if hasW k then 2 else 1)
def ordF(b:Bd)(i:Int)(word:List UInt8)(args:List (List UInt8)):Int×Bd:=
 if word=[46,119,111,114,100]then wordF b i args
 else match opF word with
  |none=>(5,b)
  |some k=>orderF b i k args
def lineF(b:Bd)(i:Int)(s:List UInt8):Int×Bd:=
 if s.getLast? =some 58 then
  if isNm s.dropLast=false then(1,b)else if(findN b.nms s.dropLast).isSome then(6,b)else(0,{b with nms:=b.nms++[(s.dropLast,b.sz)]})
 else ordF b i (Lib.cut s [32]).1 (argsF (Lib.cut s [32]).2.1)
def linesGo:Nat->List (List UInt8)->Bd->Sum (Int×Int) Bd
 |_,[],b=> .inr b
 |i,[t],b=>if t=[]then .inr b else .inl (i,1)
 |i,t::u::r,b=>if(lineF b i t).1≠0 then .inl (i,(lineF b i t).1)else linesGo (i+1) (u::r) (lineF b i t).2
def itemW(names:List (List UInt8×Int))(it:It):Option Int:=if it.nm=[]then some it.o.w else findN names it.nm
def itemX(it:It)(w:Int):List Int:=if it.raw then [w%65536]else if checkO {it.o with w:=w}=0 then wordsO {it.o with w:=w}else []
def wB(l:List Int):List Int:=l.flatMap fun x=>[x/256,x%256]
def romGo(names:List (List UInt8×Int)):List It->List Int->Sum (Int×Int) (List Int)
 |[],rom=> .inr rom
 |it::r,rom=>match itemW names it with
  |none=> .inl (it.ln,5)
  |some w=>romGo names r (rom++wB (itemX it w))
def buildF(s:List UInt8):List Int×Int×Int:=
 if 4000<s.length then([],0,2)else if s=[]then([],0,0)else if 301<(sepBy 10 s).length then([],0,2)
 else match linesGo 0 (sepBy 10 s) ⟨[],[],0⟩with
  | .inl x=>([],x.1,x.2)
  | .inr b=>match romGo b.nms b.its []with
   | .inl x=>([],x.1,x.2)
   | .inr rom=>(rom,0,0)
end Go.Proofs.YtkoocfcnfolkhaaGreatDoor
namespace Go.Mq
open Go.RowKit
theorem z2D{P:Program}{w w':World}{n:String}{cs:Array Value}(h:w.var? P n=some cs)(hb:Below w.heap.size w w'):w'.var? P n=some cs:=by
 unfold World.var? at h⊢
 cases hg:P.globalNamed n with
 |none=>simp[hg]at h
 |some g=>
  simp only[hg,Option.bind_some]at h⊢
  have hlt:g<w.heap.size:=by
   rcases Nat.lt_or_ge g w.heap.size with h'|h'
   ·exact h'
   ·simp[Array.getElem?_eq_none h']at h
  rw[hb.block g hlt]
  exact h
structure Lw(P:Program)(gm:Nat)(w:World):Prop where
 pow:Lib.TabIs P w "internal/strconv.uint64pow10" .u64 Lib.pow10Tab
 syn:∃tp p,w.var? P "strconv.ErrSyntax" =some #[.iface tp p]
 rng:∃tp p,w.var? P "strconv.ErrRange" =some #[.iface tp p]
 mx:∃m,w.cell? ⟨gm,0,none⟩=some (.int .i64 m)
theorem Lw.below{P:Program}{gm:Nat}{w w':World}(h:Lw P gm w)(hb:Below w.heap.size w w'):Lw P gm w':=by
 obtain⟨h1,⟨t2,p2,h2⟩,⟨t3,p3,h3⟩,⟨m,h4⟩⟩:=h
 exact⟨z2D h1 hb,⟨t2,p2,z2D h2 hb⟩,⟨t3,p3,z2D h3 hb⟩,m,(hb.cell (World.block_lt_of_cell? _ _ h4)).trans h4⟩
end Go.Mq
