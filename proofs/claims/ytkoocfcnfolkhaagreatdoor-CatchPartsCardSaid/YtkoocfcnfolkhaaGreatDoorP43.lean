/- The closed fact of the laws of the run from event to event. Conditions: the library's variables hold what they were laid with. -/
import Derived.Test.YtkoocfcnfolkhaaGreatDoorSq
import Derived.Test.YtkoocfcnfolkhaaGreatDoorSh
import Derived.Test.YtkoocfcnfolkhaaGreatDoorLockFact
import Derived.Test.YtkoocfcnfolkhaaGreatDoorCatRn
import Derived.Test.YtkoocfcnfolkhaaGreatDoorP23
import Derived.Test.YtkoocfcnfolkhaaGreatDoorP24
import Derived.ChangeKeysEq
import Derived.Laws.StructEq
import Derived.Test.YtkoocfcnfolkhaaGreatDoorRows
import Derived.Test.YtkoocfcnfolkhaaGreatDoorBase
import Derived.Laws.BytesArg
import Derived.Lib.Bytes
import Derived.LoopTactic
import Derived.Deep.CutRange
set_option linter.unusedVariables false
set_option linter.unusedSimpArgs false
set_option maxHeartbeats 4000000
set_option maxRecDepth 100000
namespace Go.Proofs.YtkoocfcnfolkhaaGreatDoor
open Go.RowKit Go.Mq
theorem z6U{w w2 w3:World}{o:Obj}{g:Nat}{k:IntKind}{v:Value}{xs:List Int}(h:SliceAt w k v xs)(p:Put g (w.alloc o) w2)(q:Put w.heap.size w2 w3)(hne:∀b,v.ownBlock=some b->b≠g):SliceAt w3 k v xs:=by
 obtain⟨a,cap,rfl,h1,h2,h3,h4⟩:=h
 refine⟨a,cap,rfl,h1,h2,h3,fun h0=> ?_⟩
 obtain⟨b,off,rfl,hl,hc⟩:=h4 h0
 have z2:(w.alloc o).heap.size=w.heap.size+1:=by simp
 refine⟨b,off,rfl,by rw[q.size,p.size,z2];omega,fun i hi=> ?_⟩
 have e:w3.heap[b]? =w.heap[b]? :=(q.other b kO).trans ((p.other b (hne b rfl)).trans (((Below.refl w.heap.size w).alloc (Nat.le_refl _) o).block b hl))
 have:=hc i hi
 unfold World.cell? at this⊢
 rw[e]
 exact this
def plF:Cn:=lkN (cn0 lkF.x.m []) 64
theorem z0ct:plF.ls.length=1:=by decide+kernel
theorem z0cu:plF.x.m.ck=128:=by decide+kernel
theorem z0cO:lkF.x.m.bm.fr=0:=by decide+kernel
theorem z1n(w:World)(hL:Lk w):Calls Tryz.prog 9 #[] w fun e w'=>e= .returned (.bool true)/\Below w.heap.size w w':=by
 have HL:=zh hL
 have BA:=zh (z8i [46,119,111,114,100,32,54,10,46,119,111,114,100,32,48,10,46,119,111,114,100,32,48,10,108,100,105,32,114,49,44,32,51,50,55,54,56,10,115,116,98,32,114,49,44,32,114,49,44,32,49,10,104,108,116,10] kD)
 have ZE:=z0F
 have by1:Bytes8 lkR:=by unfold Bytes8 lkR;decide
 have by2:Bytes8 []:=fun x h=>(List.not_mem_nil h).elim
 have BY:=zh (And.intro by1 by2)
 clear hL by1 by2
 go_enter Tryz.func9,Tryz.ntmps9
 go_wp2_with fail
 refine(BA.out _ HL.out).mono ?_
 rintro e w1 ⟨v,rfl,hs,hb1⟩
 rw[bld_l]at hs⊢
 have HS:=zh hs
 have B1:=hb1
 clear hs hb1 BA HL
 go_wp2_with fail
 refine(z0cz v (.slice none 0 0) lkR [] _ BY.out.1 BY.out.2 HS.out (z2S _) kD kD).mono ?_
 rintro e w2 ⟨U0,rfl,T0⟩
 have e0:newMach lkR []=lkM:=rfl
 rw[e0]at T0⊢
 have hb2:=T0.below
 have z2:w.heap.size<=w2.heap.size:=(below_then B1 hb2).size
 have s2:=hb2.size
 have B2:Below w.heap.size w w2:=below_then B1 hb2
 have TT0:=zh T0
 have ON0:=z5i T0
 clear hb2 T0 B1 HS
 go_wp2_with (first|((with_reducible show wpList _ _ _ _ _ _);first|(refine sW 42 4 19 rfl rfl (w2.heap.size) (machC U0 lkM) rfl rfl Tryz.zeroCells42 kB ?_;intro w3 hp_w3 K_w3)|(refine lW 42 4 rfl rfl (w2.heap.size) rfl (machC U0 lkM) kB Tryz.underlying42 ?_)))
 have b23:Below w2.heap.size w2 w3:=kL
 have sz3:w2.heap.size+1<=w3.heap.size:=by have:=hp_w3.size;simp at this;omega
 have B3:Below w.heap.size w w3:=B2.trans (b23.mono B2.size)
 have KK3:=zh K_w3.out
 have RN:=zh (z7v U0 lkM (.slice none 0 0) [] 64 w3 (TT0.out.mv.below b23) TT0.out.inn (z5r TT0.out.fit lkM_lit) (z5F w3) rfl kD (by rw[lkM_lit.2.2.2.2.1];decide))
 rw[show lkN (cn0 lkM []) 64=lkF from rfl]at RN
 clear K_w3 hp_w3 b23 B2
 refine RN.out.mono ?_
 rintro e w4 ⟨U1,lv,sv,wv,rfl,T1⟩
 have hb4:=T1.told.below
 have s4:=hb4.size
 have ON1:=z1K T1
 have OS1:=z1b T1
 have KK4:=zh (KK3.out.below hb4)
 have B4:Below w.heap.size w w4:=below_then B3 hb4
 have z4:=B4.size
 obtain⟨a1,c1,e1⟩:=z0c T1.lns
 obtain⟨a2,c2,e2⟩:=z0c T1.sms
 rw[z0cM]at e1
 rw[z0cL]at e2
 subst e1 e2
 have RT1:lkF.x.m.Right:=by
  have R0:=z5r TT0.out.fit lkM_lit
  have z:=lkM_lit
  have A:=z2C TT0.out.inn R0 (show chkFrom lkM.ck []=0 from rfl) (fun i hi=>by cases hi)
  exact z3n (A.run 64 R0.time.1.1 (by rw[z.2.2.2.2.1];decide)) ((z3W (ins:=[]) R0.bm.1).run A 64 R0.bm.1 R0.time.1.1 (by rw[z.2.2.2.2.1];decide) R0.bm.2.1 (by rw[z.2.2.2.1];decide) kD) R0.bm.1 R0.bm.2.1 (by rw[z.2.2.2.1];decide) kD R0.time.1.1 (by rw[z.2.2.2.2.1];decide)
 have CN:=zh (fun W k=>z1I U1 lkF.x.m (.slice none 0 0) [] 64 W k T1.told.inn RT1 (z5F W) rfl kD (by rw[z0ai];decide) (by rw[z0cO];decide))
 rw[show lkN (cn0 lkF.x.m []) 64=plF from rfl]at CN
 have TT1:=zh T1
 clear hb4 T1 RN KK3 TT0 B3 RT1
 go_upto_region 4 with(first|((with_reducible show wpList _ _ _ _ _ _);first|(refine sW 42 4 24 rfl rfl (w2.heap.size) (machC U1 lkF.x.m) rfl rfl (machC U0 lkM) kB ?_;intro w5 hp_w5 K_w5)|(refine sW 46 6 25 rfl rfl (w4.heap.size) (#[.slice a1 1 c1,.slice a2 4 c2,wv]) rfl rfl (#[.slice none 0 0,.slice none 0 0,.slice none 0 0]) kB ?_;intro w6 hp_w6 K_w6)))
 have KM:=zh (K_w5.out.put hp_w6 (Nat.ne_of_lt kO))
 have KS:=zh K_w6.out
 have b46:Below w4.heap.size w4 (w4.alloc (.cells #[.slice none 0 0,.slice none 0 0,.slice none 0 0] 46)):=(Below.refl _ _).alloc (Nat.le_refl _) _
 have BB:Below w.heap.size w w6:=kL
 have MV6:MV w6 U1 lkF.x.m:=fun i hi=>z6U (TT1.out.told.mv i hi) hp_w5 hp_w6 (fun b hb=>by have:=TT1.out.told.new i b hi hb;omega)
 have CX:=zh (CN.out w6 MV6)
 have n6:w4.heap.size<w6.heap.size:=K_w6.out.lt
 clear K_w5 K_w6 hp_w5 hp_w6 KK4 b46 MV6 CN TT1
 go_wp2_with (first|((with_reducible show wpList _ _ _ _ _ _);refine lW 42 4 rfl rfl (w2.heap.size) rfl (machC U1 lkF.x.m) kB Tryz.underlying42 ?_))
 refine CX.out.mono ?_
 rintro e w7 ⟨U2,lv3,sv3,wv3,rfl,T2⟩
 have hb7:=T2.told.below
 have B7:=below_then BB hb7
 have s7:=hb7.size
 have ON2:=z1K T2
 have OS2:=z1b T2
 have KM7:=zh (KM.out.below hb7)
 have KS7:=zh (KS.out.below hb7)
 have l4:=KM7.out.lt
 have l6:=KS7.out.lt
 obtain⟨a3,c3,e3⟩:=z0c T2.lns
 rw[z0ct]at e3
 subst e3
 clear hb7 T2 CX KM KS BB
 go_upto_region 5 with(first|((with_reducible show wpList _ _ _ _ _ _);first|(refine sW 42 8 30 rfl rfl (w7.heap.size) (machC U2 plF.x.m) rfl rfl Tryz.zeroCells42 kB ?_;intro w8 hp_w8 K_w8)|(refine sW 46 9 31 rfl rfl (w7.heap.size+1) (#[.slice a3 1 c3,sv3,wv3]) rfl rfl (#[.slice none 0 0,.slice none 0 0,.slice none 0 0]) kB ?_;intro w9 hp_w9 K_w9)))
 have b79:Below w7.heap.size w7 w9:=kL
 have KM9:=zh (KM7.out.below b79)
 have KS9:=zh (KS7.out.below b79)
 have KN9:=zh (K_w8.out.put hp_w9 (Nat.ne_of_lt (Nat.lt_succ_self _)))
 have c14:w9.cell? ⟨w2.heap.size,14,none⟩=some (.bool true):=(KM9.out.cell 14).trans ((mx14 ..).trans (by rw[z0cK]))
 have c72:w9.cell? ⟨w2.heap.size,72,none⟩=some (.int .i64 64):=(KM9.out.cell 72).trans ((mx72 ..).trans (by rw[z0ai]))
 have c61:w9.cell? ⟨w2.heap.size,61,none⟩=some (.int .i64 1):=(KM9.out.cell 61).trans ((mx61 ..).trans (by rw[z0cN]))
 have d0:w9.cell? ⟨w4.heap.size,0,none⟩=some (.slice a1 1 c1):=KS9.out.cell 0
 have d1:w9.cell? ⟨w4.heap.size,1,none⟩=some (.slice a2 4 c2):=KS9.out.cell 1
 have n72:w9.cell? ⟨w7.heap.size,72,none⟩=some (.int .i64 128):=(KN9.out.cell 72).trans ((mx72 ..).trans (by rw[z0cu]))
 have t0:w9.cell? ⟨w7.heap.size+1,0,none⟩=some (.slice a3 1 c3):=K_w9.out.cell 0
 have BZ:Below w.heap.size w w9:=below_then B7 b79
 clear K_w8 K_w9 hp_w8 hp_w9 KM7 KS7 KM9 KS9 KN9 b79 B7
 try simp only[List.append_eq,List.cons_append,List.nil_append]at*
 go_wp2_with (first|((with_reducible show wpList _ _ _ _ _ _);refine lW 42 4 rfl rfl (w2.heap.size) rfl (machC U1 lkF.x.m) kB Tryz.underlying42 ?_)|go_in)
 go_ret
 exact⟨rfl,kL⟩
end Go.Proofs.YtkoocfcnfolkhaaGreatDoor
namespace Go.Mq
open Go.RowKit
def RowAt(w:World)(sz:Nat)(v:Value)(n:Nat)(cs:List Value):Prop:=
 ∃a cap,v= .slice a n cap/\n<=cap/\cap<=maxLen/\cs.length=n*sz/\(∀u∈cs,u.oneCell'=true)/\
  (0<n->∃b,a=some ⟨b,0,none⟩/\b<w.heap.size/\∀j u,cs[j]? =some u->w.cell? ⟨b,j,none⟩=some u)
theorem RowAt.below{w w':World}{sz n:Nat}{v:Value}{cs:List Value}(h:RowAt w sz v n cs)(hb:Below w.heap.size w w'):RowAt w' sz v n cs:=by
 obtain⟨a,cap,h1,h2,h3,h4,h5,h6⟩:=h
 refine⟨a,cap,h1,h2,h3,h4,h5,fun h0=> ?_⟩
 obtain⟨b,e,hl,hc⟩:=h6 h0
 exact⟨b,e,Nat.lt_of_lt_of_le hl hb.size,fun j u hj=>(hb.cell (p:=⟨b,j,none⟩) hl).trans (hc j u hj)⟩
theorem z1o{w:World}{base:Nat}{e:TypeId}{sz n:Nat}{v:Value}{cs:List Value}(h:w.ownsRow base e sz v n cs)(h1:∀u∈cs,u.oneCell'=true):RowAt w sz v n cs:=by
 have h0:=h.1
 rcases h.2 with⟨rfl,hn⟩|⟨g,cap,cur,rfl,hbg,hgg,k1,k2,k3,k4⟩
 ·exact⟨none,0,by rw[hn],by omega,by simp[maxLen],h0,h1,fun hp=>by omega⟩
 ·refine⟨some ⟨g,0,none⟩,cap,rfl,k1,k2,h0,h1,fun hp=>⟨g,rfl,(Array.getElem?_eq_some_iff.1 hgg).1,fun j u hj=> ?_⟩⟩
  have q:=h.cells (g:=g) rfl j u hj
  rw[Addr.add_lit,Nat.zero_add]at q
  exact q
theorem z4I{P:Program}(w:World)(t ty e:TypeId)(i:TypeInfo)(ht:P.underlying t=some (.slice e))(hi:P.info? e=some i)(base:Option Addr)(l c cp:Nat)(h:l<=c):
  (Builtin.append_ #[t,t] ty #[.slice base l c,.slice none 0 cp]).run P w= .ok (.slice base l c) w:=by
 cases base<;>simp[Builtin.append_,run_underlying ht,sizeOf,typeInfo,hi,Builtin.lenOf,Builtin.firstCells,loadCells,loadCellsFrom,storeCells,h]
theorem z8S{w:World}{base:Nat}{e:TypeId}{size:Nat}{ao:Option Addr}{l cp n:Nat}{xs:List Value}(h:w.ownsRow base e size (.slice ao l cp) n xs):l<=cp/\l=n:=by
 rcases h.2 with⟨h1,h2⟩|⟨g,cap,cur,h1,-,-,h2,-⟩
 ·injection h1 with e1 e2 e3;omega
 ·injection h1 with e1 e2 e3;omega
theorem z0X{P:Program}(w:World)(base:Nat)(t ty e:TypeId)(i:TypeInfo)(z:Value)(size bytes:Nat)(ht:P.underlying t=some (.slice e))(hi:P.info? e=some i)(hz:i.zero=some z)(hs:i.size=size)(hb:i.bytes=bytes)(hzs:z.cells.size=size)(hp:0<size)(hby:bytes<=64)
  (v:Value)(n:Nat)(xs:List Value)(hown:w.ownsRow base e size v n xs)(u:Value)(m:Nat)(ys:List Value)(hu:RowAt w size u m ys)(hn:n+m<=1000000)(hbase:base<=w.heap.size):
  ∃v' w',(Builtin.append_ #[t,t] ty #[v,u]).run P w= .ok v' w'/\w'.ownsRow base e size v' (n+m) (xs++ys)/\w.grownBy w' v.ownBlock:=by
 obtain⟨a,c,rfl,hc1,hc2,hl,h1,hcs⟩:=hu
 obtain⟨ao,cp,rfl⟩:=z0c hown
 cases a with
 |none=>
  have h0:m=0:=by
   cases m with
   |zero=>rfl
   |succ m=>obtain⟨b,he,-⟩:=hcs kO;cases he
  subst h0
  have hy:ys=[]:=List.eq_nil_of_length_eq_zero (by rw[hl,Nat.zero_mul])
  subst hy
  refine⟨_,w,z4I w t ty e i ht hi ao n cp c ?_,by simpa using hown,⟨rfl,rfl,rfl,Nat.le_refl _,fun _ _ _=>rfl⟩⟩
  exact(z8S hown).1
 |some ad=>
  obtain⟨v',w',hr,h2,h3,-⟩:=run_append_own (P:=P) (w:=w) base t ty e i z size bytes ht hi hz hs hb hzs hp _ _ _ hown ad m c ys hl
   (fun j u hj=>by
    have hm:0<m:=by
     rcases Nat.eq_zero_or_pos m with h|h
     ·have:ys=[]:=List.eq_nil_of_length_eq_zero (by rw[hl,h,Nat.zero_mul])
      rw[this]at hj
      cases hj
     ·exact h
    obtain⟨b,hab,-,hcell⟩:=hcs hm
    injection hab with hab
    subst hab
    rw[Addr.add_lit,Nat.zero_add]
    exact hcell j u hj) h1
   (by unfold maxLen;omega) (by
    have:(n+m)*bytes<=1000000*64:=Nat.mul_le_mul hn hby
    omega) hbase
  exact⟨v',w',hr,h2,h3⟩
end Go.Mq
namespace Go.Proofs.YtkoocfcnfolkhaaGreatDoor
open Go.RowKit Go.Mq
theorem z0ak:(Tryz.prog.info? 67).map (fun i=>(i.zero,i.size,i.bytes))=some (some (.agg #[.int .i64 0,.int .i64 0,.int .u8 0,.int .u8 0,.int .u8 0,.int .u8 0,.int .u8 0,.int .u8 0,.int .u8 0,.int .u8 0,.int .u8 0,.int .u8 0,.int .u8 0,.int .u8 0,.int .u8 0,.int .u8 0,.int .u8 0,.int .u8 0]),18,32):=by kernel_rfl
theorem z0cY(n:Nat)(hn:n<=1000000)(w:World):
  Calls Tryz.prog 45 #[.slice none 0 0,.int .i64 n] w fun e w'=>∃ao cp,e= .returned (.slice ao 0 cp)/\w'.ownsRow w.heap.size 67 18 (.slice ao 0 cp) 0 []/\Below w.heap.size w w':=by
 obtain⟨i0,hi,hz0,hz1,hz2⟩:=info_parts z0ak
 by_cases h0:n=0
 ·subst h0
  go_enter Tryz.func45,Tryz.ntmps45
  go_wp2
  go_ret
  exact⟨none,0,rfl,World.ownsRow_nil _ _ _ _,Below.refl _ _⟩
 ·have hr:∀ty,(Builtin.append_ #[43,3] ty #[.slice none 0 0,.int .i64 n]).run Tryz.prog w= .ok (.slice (some ⟨w.heap.size,0,none⟩) n (grownCap w n 0 67)) (w.drew.alloc (.cells (Builtin.zeroCells (.agg #[.int .i64 0,.int .i64 0,.int .u8 0,.int .u8 0,.int .u8 0,.int .u8 0,.int .u8 0,.int .u8 0,.int .u8 0,.int .u8 0,.int .u8 0,.int .u8 0,.int .u8 0,.int .u8 0,.int .u8 0,.int .u8 0,.int .u8 0,.int .u8 0]:Value).cells n++Builtin.zeroCells (.agg #[.int .i64 0,.int .i64 0,.int .u8 0,.int .u8 0,.int .u8 0,.int .u8 0,.int .u8 0,.int .u8 0,.int .u8 0,.int .u8 0,.int .u8 0,.int .u8 0,.int .u8 0,.int .u8 0,.int .u8 0,.int .u8 0,.int .u8 0,.int .u8 0]:Value).cells (grownCap w n 0 67-n)) 67)):=fun ty=>
   Lib.run_append_nil_zeros w 43 3 ty 67 i0 (.agg #[.int .i64 0,.int .i64 0,.int .u8 0,.int .u8 0,.int .u8 0,.int .u8 0,.int .u8 0,.int .u8 0,.int .u8 0,.int .u8 0,.int .u8 0,.int .u8 0,.int .u8 0,.int .u8 0,.int .u8 0,.int .u8 0,.int .u8 0,.int .u8 0]) .i64 .i64 Tryz.underlying43 Tryz.underlying3 hi hz0 n kO (by rw[hz1];decide) kO (by rw[hz2];omega)
  have hG:n<=grownCap w n 0 67:=grownCap_ge w _ _ _
  have hM:grownCap w n 0 67<=maxLen:=grownCap_le_maxLen w n 0 67 (by unfold maxLen;omega)
  generalize grownCap w n 0 67=G at*
  have h1:(1:Int)<=n:=by omega
  have h2:(n:Int)<=1000000:=by omega
  have hG1:(n:Int)<=(G:Int):=Int.ofNat_le.2 hG
  have hG2:(G:Int)<=9223372036854775807:=by unfold maxLen at hM;omega
  obtain⟨C,hC⟩:∃C,C=Builtin.zeroCells (.agg #[.int .i64 0,.int .i64 0,.int .u8 0,.int .u8 0,.int .u8 0,.int .u8 0,.int .u8 0,.int .u8 0,.int .u8 0,.int .u8 0,.int .u8 0,.int .u8 0,.int .u8 0,.int .u8 0,.int .u8 0,.int .u8 0,.int .u8 0,.int .u8 0]:Value).cells n++Builtin.zeroCells (.agg #[.int .i64 0,.int .i64 0,.int .u8 0,.int .u8 0,.int .u8 0,.int .u8 0,.int .u8 0,.int .u8 0,.int .u8 0,.int .u8 0,.int .u8 0,.int .u8 0,.int .u8 0,.int .u8 0,.int .u8 0,.int .u8 0,.int .u8 0,.int .u8 0]:Value).cells (G-n):=⟨_,rfl⟩
  have hCs:Hid (C.size=G*18):=zh (by
   rw[hC,Array.size_append,size_zeroCells,size_zeroCells]
   show n*18+(G-n)*18=G*18
   rw[<-Nat.add_mul]
   congr 1
   omega)
  rw[<-hC]at hr
  have HM:=zh hM
  clear hC hM hz0 hz1 hz2 hi
  go_enter Tryz.func45,Tryz.ntmps45
  go_wp2_with (at_builtin;refine Lib.wpList_append_run _ rfl _ _ _ _ rfl _ _ rfl rfl _ _ (hr _) ?_)
  go_ret
  exact⟨some ⟨w.heap.size,0,none⟩,G,rfl,⟨rfl,.inr ⟨w.heap.size,G,C,rfl,Nat.le_refl _,Blk.new _ _ _,by omega,HM.out,hCs.out,by simp⟩⟩,kL⟩
theorem z9F(w:World)(B:Nat)(t:TypeId)(v1 v2:Value)(n1 n2:Nat)(xs ys:List Value)(h1:RowAt w 18 v1 n1 xs)(h2:RowAt w 18 v2 n2 ys)(hB:Blk w B #[v1,v2] t)(hx:n1<=200000)(hy:n2<=200000):
  Calls Tryz.prog 17 #[.slice (some ⟨B,0,none⟩) 2 2] w fun e w'=>∃ao cp,e= .returned (.slice ao (n1+n2) cp)/\w'.ownsRow w.heap.size 67 18 (.slice ao (n1+n2) cp) (n1+n2) (xs++ys)/\Below w.heap.size w w':=by
 have S1:=zh h1
 have S2:=zh h2
 obtain⟨a1,c1,rfl,l1,m1,-,-⟩:=h1
 obtain⟨a2,c2,rfl,l2,m2,-,-⟩:=h2
 obtain⟨i0,hi,hz0,hz1,hz2⟩:=info_parts z0ak
 have AP:=zh (fun(w:World) (base:Nat) (v:Value) (n:Nat) (xs:List Value) (hown:w.ownsRow base 67 18 v n xs) (u:Value) (m:Nat) (ys:List Value) (hu:RowAt w 18 u m ys) (hn:n+m<=1000000) (hbase:base<=w.heap.size) (ty:TypeId)=>z0X (P:=Tryz.prog) w base 43 ty 67 i0 _ 18 32 Tryz.underlying43 hi hz0 hz1 hz2 rfl kD kD v n xs hown u m ys hu hn hbase)
 have gr:=z0cY (n1+n2) kO
 simp only[Int.natCast_add]at gr
 have GR:=zh gr
 clear gr
 have KB:=zh hB
 obtain⟨lB,cB,fB⟩:=hB.use
 have b1:(n1:Int)<=200000:=by omega
 have b2:(n2:Int)<=200000:=by omega
 have d1:(0:Int)<=n1:=by omega
 have d2:(0:Int)<=n2:=by omega
 clear hi hz0 hz1 hz2
 go_enter Tryz.func17,Tryz.ntmps17
 go_wp2_with fail
 refine wp_loop_rounds 3 ?_
 rw[rounds_succ]
 go_wp2_with fail
 rw[rounds_succ]
 go_wp2_with fail
 rw[rounds_succ]
 go_wp2_with fail
 refine(GR.out _).mono ?_
 rintro e w1 ⟨ao,cp,rfl,hown,hb1⟩
 have HO:=zh hown
 have KB1:=zh (KB.out.below hb1)
 have S1':=zh (S1.out.below hb1)
 have S2':=zh (S2.out.below hb1)
 obtain⟨lB1,cB1,fB1⟩:=KB1.out.use
 clear hown cB fB
 go_wp2_with fail
 refine wp_loop_rounds 3 ?_
 obtain⟨v2,w2,hr2,ho2,hg2⟩:=AP.out w1 w.heap.size (.slice ao 0 cp) 0 [] HO.out _ n1 xs S1'.out kO hb1.size 43
 rw[Nat.zero_add,List.nil_append]at ho2
 obtain⟨a3,c3,rfl⟩:=z0c ho2
 have KB2:=zh (Blk.grown KB1.out hg2 HO.out lB)
 have hb2:Below w.heap.size w w2:=z0p hb1 hb1.size hg2 HO.out (Nat.le_refl _)
 have S2'':=zh (S2.out.below hb2)
 obtain⟨v3,w3,hr3,ho3,hg3⟩:=AP.out w2 w.heap.size _ n1 xs ho2 _ n2 ys S2''.out kO hb2.size 43
 obtain⟨a4,c4,rfl⟩:=z0c ho3
 have KB3:=zh (Blk.grown KB2.out hg3 ho2 lB)
 have hb3:Below w.heap.size w w3:=z0p hb2 hb2.size hg3 ho2 (Nat.le_refl _)
 obtain⟨lB2,cB2,fB2⟩:=KB2.out.use
 obtain⟨lB3,cB3,fB3⟩:=KB3.out.use
 have R2:=zh hr2
 have R3:=zh hr3
 have HO3:=zh ho3
 clear hr2 hr3 ho2 ho3 hg2 hg3
 rw[rounds_succ]
 go_wp2_with (at_builtin;first|refine Lib.wpList_append_run _ rfl _ _ _ _ rfl _ _ rfl rfl _ _ R2.out ?_|refine Lib.wpList_append_run _ rfl _ _ _ _ rfl _ _ rfl rfl _ _ R3.out ?_)
 rw[rounds_succ]
 go_wp2_with (at_builtin;first|refine Lib.wpList_append_run _ rfl _ _ _ _ rfl _ _ rfl rfl _ _ R2.out ?_|refine Lib.wpList_append_run _ rfl _ _ _ _ rfl _ _ rfl rfl _ _ R3.out ?_)
 rw[rounds_succ]
 go_wp2
 go_ret
 exact⟨a4,c4,by simp,HO3.out,hb3⟩
theorem z0aj:(Tryz.prog.info? 71).map (fun i=>(i.zero,i.size,i.bytes))=some (some (.agg #[.int .i64 0,.int .i64 0,.int .u8 0]),3,24):=by kernel_rfl
theorem z0cX(n:Nat)(hn:n<=1000000)(w:World):
  Calls Tryz.prog 47 #[.slice none 0 0,.int .i64 n] w fun e w'=>∃ao cp,e= .returned (.slice ao 0 cp)/\w'.ownsRow w.heap.size 71 3 (.slice ao 0 cp) 0 []/\Below w.heap.size w w':=by
 obtain⟨i0,hi,hz0,hz1,hz2⟩:=info_parts z0aj
 by_cases h0:n=0
 ·subst h0
  go_enter Tryz.func47,Tryz.ntmps47
  go_wp2
  go_ret
  exact⟨none,0,rfl,World.ownsRow_nil _ _ _ _,Below.refl _ _⟩
 ·have hr:∀ty,(Builtin.append_ #[44,3] ty #[.slice none 0 0,.int .i64 n]).run Tryz.prog w= .ok (.slice (some ⟨w.heap.size,0,none⟩) n (grownCap w n 0 71)) (w.drew.alloc (.cells (Builtin.zeroCells (.agg #[.int .i64 0,.int .i64 0,.int .u8 0]:Value).cells n++Builtin.zeroCells (.agg #[.int .i64 0,.int .i64 0,.int .u8 0]:Value).cells (grownCap w n 0 71-n)) 71)):=fun ty=>
   Lib.run_append_nil_zeros w 44 3 ty 71 i0 (.agg #[.int .i64 0,.int .i64 0,.int .u8 0]) .i64 .i64 Tryz.underlying44 Tryz.underlying3 hi hz0 n kO (by rw[hz1];decide) kO (by rw[hz2];omega)
  have hG:n<=grownCap w n 0 71:=grownCap_ge w _ _ _
  have hM:grownCap w n 0 71<=maxLen:=grownCap_le_maxLen w n 0 71 (by unfold maxLen;omega)
  generalize grownCap w n 0 71=G at*
  have h1:(1:Int)<=n:=by omega
  have h2:(n:Int)<=1000000:=by omega
  have hG1:(n:Int)<=(G:Int):=Int.ofNat_le.2 hG
  have hG2:(G:Int)<=9223372036854775807:=by unfold maxLen at hM;omega
  obtain⟨C,hC⟩:∃C,C=Builtin.zeroCells (.agg #[.int .i64 0,.int .i64 0,.int .u8 0]:Value).cells n++Builtin.zeroCells (.agg #[.int .i64 0,.int .i64 0,.int .u8 0]:Value).cells (G-n):=⟨_,rfl⟩
  have hCs:Hid (C.size=G*3):=zh (by
   rw[hC,Array.size_append,size_zeroCells,size_zeroCells]
   show n*3+(G-n)*3=G*3
   rw[<-Nat.add_mul]
   congr 1
   omega)
  rw[<-hC]at hr
  have HM:=zh hM
  clear hC hM hz0 hz1 hz2 hi
  go_enter Tryz.func47,Tryz.ntmps47
  go_wp2_with (at_builtin;refine Lib.wpList_append_run _ rfl _ _ _ _ rfl _ _ rfl rfl _ _ (hr _) ?_)
  go_ret
  exact⟨some ⟨w.heap.size,0,none⟩,G,rfl,⟨rfl,.inr ⟨w.heap.size,G,C,rfl,Nat.le_refl _,Blk.new _ _ _,by omega,HM.out,hCs.out,by simp⟩⟩,kL⟩
theorem z9E(w:World)(B:Nat)(t:TypeId)(v1 v2:Value)(n1 n2:Nat)(xs ys:List Value)(h1:RowAt w 3 v1 n1 xs)(h2:RowAt w 3 v2 n2 ys)(hB:Blk w B #[v1,v2] t)(hx:n1<=200000)(hy:n2<=200000):
  Calls Tryz.prog 19 #[.slice (some ⟨B,0,none⟩) 2 2] w fun e w'=>∃ao cp,e= .returned (.slice ao (n1+n2) cp)/\w'.ownsRow w.heap.size 71 3 (.slice ao (n1+n2) cp) (n1+n2) (xs++ys)/\Below w.heap.size w w':=by
 have S1:=zh h1
 have S2:=zh h2
 obtain⟨a1,c1,rfl,l1,m1,-,-⟩:=h1
 obtain⟨a2,c2,rfl,l2,m2,-,-⟩:=h2
 obtain⟨i0,hi,hz0,hz1,hz2⟩:=info_parts z0aj
 have AP:=zh (fun(w:World) (base:Nat) (v:Value) (n:Nat) (xs:List Value) (hown:w.ownsRow base 71 3 v n xs) (u:Value) (m:Nat) (ys:List Value) (hu:RowAt w 3 u m ys) (hn:n+m<=1000000) (hbase:base<=w.heap.size) (ty:TypeId)=>z0X (P:=Tryz.prog) w base 44 ty 71 i0 _ 3 24 Tryz.underlying44 hi hz0 hz1 hz2 rfl kD kD v n xs hown u m ys hu hn hbase)
 have gr:=z0cX (n1+n2) kO
 simp only[Int.natCast_add]at gr
 have GR:=zh gr
 clear gr
 have KB:=zh hB
 obtain⟨lB,cB,fB⟩:=hB.use
 have b1:(n1:Int)<=200000:=by omega
 have b2:(n2:Int)<=200000:=by omega
 have d1:(0:Int)<=n1:=by omega
 have d2:(0:Int)<=n2:=by omega
 clear hi hz0 hz1 hz2
 go_enter Tryz.func19,Tryz.ntmps19
 go_wp2_with fail
 refine wp_loop_rounds 3 ?_
 rw[rounds_succ]
 go_wp2_with fail
 rw[rounds_succ]
 go_wp2_with fail
 rw[rounds_succ]
 go_wp2_with fail
 refine(GR.out _).mono ?_
 rintro e w1 ⟨ao,cp,rfl,hown,hb1⟩
 have HO:=zh hown
 have KB1:=zh (KB.out.below hb1)
 have S1':=zh (S1.out.below hb1)
 have S2':=zh (S2.out.below hb1)
 obtain⟨lB1,cB1,fB1⟩:=KB1.out.use
 clear hown cB fB
 go_wp2_with fail
 refine wp_loop_rounds 3 ?_
 obtain⟨v2,w2,hr2,ho2,hg2⟩:=AP.out w1 w.heap.size (.slice ao 0 cp) 0 [] HO.out _ n1 xs S1'.out kO hb1.size 44
 rw[Nat.zero_add,List.nil_append]at ho2
 obtain⟨a3,c3,rfl⟩:=z0c ho2
 have KB2:=zh (Blk.grown KB1.out hg2 HO.out lB)
 have hb2:Below w.heap.size w w2:=z0p hb1 hb1.size hg2 HO.out (Nat.le_refl _)
 have S2'':=zh (S2.out.below hb2)
 obtain⟨v3,w3,hr3,ho3,hg3⟩:=AP.out w2 w.heap.size _ n1 xs ho2 _ n2 ys S2''.out kO hb2.size 44
 obtain⟨a4,c4,rfl⟩:=z0c ho3
 have KB3:=zh (Blk.grown KB2.out hg3 ho2 lB)
 have hb3:Below w.heap.size w w3:=z0p hb2 hb2.size hg3 ho2 (Nat.le_refl _)
 obtain⟨lB2,cB2,fB2⟩:=KB2.out.use
 obtain⟨lB3,cB3,fB3⟩:=KB3.out.use
 have R2:=zh hr2
 have R3:=zh hr3
 have HO3:=zh ho3
 clear hr2 hr3 ho2 ho3 hg2 hg3
 rw[rounds_succ]
 go_wp2_with (at_builtin;first|refine Lib.wpList_append_run _ rfl _ _ _ _ rfl _ _ rfl rfl _ _ R2.out ?_|refine Lib.wpList_append_run _ rfl _ _ _ _ rfl _ _ rfl rfl _ _ R3.out ?_)
 rw[rounds_succ]
 go_wp2_with (at_builtin;first|refine Lib.wpList_append_run _ rfl _ _ _ _ rfl _ _ rfl rfl _ _ R2.out ?_|refine Lib.wpList_append_run _ rfl _ _ _ _ rfl _ _ rfl rfl _ _ R3.out ?_)
 rw[rounds_succ]
 go_wp2
 go_ret
 exact⟨a4,c4,by simp,HO3.out,hb3⟩
theorem z0al:(Tryz.prog.info? 5).map (fun i=>(i.zero,i.size,i.bytes))=some (some (.int .u8 0),1,1):=by kernel_rfl
theorem z0cZ(n:Nat)(hn:n<=1000000)(w:World):
  Calls Tryz.prog 46 #[.slice none 0 0,.int .i64 n] w fun e w'=>∃ao cp,e= .returned (.slice ao 0 cp)/\w'.ownsRow w.heap.size 5 1 (.slice ao 0 cp) 0 []/\Below w.heap.size w w':=by
 obtain⟨i0,hi,hz0,hz1,hz2⟩:=info_parts z0al
 by_cases h0:n=0
 ·subst h0
  go_enter Tryz.func46,Tryz.ntmps46
  go_wp2
  go_ret
  exact⟨none,0,rfl,World.ownsRow_nil _ _ _ _,Below.refl _ _⟩
 ·have hr:∀ty,(Builtin.append_ #[22,3] ty #[.slice none 0 0,.int .i64 n]).run Tryz.prog w= .ok (.slice (some ⟨w.heap.size,0,none⟩) n (grownCap w n 0 5)) (w.drew.alloc (.cells (Builtin.zeroCells (.int .u8 0:Value).cells n++Builtin.zeroCells (.int .u8 0:Value).cells (grownCap w n 0 5-n)) 5)):=fun ty=>
   Lib.run_append_nil_zeros w 22 3 ty 5 i0 (.int .u8 0) .i64 .i64 Tryz.underlying22 Tryz.underlying3 hi hz0 n kO (by rw[hz1];decide) kO (by rw[hz2];omega)
  have hG:n<=grownCap w n 0 5:=grownCap_ge w _ _ _
  have hM:grownCap w n 0 5<=maxLen:=grownCap_le_maxLen w n 0 5 (by unfold maxLen;omega)
  generalize grownCap w n 0 5=G at*
  have h1:(1:Int)<=n:=by omega
  have h2:(n:Int)<=1000000:=by omega
  have hG1:(n:Int)<=(G:Int):=Int.ofNat_le.2 hG
  have hG2:(G:Int)<=9223372036854775807:=by unfold maxLen at hM;omega
  obtain⟨C,hC⟩:∃C,C=Builtin.zeroCells (.int .u8 0:Value).cells n++Builtin.zeroCells (.int .u8 0:Value).cells (G-n):=⟨_,rfl⟩
  have hCs:Hid (C.size=G*1):=zh (by
   rw[hC,Array.size_append,size_zeroCells,size_zeroCells]
   show n*1+(G-n)*1=G*1
   rw[<-Nat.add_mul]
   congr 1
   omega)
  rw[<-hC]at hr
  have HM:=zh hM
  clear hC hM hz0 hz1 hz2 hi
  go_enter Tryz.func46,Tryz.ntmps46
  go_wp2_with (at_builtin;refine Lib.wpList_append_run _ rfl _ _ _ _ rfl _ _ rfl rfl _ _ (hr _) ?_)
  go_ret
  exact⟨some ⟨w.heap.size,0,none⟩,G,rfl,⟨rfl,.inr ⟨w.heap.size,G,C,rfl,Nat.le_refl _,Blk.new _ _ _,by omega,HM.out,hCs.out,by simp⟩⟩,kL⟩
theorem z9G(w:World)(B:Nat)(t:TypeId)(v1 v2:Value)(n1 n2:Nat)(xs ys:List Value)(h1:RowAt w 1 v1 n1 xs)(h2:RowAt w 1 v2 n2 ys)(hB:Blk w B #[v1,v2] t)(hx:n1<=200000)(hy:n2<=200000):
  Calls Tryz.prog 18 #[.slice (some ⟨B,0,none⟩) 2 2] w fun e w'=>∃ao cp,e= .returned (.slice ao (n1+n2) cp)/\w'.ownsRow w.heap.size 5 1 (.slice ao (n1+n2) cp) (n1+n2) (xs++ys)/\Below w.heap.size w w':=by
 have S1:=zh h1
 have S2:=zh h2
 obtain⟨a1,c1,rfl,l1,m1,-,-⟩:=h1
 obtain⟨a2,c2,rfl,l2,m2,-,-⟩:=h2
 obtain⟨i0,hi,hz0,hz1,hz2⟩:=info_parts z0al
 have AP:=zh (fun(w:World) (base:Nat) (v:Value) (n:Nat) (xs:List Value) (hown:w.ownsRow base 5 1 v n xs) (u:Value) (m:Nat) (ys:List Value) (hu:RowAt w 1 u m ys) (hn:n+m<=1000000) (hbase:base<=w.heap.size) (ty:TypeId)=>z0X (P:=Tryz.prog) w base 22 ty 5 i0 _ 1 1 Tryz.underlying22 hi hz0 hz1 hz2 rfl kD kD v n xs hown u m ys hu hn hbase)
 have gr:=z0cZ (n1+n2) kO
 simp only[Int.natCast_add]at gr
 have GR:=zh gr
 clear gr
 have KB:=zh hB
 obtain⟨lB,cB,fB⟩:=hB.use
 have b1:(n1:Int)<=200000:=by omega
 have b2:(n2:Int)<=200000:=by omega
 have d1:(0:Int)<=n1:=by omega
 have d2:(0:Int)<=n2:=by omega
 clear hi hz0 hz1 hz2
 go_enter Tryz.func18,Tryz.ntmps18
 go_wp2_with fail
 refine wp_loop_rounds 3 ?_
 rw[rounds_succ]
 go_wp2_with fail
 rw[rounds_succ]
 go_wp2_with fail
 rw[rounds_succ]
 go_wp2_with fail
 refine(GR.out _).mono ?_
 rintro e w1 ⟨ao,cp,rfl,hown,hb1⟩
 have HO:=zh hown
 have KB1:=zh (KB.out.below hb1)
 have S1':=zh (S1.out.below hb1)
 have S2':=zh (S2.out.below hb1)
 obtain⟨lB1,cB1,fB1⟩:=KB1.out.use
 clear hown cB fB
 go_wp2_with fail
 refine wp_loop_rounds 3 ?_
 obtain⟨v2,w2,hr2,ho2,hg2⟩:=AP.out w1 w.heap.size (.slice ao 0 cp) 0 [] HO.out _ n1 xs S1'.out kO hb1.size 22
 rw[Nat.zero_add,List.nil_append]at ho2
 obtain⟨a3,c3,rfl⟩:=z0c ho2
 have KB2:=zh (Blk.grown KB1.out hg2 HO.out lB)
 have hb2:Below w.heap.size w w2:=z0p hb1 hb1.size hg2 HO.out (Nat.le_refl _)
 have S2'':=zh (S2.out.below hb2)
 obtain⟨v3,w3,hr3,ho3,hg3⟩:=AP.out w2 w.heap.size _ n1 xs ho2 _ n2 ys S2''.out kO hb2.size 22
 obtain⟨a4,c4,rfl⟩:=z0c ho3
 have KB3:=zh (Blk.grown KB2.out hg3 ho2 lB)
 have hb3:Below w.heap.size w w3:=z0p hb2 hb2.size hg3 ho2 (Nat.le_refl _)
 obtain⟨lB2,cB2,fB2⟩:=KB2.out.use
 obtain⟨lB3,cB3,fB3⟩:=KB3.out.use
 have R2:=zh hr2
 have R3:=zh hr3
 have HO3:=zh ho3
 clear hr2 hr3 ho2 ho3 hg2 hg3
 rw[rounds_succ]
 go_wp2_with (at_builtin;first|refine Lib.wpList_append_run _ rfl _ _ _ _ rfl _ _ rfl rfl _ _ R2.out ?_|refine Lib.wpList_append_run _ rfl _ _ _ _ rfl _ _ rfl rfl _ _ R3.out ?_)
 rw[rounds_succ]
 go_wp2_with (at_builtin;first|refine Lib.wpList_append_run _ rfl _ _ _ _ rfl _ _ rfl rfl _ _ R2.out ?_|refine Lib.wpList_append_run _ rfl _ _ _ _ rfl _ _ rfl rfl _ _ R3.out ?_)
 rw[rounds_succ]
 go_wp2
 go_ret
 exact⟨a4,c4,by simp,HO3.out,hb3⟩
end Go.Proofs.YtkoocfcnfolkhaaGreatDoor
namespace Go.Mq
open Go.RowKit
theorem z3L:∀(ls:List Ln),(∀x∈ls,x.Ok)->∀k,k<ls.length->∀j u,(lineC (ls.getD k Ln0)).toList[j]? =some u->(ls.flatMap fun x=>(lineC x).toList)[k*18+j]? =some u
 |[],_,k,h,_,_,_=>absurd h (Nat.not_lt_zero _)
 |x::t,ok,0,_,j,u,hj=>by
  show((lineC x).toList++t.flatMap fun x=>(lineC x).toList)[0*18+j]? =_
  have hl:j<(lineC x).toList.length:=by
   rcases Nat.lt_or_ge j (lineC x).toList.length with h|h
   ·exact h
   ·have hj:(lineC x).toList[j]? =some u:=hj
    rw[List.getElem?_eq_none h]at hj;cases hj
  rw[List.getElem?_append_left kO,Nat.zero_mul,Nat.zero_add]
  exact hj
 |x::t,ok,k+1,h,j,u,hj=>by
  have hx:=(line_facts (ok x kS)).1
  have ih:=z3L t (fun y hy=>ok y (by simp[hy])) k (by simpa using h) j u hj
  show((lineC x).toList++t.flatMap fun x=>(lineC x).toList)[(k+1)*18+j]? =_
  rw[List.getElem?_append_right (by rw[Array.length_toList,hx];omega),Array.length_toList,hx,show(k+1)*18+j-18=k*18+j by omega]
  exact ih
def Wr0:Wr:=⟨0,0,0⟩
def wrA(x:Wr):Array Value:= #[.int .i64 x.ck,.int .i64 x.at',.int .u8 x.v]
theorem z6D:∀(ls:List Wr) (k:Nat),k<ls.length->∀j u,(wrA (ls.getD k Wr0)).toList[j]? =some u->(wrC ls)[k*3+j]? =some u
 |[],k,h,_,_,_=>absurd h (Nat.not_lt_zero _)
 |x::t,0,_,j,u,hj=>by
  show((wrA x).toList++wrC t)[0*3+j]? =_
  have hl:j<(wrA x).toList.length:=by
   rcases Nat.lt_or_ge j (wrA x).toList.length with h|h
   ·exact h
   ·have hj:(wrA x).toList[j]? =some u:=hj
    rw[List.getElem?_eq_none h]at hj;cases hj
  rw[List.getElem?_append_left kO,Nat.zero_mul,Nat.zero_add]
  exact hj
 |x::t,k+1,h,j,u,hj=>by
  have ih:=z6D t k (by simpa using h) j u hj
  show((wrA x).toList++wrC t)[(k+1)*3+j]? =_
  rw[List.getElem?_append_right (by show 3<=_;omega),show(k+1)*3+j-(wrA x).toList.length=k*3+j by show(k+1)*3+j-3=_;omega]
  exact ih
theorem z3x:∀(l:List Wr),∀u∈wrC l,u.oneCell'=true
 |[],u,h=>by cases h
 |x::t,u,h=>by
  rcases List.mem_append.1 h with h|h
  ·simp only[List.mem_cons,List.not_mem_nil,or_false]at h
   rcases h with rfl|rfl|rfl<;>rfl
  ·exact z3x t u h
theorem z3K(l:List Ln):∀u∈l.flatMap (fun x=>(lineC x).toList),u.oneCell'=true:=fun u h=>by
 obtain⟨x,_,hx⟩:=List.mem_flatMap.1 h
 simp only[lineC,List.toList_toArray,List.mem_cons,List.mem_map]at hx
 rcases hx with rfl|rfl|⟨q,_,rfl⟩<;>rfl
end Go.Mq
namespace Go.Proofs.YtkoocfcnfolkhaaGreatDoor
open Go.RowKit Go.Mq
theorem Lns.row{w:World}{B:Nat}{v:Value}{l:List Ln}(h:Lns w B v l):RowAt w 18 v l.length (lnsC l):=z1o h (z3K l)
theorem Sms.row{w:World}{B:Nat}{v:Value}{l:List Int}(h:Sms w B v l):RowAt w 1 v l.length (l.map (Value.int .u8)):=z1o h (fun u hu=>by obtain⟨x,_,rfl⟩:=List.mem_map.1 hu;rfl)
theorem Wrs.row{w:World}{B:Nat}{v:Value}{l:List Wr}(h:Wrs w B v l):RowAt w 3 v l.length (wrC l):=z1o h (z3x l)
theorem z8P(xs:List Int)(hl:xs.length=16)(w:World):(Op.equalIn 9999 65 (.agg (xs.map (Value.int .u8)).toArray) (.agg (xs.map (Value.int .u8)).toArray)).run Tryz.prog w= .ok true w:=by
 obtain⟨i,hi⟩:∃i,(Tryz.prog).info? 5=some i:=Option.isSome_iff_exists.1 kR
 rw[run_equalIn_array w 9998 _ _ Tryz.underlying65 hi]
 have hc:(Tryz.prog).cellsOf 5=1:=by kernel_rfl
 rw[hc]
 match xs,hl with
 |[a0,a1,a2,a3,a4,a5,a6,a7,a8,a9,b0,b1,b2,b3,b4,b5],_=>
  simp[Op.eqItems,List.range,List.range.loop,go_sem]
theorem z7C(x:Ln)(hx:x.Ok)(w:World):(Op.equalIn 10000 67 (.agg (lineC x)) (.agg (lineC x))).run Tryz.prog w= .ok true w:=by
 have H:=z8P x.px hx.2.2.1 w
 have hf:(Tryz.prog).underlying 67=some (.struct ((Tryz.prog).fieldsOf 67)):=by kernel_rfl
 rw[run_equalIn_struct w 9999 _ _ _ hf kR]
 obtain⟨p0,p1,p2,p3,p4,p5,p6,p7,p8,p9,pa,pb,pc,pd,pe,pf,e⟩:=row_16 hx.2.2.1
 unfold lineC
 rw[e]at H⊢
 simp[Program.fieldsOf,Tryz.underlying67,Op.eqFields,go_sem]at H⊢
 simp[H,go_sem]
theorem z0aB(x:Wr)(w:World):(Op.equalIn 10000 71 (.agg (wrA x)) (.agg (wrA x))).run Tryz.prog w= .ok true w:=by
 have hf:(Tryz.prog).underlying 71=some (.struct ((Tryz.prog).fieldsOf 71)):=by kernel_rfl
 rw[run_equalIn_struct w 9999 _ _ _ hf kR]
 unfold wrA
 simp[Program.fieldsOf,Tryz.underlying71,Op.eqFields,go_sem]
theorem px_at(px:List Int){j:Nat}(h:j<px.length):(px[j]?).map (Value.int .u8)=some (Value.int .u8 (px.getD j 0)):=by
 rw[List.getD_eq_getElem?_getD,List.getElem?_eq_getElem h]
 rfl
theorem Lns.lines{w:World}{B:Nat}{v:Value}{l:List Ln}(h:Lns w B v l)(hok:∀x∈l,x.Ok):LinesAt w v l:=by
 obtain⟨a,cap,rfl,h1,h2,h3,h4,h5⟩:=h.row
 refine⟨a,cap,rfl,h1,h2,hok,fun h0=> ?_⟩
 obtain⟨b,rfl,hl,hc⟩:=h5 h0
 refine⟨b,0,rfl,hl,fun i hi=> ?_⟩
 have hx:(l.getD i Ln0).Ok:=lines_ok hok hi
 have hat:=fun j u hj=>hc (i*18+j) u (z3L l hok i hi j u hj)
 obtain⟨f1,f2,f3,f4,f5,f6,f7⟩:=line_facts hx
 refine⟨?_,?_,fun j hj=> ?_⟩
 ·have:=hat 0 (.int .i64 (l.getD i Ln0).fr) (by rw[<-Array.getElem?_toList]at f3;exact f3)
  rw[Nat.zero_add]
  exact this
 ·have:=hat 1 (.int .i64 (l.getD i Ln0).ln) (by rw[<-Array.getElem?_toList]at f4;exact f4)
  rw[Nat.zero_add]
  exact this
 ·have hp:j<(l.getD i Ln0).px.length:=by rw[hx.2.2.1];exact hj
  have:=hat (2+j) (.int .u8 ((l.getD i Ln0).px.getD j 0)) (by
   unfold lineC
   rw[List.toList_toArray,Nat.add_comm 2 j,List.getElem?_cons_succ,List.getElem?_cons_succ,List.getElem?_map]
   exact px_at _ hp)
  rw[Nat.zero_add]
  exact this
theorem z5T{w:World}{v:Value}{xs:List Int}(h:SliceAt w .u8 v xs):(convert 22 9 v).run Tryz.prog w= .ok (.string (strOfNums xs)) w:=by
 obtain⟨a,cap,rfl,h1,h2,hwf,h3⟩:=h
 by_cases h0:0<xs.length
 ·obtain⟨b,off,rfl,hlt,hc⟩:=h3 h0
  exact run_convert_bytes_arg w _ _ Tryz.underlying22 Tryz.underlying5 b off xs.length cap xs rfl hc _ Tryz.underlying9
 ·have hn:xs=[]:=List.length_eq_zero_iff.1 kO
  subst hn
  cases a with
  |none=>exact run_convert_bytes_nil w _ _ Tryz.underlying22 Tryz.underlying5 0 cap _ Tryz.underlying9
  |some ad=>
   rw[run_convert_bytes_string w _ _ _ _ _ _ Tryz.underlying22 Tryz.underlying5 Tryz.underlying9]
   have hl:(loadCells ad 0).run Tryz.prog w= .ok #[] w:=rfl
   simp[Conv.bytesToString,hl,strOfNums]
   rfl
theorem z8h{x:Int}(h:(Lit.int .u8 x).wf=true):0<=x/\x<=255:=by
 have:=bounds_u8 h
 omega
theorem z0aG{xs ys:List Int}(hx:∀x∈xs,(Lit.int .u8 x).wf=true)(hy:∀x∈ys,(Lit.int .u8 x).wf=true)(h:(strOfNums xs).toList=(strOfNums ys).toList):xs=ys:=by
 have h':=h
 rw[Lib.strOfNums_toList,Lib.strOfNums_toList]at h'
 unfold Lib.bytesOf at h'
 clear h
 induction xs generalizing ys with
 |nil=>cases ys with
  |nil=>rfl
  |cons y ys=>simp at h'
 |cons x xs ih=>
  cases ys with
  |nil=>simp at h'
  |cons y ys=>
   simp only[List.map_cons,List.cons.injEq]at h'
   have b1:=z8h (hx x kS)
   have b2:=z8h (hy y kS)
   have e:x=y:=by
    have:=congrArg UInt8.toNat h'.1
    simp at this
    omega
   rw[e,ih (fun z hz=>hx z (by simp[hz])) (fun z hz=>hy z (by simp[hz])) h'.2]
theorem z0ck{xs ys:List Int}(hx:∀x∈xs,(Lit.int .u8 x).wf=true)(hy:∀x∈ys,(Lit.int .u8 x).wf=true):((strOfNums xs).toList==(strOfNums ys).toList)=decide (xs=ys):=by
 by_cases h:xs=ys
 ·subst h;simp
 ·rw[decide_eq_false h,beq_eq_false_iff_ne]
  exact fun e=>h (z0aG hx hy e)
theorem z0C(v u:Value)(xs ys:List Int)(w:World)(h1:SliceAt w .u8 v xs)(h2:SliceAt w .u8 u ys):
  Calls Tryz.prog 40 #[v,u] w fun e w'=>e= .returned (.bool (decide (xs=ys)))/\w=w':=by
 have c1:=z5T h1
 have c2:=z5T h2
 have hw:∀{v:Value} {xs:List Int},SliceAt w .u8 v xs->∀x∈xs,(Lit.int .u8 x).wf=true:=fun h=>by obtain⟨_,_,_,_,_,hwf,_⟩:=h;exact hwf
 have he:=z0ck (hw h1) (hw h2)
 obtain⟨a,cap,rfl,h1',-⟩:=h1
 obtain⟨a',cap',rfl,h2',-⟩:=h2
 generalize strOfNums xs=S1 at*
 generalize strOfNums ys=S2 at*
 rw[<-he]
 clear he hw
 go_enter Tryz.func40,Tryz.ntmps40
 go_wp2
 go_ret
 exact⟨rfl,rfl⟩
end Go.Proofs.YtkoocfcnfolkhaaGreatDoor
namespace Go.Mq
open Go.RowKit
theorem RowAt.at'{w:World}{sz n:Nat}{a:Option Addr}{cap:Nat}{cs:List Value}(h:RowAt w sz (.slice a n cap) n cs)(h0:0<n):∃b off,a=some ⟨b,off,none⟩/\b<w.heap.size/\∀j u,cs[j]? =some u->w.cell? ⟨b,off+j,none⟩=some u:=by
 obtain⟨a',cap',e,-,-,-,-,h⟩:=h
 injection e with e1 e2 e3
 subst e1
 obtain⟨b,e,hl,hc⟩:=h h0
 exact⟨b,0,e,hl,fun j u hj=>by rw[Nat.zero_add];exact hc j u hj⟩
theorem z1g{P:Program}{ops:Array Oper}{S:World->Prop}{oi:Oper}{a:Act}(hw:Region.wanted oi (yielded ops a.tmps)=true)(ty:TypeId)(x:Operand)(ho:oi.op= .load ty x)
  (ad:Addr)(hx:a.eval x= .pointer (some ad))(cs:Array Value)(hS:∀w,S w->∀j u,cs.toList[j]? =some u->w.cell? (ad.add j)=some u)(d:TypeDesc)
  (hu:P.underlying ty=some d)(hd:(match d with| .struct _| .array _ _=>true|_=>false)=true)(hi:(P.info? ty).map (·.size)=some cs.size):
  YieldsIf P ops S oi (.agg cs) a:=by
 refine Or.inl ⟨hw,fun w hSw=> ?_⟩
 unfold execOp
 simp only[ho,hx,Instr.loadAt,Instr.sureAddr,Sem.run_bind,Sem.run_pure,Result.andThen_ok,run_loadVar_c w ad ty cs d (hS w hSw) hu hd hi]
def EqS(w W:World)(b1 o1 b2 o2 k:Nat)(Y:Array Value):Prop:=(∀j u,Y.toList[j]? =some u->W.cell? (Addr.add ⟨b1,o1+k,none⟩ j)=some u)/\(∀j u,Y.toList[j]? =some u->W.cell? (Addr.add ⟨b2,o2+k,none⟩ j)=some u)/\Below w.heap.size w W
theorem RowAt.one{w:World}{sz n:Nat}{v:Value}{cs:List Value}(h:RowAt w sz v n cs):v.oneCell'=true:=by
 obtain⟨a,cap,rfl,-⟩:=h
 rfl
end Go.Mq
namespace Go.Proofs.YtkoocfcnfolkhaaGreatDoor
open Go.RowKit Go.Mq
theorem z7A(v u:Value)(xs:List Ln)(w:World)(h:RowAt w 18 v xs.length (lnsC xs))(g:RowAt w 18 u xs.length (lnsC xs))(hok:∀x∈xs,x.Ok)(hl:xs.length<=1000000):
  Calls Tryz.prog 41 #[v,u] w fun e w'=>e= .returned (.bool true)/\Below w.heap.size w w':=by
 have HO:=zh hok
 have H0:=zh h
 have G0:=zh g
 obtain⟨a,ca,rfl,h1,h2,-⟩:=h
 obtain⟨b,cb,rfl,g1,g2,-⟩:=g
 have H3:=zh (fun h=>H0.out.at' h)
 have G3:=zh (fun h=>G0.out.at' h)
 clear hok H0 G0
 go_enter Tryz.func41,Tryz.ntmps41
 go_wp2
 go_loopw [13] (fun i wr=>∃k:Nat,k<=xs.length/\i= .int .i64 k/\Below w.heap.size w wr) (fun i _=>(xs.length-intOf i).toNat)
 case atStart=>exact⟨0,by omega,rfl,Below.refl _ _⟩
 case round=>
  obtain⟨k,hk,rfl,hbr⟩:=hrel
  by_cases hkn:k<xs.length
  ·obtain⟨b1,o1,rfl,l1,c1⟩:=H3.out kO
   obtain⟨b2,o2,rfl,l2,c2⟩:=G3.out kO
   have hki:(k:Int)<xs.length:=by omega
   have hx1:∀j u,(lineC (xs.getD k Ln0)).toList[j]? =some u->wr.cell? (Addr.add ⟨b1,o1+k*18,none⟩ j)=some u:=fun j u hj=>by
    rw[Addr.add_lit,Nat.add_assoc]
    exact(hbr.cell (p:=⟨b1,_,none⟩) l1).trans (c1 _ u (z3L xs HO.out k hkn j u hj))
   have hx2:∀j u,(lineC (xs.getD k Ln0)).toList[j]? =some u->wr.cell? (Addr.add ⟨b2,o2+k*18,none⟩ j)=some u:=fun j u hj=>by
    rw[Addr.add_lit,Nat.add_assoc]
    exact(hbr.cell (p:=⟨b2,_,none⟩) l2).trans (c2 _ u (z3L xs HO.out k hkn j u hj))
   have EX:=fun w=>z7C (xs.getD k Ln0) (lines_ok HO.out hkn) w
   have CZ:Hid ((lineC (xs.getD k Ln0)).size=18):=zh (line_facts (lines_ok HO.out hkn)).1
   obtain⟨Y,hY⟩:∃Y,Y=lineC (xs.getD k Ln0):=⟨_,rfl⟩
   rw[<-hY]at hx1 hx2 EX CZ
   have HX1:=zh hx1
   have HX2:=zh hx2
   clear hY hx1 hx2 c1 c2
   have HW:Hid (EqS wr wr b1 o1 b2 o2 (k*18) Y):=zh ⟨HX1.out,HX2.out,Below.refl _ _⟩
   go_upto_region 6 with(fail)
   refine wp_region_held_drew (S:=fun W=>EqS wr W b1 o1 b2 o2 (k*18) Y) kR ⟨HW.out.1,HW.out.2.1,HW.out.2.2.drew⟩ (fun hS=> ?_)
   refine tH 0 hS ?_
   try simp only[yA,yB,yC,Act.put,yD,yE,yF]
   refine tH 1 hS ?_
   try simp only[yA,yB,yC,Act.put,yD,yE,yF]
   refine tH 2 hS ?_
   try simp only[yA,yB,yC,Act.put,yD,yE,yF]
   refine wpAnyH_take (i:=3) rfl kR kR kR (fun _ _ _ h=>h) (z1g (by rfl) 67 (.tmp 18) rfl ⟨b1,o1+k*18,none⟩ rfl Y (fun W hSw=>hSw.1) _ Tryz.underlying67 rfl (by rw[CZ.out];kernel_rfl)) hS ?_
   try simp only[yA,yB,yC,Act.put,yD,yE,yF]
   refine tH 4 hS ?_
   try simp only[yA,yB,yC,Act.put,yD,yE,yF]
   refine tH 5 hS ?_
   try simp only[yA,yB,yC,Act.put,yD,yE,yF]
   refine tH 6 hS ?_
   try simp only[yA,yB,yC,Act.put,yD,yE,yF]
   refine wpAnyH_take (i:=7) rfl kR kR kR (fun _ _ _ h=>h) (z1g (by rfl) 67 (.tmp 22) rfl ⟨b2,o2+k*18,none⟩ rfl Y (fun W hSw=>hSw.2.1) _ Tryz.underlying67 rfl (by rw[CZ.out];kernel_rfl)) hS ?_
   try simp only[yA,yB,yC,Act.put,yD,yE,yF]
   refine tH 8 hS ?_
   try simp only[yA,yB,yC,Act.put,yD,yE,yF]
   refine wpAnyH_done kR ?_ _
   have hbr2:=below_then hbr hS.2.2
   clear hS
   go_wp2
   go_roundw
   case rel=>exact⟨k+1,by omega,by go_num,hbr2⟩
   case measure=>simp[intOf];omega
  ·have hkn':k=xs.length:=by omega
   subst hkn'
   go_wp2
   go_ret
   exact⟨rfl,kL⟩
theorem z6C(v u:Value)(xs:List Wr)(w:World)(h:RowAt w 3 v xs.length (wrC xs))(g:RowAt w 3 u xs.length (wrC xs))(hok:True)(hl:xs.length<=1000000):
  Calls Tryz.prog 42 #[v,u] w fun e w'=>e= .returned (.bool true)/\Below w.heap.size w w':=by
 have HO:=zh hok
 have H0:=zh h
 have G0:=zh g
 obtain⟨a,ca,rfl,h1,h2,-⟩:=h
 obtain⟨b,cb,rfl,g1,g2,-⟩:=g
 have H3:=zh (fun h=>H0.out.at' h)
 have G3:=zh (fun h=>G0.out.at' h)
 clear hok H0 G0
 go_enter Tryz.func42,Tryz.ntmps42
 go_wp2
 go_loopw [13] (fun i wr=>∃k:Nat,k<=xs.length/\i= .int .i64 k/\Below w.heap.size w wr) (fun i _=>(xs.length-intOf i).toNat)
 case atStart=>exact⟨0,by omega,rfl,Below.refl _ _⟩
 case round=>
  obtain⟨k,hk,rfl,hbr⟩:=hrel
  by_cases hkn:k<xs.length
  ·obtain⟨b1,o1,rfl,l1,c1⟩:=H3.out kO
   obtain⟨b2,o2,rfl,l2,c2⟩:=G3.out kO
   have hki:(k:Int)<xs.length:=by omega
   have hx1:∀j u,(wrA (xs.getD k Wr0)).toList[j]? =some u->wr.cell? (Addr.add ⟨b1,o1+k*3,none⟩ j)=some u:=fun j u hj=>by
    rw[Addr.add_lit,Nat.add_assoc]
    exact(hbr.cell (p:=⟨b1,_,none⟩) l1).trans (c1 _ u (z6D xs k hkn j u hj))
   have hx2:∀j u,(wrA (xs.getD k Wr0)).toList[j]? =some u->wr.cell? (Addr.add ⟨b2,o2+k*3,none⟩ j)=some u:=fun j u hj=>by
    rw[Addr.add_lit,Nat.add_assoc]
    exact(hbr.cell (p:=⟨b2,_,none⟩) l2).trans (c2 _ u (z6D xs k hkn j u hj))
   have EX:=fun w=>z0aB (xs.getD k Wr0) w
   have CZ:Hid ((wrA (xs.getD k Wr0)).size=3):=zh rfl
   obtain⟨Y,hY⟩:∃Y,Y=wrA (xs.getD k Wr0):=⟨_,rfl⟩
   rw[<-hY]at hx1 hx2 EX CZ
   have HX1:=zh hx1
   have HX2:=zh hx2
   clear hY hx1 hx2 c1 c2
   have HW:Hid (EqS wr wr b1 o1 b2 o2 (k*3) Y):=zh ⟨HX1.out,HX2.out,Below.refl _ _⟩
   go_upto_region 6 with(fail)
   refine wp_region_held_drew (S:=fun W=>EqS wr W b1 o1 b2 o2 (k*3) Y) kR ⟨HW.out.1,HW.out.2.1,HW.out.2.2.drew⟩ (fun hS=> ?_)
   refine tH 0 hS ?_
   try simp only[yA,yB,yC,Act.put,yD,yE,yF]
   refine tH 1 hS ?_
   try simp only[yA,yB,yC,Act.put,yD,yE,yF]
   refine tH 2 hS ?_
   try simp only[yA,yB,yC,Act.put,yD,yE,yF]
   refine wpAnyH_take (i:=3) rfl kR kR kR (fun _ _ _ h=>h) (z1g (by rfl) 71 (.tmp 18) rfl ⟨b1,o1+k*3,none⟩ rfl Y (fun W hSw=>hSw.1) _ Tryz.underlying71 rfl (by rw[CZ.out];kernel_rfl)) hS ?_
   try simp only[yA,yB,yC,Act.put,yD,yE,yF]
   refine tH 4 hS ?_
   try simp only[yA,yB,yC,Act.put,yD,yE,yF]
   refine tH 5 hS ?_
   try simp only[yA,yB,yC,Act.put,yD,yE,yF]
   refine tH 6 hS ?_
   try simp only[yA,yB,yC,Act.put,yD,yE,yF]
   refine wpAnyH_take (i:=7) rfl kR kR kR (fun _ _ _ h=>h) (z1g (by rfl) 71 (.tmp 22) rfl ⟨b2,o2+k*3,none⟩ rfl Y (fun W hSw=>hSw.2.1) _ Tryz.underlying71 rfl (by rw[CZ.out];kernel_rfl)) hS ?_
   try simp only[yA,yB,yC,Act.put,yD,yE,yF]
   refine tH 8 hS ?_
   try simp only[yA,yB,yC,Act.put,yD,yE,yF]
   refine wpAnyH_done kR ?_ _
   have hbr2:=below_then hbr hS.2.2
   clear hS
   go_wp2
   go_roundw
   case rel=>exact⟨k+1,by omega,by go_num,hbr2⟩
   case measure=>simp[intOf];omega
  ·have hkn':k=xs.length:=by omega
   subst hkn'
   go_wp2
   go_ret
   exact⟨rfl,kL⟩
structure ShAt(w:World)(lv sv wv:Value)(ls:List Ln)(ss:List Int)(ws:List Wr):Prop where
 l:RowAt w 18 lv ls.length (lnsC ls)
 s:SliceAt w .u8 sv ss
 w:RowAt w 3 wv ws.length (wrC ws)
theorem ShAt.below{w w':World}{lv sv wv:Value}{ls:List Ln}{ss:List Int}{ws:List Wr}(h:ShAt w lv sv wv ls ss ws)(hb:Below w.heap.size w w'):ShAt w' lv sv wv ls ss ws:=⟨h.l.below hb,h.s.below hb,h.w.below hb⟩
theorem z1t(l1 s1 w1 l2 s2 w2:Value)(ls:List Ln)(ss:List Int)(ws:List Wr)(w:World)(h:ShAt w l1 s1 w1 ls ss ws)(g:ShAt w l2 s2 w2 ls ss ws)(ok:∀x∈ls,x.Ok)(hl:ls.length<=1000000)(hw:ws.length<=1000000):
  Calls Tryz.prog 15 #[.agg #[l1,s1,w1],.agg #[l2,s2,w2]] w fun e w'=>e= .returned (.bool true)/\Below w.heap.size w w':=by
 have EL:=zh (fun W (k:Below w.heap.size w W)=>z7A l1 l2 ls W (h.l.below k) (g.l.below k) ok hl)
 have ES:=zh (fun W (k:Below w.heap.size w W)=>z0C s1 s2 ss ss W (h.s.below k) (g.s.below k))
 rw[decide_eq_true rfl]at ES
 have EW:=zh (fun W (k:Below w.heap.size w W)=>z6C w1 w2 ws W (h.w.below k) (g.w.below k) trivial hw)
 obtain⟨a1,c1,rfl,-⟩:=id h.l
 obtain⟨a2,c2,rfl,-⟩:=id g.l
 obtain⟨b1,d1,rfl,-⟩:=id h.s
 obtain⟨b2,d2,rfl,-⟩:=id g.s
 obtain⟨e1,f1,rfl,-⟩:=id h.w
 obtain⟨e2,f2,rfl,-⟩:=id g.w
 clear h g ok hl hw
 generalize ls.length=nl at*
 generalize ss.length=ns at*
 generalize ws.length=nw at*
 go_enter Tryz.func15,Tryz.ntmps15
 go_wp2_with fail
 refine(EL.out _ kL).mono ?_
 rintro e W1 ⟨rfl,hb1⟩
 have K1:=zh (show Blk W1 w.heap.size #[.slice a1 nl c1,.slice b1 ns d1,.slice e1 nw f1] 46 from kB)
 have K2:=zh (show Blk W1 (w.heap.size+1) #[.slice a2 nl c2,.slice b2 ns d2,.slice e2 nw f2] 46 from kB)
 have B1:Below w.heap.size w W1:=kL
 have x1:W1.cell? ⟨w.heap.size,1,none⟩=some (.slice b1 ns d1):=K1.out.cell 1
 have y1:W1.cell? ⟨w.heap.size+1,1,none⟩=some (.slice b2 ns d2):=K2.out.cell 1
 have x2:W1.cell? ⟨w.heap.size,2,none⟩=some (.slice e1 nw f1):=K1.out.cell 2
 have y2:W1.cell? ⟨w.heap.size+1,2,none⟩=some (.slice e2 nw f2):=K2.out.cell 2
 have z1:=K1.out.lt
 have z2:=K2.out.lt
 clear hb1 EL
 go_wp2_with fail
 refine(ES.out _ B1).mono ?_
 rintro e W2 ⟨rfl,rfl⟩
 go_wp2_with fail
 refine(EW.out _ B1).mono ?_
 rintro e W3 ⟨rfl,hb3⟩
 go_wp2
 go_ret
 exact⟨rfl,below_then B1 hb3⟩
end Go.Proofs.YtkoocfcnfolkhaaGreatDoor
