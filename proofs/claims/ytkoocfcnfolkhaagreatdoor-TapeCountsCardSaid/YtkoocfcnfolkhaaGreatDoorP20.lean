/- A line of a picture. Conditions: a memory of 256 bytes, a line of 0 to 7. -/
import Derived.Test.YtkoocfcnfolkhaaGreatDoorSq
import Derived.Test.YtkoocfcnfolkhaaGreatDoorSh
import Derived.Test.YtkoocfcnfolkhaaGreatDoorRows
import Derived.Test.YtkoocfcnfolkhaaGreatDoorPicOn
import Derived.Lib.ItoaNum
import Derived.Lib.AtoiAll
import Derived.Lib.Split
import Derived.Lib.IndexMore
import Derived.KernelRfl
set_option linter.unusedVariables false
set_option linter.unusedSimpArgs false
set_option maxHeartbeats 1000000
set_option maxRecDepth 100000
namespace Go.Mq
def pixL(xs:List Int)(x b d:Int):List Sp->Int
 |[]=>b
 |s::r=>if x-s.x<0\/3<x-s.x then pixL xs x b d r else
   if dotV xs s.tile (if s.how%2=1 then 3-(x-s.x)else x-s.x) s.row=0 then pixL xs x b d r else
   if s.how/128%2=0\/d=0 then bt xs (164+dotV xs s.tile (if s.how%2=1 then 3-(x-s.x)else x-s.x) s.row)else b
def lineV(xs:List Int)(y x:Int):Int:=pixL xs x (bt xs (160+gndV xs x y)) (gndV xs x y) (onF xs y 8)
def lnL(xs:List Int)(y:Int)(k:Nat):List Int:=(List.range 16).map fun j=>if j<k then lineV xs y j else 0
def lnC(xs:List Int)(y:Int)(k:Nat):Array Go.Value:=((lnL xs y k).map (Go.Value.int .u8)).toArray
theorem z2f(xs:List Int)(y:Int)(k:Nat):(lnC xs y k).size=16:=by simp[lnC,lnL]
theorem z0aw(xs:List Int)(y:Int)(k:Nat)(h:k<16):(lnC xs y k)[k]? =some (.int .u8 0):=by
 simp[lnC,lnL,h]
theorem z1q(xs:List Int)(y:Int)(k:Nat)(h:k<16):(lnC xs y k).setIfInBounds k (.int .u8 (lineV xs y k))=lnC xs y (k+1):=by
 apply Array.ext
 ·simp[lnC,lnL]
 ·intro i h1 h2
  simp[lnC,lnL]at h1 h2
  rw[Array.getElem_setIfInBounds (by simpa [lnC,lnL]using h2)]
  by_cases hi:k=i
  ·subst hi
   simp[lnC,lnL]
  ·rw[if_neg hi]
   simp only[lnC,lnL,List.getElem_toArray,List.getElem_map,List.getElem_range]
   by_cases hk:i<k
   ·rw[if_pos hk,if_pos kO]
   ·rw[if_neg hk,if_neg kO]
theorem z6y(xs:List Int)(t x y:Int):0<=dotV xs t x y/\dotV xs t x y<=3:=by unfold dotV;omega
theorem z9p(L:List Sp)(hl:L.length<=2)(j:Nat)(hj:j<L.length)(q:Nat)(hq:q<5):(L.flatMap spC)[j*5+q]? =(spC (L[j]'hj))[q]? :=by
 match L,hl,hj with
 |[a],_,hj=>
  obtain rfl:j=0:=by simpa using hj
  simp[spC]
 |[a,b],_,hj=>
  rcases(by simp at hj;omega:j=0\/j=1)with rfl|rfl
  ·have:(spC a++(spC b++[]))[q]? =(spC a)[q]? :=List.getElem?_append_left (by simpa [spC]using hq)
   simpa [List.flatMap_cons]using this
  ·have:(spC a++(spC b++[]))[5+q]? =(spC b++[])[q]? :=by rw[List.getElem?_append_right (by simp[spC])];simp[spC]
   simpa [List.flatMap_cons]using this
theorem z6Y{w:Go.World}{base:Nat}{v:Go.Value}{e:Go.TypeId}{L:List Sp}(h:w.ownsRow base e 5 v L.length (L.flatMap spC))(hl:L.length<=2):
  ∃a cap,v= .slice a L.length cap/\∀j:Nat,j<L.length->∃g s,a=some ⟨g,0,none⟩/\base<=g/\g<w.heap.size/\L.drop j=s::L.drop (j+1)/\s∈L/\
   ∀q:Nat,q<5->w.cell? ⟨g,j*5+q,none⟩=(spC s)[q]? :=by
 obtain⟨h0,h|h⟩:=h
 ·obtain⟨rfl,hn⟩:=h
  exact⟨none,0,by rw[hn],fun j hj=>by omega⟩
 ·obtain⟨g,cap,cur,rfl,hb,hc,hn,hm,hs,ht⟩:=h
  clear hm hs
  refine⟨some ⟨g,0,none⟩,cap,rfl,?_⟩
  intro j hj
  have hg:g<w.heap.size:=(Array.getElem?_eq_some_iff.1 hc).1
  have hd:L.drop j=L[j]'hj::L.drop (j+1):=List.drop_eq_getElem_cons hj
  refine⟨g,L[j]'hj,rfl,hb,hg,hd,List.getElem_mem hj,?_⟩
  intro q hq
  have e1:w.cell? ⟨g,j*5+q,none⟩=cur[j*5+q]? :=by simp[Go.World.cell?,hc]
  have e2:cur[j*5+q]? =cur.toList[j*5+q]? :=by simp
  have e3:cur.toList[j*5+q]? =(cur.toList.take (L.length*5))[j*5+q]? :=(List.getElem?_take_of_lt kO).symm
  rw[e1,e2,e3,ht]
  exact z9p L hl j hj q hq
end Go.Mq
namespace Go.Proofs.YtkoocfcnfolkhaaGreatDoor
open Go.RowKit Go.Mq
theorem z8p(xs:List Int)(hx:∀x∈xs,U8 x)(y:Int):∀(k:Nat),k<=8->∀s∈onF xs y k,0<=s.tile/\s.tile<=15/\0<=s.row/\s.row<=3/\0<=s.x/\s.x<=255/\0<=s.how/\s.how<=255/\0<=s.at'/\s.at'<=7
 |0,_=>by simp[onF]
 |k+1,hk=>by
  have ih:=z8p xs hx y k kO
  unfold onF
  split
  ·exact ih
  ·rename_i hn
   intro s hs
   rcases List.mem_append.1 hs with h|h
   ·exact ih s h
   ·have:s=spK xs y k:=by simpa using h
    subst this
    have b1:=bt_in xs hx (128+4*k+1)
    have b2:=bt_in xs hx (128+4*k+2)
    have b3:=bt_in xs hx (128+4*k+3)
    unfold spK
    simp only
    refine⟨by omega,by omega,?_,?_,b1.1,b1.2,b3.1,b3.2,by omega,by omega⟩
    ·split<;>omega
    ·split<;>omega
def SP(w:World)(B:Nat)(a:Option Addr)(L:List Sp):Prop:=
 ∀j:Nat,j<L.length->∃g s,a=some ⟨g,0,none⟩/\B<=g/\g<w.heap.size/\L.drop j=s::L.drop (j+1)/\s∈L/\∀q:Nat,q<5->w.cell? ⟨g,j*5+q,none⟩=(spC s)[q]?
theorem SP.below{w w':World}{B:Nat}{a:Option Addr}{L:List Sp}(h:SP w B a L)(hb:Below w.heap.size w w'):SP w' B a L:=by
 intro j hj
 obtain⟨g,s,ha,hB,hg,hd,hm,hc⟩:=h j hj
 exact⟨g,s,ha,hB,Nat.lt_of_lt_of_le hg hb.size,hd,hm,fun q hq=>by rw[hb.cell (p:=⟨g,j*5+q,none⟩) hg];exact hc q hq⟩
theorem SP.set{w:World}{B b o:Nat}{v:Value}{a:Option Addr}{L:List Sp}(h:SP w B a L)(hb:b<B):SP (w.setCell ⟨b,o,none⟩ v) B a L:=by
 intro j hj
 obtain⟨g,s,ha,hB,hg,hd,hm,hc⟩:=h j hj
 exact⟨g,s,ha,hB,by simpa using hg,hd,hm,fun q hq=>by rw[World.cell?_setCell_other _ _ _ _ (by intro e;injection e with e1 e2;omega)];exact hc q hq⟩
theorem and1'(n:Int)(h:U8 n):bits .and .u8 n 1=n%2:=by
 have:=bits_mask .u8 8 kD (fun n h h'=>by rw[wrap8];omega) 1 kO n h.1 (by unfold U8 at h;omega)
 simpa using this
theorem z0aU(n:Int)(h:U8 n):bits .and .u8 n 128=n/128%2*128:=by
 unfold U8 at h
 rw[show n=((n.toNat:Nat):Int)from by omega,show(128:Int)=((128:Nat):Int)from rfl,u8_and_nat _ _ kO kO,show(128:Nat)=2^7 from rfl,nat_bit]
 simp
theorem z5U(xs:List Int)(v:Value)(y:Int)(w:World)(h:Vid w v xs)(y0:0<=y)(y1:y<=7):
  Calls Tryz.prog 62 #[v,.int .i64 y] w fun e w'=>e= .returned (.tuple #[.agg (lnC xs y 16),.int .i64 0])/\Below w.heap.size w w':=by
 have HV:=zh h
 have U:=zh h.2.2
 obtain⟨b,off,cap,rfl,hc1,hc2,hb,hc⟩:=Vid.open' h
 have H:=zh (And.intro hb hc)
 clear h hb hc hc1 hc2
 go_enter Tryz.func62,Tryz.ntmps62
 go_wp2_with fail
 refine(z0al xs _ y _ (HV.out.below (show Below w.heap.size w (w.alloc _)from kL)) y0 y1).mono ?_
 rintro e w1 ⟨u,rfl,ho,hb1⟩
 obtain⟨a,cp,rfl,hs⟩:=z6Y ho (z3i xs y 8)
 have hS:Hid (SP w1 (w.heap.size+1) a (onF xs y 8)):=zh (by simpa [SP]using hs)
 have hL2:=z3i xs y 8
 have hin:=zh (z8p xs U.out y 8 kO)
 have hB1:Hid (Blk w1 w.heap.size (lnC xs y 0) 65):=zh (Blk.below (Blk.new _ _ _) hb1)
 have hb1':Below w.heap.size w w1:=kL
 clear ho hs hb1
 obtain⟨L,hLn⟩:∃L,L=onF xs y 8:=⟨_,rfl⟩
 rw[<-hLn]at hS hL2 hin
 have HLn:=zh hLn
 rw[<-hLn]
 clear hLn
 go_wp2
 go_loopw [27] (fun i wr=>∃k:Nat,k<=16/\i= .int .i64 k/\Below w.heap.size w wr/\Hid (Blk wr w.heap.size (lnC xs y k) 65)/\Hid (SP wr (w.heap.size+1) a L)) (fun i _=>(16-intOf i).toNat)
 case atStart=>exact⟨0,by omega,rfl,hb1',hB1,hS⟩
 case round=>
  clear hB1 hS hb1'
  obtain⟨k,hk,rfl,hbr,KB,KS⟩:=hrel
  by_cases hk16:k<16
  ·have hg:=zh (fun w' (h:Vid w' (.slice (some ⟨b,off,none⟩) 256 cap) xs)=>z5k xs _ (k:Int) y w' h kO kO y0 y1)
   have hP:lineV xs y k=pixL xs k (bt xs (160+gndV xs k y)) (gndV xs k y) L:=by rw[HLn.out];rfl
   have hd:=z6y xs (gndT xs k y) (gndX xs k%4) (gndY xs y%4)
   rw[show dotV xs (gndT xs k y) (gndX xs k%4) (gndY xs y%4)=gndV xs k y from rfl]at hd
   generalize gndV xs k y=d at*
   obtain⟨K1,hK1⟩:∃K:Nat,160+d=K:=⟨(160+d).toNat,by omega⟩
   have hz:=bt_in xs U.out K1
   rw[hK1]at hP
   have hki:(k:Int)<16:=by omega
   have W1:wrap64 d=d:=by unfold wrap64;omega
   have W2:wrap64 (160+d)=(K1:Int):=by unfold wrap64;omega
   have hK1i:(K1:Int)<256:=by omega
   go_wp2_with fail
   refine(hg.out _ (HV.out.below hbr)).mono ?_
   rintro e w2 ⟨rfl,hb2⟩
   have hbr2:Below w.heap.size w w2:=kL
   have KB2:=zh (KB.out.below hb2)
   have KS2:=zh (KS.out.below hb2)
   have cz:=(hbr2.cell (p:=⟨b,off+K1,none⟩) H.out.1).trans (H.out.2 K1 kO)
   generalize bt xs K1=z at*
   obtain⟨lB,cB,fB⟩:=KB2.out.use
   have cK:w2.cell? ⟨w.heap.size,k,none⟩=some (.int .u8 0):=by rw[cB,z0aw _ _ _ hk16]
   clear cB KB KS hb2 hg hbr
   go_wp2_with fail
   refine z0g (R:=fun W=>Below w.heap.size w W/\Hid (Blk W w.heap.size ((lnC xs y k).setIfInBounds k (.int .u8 z)) 65)/\Hid (SP W (w.heap.size+1) a L)) ⟨kL,zh (Blk.set KB2.out rfl),zh (SP.set KS2.out kO)⟩ ?_
   intro w3 ⟨hb3,KB3,KS3⟩
   clear KB2 KS2 cz cK fB lB hbr2
   have hin':=hin.out
   have HIN:=zh hin'
   clear hin hin'
   have HP:=zh hP
   clear hP
   go_loopw [44] (fun i wr=>∃j:Nat,j<=L.length/\i= .int .i64 j/\Below w.heap.size w wr/\Hid (Blk wr w.heap.size ((lnC xs y k).setIfInBounds k (.int .u8 z)) 65)/\Hid (SP wr (w.heap.size+1) a L)/\Hid (pixL xs k z d (L.drop j)=lineV xs y k)) (fun i _=>(L.length-intOf i).toNat)
   case atStart=>exact⟨0,by omega,rfl,hb3,KB3,KS3,zh (by rw[List.drop_zero];exact HP.out.symm)⟩
   case round=>
    clear hb3 KB3 KS3 HP
    obtain⟨j,hj,rfl,hbr,KB,KS,HX⟩:=hrel
    by_cases hjl:j<L.length
    ·obtain⟨g,q,rfl,hg1,hg2,hdr,hm,hcl⟩:=KS.out j hjl
     obtain⟨s1,s2,s3,s4,s5,s6,s7,s8,s9,s10⟩:=HIN.out q hm
     have c0:=hcl 0 kO
     have c1:=hcl 1 kO
     have c2:=hcl 2 kO
     have c3:=hcl 3 kO
     have c4:=hcl 4 kO
     have hx:=HX.out
     rw[hdr]at hx
     clear hdr hm hcl HX
     obtain⟨qa,qx,qt,qr,qh⟩:=q
     simp only[spC,List.getElem?_cons_zero,List.getElem?_cons_succ,Nat.add_zero]at c0 c1 c2 c3 c4
     simp only at s1 s2 s3 s4 s5 s6 s7 s8 s9 s10
     have hji:(j:Int)<L.length:=by omega
     have W3:wrap64 ((k:Int)-qx)=k-qx:=by unfold wrap64;omega
     have W4:wrap64 (3-((k:Int)-qx))=3-(k-qx):=by unfold wrap64;omega
     have hdot:=zh (fun w' (h:Vid w' (.slice (some ⟨b,off,none⟩) 256 cap) xs) (x:Int) (x0:0<=x) (x1:x<=3)=>z6x xs _ qt x qr w' h s1 s2 x0 x1 s3 s4)
     have m1:bits .and .u8 qh 1=qh%2:=and1' qh ⟨s7,s8⟩
     have m7:bits .and .u8 qh 128=qh/128%2*128:=z0aU qh ⟨s7,s8⟩
     obtain⟨lB,cB,fB⟩:=KB.out.use
     rw[pixL]at hx
     simp only at hx
     by_cases hA:(k:Int)-qx<0
     ·rw[if_pos (Or.inl hA)]at hx
      have HE:=zh hx
      clear hx cB fB m1 m7 W4 hdot
      go_wp2
      go_roundw
      case rel=>exact⟨j+1,by omega,by go_num,kL,zh kB,zh (KS.out.below kL),HE⟩
      case measure=>simp[intOf];omega
     ·by_cases hB:3<(k:Int)-qx
      ·rw[if_pos (Or.inr hB)]at hx
       have HE:=zh hx
       clear hx cB fB m1 m7 W4 hdot
       go_wp2
       go_roundw
       case rel=>exact⟨j+1,by omega,by go_num,kL,zh kB,zh (KS.out.below kL),HE⟩
       case measure=>simp[intOf];omega
      ·rw[if_neg kO]at hx
       obtain⟨R,eR⟩:∃R:Int,R=if qh%2=1 then 3-((k:Int)-qx)else k-qx:=⟨_,rfl⟩
       rw[<-eR]at hx
       have hR:0<=R/\R<=3:=by rw[eR];split<;>omega
       have hc:=z6y xs qt R qr
       have hcall:=zh (fun w' h=>hdot.out w' h R hR.1 hR.2)
       clear hdot
       generalize dotV xs qt R qr=cc at*
       obtain⟨K2,hK2⟩:∃K:Nat,164+cc=K:=⟨(164+cc).toNat,by omega⟩
       rw[hK2]at hx
       have V1:wrap64 cc=cc:=by unfold wrap64;omega
       have V2:wrap64 (164+cc)=(K2:Int):=by unfold wrap64;omega
       have hK2i:(K2:Int)<256:=by omega
       have hz2:=bt_in xs U.out K2
       have HX2:=zh hx
       have HK2:=zh (H.out.2 K2 kO)
       generalize bt xs K2=z2 at*
       clear hx
       have cK:wr.cell? ⟨w.heap.size,k,none⟩=some (.int .u8 z):=by rw[cB];simp[z2f,hk16]
       clear cB
       by_cases hF:qh%2=1
       ·rw[if_pos hF]at eR
        rw[hF]at m1
        subst eR
        go_wp2_with fail
        refine(hcall.out _ ((HV.out.below hbr).below (show Below wr.heap.size wr (wr.alloc _)from kL))).mono ?_
        rintro e w5 ⟨rfl,hb5⟩
        have hbr5:Below w.heap.size w w5:=kL
        have KB5:Hid (Blk w5 w.heap.size ((lnC xs y k).setIfInBounds k (.int .u8 z)) 65):=zh ((KB.out.alloc _).below hb5)
        have KS5:Hid (SP w5 (w.heap.size+1) (some ⟨g,0,none⟩) L):=zh ((KS.out.below (show Below wr.heap.size wr (wr.alloc _)from kL)).below hb5)
        have KQ5:Hid (Blk w5 wr.heap.size #[.int .i64 qa,.int .i64 qx,.int .i64 qt,.int .i64 qr,.int .u8 qh] 196):=zh ((Blk.new _ _ _).below hb5)
        obtain⟨lB5,cB5,fB5⟩:=KB5.out.use
        obtain⟨lQ5,cQ5,fQ5⟩:=KQ5.out.use
        have cK5:w5.cell? ⟨w.heap.size,k,none⟩=some (.int .u8 z):=by rw[cB5];simp[z2f,hk16]
        have cz2:=(hbr5.cell (p:=⟨b,off+K2,none⟩) H.out.1).trans HK2.out
        clear cB5 cK KB KS lB fB hb5 hbr
        have hx2:=HX2.out
        clear HX2 HK2
        by_cases h0:cc=0
        ·rw[if_pos h0]at hx2
         have HE:=zh hx2
         clear hx2
         subst h0
         go_wp2
         go_roundw
         case rel=>exact⟨j+1,by omega,by go_num,hbr5,KB5,KS5,HE⟩
         case measure=>simp[intOf];omega
        ·rw[if_neg h0]at hx2
         have h0':(cc==0)=false:=by simpa using h0
         by_cases hq:qh/128%2=0
         ·rw[if_pos (Or.inl hq)]at hx2
          rw[hq,Int.zero_mul]at m7
          have E:((lnC xs y k).setIfInBounds k (.int .u8 z)).setIfInBounds k (.int .u8 z2)=lnC xs y (k+1):=by rw[Array.setIfInBounds_setIfInBounds,<-z1q xs y k hk16,<-hx2]
          have HE:=zh E
          clear E hx2 hq
          go_wp2
          go_roundw
          case rel=>exact⟨k+1,by omega,by go_num,kL,zh (Blk.set KB5.out HE.out),zh (SP.set KS5.out kO)⟩
          case measure=>simp[intOf];omega
         ·rw[show qh/128%2=1 by omega,show(1:Int)*128=128 from rfl]at m7
          by_cases hd0:d=0
          ·rw[if_pos (Or.inr hd0)]at hx2
           have E:((lnC xs y k).setIfInBounds k (.int .u8 z)).setIfInBounds k (.int .u8 z2)=lnC xs y (k+1):=by rw[Array.setIfInBounds_setIfInBounds,<-z1q xs y k hk16,<-hx2]
           have HE:=zh E
           have hd0':(d==0)=true:=by simpa using hd0
           clear E hx2 hq hd0
           go_wp2
           go_roundw
           case rel=>exact⟨k+1,by omega,by go_num,kL,zh (Blk.set KB5.out HE.out),zh (SP.set KS5.out kO)⟩
           case measure=>simp[intOf];omega
          ·rw[if_neg (by rintro(q|q);exact hq q;exact hd0 q)]at hx2
           have E:(lnC xs y k).setIfInBounds k (.int .u8 z)=lnC xs y (k+1):=by rw[<-z1q xs y k hk16,<-hx2]
           have HE:=zh E
           have hd0':(d==0)=false:=by simpa using hd0
           clear E hx2 hq hd0
           go_wp2
           go_roundw
           case rel=>exact⟨k+1,by omega,by go_num,hbr5,zh (by rw[<-HE.out];exact KB5.out),KS5⟩
           case measure=>simp[intOf];omega
       ·rw[if_neg hF]at eR
        rw[show qh%2=0 by omega]at m1
        subst eR
        go_wp2_with fail
        refine(hcall.out _ ((HV.out.below hbr).below (show Below wr.heap.size wr (wr.alloc _)from kL))).mono ?_
        rintro e w5 ⟨rfl,hb5⟩
        have hbr5:Below w.heap.size w w5:=kL
        have KB5:Hid (Blk w5 w.heap.size ((lnC xs y k).setIfInBounds k (.int .u8 z)) 65):=zh ((KB.out.alloc _).below hb5)
        have KS5:Hid (SP w5 (w.heap.size+1) (some ⟨g,0,none⟩) L):=zh ((KS.out.below (show Below wr.heap.size wr (wr.alloc _)from kL)).below hb5)
        have KQ5:Hid (Blk w5 wr.heap.size #[.int .i64 qa,.int .i64 qx,.int .i64 qt,.int .i64 qr,.int .u8 qh] 196):=zh ((Blk.new _ _ _).below hb5)
        obtain⟨lB5,cB5,fB5⟩:=KB5.out.use
        obtain⟨lQ5,cQ5,fQ5⟩:=KQ5.out.use
        have cK5:w5.cell? ⟨w.heap.size,k,none⟩=some (.int .u8 z):=by rw[cB5];simp[z2f,hk16]
        have cz2:=(hbr5.cell (p:=⟨b,off+K2,none⟩) H.out.1).trans HK2.out
        clear cB5 cK KB KS lB fB hb5 hbr
        have hx2:=HX2.out
        clear HX2 HK2
        by_cases h0:cc=0
        ·rw[if_pos h0]at hx2
         have HE:=zh hx2
         clear hx2
         subst h0
         go_wp2
         go_roundw
         case rel=>exact⟨j+1,by omega,by go_num,hbr5,KB5,KS5,HE⟩
         case measure=>simp[intOf];omega
        ·rw[if_neg h0]at hx2
         have h0':(cc==0)=false:=by simpa using h0
         by_cases hq:qh/128%2=0
         ·rw[if_pos (Or.inl hq)]at hx2
          rw[hq,Int.zero_mul]at m7
          have E:((lnC xs y k).setIfInBounds k (.int .u8 z)).setIfInBounds k (.int .u8 z2)=lnC xs y (k+1):=by rw[Array.setIfInBounds_setIfInBounds,<-z1q xs y k hk16,<-hx2]
          have HE:=zh E
          clear E hx2 hq
          go_wp2
          go_roundw
          case rel=>exact⟨k+1,by omega,by go_num,kL,zh (Blk.set KB5.out HE.out),zh (SP.set KS5.out kO)⟩
          case measure=>simp[intOf];omega
         ·rw[show qh/128%2=1 by omega,show(1:Int)*128=128 from rfl]at m7
          by_cases hd0:d=0
          ·rw[if_pos (Or.inr hd0)]at hx2
           have E:((lnC xs y k).setIfInBounds k (.int .u8 z)).setIfInBounds k (.int .u8 z2)=lnC xs y (k+1):=by rw[Array.setIfInBounds_setIfInBounds,<-z1q xs y k hk16,<-hx2]
           have HE:=zh E
           have hd0':(d==0)=true:=by simpa using hd0
           clear E hx2 hq hd0
           go_wp2
           go_roundw
           case rel=>exact⟨k+1,by omega,by go_num,kL,zh (Blk.set KB5.out HE.out),zh (SP.set KS5.out kO)⟩
           case measure=>simp[intOf];omega
          ·rw[if_neg (by rintro(q|q);exact hq q;exact hd0 q)]at hx2
           have E:(lnC xs y k).setIfInBounds k (.int .u8 z)=lnC xs y (k+1):=by rw[<-z1q xs y k hk16,<-hx2]
           have HE:=zh E
           have hd0':(d==0)=false:=by simpa using hd0
           clear E hx2 hq hd0
           go_wp2
           go_roundw
           case rel=>exact⟨k+1,by omega,by go_num,hbr5,zh (by rw[<-HE.out];exact KB5.out),KS5⟩
           case measure=>simp[intOf];omega
    ·have hj':j=L.length:=by omega
     subst hj'
     have hx:=HX.out
     rw[List.drop_length]at hx
     have E:(lnC xs y k).setIfInBounds k (.int .u8 z)=lnC xs y (k+1):=by rw[<-z1q xs y k hk16,<-hx];rfl
     have HE:=zh E
     clear E hx HX
     go_wp2
     go_roundw
     case rel=>exact⟨k+1,by omega,by go_num,hbr,zh (by rw[<-HE.out];exact KB.out),KS⟩
     case measure=>simp[intOf];omega
  ·have hk':k=16:=by omega
   subst hk'
   have hsz:=z2f xs y 16
   have hone:(lnC xs y 16).all (·.oneCell')=true:=by simp[lnC,Value.oneCell']
   have HO:=zh hone
   clear hone
   obtain⟨Z,hZ⟩:∃Z,Z=lnC xs y 16:=⟨_,rfl⟩
   rw[<-hZ]at HO hsz KB
   have HZ:=zh hZ
   clear hZ
   go_wp2_with (first
    |(refine z0P rfl 65 (.tmp 4) rfl (w.heap.size) rfl 65 Z KB.out _ Tryz.underlying65 rfl (by rw[hsz];kernel_rfl) ?_)
    |(refine z0j rfl 65 (.tmp 4) (.tmp 91) rfl (w.heap.size) Z rfl rfl 65 _ KB.out (by rw[hsz];kernel_rfl) rfl HO.out ?_;intro w7 hp7 K7)
    |fail)
   exact bodyPost_ret (z0k Tryz.results62 _ _ (w.heap.size) 65 Z _ rfl K7.out Tryz.underlying65 rfl (by rw[hsz];kernel_rfl)) rfl ⟨by rw[HZ.out];rfl,below_put hbr hp7 (Nat.le_refl _)⟩
end Go.Proofs.YtkoocfcnfolkhaaGreatDoor
namespace Go.Mq
open Go
structure Inp where
 ck:Int
 pd:Int
 dn:Int
def chkFrom:Int->List Inp->Int
 |_,[]=>0
 |last,x::t=>if x.ck<last\/400000<x.ck then 3 else if x.pd≠0/\x.pd≠1 then 5 else chkFrom x.ck t
def chkI(l:List Inp)(from':Int):Int:=if 40<l.length then 2 else chkFrom from' l
def letB:List UInt8:=[117,100,108,114,97,98,115,116]
def btn(n:Nat):List UInt8:=(List.range 8).map fun k=>if n/2^(7-k)%2=1 then letB.getD k 0 else 46
def ofGo:List UInt8->Nat->List UInt8->Option Nat
 |[],a,[]=>some a
 |c::cs,a,x::xs=>if x=c then ofGo cs (2*a+1) xs else if x=46 then ofGo cs (2*a) xs else none
 |_,_,_=>none
def ofBtn(l:List UInt8):Option Nat:=ofGo letB 0 l
def txt(bs:List Bool)(cs:List UInt8):List UInt8:=List.zipWith (fun b c=>if b then c else 46) bs cs
def num(bs:List Bool)(a:Nat):Nat:=bs.foldl (fun a b=>2*a+if b then 1 else 0) a
theorem z2v:∀(cs:List UInt8) (a:Nat) (l:List UInt8) (n:Nat),ofGo cs a l=some n->∃bs:List Bool,bs.length=cs.length/\l=txt bs cs/\n=num bs a
 |[],a,[],n,h=>by
  simp only[ofGo,Option.some.injEq]at h
  exact⟨[],rfl,rfl,h.symm⟩
 |[],_,_::_,_,h=>by simp[ofGo]at h
 |_::_,_,[],_,h=>by simp[ofGo]at h
 |c::cs,a,x::xs,n,h=>by
  unfold ofGo at h
  by_cases h1:x=c
  ·rw[if_pos h1]at h
   obtain⟨bs,e1,e2,e3⟩:=z2v cs _ xs n h
   exact⟨true::bs,by simp[e1],by simp[txt,h1,e2],by simp[num,e3]⟩
  ·rw[if_neg h1]at h
   by_cases h2:x=46
   ·rw[if_pos h2]at h
    obtain⟨bs,e1,e2,e3⟩:=z2v cs _ xs n h
    exact⟨false::bs,by simp[e1],by simp[txt,h2,e2],by simp[num,e3]⟩
   ·rw[if_neg h2]at h;cases h
theorem z9J:∀b0 b1 b2 b3 b4 b5 b6 b7:Bool,num [b0,b1,b2,b3,b4,b5,b6,b7] 0<256/\btn (num [b0,b1,b2,b3,b4,b5,b6,b7] 0)=txt [b0,b1,b2,b3,b4,b5,b6,b7] letB:=by decide+kernel
theorem z0aK{l:List UInt8}{n:Nat}(h:ofBtn l=some n):n<256/\btn n=l:=by
 obtain⟨bs,h1,h2,h3⟩:=z2v _ _ _ _ h
 match bs,h1 with
 |[b0,b1,b2,b3,b4,b5,b6,b7],_=>
  have:=z9J b0 b1 b2 b3 b4 b5 b6 b7
  subst h3
  exact⟨this.1,by rw[h2];exact this.2⟩
def sepBy (c:UInt8):List UInt8->List (List UInt8)
 |[]=>[[]]
 |x::t=>if x=c then []::sepBy c t else match sepBy c t with
  |[]=>[[x]]
  |y::r=>(x::y)::r
theorem z3b(c:UInt8)(l:List UInt8):sepBy c l≠[]:=by
 cases l with
 |nil=>simp[sepBy]
 |cons x t=>
  unfold sepBy
  split
  ·simp
  ·split<;>simp
theorem z1I(c:UInt8):∀l:List UInt8,c∉l->sepBy c l=[l]
 |[],_=>rfl
 |x::t,h=>by
  have h1:¬x=c:=fun e=>h (by simp[e])
  have h2:c∉t:=fun e=>h (by simp[e])
  rw[sepBy,if_neg h1,z1I c t h2]
theorem z1w(c:UInt8):∀(l r:List UInt8),c∉l->sepBy c (l++c::r)=l::sepBy c r
 |[],r,_=>by rw[List.nil_append,sepBy,if_pos rfl]
 |x::t,r,h=>by
  have h1:¬x=c:=fun e=>h (by simp[e])
  have h2:c∉t:=fun e=>h (by simp[e])
  rw[List.cons_append,sepBy,if_neg h1,z1w c t r h2]
def wholeZ(l:List UInt8):Option Int:=match Lib.atoiAll l with
 | .ok v=>if Lib.itoa v=l then some v else none
 |_=>none
def item(l:List UInt8):Option Inp:=match sepBy 32 l with
 |[a,b,c]=>match wholeZ a,wholeZ b,ofBtn c with
  |some k,some p,some d=>some ⟨k,p,d⟩
  |_,_,_=>none
 |_=>none
def parseGo:Nat->List Inp->List (List UInt8)->Sum Nat (List Inp)
 |i,_,[]=> .inl i
 |i,acc,[t]=>if t=[]then .inr acc else .inl i
 |i,acc,t::u::r=>match item t with
  |none=> .inl i
  |some x=>parseGo (i+1) (acc++[x]) (u::r)
def parseV(s:List UInt8):Sum Nat (List Inp):=parseGo 0 [] (sepBy 10 s)
def lineP(x:Inp):List UInt8:=Lib.itoa x.ck++[32]++Lib.itoa x.pd++[32]++btn x.dn.toNat++[10]
def printP(l:List Inp):List UInt8:=l.flatMap lineP
end Go.Mq
