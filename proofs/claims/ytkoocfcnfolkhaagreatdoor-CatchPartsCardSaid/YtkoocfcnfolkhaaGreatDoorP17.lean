/- The picture's dots: a tile's, the ground's. Conditions: a memory of 256 bytes. -/
import Derived.Test.YtkoocfcnfolkhaaGreatDoorSq
import Derived.Test.YtkoocfcnfolkhaaGreatDoorSh
import Derived.Test.YtkoocfcnfolkhaaGreatDoorRows
import Derived.Test.YtkoocfcnfolkhaaGreatDoorBase
import Derived.Lib.ItoaNum
import Derived.Lib.AtoiAll
import Derived.Lib.Split
import Derived.Lib.IndexMore
import Derived.KernelRfl
set_option linter.unusedVariables false
set_option linter.unusedSimpArgs false
set_option maxHeartbeats 1000000
set_option maxRecDepth 100000
namespace Go.Mq
def bt(xs:List Int)(i:Int):Int:=xs.getD i.toNat 0
def dotV(xs:List Int)(t x y:Int):Int:=bt xs (16+4*t+y)/2^(6-2*x).toNat%4
def gndX(xs:List Int)(x:Int):Int:=(x+bt xs 168)%16
def gndY(xs:List Int)(y:Int):Int:=(y+bt xs 169)%16
def gndT(xs:List Int)(x y:Int):Int:=bt xs (gndY xs y/4*4+gndX xs x/4)%16
def gndV(xs:List Int)(x y:Int):Int:=dotV xs (gndT xs x y) (gndX xs x%4) (gndY xs y%4)
def Vid(w:Go.World)(v:Go.Value)(xs:List Int):Prop:=SliceAt w .u8 v xs/\xs.length=256/\∀x∈xs,U8 x
theorem Vid.below{w w':Go.World}{v:Go.Value}{xs:List Int}(h:Vid w v xs)(hb:Go.RowKit.Below w.heap.size w w'):Vid w' v xs:=⟨h.1.below hb,h.2⟩
theorem bt_in(xs:List Int)(hx:∀x∈xs,U8 x)(i:Int):0<=bt xs i/\bt xs i<=255:=by
 unfold bt
 rw[List.getD_eq_getElem?_getD]
 by_cases h:i.toNat<xs.length
 ·rw[List.getElem?_eq_getElem h]
  exact hx _ (List.getElem_mem h)
 ·rw[List.getElem?_eq_none kO]
  decide
end Go.Mq
namespace Go.Proofs.YtkoocfcnfolkhaaGreatDoor
open Go.RowKit Go.Mq
theorem and3(n:Int)(h:U8 n):bits .and .u8 n 3=n%4:=by
 have:=bits_mask .u8 8 kD (fun n h h'=>by rw[wrap8];omega) 2 kO n h.1 (by unfold U8 at h;omega)
 simpa using this
theorem z0az(n:Int)(h0:0<=n)(h1:n<65536):bits .and .i64 n 15=n%16:=by
 have:=bits_mask .i64 63 kD (fun n h h'=>by rw[IntKind.wrap_i64];omega) 4 kO n h0 kO
 simpa using this
theorem Vid.open'{w:World}{v:Value}{xs:List Int}(h:Vid w v xs):∃b off cap,v= .slice (some ⟨b,off,none⟩) 256 cap/\256<=cap/\cap<=maxLen/\b<w.heap.size/\∀i:Nat,i<256->w.cell? ⟨b,off+i,none⟩=some (.int .u8 (bt xs i)):=by
 obtain⟨⟨a,cap,rfl,h1,h2,hwf,h3⟩,hl,_⟩:=h
 obtain⟨b,off,rfl,hb,hc⟩:=h3 kO
 exact⟨b,off,cap,by rw[hl],by omega,h2,hb,fun i hi=>by rw[hc i kO];simp[bt]⟩
theorem z7R(xs:List Int)(v:Value)(t x y:Int)(w:World)(h:Vid w v xs)(t0:0<=t)(t1:t<=15)(x0:0<=x)(x1:x<=3)(y0:0<=y)(y1:y<=3):
  Calls Tryz.prog 98 #[v,.int .i64 t,.int .i64 x,.int .i64 y] w fun e w'=>e= .returned (.int .u8 (dotV xs t x y))/\Below w.heap.size w w':=by
 have hu:=h.2.2
 obtain⟨b,off,cap,rfl,hc1,hc2,hb,hc⟩:=Vid.open' h
 clear h hc1 hc2
 obtain⟨k,hk⟩:∃k:Nat,16+4*t+y=k:=⟨(16+4*t+y).toNat,by omega⟩
 have hk':k<256:=by omega
 have c:=hc k hk'
 have bd:=bt_in xs hu k
 unfold dotV
 rw[hk]
 generalize bt xs k=z at*
 have e1:wrap64 (4*t)=4*t:=by unfold wrap64;omega
 have e2:wrap64 (16+4*t)=16+4*t:=by unfold wrap64;omega
 have e3:wrap64 (16+4*t+y)=(k:Int):=by unfold wrap64;omega
 have m0:=and3 (z/64) (by unfold U8;omega)
 have m1:=and3 (z/16) (by unfold U8;omega)
 have m2:=and3 (z/4) (by unfold U8;omega)
 have m3:=and3 z (by unfold U8;omega)
 have hki:(k:Int)<256:=by omega
 clear hc hu t0 t1 y0 y1 hk bd
 rcases(by omega:x=0\/x=1\/x=2\/x=3)with rfl|rfl|rfl|rfl
 ·clear m1 m2 m3
  go_enter Tryz.func98,Tryz.ntmps98
  go_wp2
  go_ret
  exact⟨by simp,kL⟩
 ·clear m0 m2 m3
  go_enter Tryz.func98,Tryz.ntmps98
  go_wp2
  go_ret
  exact⟨by simp,kL⟩
 ·clear m0 m1 m3
  go_enter Tryz.func98,Tryz.ntmps98
  go_wp2
  go_ret
  exact⟨by simp,kL⟩
 ·clear m0 m1 m2
  go_enter Tryz.func98,Tryz.ntmps98
  go_wp2
  go_ret
  exact⟨by simp,kL⟩
theorem z6n(xs:List Int)(v:Value)(x y:Int)(w:World)(h:Vid w v xs)(x0:0<=x)(x1:x<=15)(y0:0<=y)(y1:y<=7):
  Calls Tryz.prog 97 #[v,.int .i64 x,.int .i64 y] w fun e w'=>e= .returned (.int .u8 (gndV xs x y))/\Below w.heap.size w w':=by
 have hu:=h.2.2
 have D:=zh (fun w' (h:Vid w' v xs) (t x y:Int) (t0:0<=t) (t1:t<=15) (x0:0<=x) (x1:x<=3) (y0:0<=y) (y1:y<=3)=>z7R xs v t x y w' h t0 t1 x0 x1 y0 y1)
 have HV:=zh h
 obtain⟨b,off,cap,rfl,hc1,hc2,hb,hc⟩:=Vid.open' h
 have c1:w.cell? ⟨b,off+168,none⟩=some (.int .u8 (bt xs 168)):=hc 168 kO
 have c2:w.cell? ⟨b,off+169,none⟩=some (.int .u8 (bt xs 169)):=hc 169 kO
 have b1:=bt_in xs hu 168
 have b2:=bt_in xs hu 169
 have gx:gndX xs x=(x+bt xs 168)%16:=rfl
 have gy:gndY xs y=(y+bt xs 169)%16:=rfl
 have gt:gndT xs x y=bt xs (gndY xs y/4*4+gndX xs x/4)%16:=rfl
 unfold gndV
 generalize gndX xs x=gX at*
 generalize gndY xs y=gY at*
 obtain⟨k,hk⟩:∃k:Nat,gY/4*4+gX/4=k:=⟨(gY/4*4+gX/4).toNat,by omega⟩
 have c3:=hc k kO
 have b3:=bt_in xs hu k
 rw[hk]at gt
 have D':=D.out w HV.out (gndT xs x y) (gX%4) (gY%4) kO kO kO kO kO kO
 generalize gndT xs x y=gT at*
 generalize dotV xs gT (gX%4) (gY%4)=dv at*
 generalize bt xs k=s3 at*
 generalize bt xs 168=s1 at*
 generalize bt xs 169=s2 at*
 have e1:wrap64 (x+s1)=x+s1:=by unfold wrap64;omega
 have e2:wrap64 (y+s2)=y+s2:=by unfold wrap64;omega
 have r1:Int.tmod (x+s1) 16=gX:=by rw[Int.tmod_eq_emod_of_nonneg kO];omega
 have r2:Int.tmod (y+s2) 16=gY:=by rw[Int.tmod_eq_emod_of_nonneg kO];omega
 have q1:Int.tdiv gX 4=gX/4:=Int.tdiv_eq_ediv_of_nonneg kO
 have q2:Int.tdiv gY 4=gY/4:=Int.tdiv_eq_ediv_of_nonneg kO
 have q3:Int.tmod gX 4=gX%4:=Int.tmod_eq_emod_of_nonneg kO
 have q4:Int.tmod gY 4=gY%4:=Int.tmod_eq_emod_of_nonneg kO
 have w1:wrap64 gX=gX:=by unfold wrap64;omega
 have w2:wrap64 gY=gY:=by unfold wrap64;omega
 have w3:wrap64 (gX/4)=gX/4:=by unfold wrap64;omega
 have w4:wrap64 (gY/4)=gY/4:=by unfold wrap64;omega
 have w5:wrap64 (gY/4*4)=gY/4*4:=by unfold wrap64;omega
 have w6:wrap64 (gY/4*4+gX/4)=(k:Int):=by unfold wrap64;omega
 have w7:wrap64 s1=s1:=by unfold wrap64;omega
 have w8:wrap64 s2=s2:=by unfold wrap64;omega
 have w9:wrap64 s3=s3:=by unfold wrap64;omega
 have w10:wrap64 (gX%4)=gX%4:=by unfold wrap64;omega
 have w11:wrap64 (gY%4)=gY%4:=by unfold wrap64;omega
 have m:=z0az s3 b3.1 kO
 rw[<-gt]at m
 have hki:(k:Int)<256:=by omega
 have D2:=zh D'
 clear D' D HV hc gx gy gt hk b1 b2 b3 hu x0 x1 y0 y1 hc1 hc2
 go_enter Tryz.func97,Tryz.ntmps97
 go_wp2_with fail
 refine D2.out.mono ?_
 rintro e w1' ⟨rfl,hb1⟩
 go_wp2
 go_ret
 exact⟨rfl,kL⟩
end Go.Proofs.YtkoocfcnfolkhaaGreatDoor
namespace Go.Mq
structure Sp where
 at':Int
 x:Int
 tile:Int
 row:Int
 how:Int
def spC(s:Sp):List Go.Value:=[.int .i64 s.at',.int .i64 s.x,.int .i64 s.tile,.int .i64 s.row,.int .u8 s.how]
def spK(xs:List Int)(y:Int)(k:Nat):Sp:=
 ⟨k,bt xs (128+4*k+1),bt xs (128+4*k+2)%16,if bt xs (128+4*k+3)/2%2=1 then 3-(y-bt xs (128+4*k))else y-bt xs (128+4*k),bt xs (128+4*k+3)⟩
def onF(xs:List Int)(y:Int):Nat->List Sp
 |0=>[]
 |k+1=>if y-bt xs (128+4*k)<0\/3<y-bt xs (128+4*k)\/(onF xs y k).length=2 then onF xs y k else onF xs y k++[spK xs y k]
theorem z3I(xs:List Int)(y:Int):∀k,(onF xs y k).length<=2
 |0=>by simp[onF]
 |k+1=>by
  have:=z3I xs y k
  unfold onF
  split
  ·exact this
  ·simp;omega
end Go.Mq
namespace Go.Proofs.YtkoocfcnfolkhaaGreatDoor
open Go.RowKit Go.Mq
theorem z0cT:(Tryz.prog.info? 196).map (fun i=>(i.zero,i.size,i.bytes))=some (some (.agg #[.int .i64 0,.int .i64 0,.int .i64 0,.int .i64 0,.int .u8 0]),5,40):=by kernel_rfl
theorem and2(n:Int)(h:U8 n):bits .and .u8 n 2=n/2%2*2:=by
 unfold U8 at h
 rw[show n=((n.toNat:Nat):Int)from by omega,show(2:Int)=((2:Nat):Int)from rfl,u8_and_nat _ _ kO kO,show(2:Nat)=2^1 from rfl,nat_bit]
 simp
theorem z0cw(xs:List Int)(v:Value)(y:Int)(w:World)(h:Vid w v xs)(y0:0<=y)(y1:y<=7):
  Calls Tryz.prog 96 #[v,.int .i64 y] w fun e w'=>∃u,e= .returned u/\w'.ownsRow w.heap.size 196 5 u (onF xs y 8).length ((onF xs y 8).flatMap spC)/\Below w.heap.size w w':=by
 have hu:=h.2.2
 obtain⟨b,off,cap,rfl,hc1,hc2,hb,hc⟩:=Vid.open' h
 have H:=zh (And.intro hb hc)
 have U:=zh hu
 unfold maxLen at hc2
 obtain⟨i0,hi,hz0,hz1,hz2⟩:=info_parts z0cT
 have HI:=zh (And.intro hi (And.intro hz0 (And.intro hz1 hz2)))
 clear hi hz0 hz1 hz2 h hu hb hc
 go_enter Tryz.func96,Tryz.ntmps96
 go_wp2
 go_loopw [5,9] (fun l i wr=>∃k:Nat,k<=8/\i= .int .i64 k/\Hid (wr.ownsRow w.heap.size 196 5 l (onF xs y k).length ((onF xs y k).flatMap spC))/\Below w.heap.size w wr) (fun _ i _=>(8-intOf i).toNat)
 case atStart=>exact⟨0,by omega,rfl,zh ⟨rfl,Or.inl ⟨rfl,rfl⟩⟩,Below.refl _ _⟩
 case round=>
  obtain⟨k,hk,rfl,KO,hbr⟩:=hrel
  by_cases hk8:k<8
  ·obtain⟨ao,cp,rfl⟩:=z0c KO.out
   have hl2:=z3I xs y k
   have hst:onF xs y (k+1)=if y-bt xs (128+4*k)<0\/3<y-bt xs (128+4*k)\/(onF xs y k).length=2 then onF xs y k else onF xs y k++[spK xs y k]:=rfl
   have hsp:spK xs y k=⟨k,bt xs (128+4*k+1),bt xs (128+4*k+2)%16,if bt xs (128+4*k+3)/2%2=1 then 3-(y-bt xs (128+4*k))else y-bt xs (128+4*k),bt xs (128+4*k+3)⟩:=rfl
   obtain⟨K,hK⟩:∃K:Nat,128+4*k=K:=⟨_,rfl⟩
   have hK':(128+4*(k:Int))=K:=by omega
   have c0:wr.cell? ⟨b,off+K,none⟩=some (.int .u8 (bt xs (K))):=by
    have:=H.out.2 (K+0) kO
    rw[<-hbr.cell (p:=⟨b,off+(K+0),none⟩) H.out.1]at this
    exact this
   have c1:wr.cell? ⟨b,off+K+1,none⟩=some (.int .u8 (bt xs (K+1))):=by
    have:=H.out.2 (K+1) kO
    rw[<-hbr.cell (p:=⟨b,off+(K+1),none⟩) H.out.1]at this
    exact this
   have c2:wr.cell? ⟨b,off+K+2,none⟩=some (.int .u8 (bt xs (K+2))):=by
    have:=H.out.2 (K+2) kO
    rw[<-hbr.cell (p:=⟨b,off+(K+2),none⟩) H.out.1]at this
    exact this
   have c3:wr.cell? ⟨b,off+K+3,none⟩=some (.int .u8 (bt xs (K+3))):=by
    have:=H.out.2 (K+3) kO
    rw[<-hbr.cell (p:=⟨b,off+(K+3),none⟩) H.out.1]at this
    exact this
   have D1:Hid (w.cell? ⟨b,off+K+1,none⟩=some (.int .u8 (bt xs (K+1)))):=zh (H.out.2 (K+1) kO)
   have D2:Hid (w.cell? ⟨b,off+K+2,none⟩=some (.int .u8 (bt xs (K+2)))):=zh (H.out.2 (K+2) kO)
   have D3:Hid (w.cell? ⟨b,off+K+3,none⟩=some (.int .u8 (bt xs (K+3)))):=zh (H.out.2 (K+3) kO)
   have g0:=bt_in xs U.out K
   have g1:=bt_in xs U.out (K+1)
   have g2:=bt_in xs U.out (K+2)
   have g3:=bt_in xs U.out (K+3)
   rw[hK']at hst hsp
   have hn:((onF xs y k).length:Int)<=2:=by omega
   have KO':=KO
   generalize onF xs y k=L at*
   generalize bt xs K=z0 at*
   generalize bt xs (K+1)=z1 at*
   generalize bt xs (K+2)=z2 at*
   generalize bt xs (K+3)=z3 at*
   have W1:wrap64 (4*(k:Int))=4*k:=by unfold wrap64;omega
   have W2:wrap64 (128+4*(k:Int))=K:=by unfold wrap64;omega
   have W3:wrap64 ((K:Int)+4)=K+4:=by unfold wrap64;omega
   have W4:wrap64 z0=z0:=by unfold wrap64;omega
   have W5:wrap64 (y-z0)=y-z0:=by unfold wrap64;omega
   have hki:(k:Int)<8:=by omega
   have hKi:(K:Int)+4<=256:=by omega
   by_cases hA:y-z0<0
   ·have E:onF xs y (k+1)=L:=by rw[hst,if_pos (Or.inl hA)]
    have E':=zh E
    clear E hst hsp
    go_wp2_with fail
    refine⟨⟨k+1,by omega,by go_num,zh (by rw[E'.out];exact KO.out),hbr⟩,by simp[intOf];omega⟩
   ·by_cases hB:3<y-z0
    ·have E:onF xs y (k+1)=L:=by rw[hst,if_pos (Or.inr (Or.inl hB))]
     have E':=zh E
     clear E hst hsp
     go_wp2_with fail
     refine⟨⟨k+1,by omega,by go_num,zh (by rw[E'.out];exact KO.out),hbr⟩,by simp[intOf];omega⟩
    ·by_cases hC:L.length=2
     ·have E:onF xs y (k+1)=L:=by rw[hst,if_pos (Or.inr (Or.inr hC))]
      have E':=zh E
      have hCi:((L.length:Int)==2)=true:=by simp[hC]
      clear E hst hsp
      go_wp2_with fail
      refine⟨⟨k+1,by omega,by go_num,zh (by rw[E'.out];exact KO.out),hbr⟩,by simp[intOf];omega⟩
     ·have E:onF xs y (k+1)=L++[spK xs y k]:=by rw[hst,if_neg (by rintro(q|q|q);exact hA q;exact hB q;exact hC q)]
      rw[hsp]at E
      have hCi:((L.length:Int)==2)=false:=by simp;omega
      have m2:=and2 z3 (by unfold U8;omega)
      have m3:=z0az z2 kO kO
      have W6:wrap64 z1=z1:=by unfold wrap64;omega
      have W7:wrap64 z2=z2:=by unfold wrap64;omega
      have W8:wrap64 (3-(y-z0))=3-(y-z0):=by unfold wrap64;omega
      have J1:IntKind.i64.wrap z1=z1:=by rw[IntKind.wrap_i64];omega
      have J2:IntKind.i64.wrap z2=z2:=by rw[IntKind.wrap_i64];omega
      by_cases hF:z3/2%2=1
      ·rw[if_pos hF]at E
       rw[hF,show(1:Int)*2=2 from rfl]at m2
       have E':=zh E
       clear E hst hsp hF
       go_wp2_with fail
       refine wp_region_held_drew (S:=fun X=>Below w.heap.size w X) kR hbr.drew (fun hS=> ?_)
       refine wpAnyH_take (i:=0) (v:= ?v0) rfl kR kR kR (fun _ _ _ h=>h) (Or.inl ⟨by rfl,?y0⟩) hS ?_
       case y0=>(intro X hSw;go_simp;try with_reducible rfl)
       try simp only[yA,yB,yC,Act.put,yD,yE,yF]
       refine wpAnyH_take (i:=1) (v:= ?v1) rfl kR kR kR (fun _ _ _ h=>h) (Or.inl ⟨by rfl,?y1⟩) hS ?_
       case y1=>(intro X hSw;go_simp;try with_reducible rfl)
       try simp only[yA,yB,yC,Act.put,yD,yE,yF]
       refine wpAnyH_take (i:=2) (v:= ?v2) rfl kR kR kR (fun _ _ _ h=>h) (Or.inl ⟨by rfl,?y2⟩) hS ?_
       case y2=>(intro X hSw;go_simp;try with_reducible rfl)
       try simp only[yA,yB,yC,Act.put,yD,yE,yF]
       refine wpAnyH_take (i:=3) (v:= ?v3) rfl kR kR kR (fun _ _ _ h=>h) (Or.inl ⟨by rfl,?y3⟩) hS ?_
       case y3=>(intro X hSw;go_simp;try with_reducible rfl)
       try simp only[yA,yB,yC,Act.put,yD,yE,yF]
       refine wpAnyH_take (i:=4) (v:= ?v4) rfl kR kR kR (fun _ _ _ h=>h) (Or.inl ⟨by rfl,?y4⟩) hS ?_
       case y4=>(intro X hSw;have q:X.cell? ⟨b,off+K+1,none⟩=some (.int .u8 z1):=(hSw.cell (p:=⟨b,off+K+1,none⟩) H.out.1).trans D1.out;go_simp;try with_reducible rfl)
       try simp only[yA,yB,yC,Act.put,yD,yE,yF]
       refine wpAnyH_take (i:=5) (v:= ?v5) rfl kR kR kR (fun _ _ _ h=>h) (Or.inl ⟨by rfl,?y5⟩) hS ?_
       case y5=>(intro X hSw;go_simp;try with_reducible rfl)
       try simp only[yA,yB,yC,Act.put,yD,yE,yF]
       refine wpAnyH_take (i:=6) (v:= ?v6) rfl kR kR kR (fun _ _ _ h=>h) (Or.inl ⟨by rfl,?y6⟩) hS ?_
       case y6=>(intro X hSw;go_simp;try with_reducible rfl)
       try simp only[yA,yB,yC,Act.put,yD,yE,yF]
       refine wpAnyH_take (i:=7) (v:= ?v7) rfl kR kR kR (fun _ _ _ h=>h) (Or.inl ⟨by rfl,?y7⟩) hS ?_
       case y7=>(intro X hSw;go_simp;try with_reducible rfl)
       try simp only[yA,yB,yC,Act.put,yD,yE,yF]
       refine wpAnyH_take (i:=8) (v:= ?v8) rfl kR kR kR (fun _ _ _ h=>h) (Or.inl ⟨by rfl,?y8⟩) hS ?_
       case y8=>(intro X hSw;have q:X.cell? ⟨b,off+K+2,none⟩=some (.int .u8 z2):=(hSw.cell (p:=⟨b,off+K+2,none⟩) H.out.1).trans D2.out;go_simp;try with_reducible rfl)
       try simp only[yA,yB,yC,Act.put,yD,yE,yF]
       refine wpAnyH_take (i:=9) (v:= ?v9) rfl kR kR kR (fun _ _ _ h=>h) (Or.inl ⟨by rfl,?y9⟩) hS ?_
       case y9=>(intro X hSw;go_simp;try with_reducible rfl)
       try simp only[yA,yB,yC,Act.put,yD,yE,yF]
       refine wpAnyH_take (i:=10) (v:= ?v10) rfl kR kR kR (fun _ _ _ h=>h) (Or.inl ⟨by rfl,?y10⟩) hS ?_
       case y10=>(intro X hSw;go_simp;try with_reducible rfl)
       try simp only[yA,yB,yC,Act.put,yD,yE,yF]
       refine wpAnyH_take (i:=11) (v:= ?v11) rfl kR kR kR (fun _ _ _ h=>h) (Or.inl ⟨by rfl,?y11⟩) hS ?_
       case y11=>(intro X hSw;go_simp;try with_reducible rfl)
       try simp only[yA,yB,yC,Act.put,yD,yE,yF]
       refine wpAnyH_take (i:=12) (v:= ?v12) rfl kR kR kR (fun _ _ _ h=>h) (Or.inl ⟨by rfl,?y12⟩) hS ?_
       case y12=>(intro X hSw;go_simp;try with_reducible rfl)
       try simp only[yA,yB,yC,Act.put,yD,yE,yF]
       refine wpAnyH_take (i:=13) (v:= ?v13) rfl kR kR kR (fun _ _ _ h=>h) (Or.inl ⟨by rfl,?y13⟩) hS ?_
       case y13=>(intro X hSw;go_simp;try with_reducible rfl)
       try simp only[yA,yB,yC,Act.put,yD,yE,yF]
       refine wpAnyH_take (i:=14) (v:= ?v14) rfl kR kR kR (fun _ _ _ h=>h) (Or.inl ⟨by rfl,?y14⟩) hS ?_
       case y14=>(intro X hSw;have q:X.cell? ⟨b,off+K+3,none⟩=some (.int .u8 z3):=(hSw.cell (p:=⟨b,off+K+3,none⟩) H.out.1).trans D3.out;go_simp;try with_reducible rfl)
       try simp only[yA,yB,yC,Act.put,yD,yE,yF]
       refine wpAnyH_take (i:=15) (v:= ?v15) rfl kR kR kR (fun _ _ _ h=>h) (Or.inl ⟨by rfl,?y15⟩) hS ?_
       case y15=>(intro X hSw;go_simp;try with_reducible rfl)
       try simp only[yA,yB,yC,Act.put,yD,yE,yF]
       try simp only[J1,J2,m3]
       refine rH 16 fun K hK=> ?_
       go_simp
       refine hK.out _ _ (hbr.drew.alloc (by have:=hbr.size;simpa using this) _) (fun hS=> ?_)
       clear hK K
       try simp only[yA,yB,yC,Act.put,yD,yE,yF]
       have KO2:Hid (wr.drew.ownsRow w.heap.size 196 5 (.slice ao L.length cp) L.length (L.flatMap spC)):=zh (World.ownsRow.drew KO.out)
       refine rH 17 fun K hK=> ?_
       rw[if_pos (by rfl)]
       refine wp_append_own _ (.tmp 45) (.tmp 61) 192 rfl (w.heap.size) 196 i0 (.agg #[.int .i64 0,.int .i64 0,.int .i64 0,.int .i64 0,.int .u8 0]) 5 40 Tryz.underlying192 HI.out.1 HI.out.2.1 HI.out.2.2.1 HI.out.2.2.2 rfl kD _ _ _ rfl (KO2.out.alloc _) ⟨wr.heap.size,0,none⟩ 1 1 [.int .i64 k,.int .i64 z1,.int .i64 (z2%16),.int .i64 (3-(y-z0)),.int .u8 z3] rfl rfl ?c1 ?c2 ?c3 ?c4 ?c5 ?c6
       case c1=>
        intro j u hj
        match j,hj with
        |0,hj=>simp at hj;subst hj;simp[Addr.add]
        |1,hj=>simp at hj;subst hj;simp[Addr.add]
        |2,hj=>simp at hj;subst hj;simp[Addr.add]
        |3,hj=>simp at hj;subst hj;simp[Addr.add]
        |4,hj=>simp at hj;subst hj;simp[Addr.add]
       case c2=>intro u hu;simp at hu;rcases hu with rfl|rfl|rfl|rfl|rfl<;>rfl
       case c3=>unfold maxLen;omega
       case c4=>omega
       case c5=>have:=hbr.size;simp;omega
       case c6=>
        intro v' w5 hown hgrow _
        have hb5:Below w.heap.size w w5:=z0p (below_alloc hbr.drew _) (by have:=hbr.size;simp;omega) hgrow (KO2.out.alloc _) kO
        refine hK.out _ _ hb5 (fun hS=> ?_)
        clear hK K
        try simp only[yA,yB,yC,Act.put,yD,yE,yF]
        refine wpAnyH_take (i:=18) (v:= ?v18) rfl kR kR kR (fun _ _ _ h=>h) (Or.inl ⟨by rfl,?y18⟩) hS ?_
        case y18=>(intro X hSw;go_simp;try with_reducible rfl)
        try simp only[yA,yB,yC,Act.put,yD,yE,yF]
        refine wpAnyH_done kR ?_ _
        go_wp2_with fail
        refine⟨⟨k+1,by omega,by go_num,zh ?_,hb5⟩,by simp[intOf];omega⟩
        rw[E'.out,List.length_append,List.flatMap_append]
        simpa [spC]using hown
      ·rw[if_neg hF]at E
       rw[show z3/2%2=0 by omega,Int.zero_mul]at m2
       have E':=zh E
       clear E hst hsp hF
       go_wp2_with fail
       refine wp_region_held_drew (S:=fun X=>Below w.heap.size w X) kR hbr.drew (fun hS=> ?_)
       refine wpAnyH_take (i:=0) (v:= ?v0b) rfl kR kR kR (fun _ _ _ h=>h) (Or.inl ⟨by rfl,?y0b⟩) hS ?_
       case y0b=>(intro X hSw;go_simp;try with_reducible rfl)
       try simp only[yA,yB,yC,Act.put,yD,yE,yF]
       refine wpAnyH_take (i:=1) (v:= ?v1b) rfl kR kR kR (fun _ _ _ h=>h) (Or.inl ⟨by rfl,?y1b⟩) hS ?_
       case y1b=>(intro X hSw;go_simp;try with_reducible rfl)
       try simp only[yA,yB,yC,Act.put,yD,yE,yF]
       refine wpAnyH_take (i:=2) (v:= ?v2b) rfl kR kR kR (fun _ _ _ h=>h) (Or.inl ⟨by rfl,?y2b⟩) hS ?_
       case y2b=>(intro X hSw;go_simp;try with_reducible rfl)
       try simp only[yA,yB,yC,Act.put,yD,yE,yF]
       refine wpAnyH_take (i:=3) (v:= ?v3b) rfl kR kR kR (fun _ _ _ h=>h) (Or.inl ⟨by rfl,?y3b⟩) hS ?_
       case y3b=>(intro X hSw;go_simp;try with_reducible rfl)
       try simp only[yA,yB,yC,Act.put,yD,yE,yF]
       refine wpAnyH_take (i:=4) (v:= ?v4b) rfl kR kR kR (fun _ _ _ h=>h) (Or.inl ⟨by rfl,?y4b⟩) hS ?_
       case y4b=>(intro X hSw;have q:X.cell? ⟨b,off+K+1,none⟩=some (.int .u8 z1):=(hSw.cell (p:=⟨b,off+K+1,none⟩) H.out.1).trans D1.out;go_simp;try with_reducible rfl)
       try simp only[yA,yB,yC,Act.put,yD,yE,yF]
       refine wpAnyH_take (i:=5) (v:= ?v5b) rfl kR kR kR (fun _ _ _ h=>h) (Or.inl ⟨by rfl,?y5b⟩) hS ?_
       case y5b=>(intro X hSw;go_simp;try with_reducible rfl)
       try simp only[yA,yB,yC,Act.put,yD,yE,yF]
       refine wpAnyH_take (i:=6) (v:= ?v6b) rfl kR kR kR (fun _ _ _ h=>h) (Or.inl ⟨by rfl,?y6b⟩) hS ?_
       case y6b=>(intro X hSw;go_simp;try with_reducible rfl)
       try simp only[yA,yB,yC,Act.put,yD,yE,yF]
       refine wpAnyH_take (i:=7) (v:= ?v7b) rfl kR kR kR (fun _ _ _ h=>h) (Or.inl ⟨by rfl,?y7b⟩) hS ?_
       case y7b=>(intro X hSw;go_simp;try with_reducible rfl)
       try simp only[yA,yB,yC,Act.put,yD,yE,yF]
       refine wpAnyH_take (i:=8) (v:= ?v8b) rfl kR kR kR (fun _ _ _ h=>h) (Or.inl ⟨by rfl,?y8b⟩) hS ?_
       case y8b=>(intro X hSw;have q:X.cell? ⟨b,off+K+2,none⟩=some (.int .u8 z2):=(hSw.cell (p:=⟨b,off+K+2,none⟩) H.out.1).trans D2.out;go_simp;try with_reducible rfl)
       try simp only[yA,yB,yC,Act.put,yD,yE,yF]
       refine wpAnyH_take (i:=9) (v:= ?v9b) rfl kR kR kR (fun _ _ _ h=>h) (Or.inl ⟨by rfl,?y9b⟩) hS ?_
       case y9b=>(intro X hSw;go_simp;try with_reducible rfl)
       try simp only[yA,yB,yC,Act.put,yD,yE,yF]
       refine wpAnyH_take (i:=10) (v:= ?v10b) rfl kR kR kR (fun _ _ _ h=>h) (Or.inl ⟨by rfl,?y10b⟩) hS ?_
       case y10b=>(intro X hSw;go_simp;try with_reducible rfl)
       try simp only[yA,yB,yC,Act.put,yD,yE,yF]
       refine wpAnyH_take (i:=11) (v:= ?v11b) rfl kR kR kR (fun _ _ _ h=>h) (Or.inl ⟨by rfl,?y11b⟩) hS ?_
       case y11b=>(intro X hSw;go_simp;try with_reducible rfl)
       try simp only[yA,yB,yC,Act.put,yD,yE,yF]
       refine wpAnyH_take (i:=12) (v:= ?v12b) rfl kR kR kR (fun _ _ _ h=>h) (Or.inl ⟨by rfl,?y12b⟩) hS ?_
       case y12b=>(intro X hSw;go_simp;try with_reducible rfl)
       try simp only[yA,yB,yC,Act.put,yD,yE,yF]
       refine wpAnyH_take (i:=13) (v:= ?v13b) rfl kR kR kR (fun _ _ _ h=>h) (Or.inl ⟨by rfl,?y13b⟩) hS ?_
       case y13b=>(intro X hSw;go_simp;try with_reducible rfl)
       try simp only[yA,yB,yC,Act.put,yD,yE,yF]
       refine wpAnyH_take (i:=14) (v:= ?v14b) rfl kR kR kR (fun _ _ _ h=>h) (Or.inl ⟨by rfl,?y14b⟩) hS ?_
       case y14b=>(intro X hSw;have q:X.cell? ⟨b,off+K+3,none⟩=some (.int .u8 z3):=(hSw.cell (p:=⟨b,off+K+3,none⟩) H.out.1).trans D3.out;go_simp;try with_reducible rfl)
       try simp only[yA,yB,yC,Act.put,yD,yE,yF]
       refine wpAnyH_take (i:=15) (v:= ?v15b) rfl kR kR kR (fun _ _ _ h=>h) (Or.inl ⟨by rfl,?y15b⟩) hS ?_
       case y15b=>(intro X hSw;go_simp;try with_reducible rfl)
       try simp only[yA,yB,yC,Act.put,yD,yE,yF]
       try simp only[J1,J2,m3]
       refine rH 16 fun K hK=> ?_
       go_simp
       refine hK.out _ _ (hbr.drew.alloc (by have:=hbr.size;simpa using this) _) (fun hS=> ?_)
       clear hK K
       try simp only[yA,yB,yC,Act.put,yD,yE,yF]
       have KO2:Hid (wr.drew.ownsRow w.heap.size 196 5 (.slice ao L.length cp) L.length (L.flatMap spC)):=zh (World.ownsRow.drew KO.out)
       refine rH 17 fun K hK=> ?_
       rw[if_pos (by rfl)]
       refine wp_append_own _ (.tmp 45) (.tmp 61) 192 rfl (w.heap.size) 196 i0 (.agg #[.int .i64 0,.int .i64 0,.int .i64 0,.int .i64 0,.int .u8 0]) 5 40 Tryz.underlying192 HI.out.1 HI.out.2.1 HI.out.2.2.1 HI.out.2.2.2 rfl kD _ _ _ rfl (KO2.out.alloc _) ⟨wr.heap.size,0,none⟩ 1 1 [.int .i64 k,.int .i64 z1,.int .i64 (z2%16),.int .i64 (y-z0),.int .u8 z3] rfl rfl ?c1b ?c2b ?c3b ?c4b ?c5b ?c6b
       case c1b=>
        intro j u hj
        match j,hj with
        |0,hj=>simp at hj;subst hj;simp[Addr.add]
        |1,hj=>simp at hj;subst hj;simp[Addr.add]
        |2,hj=>simp at hj;subst hj;simp[Addr.add]
        |3,hj=>simp at hj;subst hj;simp[Addr.add]
        |4,hj=>simp at hj;subst hj;simp[Addr.add]
       case c2b=>intro u hu;simp at hu;rcases hu with rfl|rfl|rfl|rfl|rfl<;>rfl
       case c3b=>unfold maxLen;omega
       case c4b=>omega
       case c5b=>have:=hbr.size;simp;omega
       case c6b=>
        intro v' w5 hown hgrow _
        have hb5:Below w.heap.size w w5:=z0p (below_alloc hbr.drew _) (by have:=hbr.size;simp;omega) hgrow (KO2.out.alloc _) kO
        refine hK.out _ _ hb5 (fun hS=> ?_)
        clear hK K
        try simp only[yA,yB,yC,Act.put,yD,yE,yF]
        refine wpAnyH_take (i:=18) (v:= ?v18b) rfl kR kR kR (fun _ _ _ h=>h) (Or.inl ⟨by rfl,?y18b⟩) hS ?_
        case y18b=>(intro X hSw;go_simp;try with_reducible rfl)
        try simp only[yA,yB,yC,Act.put,yD,yE,yF]
        refine wpAnyH_done kR ?_ _
        go_wp2_with fail
        refine⟨⟨k+1,by omega,by go_num,zh ?_,hb5⟩,by simp[intOf];omega⟩
        rw[E'.out,List.length_append,List.flatMap_append]
        simpa [spC]using hown
  ·have hk':k=8:=by omega
   subst hk'
   go_wp2
   go_ret
   exact⟨_,rfl,KO.out,hbr⟩
end Go.Proofs.YtkoocfcnfolkhaaGreatDoor
namespace Go.Mq
def pixL(xs:List Int)(x b d:Int):List Sp->Int
 |[]=>b
 |s::r=>if x-s.x<0\/3<x-s.x then pixL xs x b d r else
   if dotV xs s.tile (if s.how%2=1 then 3-(x-s.x)else x-s.x) s.row=0 then pixL xs x b d r else
   if s.how/128%2=0\/d=0 then bt xs (164+dotV xs s.tile (if s.how%2=1 then 3-(x-s.x)else x-s.x) s.row)else b
def lineV(xs:List Int)(y x:Int):Int:=pixL xs x (bt xs (160+gndV xs x y)) (gndV xs x y) (onF xs y 8)
def lnL(xs:List Int)(y:Int)(k:Nat):List Int:=(List.range 16).map fun j=>if j<k then lineV xs y j else 0
def lnC(xs:List Int)(y:Int)(k:Nat):Array Go.Value:=((lnL xs y k).map (Go.Value.int .u8)).toArray
theorem z2A(xs:List Int)(y:Int)(k:Nat):(lnC xs y k).size=16:=by simp[lnC,lnL]
theorem z0cJ(xs:List Int)(y:Int)(k:Nat)(h:k<16):(lnC xs y k)[k]? =some (.int .u8 0):=by
 simp[lnC,lnL,h]
theorem z1M(xs:List Int)(y:Int)(k:Nat)(h:k<16):(lnC xs y k).setIfInBounds k (.int .u8 (lineV xs y k))=lnC xs y (k+1):=by
 apply Array.ext
 ·simp[lnC,lnL]
 ·intro i h1 h2
  simp[lnC,lnL]at h1 h2
  rw[Array.getElem_setIfInBounds (by simpa [lnC,lnL]using h2)]
  by_cases hi:k=i
  ·subst hi
   simp[lnC,lnL]
  ·rw[if_neg hi]
   simp only[lnC,lnL,List.getElem_toArray,List.getElem_map,List.getElem_range]
   by_cases hk:i<k
   ·rw[if_pos hk,if_pos kO]
   ·rw[if_neg hk,if_neg kO]
theorem z7S(xs:List Int)(t x y:Int):0<=dotV xs t x y/\dotV xs t x y<=3:=by unfold dotV;omega
theorem z0bt(L:List Sp)(hl:L.length<=2)(j:Nat)(hj:j<L.length)(q:Nat)(hq:q<5):(L.flatMap spC)[j*5+q]? =(spC (L[j]'hj))[q]? :=by
 match L,hl,hj with
 |[a],_,hj=>
  obtain rfl:j=0:=by simpa using hj
  simp[spC]
 |[a,b],_,hj=>
  rcases(by simp at hj;omega:j=0\/j=1)with rfl|rfl
  ·have:(spC a++(spC b++[]))[q]? =(spC a)[q]? :=List.getElem?_append_left (by simpa [spC]using hq)
   simpa [List.flatMap_cons]using this
  ·have:(spC a++(spC b++[]))[5+q]? =(spC b++[])[q]? :=by rw[List.getElem?_append_right (by simp[spC])];simp[spC]
   simpa [List.flatMap_cons]using this
theorem z8y{w:Go.World}{base:Nat}{v:Go.Value}{e:Go.TypeId}{L:List Sp}(h:w.ownsRow base e 5 v L.length (L.flatMap spC))(hl:L.length<=2):
  ∃a cap,v= .slice a L.length cap/\∀j:Nat,j<L.length->∃g s,a=some ⟨g,0,none⟩/\base<=g/\g<w.heap.size/\L.drop j=s::L.drop (j+1)/\s∈L/\
   ∀q:Nat,q<5->w.cell? ⟨g,j*5+q,none⟩=(spC s)[q]? :=by
 obtain⟨h0,h|h⟩:=h
 ·obtain⟨rfl,hn⟩:=h
  exact⟨none,0,by rw[hn],fun j hj=>by omega⟩
 ·obtain⟨g,cap,cur,rfl,hb,hc,hn,hm,hs,ht⟩:=h
  clear hm hs
  refine⟨some ⟨g,0,none⟩,cap,rfl,?_⟩
  intro j hj
  have hg:g<w.heap.size:=(Array.getElem?_eq_some_iff.1 hc).1
  have hd:L.drop j=L[j]'hj::L.drop (j+1):=List.drop_eq_getElem_cons hj
  refine⟨g,L[j]'hj,rfl,hb,hg,hd,List.getElem_mem hj,?_⟩
  intro q hq
  have e1:w.cell? ⟨g,j*5+q,none⟩=cur[j*5+q]? :=by simp[Go.World.cell?,hc]
  have e2:cur[j*5+q]? =cur.toList[j*5+q]? :=by simp
  have e3:cur.toList[j*5+q]? =(cur.toList.take (L.length*5))[j*5+q]? :=(List.getElem?_take_of_lt kO).symm
  rw[e1,e2,e3,ht]
  exact z0bt L hl j hj q hq
end Go.Mq
namespace Go.Proofs.YtkoocfcnfolkhaaGreatDoor
open Go.RowKit Go.Mq
theorem z0ae(xs:List Int)(hx:∀x∈xs,U8 x)(y:Int):∀(k:Nat),k<=8->∀s∈onF xs y k,0<=s.tile/\s.tile<=15/\0<=s.row/\s.row<=3/\0<=s.x/\s.x<=255/\0<=s.how/\s.how<=255/\0<=s.at'/\s.at'<=7
 |0,_=>by simp[onF]
 |k+1,hk=>by
  have ih:=z0ae xs hx y k kO
  unfold onF
  split
  ·exact ih
  ·rename_i hn
   intro s hs
   rcases List.mem_append.1 hs with h|h
   ·exact ih s h
   ·have:s=spK xs y k:=by simpa using h
    subst this
    have b1:=bt_in xs hx (128+4*k+1)
    have b2:=bt_in xs hx (128+4*k+2)
    have b3:=bt_in xs hx (128+4*k+3)
    unfold spK
    simp only
    refine⟨by omega,by omega,?_,?_,b1.1,b1.2,b3.1,b3.2,by omega,by omega⟩
    ·split<;>omega
    ·split<;>omega
def SP(w:World)(B:Nat)(a:Option Addr)(L:List Sp):Prop:=
 ∀j:Nat,j<L.length->∃g s,a=some ⟨g,0,none⟩/\B<=g/\g<w.heap.size/\L.drop j=s::L.drop (j+1)/\s∈L/\∀q:Nat,q<5->w.cell? ⟨g,j*5+q,none⟩=(spC s)[q]?
theorem SP.below{w w':World}{B:Nat}{a:Option Addr}{L:List Sp}(h:SP w B a L)(hb:Below w.heap.size w w'):SP w' B a L:=by
 intro j hj
 obtain⟨g,s,ha,hB,hg,hd,hm,hc⟩:=h j hj
 exact⟨g,s,ha,hB,Nat.lt_of_lt_of_le hg hb.size,hd,hm,fun q hq=>by rw[hb.cell (p:=⟨g,j*5+q,none⟩) hg];exact hc q hq⟩
theorem SP.set{w:World}{B b o:Nat}{v:Value}{a:Option Addr}{L:List Sp}(h:SP w B a L)(hb:b<B):SP (w.setCell ⟨b,o,none⟩ v) B a L:=by
 intro j hj
 obtain⟨g,s,ha,hB,hg,hd,hm,hc⟩:=h j hj
 exact⟨g,s,ha,hB,by simpa using hg,hd,hm,fun q hq=>by rw[World.cell?_setCell_other _ _ _ _ (by intro e;injection e with e1 e2;omega)];exact hc q hq⟩
theorem and1'(n:Int)(h:U8 n):bits .and .u8 n 1=n%2:=by
 have:=bits_mask .u8 8 kD (fun n h h'=>by rw[wrap8];omega) 1 kO n h.1 (by unfold U8 at h;omega)
 simpa using this
theorem z0dv(n:Int)(h:U8 n):bits .and .u8 n 128=n/128%2*128:=by
 unfold U8 at h
 rw[show n=((n.toNat:Nat):Int)from by omega,show(128:Int)=((128:Nat):Int)from rfl,u8_and_nat _ _ kO kO,show(128:Nat)=2^7 from rfl,nat_bit]
 simp
theorem z7j(xs:List Int)(v:Value)(y:Int)(w:World)(h:Vid w v xs)(y0:0<=y)(y1:y<=7):
  Calls Tryz.prog 62 #[v,.int .i64 y] w fun e w'=>e= .returned (.tuple #[.agg (lnC xs y 16),.int .i64 0])/\Below w.heap.size w w':=by
 have HV:=zh h
 have U:=zh h.2.2
 obtain⟨b,off,cap,rfl,hc1,hc2,hb,hc⟩:=Vid.open' h
 have H:=zh (And.intro hb hc)
 clear h hb hc hc1 hc2
 go_enter Tryz.func62,Tryz.ntmps62
 go_wp2_with fail
 refine(z0cw xs _ y _ (HV.out.below (show Below w.heap.size w (w.alloc _)from kL)) y0 y1).mono ?_
 rintro e w1 ⟨u,rfl,ho,hb1⟩
 obtain⟨a,cp,rfl,hs⟩:=z8y ho (z3I xs y 8)
 have hS:Hid (SP w1 (w.heap.size+1) a (onF xs y 8)):=zh (by simpa [SP]using hs)
 have hL2:=z3I xs y 8
 have hin:=zh (z0ae xs U.out y 8 kO)
 have hB1:Hid (Blk w1 w.heap.size (lnC xs y 0) 65):=zh (Blk.below (Blk.new _ _ _) hb1)
 have hb1':Below w.heap.size w w1:=kL
 clear ho hs hb1
 obtain⟨L,hLn⟩:∃L,L=onF xs y 8:=⟨_,rfl⟩
 rw[<-hLn]at hS hL2 hin
 have HLn:=zh hLn
 rw[<-hLn]
 clear hLn
 go_wp2
 go_loopw [27] (fun i wr=>∃k:Nat,k<=16/\i= .int .i64 k/\Below w.heap.size w wr/\Hid (Blk wr w.heap.size (lnC xs y k) 65)/\Hid (SP wr (w.heap.size+1) a L)) (fun i _=>(16-intOf i).toNat)
 case atStart=>exact⟨0,by omega,rfl,hb1',hB1,hS⟩
 case round=>
  clear hB1 hS hb1'
  obtain⟨k,hk,rfl,hbr,KB,KS⟩:=hrel
  by_cases hk16:k<16
  ·have hg:=zh (fun w' (h:Vid w' (.slice (some ⟨b,off,none⟩) 256 cap) xs)=>z6n xs _ (k:Int) y w' h kO kO y0 y1)
   have hP:lineV xs y k=pixL xs k (bt xs (160+gndV xs k y)) (gndV xs k y) L:=by rw[HLn.out];rfl
   have hd:=z7S xs (gndT xs k y) (gndX xs k%4) (gndY xs y%4)
   rw[show dotV xs (gndT xs k y) (gndX xs k%4) (gndY xs y%4)=gndV xs k y from rfl]at hd
   generalize gndV xs k y=d at*
   obtain⟨K1,hK1⟩:∃K:Nat,160+d=K:=⟨(160+d).toNat,by omega⟩
   have hz:=bt_in xs U.out K1
   rw[hK1]at hP
   have hki:(k:Int)<16:=by omega
   have W1:wrap64 d=d:=by unfold wrap64;omega
   have W2:wrap64 (160+d)=(K1:Int):=by unfold wrap64;omega
   have hK1i:(K1:Int)<256:=by omega
   go_wp2_with fail
   refine(hg.out _ (HV.out.below hbr)).mono ?_
   rintro e w2 ⟨rfl,hb2⟩
   have hbr2:Below w.heap.size w w2:=kL
   have KB2:=zh (KB.out.below hb2)
   have KS2:=zh (KS.out.below hb2)
   have cz:=(hbr2.cell (p:=⟨b,off+K1,none⟩) H.out.1).trans (H.out.2 K1 kO)
   generalize bt xs K1=z at*
   obtain⟨lB,cB,fB⟩:=KB2.out.use
   have cK:w2.cell? ⟨w.heap.size,k,none⟩=some (.int .u8 0):=by rw[cB,z0cJ _ _ _ hk16]
   clear cB KB KS hb2 hg hbr
   go_wp2_with fail
   refine z0h (R:=fun W=>Below w.heap.size w W/\Hid (Blk W w.heap.size ((lnC xs y k).setIfInBounds k (.int .u8 z)) 65)/\Hid (SP W (w.heap.size+1) a L)) ⟨kL,zh (Blk.set KB2.out rfl),zh (SP.set KS2.out kO)⟩ ?_
   intro w3 ⟨hb3,KB3,KS3⟩
   clear KB2 KS2 cz cK fB lB hbr2
   have hin':=hin.out
   have HIN:=zh hin'
   clear hin hin'
   have HP:=zh hP
   clear hP
   go_loopw [44] (fun i wr=>∃j:Nat,j<=L.length/\i= .int .i64 j/\Below w.heap.size w wr/\Hid (Blk wr w.heap.size ((lnC xs y k).setIfInBounds k (.int .u8 z)) 65)/\Hid (SP wr (w.heap.size+1) a L)/\Hid (pixL xs k z d (L.drop j)=lineV xs y k)) (fun i _=>(L.length-intOf i).toNat)
   case atStart=>exact⟨0,by omega,rfl,hb3,KB3,KS3,zh (by rw[List.drop_zero];exact HP.out.symm)⟩
   case round=>
    clear hb3 KB3 KS3 HP
    obtain⟨j,hj,rfl,hbr,KB,KS,HX⟩:=hrel
    by_cases hjl:j<L.length
    ·obtain⟨g,q,rfl,hg1,hg2,hdr,hm,hcl⟩:=KS.out j hjl
     obtain⟨s1,s2,s3,s4,s5,s6,s7,s8,s9,s10⟩:=HIN.out q hm
     have c0:=hcl 0 kO
     have c1:=hcl 1 kO
     have c2:=hcl 2 kO
     have c3:=hcl 3 kO
     have c4:=hcl 4 kO
     have hx:=HX.out
     rw[hdr]at hx
     clear hdr hm hcl HX
     obtain⟨qa,qx,qt,qr,qh⟩:=q
     simp only[spC,List.getElem?_cons_zero,List.getElem?_cons_succ,Nat.add_zero]at c0 c1 c2 c3 c4
     simp only at s1 s2 s3 s4 s5 s6 s7 s8 s9 s10
     have hji:(j:Int)<L.length:=by omega
     have W3:wrap64 ((k:Int)-qx)=k-qx:=by unfold wrap64;omega
     have W4:wrap64 (3-((k:Int)-qx))=3-(k-qx):=by unfold wrap64;omega
     have hdot:=zh (fun w' (h:Vid w' (.slice (some ⟨b,off,none⟩) 256 cap) xs) (x:Int) (x0:0<=x) (x1:x<=3)=>z7R xs _ qt x qr w' h s1 s2 x0 x1 s3 s4)
     have m1:bits .and .u8 qh 1=qh%2:=and1' qh ⟨s7,s8⟩
     have m7:bits .and .u8 qh 128=qh/128%2*128:=z0dv qh ⟨s7,s8⟩
     obtain⟨lB,cB,fB⟩:=KB.out.use
     rw[pixL]at hx
     simp only at hx
     by_cases hA:(k:Int)-qx<0
     ·rw[if_pos (Or.inl hA)]at hx
      have HE:=zh hx
      clear hx cB fB m1 m7 W4 hdot
      go_wp2
      go_roundw
      case rel=>exact⟨j+1,by omega,by go_num,kL,zh kB,zh (KS.out.below kL),HE⟩
      case measure=>simp[intOf];omega
     ·by_cases hB:3<(k:Int)-qx
      ·rw[if_pos (Or.inr hB)]at hx
       have HE:=zh hx
       clear hx cB fB m1 m7 W4 hdot
       go_wp2
       go_roundw
       case rel=>exact⟨j+1,by omega,by go_num,kL,zh kB,zh (KS.out.below kL),HE⟩
       case measure=>simp[intOf];omega
      ·rw[if_neg kO]at hx
       obtain⟨R,eR⟩:∃R:Int,R=if qh%2=1 then 3-((k:Int)-qx)else k-qx:=⟨_,rfl⟩
       rw[<-eR]at hx
       have hR:0<=R/\R<=3:=by rw[eR];split<;>omega
       have hc:=z7S xs qt R qr
       have hcall:=zh (fun w' h=>hdot.out w' h R hR.1 hR.2)
       clear hdot
       generalize dotV xs qt R qr=cc at*
       obtain⟨K2,hK2⟩:∃K:Nat,164+cc=K:=⟨(164+cc).toNat,by omega⟩
       rw[hK2]at hx
       have V1:wrap64 cc=cc:=by unfold wrap64;omega
       have V2:wrap64 (164+cc)=(K2:Int):=by unfold wrap64;omega
       have hK2i:(K2:Int)<256:=by omega
       have hz2:=bt_in xs U.out K2
       have HX2:=zh hx
       have HK2:=zh (H.out.2 K2 kO)
       generalize bt xs K2=z2 at*
       clear hx
       have cK:wr.cell? ⟨w.heap.size,k,none⟩=some (.int .u8 z):=by rw[cB];simp[z2A,hk16]
       clear cB
       by_cases hF:qh%2=1
       ·rw[if_pos hF]at eR
        rw[hF]at m1
        subst eR
        go_wp2_with fail
        refine(hcall.out _ ((HV.out.below hbr).below (show Below wr.heap.size wr (wr.alloc _)from kL))).mono ?_
        rintro e w5 ⟨rfl,hb5⟩
        have hbr5:Below w.heap.size w w5:=kL
        have KB5:Hid (Blk w5 w.heap.size ((lnC xs y k).setIfInBounds k (.int .u8 z)) 65):=zh ((KB.out.alloc _).below hb5)
        have KS5:Hid (SP w5 (w.heap.size+1) (some ⟨g,0,none⟩) L):=zh ((KS.out.below (show Below wr.heap.size wr (wr.alloc _)from kL)).below hb5)
        have KQ5:Hid (Blk w5 wr.heap.size #[.int .i64 qa,.int .i64 qx,.int .i64 qt,.int .i64 qr,.int .u8 qh] 196):=zh ((Blk.new _ _ _).below hb5)
        obtain⟨lB5,cB5,fB5⟩:=KB5.out.use
        obtain⟨lQ5,cQ5,fQ5⟩:=KQ5.out.use
        have cK5:w5.cell? ⟨w.heap.size,k,none⟩=some (.int .u8 z):=by rw[cB5];simp[z2A,hk16]
        have cz2:=(hbr5.cell (p:=⟨b,off+K2,none⟩) H.out.1).trans HK2.out
        clear cB5 cK KB KS lB fB hb5 hbr
        have hx2:=HX2.out
        clear HX2 HK2
        by_cases h0:cc=0
        ·rw[if_pos h0]at hx2
         have HE:=zh hx2
         clear hx2
         subst h0
         go_wp2
         go_roundw
         case rel=>exact⟨j+1,by omega,by go_num,hbr5,KB5,KS5,HE⟩
         case measure=>simp[intOf];omega
        ·rw[if_neg h0]at hx2
         have h0':(cc==0)=false:=by simpa using h0
         by_cases hq:qh/128%2=0
         ·rw[if_pos (Or.inl hq)]at hx2
          rw[hq,Int.zero_mul]at m7
          have E:((lnC xs y k).setIfInBounds k (.int .u8 z)).setIfInBounds k (.int .u8 z2)=lnC xs y (k+1):=by rw[Array.setIfInBounds_setIfInBounds,<-z1M xs y k hk16,<-hx2]
          have HE:=zh E
          clear E hx2 hq
          go_wp2
          go_roundw
          case rel=>exact⟨k+1,by omega,by go_num,kL,zh (Blk.set KB5.out HE.out),zh (SP.set KS5.out kO)⟩
          case measure=>simp[intOf];omega
         ·rw[show qh/128%2=1 by omega,show(1:Int)*128=128 from rfl]at m7
          by_cases hd0:d=0
          ·rw[if_pos (Or.inr hd0)]at hx2
           have E:((lnC xs y k).setIfInBounds k (.int .u8 z)).setIfInBounds k (.int .u8 z2)=lnC xs y (k+1):=by rw[Array.setIfInBounds_setIfInBounds,<-z1M xs y k hk16,<-hx2]
           have HE:=zh E
           have hd0':(d==0)=true:=by simpa using hd0
           clear E hx2 hq hd0
           go_wp2
           go_roundw
           case rel=>exact⟨k+1,by omega,by go_num,kL,zh (Blk.set KB5.out HE.out),zh (SP.set KS5.out kO)⟩
           case measure=>simp[intOf];omega
          ·rw[if_neg (by rintro(q|q);exact hq q;exact hd0 q)]at hx2
           have E:(lnC xs y k).setIfInBounds k (.int .u8 z)=lnC xs y (k+1):=by rw[<-z1M xs y k hk16,<-hx2]
           have HE:=zh E
           have hd0':(d==0)=false:=by simpa using hd0
           clear E hx2 hq hd0
           go_wp2
           go_roundw
           case rel=>exact⟨k+1,by omega,by go_num,hbr5,zh (by rw[<-HE.out];exact KB5.out),KS5⟩
           case measure=>simp[intOf];omega
       ·rw[if_neg hF]at eR
        rw[show qh%2=0 by omega]at m1
        subst eR
        go_wp2_with fail
        refine(hcall.out _ ((HV.out.below hbr).below (show Below wr.heap.size wr (wr.alloc _)from kL))).mono ?_
        rintro e w5 ⟨rfl,hb5⟩
        have hbr5:Below w.heap.size w w5:=kL
        have KB5:Hid (Blk w5 w.heap.size ((lnC xs y k).setIfInBounds k (.int .u8 z)) 65):=zh ((KB.out.alloc _).below hb5)
        have KS5:Hid (SP w5 (w.heap.size+1) (some ⟨g,0,none⟩) L):=zh ((KS.out.below (show Below wr.heap.size wr (wr.alloc _)from kL)).below hb5)
        have KQ5:Hid (Blk w5 wr.heap.size #[.int .i64 qa,.int .i64 qx,.int .i64 qt,.int .i64 qr,.int .u8 qh] 196):=zh ((Blk.new _ _ _).below hb5)
        obtain⟨lB5,cB5,fB5⟩:=KB5.out.use
        obtain⟨lQ5,cQ5,fQ5⟩:=KQ5.out.use
        have cK5:w5.cell? ⟨w.heap.size,k,none⟩=some (.int .u8 z):=by rw[cB5];simp[z2A,hk16]
        have cz2:=(hbr5.cell (p:=⟨b,off+K2,none⟩) H.out.1).trans HK2.out
        clear cB5 cK KB KS lB fB hb5 hbr
        have hx2:=HX2.out
        clear HX2 HK2
        by_cases h0:cc=0
        ·rw[if_pos h0]at hx2
         have HE:=zh hx2
         clear hx2
         subst h0
         go_wp2
         go_roundw
         case rel=>exact⟨j+1,by omega,by go_num,hbr5,KB5,KS5,HE⟩
         case measure=>simp[intOf];omega
        ·rw[if_neg h0]at hx2
         have h0':(cc==0)=false:=by simpa using h0
         by_cases hq:qh/128%2=0
         ·rw[if_pos (Or.inl hq)]at hx2
          rw[hq,Int.zero_mul]at m7
          have E:((lnC xs y k).setIfInBounds k (.int .u8 z)).setIfInBounds k (.int .u8 z2)=lnC xs y (k+1):=by rw[Array.setIfInBounds_setIfInBounds,<-z1M xs y k hk16,<-hx2]
          have HE:=zh E
          clear E hx2 hq
          go_wp2
          go_roundw
          case rel=>exact⟨k+1,by omega,by go_num,kL,zh (Blk.set KB5.out HE.out),zh (SP.set KS5.out kO)⟩
          case measure=>simp[intOf];omega
         ·rw[show qh/128%2=1 by omega,show(1:Int)*128=128 from rfl]at m7
          by_cases hd0:d=0
          ·rw[if_pos (Or.inr hd0)]at hx2
           have E:((lnC xs y k).setIfInBounds k (.int .u8 z)).setIfInBounds k (.int .u8 z2)=lnC xs y (k+1):=by rw[Array.setIfInBounds_setIfInBounds,<-z1M xs y k hk16,<-hx2]
           have HE:=zh E
           have hd0':(d==0)=true:=by simpa using hd0
           clear E hx2 hq hd0
           go_wp2
           go_roundw
           case rel=>exact⟨k+1,by omega,by go_num,kL,zh (Blk.set KB5.out HE.out),zh (SP.set KS5.out kO)⟩
           case measure=>simp[intOf];omega
          ·rw[if_neg (by rintro(q|q);exact hq q;exact hd0 q)]at hx2
           have E:(lnC xs y k).setIfInBounds k (.int .u8 z)=lnC xs y (k+1):=by rw[<-z1M xs y k hk16,<-hx2]
           have HE:=zh E
           have hd0':(d==0)=false:=by simpa using hd0
           clear E hx2 hq hd0
           go_wp2
           go_roundw
           case rel=>exact⟨k+1,by omega,by go_num,hbr5,zh (by rw[<-HE.out];exact KB5.out),KS5⟩
           case measure=>simp[intOf];omega
    ·have hj':j=L.length:=by omega
     subst hj'
     have hx:=HX.out
     rw[List.drop_length]at hx
     have E:(lnC xs y k).setIfInBounds k (.int .u8 z)=lnC xs y (k+1):=by rw[<-z1M xs y k hk16,<-hx];rfl
     have HE:=zh E
     clear E hx HX
     go_wp2
     go_roundw
     case rel=>exact⟨k+1,by omega,by go_num,hbr,zh (by rw[<-HE.out];exact KB.out),KS⟩
     case measure=>simp[intOf];omega
  ·have hk':k=16:=by omega
   subst hk'
   have hsz:=z2A xs y 16
   have hone:(lnC xs y 16).all (·.oneCell')=true:=by simp[lnC,Value.oneCell']
   have HO:=zh hone
   clear hone
   obtain⟨Z,hZ⟩:∃Z,Z=lnC xs y 16:=⟨_,rfl⟩
   rw[<-hZ]at HO hsz KB
   have HZ:=zh hZ
   clear hZ
   go_wp2_with (first
    |(refine z1h rfl 65 (.tmp 4) rfl (w.heap.size) rfl 65 Z KB.out _ Tryz.underlying65 rfl (by rw[hsz];kernel_rfl) ?_)
    |(refine z0r rfl 65 (.tmp 4) (.tmp 91) rfl (w.heap.size) Z rfl rfl 65 _ KB.out (by rw[hsz];kernel_rfl) rfl HO.out ?_;intro w7 hp7 K7)
    |fail)
   exact bodyPost_ret (z0q Tryz.results62 _ _ (w.heap.size) 65 Z _ rfl K7.out Tryz.underlying65 rfl (by rw[hsz];kernel_rfl)) rfl ⟨by rw[HZ.out];rfl,below_put hbr hp7 (Nat.le_refl _)⟩
end Go.Proofs.YtkoocfcnfolkhaaGreatDoor
namespace Go.Mq
open Go
structure Inp where
 ck:Int
 pd:Int
 dn:Int
def chkFrom:Int->List Inp->Int
 |_,[]=>0
 |last,x::t=>if x.ck<last\/400000<x.ck then 3 else if x.pd≠0/\x.pd≠1 then 5 else chkFrom x.ck t
def chkI(l:List Inp)(from':Int):Int:=if 40<l.length then 2 else chkFrom from' l
def letB:List UInt8:=[117,100,108,114,97,98,115,116]
def btn(n:Nat):List UInt8:=(List.range 8).map fun k=>if n/2^(7-k)%2=1 then letB.getD k 0 else 46
def ofGo:List UInt8->Nat->List UInt8->Option Nat
 |[],a,[]=>some a
 |c::cs,a,x::xs=>if x=c then ofGo cs (2*a+1) xs else if x=46 then ofGo cs (2*a) xs else none
 |_,_,_=>none
def ofBtn(l:List UInt8):Option Nat:=ofGo letB 0 l
def txt(bs:List Bool)(cs:List UInt8):List UInt8:=List.zipWith (fun b c=>if b then c else 46) bs cs
def num(bs:List Bool)(a:Nat):Nat:=bs.foldl (fun a b=>2*a+if b then 1 else 0) a
def sepBy (c:UInt8):List UInt8->List (List UInt8)
 |[]=>[[]]
 |x::t=>if x=c then []::sepBy c t else match sepBy c t with
  |[]=>[[x]]
  |y::r=>(x::y)::r
theorem z5o(c:UInt8)(l:List UInt8):sepBy c l≠[]:=by
 cases l with
 |nil=>simp[sepBy]
 |cons x t=>
  unfold sepBy
  split
  ·simp
  ·split<;>simp
theorem z3l(c:UInt8):∀l:List UInt8,c∉l->sepBy c l=[l]
 |[],_=>rfl
 |x::t,h=>by
  have h1:¬x=c:=fun e=>h (by simp[e])
  have h2:c∉t:=fun e=>h (by simp[e])
  rw[sepBy,if_neg h1,z3l c t h2]
theorem z4g(c:UInt8):∀(l r:List UInt8),c∉l->sepBy c (l++c::r)=l::sepBy c r
 |[],r,_=>by rw[List.nil_append,sepBy,if_pos rfl]
 |x::t,r,h=>by
  have h1:¬x=c:=fun e=>h (by simp[e])
  have h2:c∉t:=fun e=>h (by simp[e])
  rw[List.cons_append,sepBy,if_neg h1,z4g c t r h2]
def wholeZ(l:List UInt8):Option Int:=match Lib.atoiAll l with
 | .ok v=>if Lib.itoa v=l then some v else none
 |_=>none
def item(l:List UInt8):Option Inp:=match sepBy 32 l with
 |[a,b,c]=>match wholeZ a,wholeZ b,ofBtn c with
  |some k,some p,some d=>some ⟨k,p,d⟩
  |_,_,_=>none
 |_=>none
def parseGo:Nat->List Inp->List (List UInt8)->Sum Nat (List Inp)
 |i,_,[]=> .inl i
 |i,acc,[t]=>if t=[]then .inr acc else .inl i
 |i,acc,t::u::r=>match item t with
  |none=> .inl i
  |some x=>parseGo (i+1) (acc++[x]) (u::r)
def parseV(s:List UInt8):Sum Nat (List Inp):=parseGo 0 [] (sepBy 10 s)
def lineP(x:Inp):List UInt8:=Lib.itoa x.ck++[32]++Lib.itoa x.pd++[32]++btn x.dn.toNat++[10]
def printP(l:List Inp):List UInt8:=l.flatMap lineP
end Go.Mq
