/- The sprites that lie on a line. Conditions: a memory of 256 bytes. -/
import Derived.Test.YtkoocfcnfolkhaaGreatDoorSq
import Derived.Test.YtkoocfcnfolkhaaGreatDoorSh
import Derived.Test.YtkoocfcnfolkhaaGreatDoorRows
import Derived.Test.YtkoocfcnfolkhaaGreatDoorP18
set_option linter.unusedVariables false
set_option linter.unusedSimpArgs false
set_option maxHeartbeats 1000000
set_option maxRecDepth 100000
namespace Go.Mq
structure Sp where
 at':Int
 x:Int
 tile:Int
 row:Int
 how:Int
def spC(s:Sp):List Go.Value:=[.int .i64 s.at',.int .i64 s.x,.int .i64 s.tile,.int .i64 s.row,.int .u8 s.how]
def spK(xs:List Int)(y:Int)(k:Nat):Sp:=
 ⟨k,bt xs (128+4*k+1),bt xs (128+4*k+2)%16,if bt xs (128+4*k+3)/2%2=1 then 3-(y-bt xs (128+4*k))else y-bt xs (128+4*k),bt xs (128+4*k+3)⟩
def onF(xs:List Int)(y:Int):Nat->List Sp
 |0=>[]
 |k+1=>if y-bt xs (128+4*k)<0\/3<y-bt xs (128+4*k)\/(onF xs y k).length=2 then onF xs y k else onF xs y k++[spK xs y k]
theorem z3i(xs:List Int)(y:Int):∀k,(onF xs y k).length<=2
 |0=>by simp[onF]
 |k+1=>by
  have:=z3i xs y k
  unfold onF
  split
  ·exact this
  ·simp;omega
end Go.Mq
namespace Go.Proofs.YtkoocfcnfolkhaaGreatDoor
open Go.RowKit Go.Mq
theorem z0az:(Tryz.prog.info? 196).map (fun i=>(i.zero,i.size,i.bytes))=some (some (.agg #[.int .i64 0,.int .i64 0,.int .i64 0,.int .i64 0,.int .u8 0]),5,40):=by kernel_rfl
theorem and2(n:Int)(h:U8 n):bits .and .u8 n 2=n/2%2*2:=by
 unfold U8 at h
 rw[show n=((n.toNat:Nat):Int)from by omega,show(2:Int)=((2:Nat):Int)from rfl,u8_and_nat _ _ kO kO,show(2:Nat)=2^1 from rfl,nat_bit]
 simp
theorem z0al(xs:List Int)(v:Value)(y:Int)(w:World)(h:Vid w v xs)(y0:0<=y)(y1:y<=7):
  Calls Tryz.prog 96 #[v,.int .i64 y] w fun e w'=>∃u,e= .returned u/\w'.ownsRow w.heap.size 196 5 u (onF xs y 8).length ((onF xs y 8).flatMap spC)/\Below w.heap.size w w':=by
 have hu:=h.2.2
 obtain⟨b,off,cap,rfl,hc1,hc2,hb,hc⟩:=Vid.open' h
 have H:=zh (And.intro hb hc)
 have U:=zh hu
 unfold maxLen at hc2
 obtain⟨i0,hi,hz0,hz1,hz2⟩:=info_parts z0az
 have HI:=zh (And.intro hi (And.intro hz0 (And.intro hz1 hz2)))
 clear hi hz0 hz1 hz2 h hu hb hc
 go_enter Tryz.func96,Tryz.ntmps96
 go_wp2
 go_loopw [5,9] (fun l i wr=>∃k:Nat,k<=8/\i= .int .i64 k/\Hid (wr.ownsRow w.heap.size 196 5 l (onF xs y k).length ((onF xs y k).flatMap spC))/\Below w.heap.size w wr) (fun _ i _=>(8-intOf i).toNat)
 case atStart=>exact⟨0,by omega,rfl,zh ⟨rfl,Or.inl ⟨rfl,rfl⟩⟩,Below.refl _ _⟩
 case round=>
  obtain⟨k,hk,rfl,KO,hbr⟩:=hrel
  by_cases hk8:k<8
  ·obtain⟨ao,cp,rfl⟩:=z0a KO.out
   have hl2:=z3i xs y k
   have hst:onF xs y (k+1)=if y-bt xs (128+4*k)<0\/3<y-bt xs (128+4*k)\/(onF xs y k).length=2 then onF xs y k else onF xs y k++[spK xs y k]:=rfl
   have hsp:spK xs y k=⟨k,bt xs (128+4*k+1),bt xs (128+4*k+2)%16,if bt xs (128+4*k+3)/2%2=1 then 3-(y-bt xs (128+4*k))else y-bt xs (128+4*k),bt xs (128+4*k+3)⟩:=rfl
   obtain⟨K,hK⟩:∃K:Nat,128+4*k=K:=⟨_,rfl⟩
   have hK':(128+4*(k:Int))=K:=by omega
   have c0:wr.cell? ⟨b,off+K,none⟩=some (.int .u8 (bt xs (K))):=by
    have:=H.out.2 (K+0) kO
    rw[<-hbr.cell (p:=⟨b,off+(K+0),none⟩) H.out.1]at this
    exact this
   have c1:wr.cell? ⟨b,off+K+1,none⟩=some (.int .u8 (bt xs (K+1))):=by
    have:=H.out.2 (K+1) kO
    rw[<-hbr.cell (p:=⟨b,off+(K+1),none⟩) H.out.1]at this
    exact this
   have c2:wr.cell? ⟨b,off+K+2,none⟩=some (.int .u8 (bt xs (K+2))):=by
    have:=H.out.2 (K+2) kO
    rw[<-hbr.cell (p:=⟨b,off+(K+2),none⟩) H.out.1]at this
    exact this
   have c3:wr.cell? ⟨b,off+K+3,none⟩=some (.int .u8 (bt xs (K+3))):=by
    have:=H.out.2 (K+3) kO
    rw[<-hbr.cell (p:=⟨b,off+(K+3),none⟩) H.out.1]at this
    exact this
   have D1:Hid (w.cell? ⟨b,off+K+1,none⟩=some (.int .u8 (bt xs (K+1)))):=zh (H.out.2 (K+1) kO)
   have D2:Hid (w.cell? ⟨b,off+K+2,none⟩=some (.int .u8 (bt xs (K+2)))):=zh (H.out.2 (K+2) kO)
   have D3:Hid (w.cell? ⟨b,off+K+3,none⟩=some (.int .u8 (bt xs (K+3)))):=zh (H.out.2 (K+3) kO)
   have g0:=bt_in xs U.out K
   have g1:=bt_in xs U.out (K+1)
   have g2:=bt_in xs U.out (K+2)
   have g3:=bt_in xs U.out (K+3)
   rw[hK']at hst hsp
   have hn:((onF xs y k).length:Int)<=2:=by omega
   have KO':=KO
   generalize onF xs y k=L at*
   generalize bt xs K=z0 at*
   generalize bt xs (K+1)=z1 at*
   generalize bt xs (K+2)=z2 at*
   generalize bt xs (K+3)=z3 at*
   have W1:wrap64 (4*(k:Int))=4*k:=by unfold wrap64;omega
   have W2:wrap64 (128+4*(k:Int))=K:=by unfold wrap64;omega
   have W3:wrap64 ((K:Int)+4)=K+4:=by unfold wrap64;omega
   have W4:wrap64 z0=z0:=by unfold wrap64;omega
   have W5:wrap64 (y-z0)=y-z0:=by unfold wrap64;omega
   have hki:(k:Int)<8:=by omega
   have hKi:(K:Int)+4<=256:=by omega
   by_cases hA:y-z0<0
   ·have E:onF xs y (k+1)=L:=by rw[hst,if_pos (Or.inl hA)]
    have E':=zh E
    clear E hst hsp
    go_wp2_with fail
    refine⟨⟨k+1,by omega,by go_num,zh (by rw[E'.out];exact KO.out),hbr⟩,by simp[intOf];omega⟩
   ·by_cases hB:3<y-z0
    ·have E:onF xs y (k+1)=L:=by rw[hst,if_pos (Or.inr (Or.inl hB))]
     have E':=zh E
     clear E hst hsp
     go_wp2_with fail
     refine⟨⟨k+1,by omega,by go_num,zh (by rw[E'.out];exact KO.out),hbr⟩,by simp[intOf];omega⟩
    ·by_cases hC:L.length=2
     ·have E:onF xs y (k+1)=L:=by rw[hst,if_pos (Or.inr (Or.inr hC))]
      have E':=zh E
      have hCi:((L.length:Int)==2)=true:=by simp[hC]
      clear E hst hsp
      go_wp2_with fail
      refine⟨⟨k+1,by omega,by go_num,zh (by rw[E'.out];exact KO.out),hbr⟩,by simp[intOf];omega⟩
     ·have E:onF xs y (k+1)=L++[spK xs y k]:=by rw[hst,if_neg (by rintro(q|q|q);exact hA q;exact hB q;exact hC q)]
      rw[hsp]at E
      have hCi:((L.length:Int)==2)=false:=by simp;omega
      have m2:=and2 z3 (by unfold U8;omega)
      have m3:=z8F z2 kO kO
      have W6:wrap64 z1=z1:=by unfold wrap64;omega
      have W7:wrap64 z2=z2:=by unfold wrap64;omega
      have W8:wrap64 (3-(y-z0))=3-(y-z0):=by unfold wrap64;omega
      have J1:IntKind.i64.wrap z1=z1:=by rw[IntKind.wrap_i64];omega
      have J2:IntKind.i64.wrap z2=z2:=by rw[IntKind.wrap_i64];omega
      by_cases hF:z3/2%2=1
      ·rw[if_pos hF]at E
       rw[hF,show(1:Int)*2=2 from rfl]at m2
       have E':=zh E
       clear E hst hsp hF
       go_wp2_with fail
       refine wp_region_held_drew (S:=fun X=>Below w.heap.size w X) kR hbr.drew (fun hS=> ?_)
       refine wpAnyH_take (i:=0) (v:= ?v0) rfl kR kR kR (fun _ _ _ h=>h) (Or.inl ⟨by rfl,?y0⟩) hS ?_
       case y0=>(intro X hSw;go_simp;try with_reducible rfl)
       try simp only[yA,yB,yC,Act.put,yD,yE,yF]
       refine wpAnyH_take (i:=1) (v:= ?v1) rfl kR kR kR (fun _ _ _ h=>h) (Or.inl ⟨by rfl,?y1⟩) hS ?_
       case y1=>(intro X hSw;go_simp;try with_reducible rfl)
       try simp only[yA,yB,yC,Act.put,yD,yE,yF]
       refine wpAnyH_take (i:=2) (v:= ?v2) rfl kR kR kR (fun _ _ _ h=>h) (Or.inl ⟨by rfl,?y2⟩) hS ?_
       case y2=>(intro X hSw;go_simp;try with_reducible rfl)
       try simp only[yA,yB,yC,Act.put,yD,yE,yF]
       refine wpAnyH_take (i:=3) (v:= ?v3) rfl kR kR kR (fun _ _ _ h=>h) (Or.inl ⟨by rfl,?y3⟩) hS ?_
       case y3=>(intro X hSw;go_simp;try with_reducible rfl)
       try simp only[yA,yB,yC,Act.put,yD,yE,yF]
       refine wpAnyH_take (i:=4) (v:= ?v4) rfl kR kR kR (fun _ _ _ h=>h) (Or.inl ⟨by rfl,?y4⟩) hS ?_
       case y4=>(intro X hSw;have q:X.cell? ⟨b,off+K+1,none⟩=some (.int .u8 z1):=(hSw.cell (p:=⟨b,off+K+1,none⟩) H.out.1).trans D1.out;go_simp;try with_reducible rfl)
       try simp only[yA,yB,yC,Act.put,yD,yE,yF]
       refine wpAnyH_take (i:=5) (v:= ?v5) rfl kR kR kR (fun _ _ _ h=>h) (Or.inl ⟨by rfl,?y5⟩) hS ?_
       case y5=>(intro X hSw;go_simp;try with_reducible rfl)
       try simp only[yA,yB,yC,Act.put,yD,yE,yF]
       refine wpAnyH_take (i:=6) (v:= ?v6) rfl kR kR kR (fun _ _ _ h=>h) (Or.inl ⟨by rfl,?y6⟩) hS ?_
       case y6=>(intro X hSw;go_simp;try with_reducible rfl)
       try simp only[yA,yB,yC,Act.put,yD,yE,yF]
       refine wpAnyH_take (i:=7) (v:= ?v7) rfl kR kR kR (fun _ _ _ h=>h) (Or.inl ⟨by rfl,?y7⟩) hS ?_
       case y7=>(intro X hSw;go_simp;try with_reducible rfl)
       try simp only[yA,yB,yC,Act.put,yD,yE,yF]
       refine wpAnyH_take (i:=8) (v:= ?v8) rfl kR kR kR (fun _ _ _ h=>h) (Or.inl ⟨by rfl,?y8⟩) hS ?_
       case y8=>(intro X hSw;have q:X.cell? ⟨b,off+K+2,none⟩=some (.int .u8 z2):=(hSw.cell (p:=⟨b,off+K+2,none⟩) H.out.1).trans D2.out;go_simp;try with_reducible rfl)
       try simp only[yA,yB,yC,Act.put,yD,yE,yF]
       refine wpAnyH_take (i:=9) (v:= ?v9) rfl kR kR kR (fun _ _ _ h=>h) (Or.inl ⟨by rfl,?y9⟩) hS ?_
       case y9=>(intro X hSw;go_simp;try with_reducible rfl)
       try simp only[yA,yB,yC,Act.put,yD,yE,yF]
       refine wpAnyH_take (i:=10) (v:= ?v10) rfl kR kR kR (fun _ _ _ h=>h) (Or.inl ⟨by rfl,?y10⟩) hS ?_
       case y10=>(intro X hSw;go_simp;try with_reducible rfl)
       try simp only[yA,yB,yC,Act.put,yD,yE,yF]
       refine wpAnyH_take (i:=11) (v:= ?v11) rfl kR kR kR (fun _ _ _ h=>h) (Or.inl ⟨by rfl,?y11⟩) hS ?_
       case y11=>(intro X hSw;go_simp;try with_reducible rfl)
       try simp only[yA,yB,yC,Act.put,yD,yE,yF]
       refine wpAnyH_take (i:=12) (v:= ?v12) rfl kR kR kR (fun _ _ _ h=>h) (Or.inl ⟨by rfl,?y12⟩) hS ?_
       case y12=>(intro X hSw;go_simp;try with_reducible rfl)
       try simp only[yA,yB,yC,Act.put,yD,yE,yF]
       refine wpAnyH_take (i:=13) (v:= ?v13) rfl kR kR kR (fun _ _ _ h=>h) (Or.inl ⟨by rfl,?y13⟩) hS ?_
       case y13=>(intro X hSw;go_simp;try with_reducible rfl)
       try simp only[yA,yB,yC,Act.put,yD,yE,yF]
       refine wpAnyH_take (i:=14) (v:= ?v14) rfl kR kR kR (fun _ _ _ h=>h) (Or.inl ⟨by rfl,?y14⟩) hS ?_
       case y14=>(intro X hSw;have q:X.cell? ⟨b,off+K+3,none⟩=some (.int .u8 z3):=(hSw.cell (p:=⟨b,off+K+3,none⟩) H.out.1).trans D3.out;go_simp;try with_reducible rfl)
       try simp only[yA,yB,yC,Act.put,yD,yE,yF]
       refine wpAnyH_take (i:=15) (v:= ?v15) rfl kR kR kR (fun _ _ _ h=>h) (Or.inl ⟨by rfl,?y15⟩) hS ?_
       case y15=>(intro X hSw;go_simp;try with_reducible rfl)
       try simp only[yA,yB,yC,Act.put,yD,yE,yF]
       try simp only[J1,J2,m3]
       refine rH 16 fun K hK=> ?_
       go_simp
       refine hK.out _ _ (hbr.drew.alloc (by have:=hbr.size;simpa using this) _) (fun hS=> ?_)
       clear hK K
       try simp only[yA,yB,yC,Act.put,yD,yE,yF]
       have KO2:Hid (wr.drew.ownsRow w.heap.size 196 5 (.slice ao L.length cp) L.length (L.flatMap spC)):=zh (World.ownsRow.drew KO.out)
       refine rH 17 fun K hK=> ?_
       rw[if_pos (by rfl)]
       refine wp_append_own _ (.tmp 45) (.tmp 61) 192 rfl (w.heap.size) 196 i0 (.agg #[.int .i64 0,.int .i64 0,.int .i64 0,.int .i64 0,.int .u8 0]) 5 40 Tryz.underlying192 HI.out.1 HI.out.2.1 HI.out.2.2.1 HI.out.2.2.2 rfl kD _ _ _ rfl (KO2.out.alloc _) ⟨wr.heap.size,0,none⟩ 1 1 [.int .i64 k,.int .i64 z1,.int .i64 (z2%16),.int .i64 (3-(y-z0)),.int .u8 z3] rfl rfl ?c1 ?c2 ?c3 ?c4 ?c5 ?c6
       case c1=>
        intro j u hj
        match j,hj with
        |0,hj=>simp at hj;subst hj;simp[Addr.add]
        |1,hj=>simp at hj;subst hj;simp[Addr.add]
        |2,hj=>simp at hj;subst hj;simp[Addr.add]
        |3,hj=>simp at hj;subst hj;simp[Addr.add]
        |4,hj=>simp at hj;subst hj;simp[Addr.add]
       case c2=>intro u hu;simp at hu;rcases hu with rfl|rfl|rfl|rfl|rfl<;>rfl
       case c3=>unfold maxLen;omega
       case c4=>omega
       case c5=>have:=hbr.size;simp;omega
       case c6=>
        intro v' w5 hown hgrow _
        have hb5:Below w.heap.size w w5:=z0w (below_alloc hbr.drew _) (by have:=hbr.size;simp;omega) hgrow (KO2.out.alloc _) kO
        refine hK.out _ _ hb5 (fun hS=> ?_)
        clear hK K
        try simp only[yA,yB,yC,Act.put,yD,yE,yF]
        refine wpAnyH_take (i:=18) (v:= ?v18) rfl kR kR kR (fun _ _ _ h=>h) (Or.inl ⟨by rfl,?y18⟩) hS ?_
        case y18=>(intro X hSw;go_simp;try with_reducible rfl)
        try simp only[yA,yB,yC,Act.put,yD,yE,yF]
        refine wpAnyH_done kR ?_ _
        go_wp2_with fail
        refine⟨⟨k+1,by omega,by go_num,zh ?_,hb5⟩,by simp[intOf];omega⟩
        rw[E'.out,List.length_append,List.flatMap_append]
        simpa [spC]using hown
      ·rw[if_neg hF]at E
       rw[show z3/2%2=0 by omega,Int.zero_mul]at m2
       have E':=zh E
       clear E hst hsp hF
       go_wp2_with fail
       refine wp_region_held_drew (S:=fun X=>Below w.heap.size w X) kR hbr.drew (fun hS=> ?_)
       refine wpAnyH_take (i:=0) (v:= ?v0b) rfl kR kR kR (fun _ _ _ h=>h) (Or.inl ⟨by rfl,?y0b⟩) hS ?_
       case y0b=>(intro X hSw;go_simp;try with_reducible rfl)
       try simp only[yA,yB,yC,Act.put,yD,yE,yF]
       refine wpAnyH_take (i:=1) (v:= ?v1b) rfl kR kR kR (fun _ _ _ h=>h) (Or.inl ⟨by rfl,?y1b⟩) hS ?_
       case y1b=>(intro X hSw;go_simp;try with_reducible rfl)
       try simp only[yA,yB,yC,Act.put,yD,yE,yF]
       refine wpAnyH_take (i:=2) (v:= ?v2b) rfl kR kR kR (fun _ _ _ h=>h) (Or.inl ⟨by rfl,?y2b⟩) hS ?_
       case y2b=>(intro X hSw;go_simp;try with_reducible rfl)
       try simp only[yA,yB,yC,Act.put,yD,yE,yF]
       refine wpAnyH_take (i:=3) (v:= ?v3b) rfl kR kR kR (fun _ _ _ h=>h) (Or.inl ⟨by rfl,?y3b⟩) hS ?_
       case y3b=>(intro X hSw;go_simp;try with_reducible rfl)
       try simp only[yA,yB,yC,Act.put,yD,yE,yF]
       refine wpAnyH_take (i:=4) (v:= ?v4b) rfl kR kR kR (fun _ _ _ h=>h) (Or.inl ⟨by rfl,?y4b⟩) hS ?_
       case y4b=>(intro X hSw;have q:X.cell? ⟨b,off+K+1,none⟩=some (.int .u8 z1):=(hSw.cell (p:=⟨b,off+K+1,none⟩) H.out.1).trans D1.out;go_simp;try with_reducible rfl)
       try simp only[yA,yB,yC,Act.put,yD,yE,yF]
       refine wpAnyH_take (i:=5) (v:= ?v5b) rfl kR kR kR (fun _ _ _ h=>h) (Or.inl ⟨by rfl,?y5b⟩) hS ?_
       case y5b=>(intro X hSw;go_simp;try with_reducible rfl)
       try simp only[yA,yB,yC,Act.put,yD,yE,yF]
       refine wpAnyH_take (i:=6) (v:= ?v6b) rfl kR kR kR (fun _ _ _ h=>h) (Or.inl ⟨by rfl,?y6b⟩) hS ?_
       case y6b=>(intro X hSw;go_simp;try with_reducible rfl)
       try simp only[yA,yB,yC,Act.put,yD,yE,yF]
       refine wpAnyH_take (i:=7) (v:= ?v7b) rfl kR kR kR (fun _ _ _ h=>h) (Or.inl ⟨by rfl,?y7b⟩) hS ?_
       case y7b=>(intro X hSw;go_simp;try with_reducible rfl)
       try simp only[yA,yB,yC,Act.put,yD,yE,yF]
       refine wpAnyH_take (i:=8) (v:= ?v8b) rfl kR kR kR (fun _ _ _ h=>h) (Or.inl ⟨by rfl,?y8b⟩) hS ?_
       case y8b=>(intro X hSw;have q:X.cell? ⟨b,off+K+2,none⟩=some (.int .u8 z2):=(hSw.cell (p:=⟨b,off+K+2,none⟩) H.out.1).trans D2.out;go_simp;try with_reducible rfl)
       try simp only[yA,yB,yC,Act.put,yD,yE,yF]
       refine wpAnyH_take (i:=9) (v:= ?v9b) rfl kR kR kR (fun _ _ _ h=>h) (Or.inl ⟨by rfl,?y9b⟩) hS ?_
       case y9b=>(intro X hSw;go_simp;try with_reducible rfl)
       try simp only[yA,yB,yC,Act.put,yD,yE,yF]
       refine wpAnyH_take (i:=10) (v:= ?v10b) rfl kR kR kR (fun _ _ _ h=>h) (Or.inl ⟨by rfl,?y10b⟩) hS ?_
       case y10b=>(intro X hSw;go_simp;try with_reducible rfl)
       try simp only[yA,yB,yC,Act.put,yD,yE,yF]
       refine wpAnyH_take (i:=11) (v:= ?v11b) rfl kR kR kR (fun _ _ _ h=>h) (Or.inl ⟨by rfl,?y11b⟩) hS ?_
       case y11b=>(intro X hSw;go_simp;try with_reducible rfl)
       try simp only[yA,yB,yC,Act.put,yD,yE,yF]
       refine wpAnyH_take (i:=12) (v:= ?v12b) rfl kR kR kR (fun _ _ _ h=>h) (Or.inl ⟨by rfl,?y12b⟩) hS ?_
       case y12b=>(intro X hSw;go_simp;try with_reducible rfl)
       try simp only[yA,yB,yC,Act.put,yD,yE,yF]
       refine wpAnyH_take (i:=13) (v:= ?v13b) rfl kR kR kR (fun _ _ _ h=>h) (Or.inl ⟨by rfl,?y13b⟩) hS ?_
       case y13b=>(intro X hSw;go_simp;try with_reducible rfl)
       try simp only[yA,yB,yC,Act.put,yD,yE,yF]
       refine wpAnyH_take (i:=14) (v:= ?v14b) rfl kR kR kR (fun _ _ _ h=>h) (Or.inl ⟨by rfl,?y14b⟩) hS ?_
       case y14b=>(intro X hSw;have q:X.cell? ⟨b,off+K+3,none⟩=some (.int .u8 z3):=(hSw.cell (p:=⟨b,off+K+3,none⟩) H.out.1).trans D3.out;go_simp;try with_reducible rfl)
       try simp only[yA,yB,yC,Act.put,yD,yE,yF]
       refine wpAnyH_take (i:=15) (v:= ?v15b) rfl kR kR kR (fun _ _ _ h=>h) (Or.inl ⟨by rfl,?y15b⟩) hS ?_
       case y15b=>(intro X hSw;go_simp;try with_reducible rfl)
       try simp only[yA,yB,yC,Act.put,yD,yE,yF]
       try simp only[J1,J2,m3]
       refine rH 16 fun K hK=> ?_
       go_simp
       refine hK.out _ _ (hbr.drew.alloc (by have:=hbr.size;simpa using this) _) (fun hS=> ?_)
       clear hK K
       try simp only[yA,yB,yC,Act.put,yD,yE,yF]
       have KO2:Hid (wr.drew.ownsRow w.heap.size 196 5 (.slice ao L.length cp) L.length (L.flatMap spC)):=zh (World.ownsRow.drew KO.out)
       refine rH 17 fun K hK=> ?_
       rw[if_pos (by rfl)]
       refine wp_append_own _ (.tmp 45) (.tmp 61) 192 rfl (w.heap.size) 196 i0 (.agg #[.int .i64 0,.int .i64 0,.int .i64 0,.int .i64 0,.int .u8 0]) 5 40 Tryz.underlying192 HI.out.1 HI.out.2.1 HI.out.2.2.1 HI.out.2.2.2 rfl kD _ _ _ rfl (KO2.out.alloc _) ⟨wr.heap.size,0,none⟩ 1 1 [.int .i64 k,.int .i64 z1,.int .i64 (z2%16),.int .i64 (y-z0),.int .u8 z3] rfl rfl ?c1b ?c2b ?c3b ?c4b ?c5b ?c6b
       case c1b=>
        intro j u hj
        match j,hj with
        |0,hj=>simp at hj;subst hj;simp[Addr.add]
        |1,hj=>simp at hj;subst hj;simp[Addr.add]
        |2,hj=>simp at hj;subst hj;simp[Addr.add]
        |3,hj=>simp at hj;subst hj;simp[Addr.add]
        |4,hj=>simp at hj;subst hj;simp[Addr.add]
       case c2b=>intro u hu;simp at hu;rcases hu with rfl|rfl|rfl|rfl|rfl<;>rfl
       case c3b=>unfold maxLen;omega
       case c4b=>omega
       case c5b=>have:=hbr.size;simp;omega
       case c6b=>
        intro v' w5 hown hgrow _
        have hb5:Below w.heap.size w w5:=z0w (below_alloc hbr.drew _) (by have:=hbr.size;simp;omega) hgrow (KO2.out.alloc _) kO
        refine hK.out _ _ hb5 (fun hS=> ?_)
        clear hK K
        try simp only[yA,yB,yC,Act.put,yD,yE,yF]
        refine wpAnyH_take (i:=18) (v:= ?v18b) rfl kR kR kR (fun _ _ _ h=>h) (Or.inl ⟨by rfl,?y18b⟩) hS ?_
        case y18b=>(intro X hSw;go_simp;try with_reducible rfl)
        try simp only[yA,yB,yC,Act.put,yD,yE,yF]
        refine wpAnyH_done kR ?_ _
        go_wp2_with fail
        refine⟨⟨k+1,by omega,by go_num,zh ?_,hb5⟩,by simp[intOf];omega⟩
        rw[E'.out,List.length_append,List.flatMap_append]
        simpa [spC]using hown
  ·have hk':k=8:=by omega
   subst hk'
   go_wp2
   go_ret
   exact⟨_,rfl,KO.out,hbr⟩
end Go.Proofs.YtkoocfcnfolkhaaGreatDoor
