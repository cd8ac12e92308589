/- slices.Equal at what was pressed: two slices of the same. Conditions: they lie in memory. -/
import Derived.Test.YtkoocfcnfolkhaaGreatDoorSq
import Derived.Test.YtkoocfcnfolkhaaGreatDoorSh
import Derived.Test.YtkoocfcnfolkhaaGreatDoorP29
import Derived.Test.YtkoocfcnfolkhaaGreatDoorRows
import Derived.LoopTactic
import Derived.Test.YtkoocfcnfolkhaaGreatDoorTapePrs
set_option linter.unusedVariables false
set_option linter.unusedSimpArgs false
set_option maxHeartbeats 1000000
set_option maxRecDepth 100000
namespace Go.Proofs.YtkoocfcnfolkhaaGreatDoor
open Go.RowKit Go.Mq
theorem z5i(v u:Value)(xs:List Inp)(w:World)(h:InpsAt w v xs)(g:InpsAt w u xs)(hl:xs.length<=100000):
  Calls Tryz.prog 23 #[v,u] w fun e w'=>e= .returned (.bool true)/\Below w.heap.size w w':=by
 obtain⟨a,ca,rfl,h1,h2,-,h3⟩:=h
 obtain⟨b,cb,rfl,g1,g2,-,g3⟩:=g
 have H3:=zh h3
 have G3:=zh g3
 clear h3 g3
 go_enter Tryz.func23,Tryz.ntmps23
 go_wp2
 go_loopw [13] (fun i wr=>∃k:Nat,k<=xs.length/\i= .int .i64 k/\Below w.heap.size w wr) (fun i _=>(xs.length-intOf i).toNat)
 case atStart=>exact⟨0,by omega,rfl,Below.refl _ _⟩
 case round=>
  obtain⟨k,hk,rfl,hbr⟩:=hrel
  by_cases hkn:k<xs.length
  ·obtain⟨b1,o1,rfl,l1,c1⟩:=H3.out kO
   obtain⟨b2,o2,rfl,l2,c2⟩:=G3.out kO
   obtain⟨d0,d1,d2⟩:=c1 k hkn
   obtain⟨f0,f1,f2⟩:=c2 k hkn
   replace d0:=(hbr.cell (p:=⟨b1,_,none⟩) l1).trans d0
   replace d1:=(hbr.cell (p:=⟨b1,_,none⟩) l1).trans d1
   replace d2:=(hbr.cell (p:=⟨b1,_,none⟩) l1).trans d2
   replace f0:=(hbr.cell (p:=⟨b2,_,none⟩) l2).trans f0
   replace f1:=(hbr.cell (p:=⟨b2,_,none⟩) l2).trans f1
   replace f2:=(hbr.cell (p:=⟨b2,_,none⟩) l2).trans f2
   have hki:(k:Int)<xs.length:=by omega
   clear c1 c2
   generalize xs.getD k Inp0=y at*
   go_wp2_with fail
   go_quiet (fail)
   go_wp2
   go_roundw
   case rel=>exact⟨k+1,by omega,by go_num,(Go.Mq.below_drewN (by assumption) _)⟩
   case measure=>simp[intOf];omega
  ·have hkn':k=xs.length:=by omega
   subst hkn'
   go_wp2
   go_ret
   exact⟨rfl,kL⟩
end Go.Proofs.YtkoocfcnfolkhaaGreatDoor
namespace Go.Mq
open Go
def S0:List UInt8:=[49,48,32,49,32,117,46,46,46,46,46,46,116,10]
def L0:List Inp:=[⟨10,1,129⟩]
theorem z8t:Lib.itoa 10=[49,48]:=by
 have:Lib.decDigits 10=[49,48]:=by
  rw[Lib.decDigits,dif_neg kD,Lib.decDigits,dif_pos kD]
  decide
 show(if(10:Int)<0 then _ else Lib.decDigits (10:Int).toNat)=_
 rw[if_neg kD]
 exact this
theorem itoa1:Lib.itoa 1=[49]:=by
 have:Lib.decDigits 1=[49]:=by
  rw[Lib.decDigits,dif_pos kD]
  decide
 show(if(1:Int)<0 then _ else Lib.decDigits (1:Int).toNat)=_
 rw[if_neg kD]
 exact this
theorem item0:item [49,48,32,49,32,117,46,46,46,46,46,46,116]=some ⟨10,1,129⟩:=by
 unfold item
 rw[show sepBy 32 [49,48,32,49,32,117,46,46,46,46,46,46,116]=[[49,48],[49],[117,46,46,46,46,46,46,116]] by decide]
 simp only
 rw[show wholeZ [49,48]=some 10 by
   unfold wholeZ
   rw[show Lib.atoiAll [49,48]= .ok 10 by decide]
   simp only
   rw[if_pos z8t],
  show wholeZ [49]=some 1 by
   unfold wholeZ
   rw[show Lib.atoiAll [49]= .ok 1 by decide]
   simp only
   rw[if_pos itoa1],
  show ofBtn [117,46,46,46,46,46,46,116]=some 129 by decide]
 rfl
theorem z0ak:parseV S0= .inr L0:=by
 unfold parseV
 rw[show S0=[49,48,32,49,32,117,46,46,46,46,46,46,116]++10::[]from rfl,z2N 0 [] _ [] kD _ item0,z3G]
 rfl
theorem z0ag:printP L0=S0:=by
 show lineP ⟨10,1,129⟩++[]=_
 unfold lineP
 simp only
 rw[z8t,itoa1]
 decide
end Go.Mq
namespace Go.Proofs.YtkoocfcnfolkhaaGreatDoor
open Go.RowKit Go.Mq
theorem z7q(w:World)(hL:Lk w):Calls Tryz.prog 21 #[.string ⟨#[49,48,32,49,32,117,46,46,46,46,46,46,116,10]⟩] w fun e w'=>(∃v,e= .returned (.tuple #[v,.int .i64 0,.int .i64 0])/\InpsAt w' v L0)/\Below w.heap.size w w':=by
 refine(z5X ⟨S0.toArray⟩ w hL kD).mono ?_
 rintro e w' ⟨he,hb⟩
 refine⟨?_,hb⟩
 unfold ParseEnd at he
 rw[show(⟨S0.toArray⟩:ByteArray).data.toList=S0 from rfl,z0ak]at he
 simp only at he
 rw[if_pos (show chkI L0 0=0 by decide)]at he
 obtain⟨v,h1,h2,h3⟩:=he
 exact⟨v,h1,z4F h2 h3⟩
theorem z7o(v:Value)(w:World)(hL:Lk w)(h:InpsAt w v L0):Calls Tryz.prog 22 #[v] w fun e w'=>e= .returned (.tuple #[.string ⟨#[49,48,32,49,32,117,46,46,46,46,46,46,116,10]⟩,.int .i64 0])/\Below w.heap.size w w':=by
 have:=z5T v L0 w hL h kD
 rw[z0ag]at this
 exact this
theorem z2j(w:World)(hL:Lk w):Calls Tryz.prog 7 #[] w fun e w'=>e= .returned (.bool true)/\Below w.heap.size w w':=by
 have PS:=zh (z7q w hL)
 have PP:=zh z7o
 have EQ:=zh z5i
 have HL:=zh hL
 clear hL
 go_enter Tryz.func7,Tryz.ntmps7
 go_wp2_with fail
 refine(PS.out).mono ?_
 rintro e w1 ⟨⟨v,rfl,hv⟩,hb1⟩
 have HV:=zh hv
 clear hv
 go_wp2_with fail
 refine(PP.out v w1 (HL.out.below hb1) HV.out).mono ?_
 rintro e w2 ⟨rfl,hb2⟩
 have HV2:=zh (HV.out.below hb2)
 have hs1:=hb1.size
 go_wp2_with fail
 refine(EQ.out v _ L0 _ (HV2.out.below (below_alloc (Below.refl _ _) _)) ?_ kD).mono ?_
 ·exact⟨some ⟨w2.heap.size,0,none⟩,1,rfl,by decide,by decide,by intro x hx;simp[L0]at hx;subst hx;exact⟨(by unfold I64;decide:I64 10),(by unfold I64;decide:I64 1),(by unfold U8;decide:U8 129)⟩,fun _=>⟨w2.heap.size,0,rfl,by simp,fun i hi=>by
   have:i=0:=by simp[L0]at hi;omega
   subst this
   exact⟨(Blk.new w2 _ _).cell 0,(Blk.new w2 _ _).cell 1,(Blk.new w2 _ _).cell 2⟩⟩⟩
 rintro e w3 ⟨rfl,hb3⟩
 have hbb:Below w.heap.size w w3:=below_then (below_alloc (below_then hb1 hb2) _) hb3
 go_wp2
 go_ret
 exact⟨rfl,hbb⟩
end Go.Proofs.YtkoocfcnfolkhaaGreatDoor
