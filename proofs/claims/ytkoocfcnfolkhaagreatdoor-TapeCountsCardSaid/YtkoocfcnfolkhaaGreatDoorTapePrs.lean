/- The program reads what was pressed. Conditions: the library's variables hold what they were laid with. -/
import Derived.Test.YtkoocfcnfolkhaaGreatDoorSq
import Derived.Test.YtkoocfcnfolkhaaGreatDoorSh
import Derived.Test.YtkoocfcnfolkhaaGreatDoorP45
set_option linter.unusedVariables false
set_option linter.unusedSimpArgs false
set_option maxHeartbeats 2000000
set_option maxRecDepth 100000
namespace Go.Proofs.YtkoocfcnfolkhaaGreatDoor
open Go.RowKit Go.Mq
def strSz:Value->Nat
 | .string q=>q.size
 |_=>0
theorem z2G(l:List UInt8):strSz (.string ⟨l.toArray⟩)=l.length:=by simp[strSz,Lib.size_eq]
def ParseEnd(base:Nat)(s:List UInt8)(e:Ending)(w':World):Prop:=
 match parseV s with
 | .inl i=>e= .returned (.tuple #[.slice none 0 0,.int .i64 i,.int .i64 1])
 | .inr l=>if chkI l 0=0 then ∃v,e= .returned (.tuple #[v,.int .i64 0,.int .i64 0])/\w'.ownsRow base 63 3 v l.length (inpCells l)/\(∀x∈l,x.Ok)else e= .returned (.tuple #[.slice none 0 0,.int .i64 0,.int .i64 (chkI l 0)])
theorem infoI:(Tryz.prog.info? 63).map (fun i=>(i.zero,i.size,i.bytes))=some (some (.agg #[.int .i64 0,.int .i64 0,.int .u8 0]),3,24):=by kernel_rfl
theorem z1n(x:List UInt8)(hx:x.length<=4000)(v:Int)(h:Lib.atoiAll x= .ok v)(w:World):Calls Tryz.prog 53 #[.string ⟨x.toArray⟩] w fun e w'=>e= .returned (.tuple #[.int .i64 v,.nilIface])/\Below w.heap.size w w':=
 z8e ⟨x.toArray⟩ (by show x.toArray.size<=_;rw[List.size_toArray];omega) v (by simpa using h) w
theorem z6Q(x:List UInt8)(hx:x.length<=4000)(h:∀v,Lib.atoiAll x≠ .ok v)(w:World)(hL:Lk w):Calls Tryz.prog 53 #[.string ⟨x.toArray⟩] w fun e w'=>(∃(n:Int) (N:Nat),e= .returned (.tuple #[.int .i64 n,.iface 217 (.pointer (some ⟨N,0,none⟩))]))/\Below w.heap.size w w':=
 z9P ⟨x.toArray⟩ (by show x.toArray.size<=_;rw[List.size_toArray];omega) (by simpa using h) w hL
theorem of_n(x:List UInt8)(w:World):Calls Tryz.prog 54 #[.string ⟨x.toArray⟩] w fun e w'=>e= .returned (ofRes x)/\Below w.heap.size w w':=by
 have:=z8I ⟨x.toArray⟩ w
 simpa using this
theorem z0af(r:List UInt8)(hr:r.length<=4000)(h:(10:UInt8)∉r)(w:World)(hL:Lk w):Calls Tryz.prog 51 #[.string ⟨r.toArray⟩,.string ⟨#[10]⟩] w fun e w'=>e= .returned (.tuple #[.string ⟨r.toArray⟩,.string ⟨#[]⟩,.bool false])/\Below w.heap.size w w':=by
 have:=z6A ⟨r.toArray⟩ (by rw[Lib.size_eq];simp;omega) 10 w hL
 rw[show(⟨r.toArray⟩:ByteArray).data.toList=r by simp,z7R 10 r h]at this
 exact this
theorem cut_y(a b:List UInt8)(hr:(a++10::b).length<=4000)(h:(10:UInt8)∉a)(w:World)(hL:Lk w):Calls Tryz.prog 51 #[.string ⟨(a++10::b).toArray⟩,.string ⟨#[10]⟩] w fun e w'=>e= .returned (.tuple #[.string ⟨a.toArray⟩,.string ⟨b.toArray⟩,.bool true])/\Below w.heap.size w w':=by
 have:=z6A ⟨(a++10::b).toArray⟩ (by rw[Lib.size_eq,List.toList_toArray];omega) 10 w hL
 rw[show(⟨(a++10::b).toArray⟩:ByteArray).data.toList=a++10::b by simp,z9C 10 a b h]at this
 exact this
theorem z5E(r:List UInt8)(hr:r.length<=4000)(w:World)(hL:Lk w):Calls Tryz.prog 52 #[.string ⟨r.toArray⟩,.string ⟨#[32]⟩] w fun e w'=>
  e= .returned (.slice (some ⟨w.heap.size,0,none⟩) (sepBy 32 r).length (sepBy 32 r).length)/\w'=w.alloc (.cells ((sepBy 32 r).map strV).toArray 9):=by
 have:=z5F ⟨r.toArray⟩ (by rw[Lib.size_eq];simp;omega) 32 w hL
 rw[show(⟨r.toArray⟩:ByteArray).data.toList=r by simp]at this
 exact this
theorem z0aQ(x:List UInt8)(hx:x.length<=4000)(w:World)(hL:Lk w):Calls Tryz.prog 53 #[.string ⟨x.toArray⟩] w fun e w'=>(∃(n:Int) (er:Value),e= .returned (.tuple #[.int .i64 n,er]))/\Below w.heap.size w w':=by
 cases h:Lib.atoiAll x with
 |ok v=>exact(z1n x hx v h w).mono fun e w' ⟨he,hb⟩=>⟨⟨_,_,he⟩,hb⟩
 |_=>exact(z6Q x hx (fun v=>by rw[h];exact fun h=>by cases h) w hL).mono fun e w' ⟨⟨n,N,he⟩,hb⟩=>⟨⟨_,_,he⟩,hb⟩
theorem z4U(x:List UInt8):(∀v,Lib.atoiAll x≠ .ok v)\/∃v,Lib.atoiAll x= .ok v:=by
 cases h:Lib.atoiAll x with
 |ok v=>exact .inr ⟨v,rfl⟩
 |_=>exact .inl fun v hv=>by cases hv
theorem z2F{x:List UInt8}(h:∀v,Lib.atoiAll x≠ .ok v):wholeZ x=none:=by
 unfold wholeZ
 split
 ·exact absurd ‹_› (h _)
 ·rfl
theorem z6b(z:List UInt8)(h:ofBtn z=none)(w:World):Calls Tryz.prog 54 #[.string ⟨z.toArray⟩] w fun e w'=>e= .returned (.tuple #[.int .u8 0,.int .i64 1])/\Below w.heap.size w w':=by
 have:=of_n z w
 rw[show ofRes z= .tuple #[.int .u8 0,.int .i64 1] by rw[ofRes,h]]at this
 exact this
theorem z3j(z:List UInt8)(d:Nat)(h:ofBtn z=some d)(w:World):Calls Tryz.prog 54 #[.string ⟨z.toArray⟩] w fun e w'=>e= .returned (.tuple #[.int .u8 d,.int .i64 0])/\Below w.heap.size w w':=by
 have:=of_n z w
 rw[show ofRes z= .tuple #[.int .u8 d,.int .i64 0] by rw[ofRes,h]]at this
 exact this
theorem of_u(z:List UInt8)(w:World):Calls Tryz.prog 54 #[.string ⟨z.toArray⟩] w fun e w'=>(∃(d c:Int),e= .returned (.tuple #[.int .u8 d,.int .i64 c]))/\Below w.heap.size w w':=by
 cases h:ofBtn z with
 |none=>exact(z6b z h w).mono fun e w' ⟨he,hb⟩=>⟨⟨_,_,he⟩,hb⟩
 |some d=>exact(z3j z d h w).mono fun e w' ⟨he,hb⟩=>⟨⟨_,_,he⟩,hb⟩
theorem z3a(c:UInt8):∀(l x:List UInt8),x∈sepBy c l->x.length<=l.length
 |[],x,h=>by simp[sepBy]at h;simp[h]
 |y::t,x,h=>by
  rw[sepBy]at h
  split at h
  ·rcases List.mem_cons.1 h with rfl|h
   ·simp
   ·have:=z3a c t x h;simp;omega
  ·split at h
   ·simp at h;simp[h]
   ·rename_i z r hq
    rcases List.mem_cons.1 h with rfl|h
    ·have:=z3a c t z (by rw[hq];simp);simp;omega
    ·have:=z3a c t x (by rw[hq];simp[h]);simp;omega
theorem z5X(s:ByteArray)(w:World)(hL:Lk w)(hs:s.size<=4000):Calls Tryz.prog 21 #[.string s] w fun e w'=>ParseEnd w.heap.size s.data.toList e w'/\Below w.heap.size w w':=by
 have hs':¬(4000:Int)<s.size:=by omega
 have HL:=zh hL
 obtain⟨S,hS⟩:∃S,S=s.data.toList:=⟨_,rfl⟩
 have hSl:S.length<=4000:=by rw[hS,<-Lib.size_eq];exact hs
 have e0:s=⟨S.toArray⟩:=by rw[hS,Array.toArray_toList]
 rw[<-hS]
 obtain⟨Z,hZ⟩:∃Z,Z=(s.size:Int):=⟨_,rfl⟩
 clear hL hS hs
 subst e0
 obtain⟨i0,hi,hz0,hz1,hz2⟩:=info_parts infoI
 have HI:=zh (And.intro hi (And.intro hz0 (And.intro hz1 hz2)))
 clear hi hz0 hz1 hz2
 go_enter Tryz.func21,Tryz.ntmps21
 go_wp2
 go_loopw [0,2,5] (fun t v i wr=>∃(r:List UInt8) (acc:List Inp) (k:Nat),t= .string ⟨r.toArray⟩/\i= .int .i64 k/\Hid (r.length<=4000/\k+r.length<=4000/\acc.length<=k/\parseV S=parseGo k acc (sepBy 10 r)/\wr.ownsRow w.heap.size 63 3 v acc.length (inpCells acc)/\∀x∈acc,x.Ok)/\Below w.heap.size w wr) (fun t _ _ _=>strSz t)
 case atStart=>exact⟨S,[],0,rfl,rfl,zh ⟨by omega,by omega,by simp,rfl,⟨rfl,.inl ⟨rfl,rfl⟩⟩,by simp⟩,Below.refl _ _⟩
 case round=>
  obtain⟨r,acc,k,rfl,rfl,hx,hb⟩:=hrel
  by_cases h0:r=[]
  ·subst h0
   obtain⟨x1,x2,x3,x4,x5,x6⟩:=hx.out
   rw[z3G]at x4
   have IN:=z4F x5 x6
   have CI:=zh (z0V _ acc 0 _ IN (by unfold I64;omega))
   obtain⟨ao,cp,rfl⟩:=z0a x5
   clear IN hx
   by_cases hz:chkI acc 0=0
   ·rw[hz]at CI
    go_wp2_with fail
    refine(CI.out).mono ?_
    rintro e w1 ⟨rfl,hb1⟩
    have X5:=zh (own_below x5 hb1)
    have hbb:Below w.heap.size w w1:=hb.trans (hb1.mono hb.size)
    go_wp2
    go_ret3
    refine⟨?_,hbb⟩
    unfold ParseEnd
    rw[x4]
    simp only
    rw[if_pos hz]
    exact⟨_,rfl,X5.out,x6⟩
   ·have hz':(chkI acc 0 !=0)=true:=by simpa using hz
    have HZ:=zh hz
    clear hz
    go_wp2_with fail
    refine(CI.out).mono ?_
    rintro e w1 ⟨rfl,hb1⟩
    have hbb:Below w.heap.size w w1:=hb.trans (hb1.mono hb.size)
    go_wp2
    go_ret3
    refine⟨?_,hbb⟩
    unfold ParseEnd
    rw[x4]
    simp only
    rw[if_neg HZ.out]
    rfl
  ·have hne:r.isEmpty=false:=by simpa using h0
   by_cases h10:(10:UInt8)∈r
   ·obtain⟨a,b,rfl,ha⟩:∃a b:List UInt8,r=a++10::b/\(10:UInt8)∉a:=by
     rcases z0Q r 10 with⟨-,h2⟩|⟨a,b,e,h2,-⟩
     ·exact absurd h10 h2
     ·exact⟨a,b,e,h2⟩
    have hal:a.length<=4000:=by have:=hx.out.1;simp at this;omega
    have CY:=zh (cut_y a b hx.out.1 ha)
    have SN:=zh (z5E a hal)
    have HLr:=zh (HL.out.below hb)
    have OW:=zh hx.out.2.2.2.2.1
    have hab:a.length+b.length+1<=4000:=by have:=hx.out.1;simp at this;omega
    have SL:=zh (z3a 32 a)
    clear h10 h0
    rcases hq3:sepBy 32 a with _|⟨x,_|⟨y,_|⟨z,_|⟨z2,t⟩⟩⟩⟩
    ·exact absurd hq3 (z3b 32 a)
    all_goals first|(rw[hq3]at SN SL)|skip
    ·have E:Hid (parseV S= .inl k):=zh (by rw[hx.out.2.2.2.1];exact z0F k acc a b ha (by rw[item,hq3]))
     clear hx hq3
     go_wp2_with fail
     refine(CY.out _ HLr.out).mono ?_
     rintro e w1 ⟨rfl,hb1⟩
     have HL1:=zh (HLr.out.below hb1)
     have hbb:Below w.heap.size w w1:=hb.trans (hb1.mono hb.size)
     go_wp2_with fail
     refine(SN.out _ HL1.out).mono ?_
     rintro e w2 ⟨rfl,rfl⟩
     go_wp2
     go_ret3
     refine⟨?_,kL⟩
     unfold ParseEnd
     rw[E.out]
     rfl
    ·have E:Hid (parseV S= .inl k):=zh (by rw[hx.out.2.2.2.1];exact z0F k acc a b ha (by rw[item,hq3]))
     clear hx hq3
     go_wp2_with fail
     refine(CY.out _ HLr.out).mono ?_
     rintro e w1 ⟨rfl,hb1⟩
     have HL1:=zh (HLr.out.below hb1)
     have hbb:Below w.heap.size w w1:=hb.trans (hb1.mono hb.size)
     go_wp2_with fail
     refine(SN.out _ HL1.out).mono ?_
     rintro e w2 ⟨rfl,rfl⟩
     go_wp2
     go_ret3
     refine⟨?_,kL⟩
     unfold ParseEnd
     rw[E.out]
     rfl
    ·have hxl:x.length<=4000:=by have:=SL.out x kS;omega
     have hyl:y.length<=4000:=by have:=SL.out y kS;omega
     replace SN:Hid (∀w,Lk w->Calls Tryz.prog 52 #[.string ⟨a.toArray⟩,.string ⟨#[32]⟩] w fun e w'=>e= .returned (.slice (some ⟨w.heap.size,0,none⟩) 3 3)/\w'=w.alloc (.cells #[.string ⟨x.toArray⟩,.string ⟨y.toArray⟩,.string ⟨z.toArray⟩] 9)):=zh SN.out
    -- arms: written by mkprs.py
     rcases z4U x with hax|⟨v1,hax⟩
     ·skip
      have E:Hid (parseV S= .inl k):=zh (by rw[hx.out.2.2.2.1];exact z0F k acc a b ha (by rw[item,hq3];simp only;rw[z2F hax]))
      clear hx hq3
      go_wp2_with fail
      refine(CY.out _ HLr.out).mono ?_
      rintro e w1 ⟨rfl,hb1⟩
      have HL1:=zh (HLr.out.below hb1)
      have OW1:=zh (own_below OW.out hb1)
      have hbb:Below w.heap.size w w1:=hb.trans (hb1.mono hb.size)
      have hs1:=hbb.size
      clear hb1
      go_wp2_with fail
      refine(SN.out _ HL1.out).mono ?_
      rintro e w2 ⟨rfl,rfl⟩
      go_wp2_with fail
      refine cmark (F:=fun X=>Calls _ _ _ X _) (R:=fun W=>Below w.heap.size w W/\Hid (Blk W (w1.heap.size) (#[.string ⟨x.toArray⟩,.string ⟨y.toArray⟩,.string ⟨z.toArray⟩]) 9)/\Hid (Go.World.ownsRow W w.heap.size 63 3 u2 acc.length (inpCells acc))/\Hid (Lw Tryz.prog 0 W)) ⟨kL,zh kB,zh (own_below OW1.out (below_alloc (Below.refl _ _) _)),zh (HL1.out.below (below_alloc (Below.refl _ _) _))⟩ ?_
      rintro w2 ⟨hbw2,Kw2_0,OW2,HL2⟩
      obtain⟨lw2_0,cw2_0,fw2_0⟩:=Kw2_0.out.use
      refine(z6Q x hxl hax _ HL2.out).mono ?_
      rintro e w3 ⟨⟨n1,N1,rfl⟩,hb3⟩
      have HL3:=zh (HL2.out.below hb3)
      have OW3:=zh (own_below OW2.out hb3)
      have KW3:=zh (Kw2_0.out.below hb3)
      have cw3:=KW3.out.cell
      have hbw3:Below w.heap.size w w3:=below_then hbw2 hb3
      clear hb3 cw2_0 fw2_0
      go_wp2_with fail
      refine(z0aQ y hyl _ HL3.out).mono ?_
      rintro e w4 ⟨⟨n2,er2,rfl⟩,hb4⟩
      have HL4:=zh (HL3.out.below hb4)
      have OW4:=zh (own_below OW3.out hb4)
      have KW4:=zh (KW3.out.below hb4)
      have cw4:=KW4.out.cell
      have hbw4:Below w.heap.size w w4:=below_then hbw3 hb4
      clear hb4 cw3
      go_wp2_with fail
      refine(of_u z _).mono ?_
      rintro e w5 ⟨⟨d3,c3,rfl⟩,hb5⟩
      have HL5:=zh (HL4.out.below hb5)
      have OW5:=zh (own_below OW4.out hb5)
      have KW5:=zh (KW4.out.below hb5)
      have cw5:=KW5.out.cell
      have hbw5:Below w.heap.size w w5:=below_then hbw4 hb5
      clear hb5 cw4
      go_wp2
      go_quiet (fail)
      go_wp2
      go_ret3
      refine⟨?_,(Go.Mq.below_drewN hbw5 _)⟩
      unfold ParseEnd
      rw[E.out]
      rfl
     ·skip
      rcases z4U y with hay|⟨v2,hay⟩
      ·skip
       have E:Hid (parseV S= .inl k):=zh (by rw[hx.out.2.2.2.1];exact z0F k acc a b ha (by rw[item,hq3];simp only;rw[z2F hay];cases wholeZ x<;>rfl))
       clear hx hq3
       go_wp2_with fail
       refine(CY.out _ HLr.out).mono ?_
       rintro e w1 ⟨rfl,hb1⟩
       have HL1:=zh (HLr.out.below hb1)
       have OW1:=zh (own_below OW.out hb1)
       have hbb:Below w.heap.size w w1:=hb.trans (hb1.mono hb.size)
       have hs1:=hbb.size
       clear hb1
       go_wp2_with fail
       refine(SN.out _ HL1.out).mono ?_
       rintro e w2 ⟨rfl,rfl⟩
       go_wp2_with fail
       refine cmark (F:=fun X=>Calls _ _ _ X _) (R:=fun W=>Below w.heap.size w W/\Hid (Blk W (w1.heap.size) (#[.string ⟨x.toArray⟩,.string ⟨y.toArray⟩,.string ⟨z.toArray⟩]) 9)/\Hid (Go.World.ownsRow W w.heap.size 63 3 u2 acc.length (inpCells acc))/\Hid (Lw Tryz.prog 0 W)) ⟨kL,zh kB,zh (own_below OW1.out (below_alloc (Below.refl _ _) _)),zh (HL1.out.below (below_alloc (Below.refl _ _) _))⟩ ?_
       rintro w2 ⟨hbw2,Kw2_0,OW2,HL2⟩
       obtain⟨lw2_0,cw2_0,fw2_0⟩:=Kw2_0.out.use
       refine(z1n x hxl v1 hax _).mono ?_
       rintro e w3 ⟨rfl,hb3⟩
       have HL3:=zh (HL2.out.below hb3)
       have OW3:=zh (own_below OW2.out hb3)
       have KW3:=zh (Kw2_0.out.below hb3)
       have cw3:=KW3.out.cell
       have hbw3:Below w.heap.size w w3:=below_then hbw2 hb3
       clear hb3 cw2_0 fw2_0
       go_wp2_with fail
       refine(z6Q y hyl hay _ HL3.out).mono ?_
       rintro e w4 ⟨⟨n2,N2,rfl⟩,hb4⟩
       have HL4:=zh (HL3.out.below hb4)
       have OW4:=zh (own_below OW3.out hb4)
       have KW4:=zh (KW3.out.below hb4)
       have cw4:=KW4.out.cell
       have hbw4:Below w.heap.size w w4:=below_then hbw3 hb4
       clear hb4 cw3
       go_wp2_with fail
       refine(of_u z _).mono ?_
       rintro e w5 ⟨⟨d3,c3,rfl⟩,hb5⟩
       have HL5:=zh (HL4.out.below hb5)
       have OW5:=zh (own_below OW4.out hb5)
       have KW5:=zh (KW4.out.below hb5)
       have cw5:=KW5.out.cell
       have hbw5:Below w.heap.size w w5:=below_then hbw4 hb5
       clear hb5 cw4
       go_wp2
       go_quiet (fail)
       go_wp2
       go_ret3
       refine⟨?_,(Go.Mq.below_drewN hbw5 _)⟩
       unfold ParseEnd
       rw[E.out]
       rfl
      ·skip
       cases hz:ofBtn z with
       |none=>
        have E:Hid (parseV S= .inl k):=zh (by rw[hx.out.2.2.2.1];exact z0F k acc a b ha (by rw[item,hq3];simp only;rw[hz];cases wholeZ x<;>cases wholeZ y<;>rfl))
        clear hx hq3
        go_wp2_with fail
        refine(CY.out _ HLr.out).mono ?_
        rintro e w1 ⟨rfl,hb1⟩
        have HL1:=zh (HLr.out.below hb1)
        have OW1:=zh (own_below OW.out hb1)
        have hbb:Below w.heap.size w w1:=hb.trans (hb1.mono hb.size)
        have hs1:=hbb.size
        clear hb1
        go_wp2_with fail
        refine(SN.out _ HL1.out).mono ?_
        rintro e w2 ⟨rfl,rfl⟩
        go_wp2_with fail
        refine cmark (F:=fun X=>Calls _ _ _ X _) (R:=fun W=>Below w.heap.size w W/\Hid (Blk W (w1.heap.size) (#[.string ⟨x.toArray⟩,.string ⟨y.toArray⟩,.string ⟨z.toArray⟩]) 9)/\Hid (Go.World.ownsRow W w.heap.size 63 3 u2 acc.length (inpCells acc))/\Hid (Lw Tryz.prog 0 W)) ⟨kL,zh kB,zh (own_below OW1.out (below_alloc (Below.refl _ _) _)),zh (HL1.out.below (below_alloc (Below.refl _ _) _))⟩ ?_
        rintro w2 ⟨hbw2,Kw2_0,OW2,HL2⟩
        obtain⟨lw2_0,cw2_0,fw2_0⟩:=Kw2_0.out.use
        refine(z1n x hxl v1 hax _).mono ?_
        rintro e w3 ⟨rfl,hb3⟩
        have HL3:=zh (HL2.out.below hb3)
        have OW3:=zh (own_below OW2.out hb3)
        have KW3:=zh (Kw2_0.out.below hb3)
        have cw3:=KW3.out.cell
        have hbw3:Below w.heap.size w w3:=below_then hbw2 hb3
        clear hb3 cw2_0 fw2_0
        go_wp2_with fail
        refine(z1n y hyl v2 hay _).mono ?_
        rintro e w4 ⟨rfl,hb4⟩
        have HL4:=zh (HL3.out.below hb4)
        have OW4:=zh (own_below OW3.out hb4)
        have KW4:=zh (KW3.out.below hb4)
        have cw4:=KW4.out.cell
        have hbw4:Below w.heap.size w w4:=below_then hbw3 hb4
        clear hb4 cw3
        go_wp2_with fail
        refine(z6b z hz _).mono ?_
        rintro e w5 ⟨rfl,hb5⟩
        have HL5:=zh (HL4.out.below hb5)
        have OW5:=zh (own_below OW4.out hb5)
        have KW5:=zh (KW4.out.below hb5)
        have cw5:=KW5.out.cell
        have hbw5:Below w.heap.size w w5:=below_then hbw4 hb5
        clear hb5 cw4
        go_wp2
        go_quiet (fail)
        go_wp2
        go_ret3
        refine⟨?_,(Go.Mq.below_drewN hbw5 _)⟩
        unfold ParseEnd
        rw[E.out]
        rfl
       |some d=>
        have hd:=(z0aK hz).1
        have IV1:=zh (z4s hax)
        have IV2:=zh (z4s hay)
        by_cases h1:Lib.itoa v1=x
        ·by_cases h2:Lib.itoa v2=y
         ·have X:Hid (parseV S=parseGo (k+1) (acc++[⟨v1,v2,d⟩]) (sepBy 10 b)):=zh (by rw[hx.out.2.2.2.1];exact z2N k acc a b ha _ (by rw[item,hq3];simp only;rw[show wholeZ x=some v1 by rw[wholeZ,hax];simp only;rw[if_pos h1],show wholeZ y=some v2 by rw[wholeZ,hay];simp only;rw[if_pos h2],hz]))
          have XO:=zh hx.out.2.2.2.2.2
          have XL:=zh (And.intro (show k+(a.length+(b.length+1))<=4000 by have:=hx.out.2.1;simpa using this) hx.out.2.2.1)
          have XB:=zh hab
          have HD:=zh hd
          have q1:(Lib.itoa v1==x)=true:=beq_iff_eq.2 h1
          have q2:(Lib.itoa v2==y)=true:=beq_iff_eq.2 h2
          clear hx hq3 h1 h2
          go_wp2_with fail
          refine(CY.out _ HLr.out).mono ?_
          rintro e w1 ⟨rfl,hb1⟩
          have HL1:=zh (HLr.out.below hb1)
          have OW1:=zh (own_below OW.out hb1)
          have hbb:Below w.heap.size w w1:=hb.trans (hb1.mono hb.size)
          have hs1:=hbb.size
          clear hb1
          go_wp2_with fail
          refine(SN.out _ HL1.out).mono ?_
          rintro e w2 ⟨rfl,rfl⟩
          go_wp2_with fail
          refine cmark (F:=fun X=>Calls _ _ _ X _) (R:=fun W=>Below w.heap.size w W/\Hid (Blk W (w1.heap.size) (#[.string ⟨x.toArray⟩,.string ⟨y.toArray⟩,.string ⟨z.toArray⟩]) 9)/\Hid (Go.World.ownsRow W w.heap.size 63 3 u2 acc.length (inpCells acc))/\Hid (Lw Tryz.prog 0 W)) ⟨kL,zh kB,zh (own_below OW1.out (below_alloc (Below.refl _ _) _)),zh (HL1.out.below (below_alloc (Below.refl _ _) _))⟩ ?_
          rintro w2 ⟨hbw2,Kw2_0,OW2,HL2⟩
          obtain⟨lw2_0,cw2_0,fw2_0⟩:=Kw2_0.out.use
          refine(z1n x hxl v1 hax _).mono ?_
          rintro e w3 ⟨rfl,hb3⟩
          have HL3:=zh (HL2.out.below hb3)
          have OW3:=zh (own_below OW2.out hb3)
          have KW3:=zh (Kw2_0.out.below hb3)
          have cw3:=KW3.out.cell
          have hbw3:Below w.heap.size w w3:=below_then hbw2 hb3
          clear hb3 cw2_0 fw2_0
          go_wp2_with fail
          refine(z1n y hyl v2 hay _).mono ?_
          rintro e w4 ⟨rfl,hb4⟩
          have HL4:=zh (HL3.out.below hb4)
          have OW4:=zh (own_below OW3.out hb4)
          have KW4:=zh (KW3.out.below hb4)
          have cw4:=KW4.out.cell
          have hbw4:Below w.heap.size w w4:=below_then hbw3 hb4
          clear hb4 cw3
          go_wp2_with fail
          refine(z3j z d hz _).mono ?_
          rintro e w5 ⟨rfl,hb5⟩
          have HL5:=zh (HL4.out.below hb5)
          have OW5:=zh (own_below OW4.out hb5)
          have KW5:=zh (KW4.out.below hb5)
          have cw5:=KW5.out.cell
          have hbw5:Below w.heap.size w w5:=below_then hbw4 hb5
          clear hb5 cw4
          have HL5d:=zh (HL5.out.below (Below.refl _ _).drew)
          have KW5d:=zh KW5.out.drew
          go_wp2
          refine z0h (fun k W=>(k=15->W.cell? ⟨w1.heap.size,0,none⟩=some (.string ⟨x.toArray⟩))/\(k=23->W.cell? ⟨w1.heap.size,1,none⟩=some (.string ⟨y.toArray⟩))) [0,1,2,3,4,5,6,7,8,9,10,11,13,14,15,16,17,18,19,21,22,23,24,25] kR ?_
          refine tF 0 ⟨nD,nD⟩ ?_
          refine tF 1 ⟨nD,nD⟩ ?_
          refine tF 2 ⟨nD,nD⟩ ?_
          refine tF 3 ⟨nD,nD⟩ ?_
          try simp only[yA,yB,yC,Act.put,yD,yE,yF]
          refine tF 4 ⟨nD,nD⟩ ?_
          refine tF 5 ⟨nD,nD⟩ ?_
          refine tF 6 ⟨nD,nD⟩ ?_
          refine tF 7 ⟨nD,nD⟩ ?_
          try simp only[yA,yB,yC,Act.put,yD,yE,yF]
          refine tF 8 ⟨nD,nD⟩ ?_
          refine tF 9 ⟨nD,nD⟩ ?_
          refine tF 10 ⟨nD,nD⟩ ?_
          refine tF 11 ⟨nD,nD⟩ ?_
          try simp only[yA,yB,yC,Act.put,yD,yE,yF]
          refine tF 13 ⟨nD,nD⟩ ?_
          refine tF 14 ⟨nD,nD⟩ ?_
          refine tG 15 rfl (by intro w hF;have hF2:=hF.1 rfl;clear hF;go_simp;try with_reducible rfl) ⟨(fun _=>KW5d.out.cell 0),nD⟩ ?_
          try simp only[yA,yB,yC,Act.put,yD,yE,yF]
          refine rF 12 fun K hK=> ?_
          go_simp
          refine(z1c v1 IV1.out _ HL5d.out).mono ?_
          rintro e w6 ⟨rfl,hb6⟩
          try go_wp2_with fail
          refine hK.out _ _ (Sat.all kR (fun k=>⟨(fun _=>(KW5d.out.below hb6).cell 0),(fun _=>(KW5d.out.below hb6).cell 1)⟩)) ?_
          clear hK K
          try simp only[yA,yB,yC,Act.put,yD,yE,yF]
          have KW6:=zh (KW5d.out.below hb6)
          refine tF 16 ⟨nD,nD⟩ ?_
          refine tF 17 ⟨nD,nD⟩ ?_
          refine tF 18 ⟨nD,nD⟩ ?_
          refine tF 19 ⟨nD,nD⟩ ?_
          try simp only[yA,yB,yC,Act.put,yD,yE,yF]
          refine tF 21 ⟨nD,nD⟩ ?_
          refine tF 22 ⟨nD,nD⟩ ?_
          refine tG 23 rfl (by intro w hF;have hF2:=hF.2 rfl;clear hF;go_simp;try with_reducible rfl) ⟨nD,(fun _=>KW6.out.cell 1)⟩ ?_
          try simp only[yA,yB,yC,Act.put,yD,yE,yF]
          refine rF 20 fun K hK=> ?_
          go_simp
          refine(z1c v2 IV2.out _ (HL5d.out.below hb6)).mono ?_
          rintro e w7 ⟨rfl,hb7⟩
          try go_wp2_with fail
          refine hK.out _ _ (Sat.all kR (fun k=>⟨(fun _=>(KW6.out.below hb7).cell 0),(fun _=>(KW6.out.below hb7).cell 1)⟩)) ?_
          clear hK K
          try simp only[yA,yB,yC,Act.put,yD,yE,yF]
          refine tF 24 ⟨nD,nD⟩ ?_
          refine tF 25 ⟨nD,nD⟩ ?_
          refine z0f kR ?_ _
          have OW7:=zh (own_below (own_below (World.ownsRow.drew OW5.out) hb6) hb7)
          have hb8:Below w.heap.size w w7:=below_then (below_then hbw5.drew hb6) hb7
          have hs8:=hb8.size
          go_wp2_with (first
           |(at_builtin;refine wpList_append_own _ rfl (.tmp 88) (.tmp 93) 23 rfl w.heap.size 63 i0 (.agg #[.int .i64 0,.int .i64 0,.int .u8 0]) 3 24 Tryz.underlying23 HI.out.1 HI.out.2.1 HI.out.2.2.1 HI.out.2.2.2 rfl kD _ _ _ rfl (World.ownsRow.alloc OW7.out _) ⟨w7.heap.size,0,none⟩ 1 1 [.int .i64 v1,.int .i64 v2,.int .u8 d] rfl rfl ?c1 ?c2 ?c3 ?c4 ?c5 ?_)
           |fail)
          case c1=>
           intro j u hj
           match j,hj with
           |0,hj=>simp at hj;subst hj;simp[Addr.add]
           |1,hj=>simp at hj;subst hj;simp[Addr.add]
           |2,hj=>simp at hj;subst hj;simp[Addr.add]
          case c2=>
           intro u hu
           simp at hu
           rcases hu with rfl|rfl|rfl<;>rfl
          case c3=>have:=XL.out;unfold maxLen;omega
          case c4=>have:=XL.out;omega
          case c5=>simp;omega
          intro v' w9 hown hgrow _
          have hb9:Below w.heap.size w w9:=z0w (below_alloc hb8 _) (by simp;omega) hgrow (World.ownsRow.alloc OW7.out _) (Nat.le_refl _)
          have HO:Hid (w9.ownsRow w.heap.size 63 3 v' (acc++[(⟨v1,v2,d⟩:Inp)]).length (inpCells (acc++[(⟨v1,v2,d⟩:Inp)]))):=zh (by
           rw[List.length_append,show inpCells (acc++[(⟨v1,v2,d⟩:Inp)])=inpCells acc++[.int .i64 v1,.int .i64 v2,.int .u8 d] by simp[inpCells]]
           exact hown)
          obtain⟨ao',cp',rfl⟩:=z0a hown
          have OKX:Hid (∀q∈acc++[(⟨v1,v2,d⟩:Inp)],q.Ok):=zh (fun q hq=>by
           rcases List.mem_append.1 hq with h|h
           ·exact XO.out q h
           ·rw[List.mem_singleton]at h
            subst h
            exact⟨IV1.out,IV2.out,by unfold U8;have:=HD.out;show 0<=(d:Int)/\(d:Int)<=255;omega⟩)
          clear hown hgrow q1 q2
          have hkk:(k:Int)<=4000:=by have:=XL.out.1;omega
          go_wp2
          go_roundw
          case rel=>exact⟨b,_,k+1,rfl,by go_num,zh ⟨by have:=XB.out;omega,by have:=XL.out;have:=XB.out;omega,by rw[List.length_append];have:=XL.out;simp;omega,X.out,HO.out,OKX.out⟩,hb9⟩
          case measure=>rw[z2G,z2G];have:=XB.out;simp;omega
         ·have E:Hid (parseV S= .inl k):=zh (by rw[hx.out.2.2.2.1];exact z0F k acc a b ha (by rw[item,hq3];simp only;rw[show wholeZ y=none by rw[wholeZ,hay];simp only;rw[if_neg h2]];cases wholeZ x<;>rfl))
          have q1:(Lib.itoa v1==x)=true:=beq_iff_eq.2 h1
          have q2:(Lib.itoa v2==y)=false:=beq_eq_false_iff_ne.2 h2
          clear hx hq3 h1 h2
          go_wp2_with fail
          refine(CY.out _ HLr.out).mono ?_
          rintro e w1 ⟨rfl,hb1⟩
          have HL1:=zh (HLr.out.below hb1)
          have OW1:=zh (own_below OW.out hb1)
          have hbb:Below w.heap.size w w1:=hb.trans (hb1.mono hb.size)
          have hs1:=hbb.size
          clear hb1
          go_wp2_with fail
          refine(SN.out _ HL1.out).mono ?_
          rintro e w2 ⟨rfl,rfl⟩
          go_wp2_with fail
          refine cmark (F:=fun X=>Calls _ _ _ X _) (R:=fun W=>Below w.heap.size w W/\Hid (Blk W (w1.heap.size) (#[.string ⟨x.toArray⟩,.string ⟨y.toArray⟩,.string ⟨z.toArray⟩]) 9)/\Hid (Go.World.ownsRow W w.heap.size 63 3 u2 acc.length (inpCells acc))/\Hid (Lw Tryz.prog 0 W)) ⟨kL,zh kB,zh (own_below OW1.out (below_alloc (Below.refl _ _) _)),zh (HL1.out.below (below_alloc (Below.refl _ _) _))⟩ ?_
          rintro w2 ⟨hbw2,Kw2_0,OW2,HL2⟩
          obtain⟨lw2_0,cw2_0,fw2_0⟩:=Kw2_0.out.use
          refine(z1n x hxl v1 hax _).mono ?_
          rintro e w3 ⟨rfl,hb3⟩
          have HL3:=zh (HL2.out.below hb3)
          have OW3:=zh (own_below OW2.out hb3)
          have KW3:=zh (Kw2_0.out.below hb3)
          have cw3:=KW3.out.cell
          have hbw3:Below w.heap.size w w3:=below_then hbw2 hb3
          clear hb3 cw2_0 fw2_0
          go_wp2_with fail
          refine(z1n y hyl v2 hay _).mono ?_
          rintro e w4 ⟨rfl,hb4⟩
          have HL4:=zh (HL3.out.below hb4)
          have OW4:=zh (own_below OW3.out hb4)
          have KW4:=zh (KW3.out.below hb4)
          have cw4:=KW4.out.cell
          have hbw4:Below w.heap.size w w4:=below_then hbw3 hb4
          clear hb4 cw3
          go_wp2_with fail
          refine(z3j z d hz _).mono ?_
          rintro e w5 ⟨rfl,hb5⟩
          have HL5:=zh (HL4.out.below hb5)
          have OW5:=zh (own_below OW4.out hb5)
          have KW5:=zh (KW4.out.below hb5)
          have cw5:=KW5.out.cell
          have hbw5:Below w.heap.size w w5:=below_then hbw4 hb5
          clear hb5 cw4
          have HL5d:=zh (HL5.out.below (Below.refl _ _).drew)
          have KW5d:=zh KW5.out.drew
          go_wp2
          refine z0h (fun k W=>(k=15->W.cell? ⟨w1.heap.size,0,none⟩=some (.string ⟨x.toArray⟩))/\(k=23->W.cell? ⟨w1.heap.size,1,none⟩=some (.string ⟨y.toArray⟩))) [0,1,2,3,4,5,6,7,8,9,10,11,13,14,15,16,17,18,19,21,22,23,24,25] kR ?_
          refine tF 0 ⟨nD,nD⟩ ?_
          refine tF 1 ⟨nD,nD⟩ ?_
          refine tF 2 ⟨nD,nD⟩ ?_
          refine tF 3 ⟨nD,nD⟩ ?_
          try simp only[yA,yB,yC,Act.put,yD,yE,yF]
          refine tF 4 ⟨nD,nD⟩ ?_
          refine tF 5 ⟨nD,nD⟩ ?_
          refine tF 6 ⟨nD,nD⟩ ?_
          refine tF 7 ⟨nD,nD⟩ ?_
          try simp only[yA,yB,yC,Act.put,yD,yE,yF]
          refine tF 8 ⟨nD,nD⟩ ?_
          refine tF 9 ⟨nD,nD⟩ ?_
          refine tF 10 ⟨nD,nD⟩ ?_
          refine tF 11 ⟨nD,nD⟩ ?_
          try simp only[yA,yB,yC,Act.put,yD,yE,yF]
          refine tF 13 ⟨nD,nD⟩ ?_
          refine tF 14 ⟨nD,nD⟩ ?_
          refine tG 15 rfl (by intro w hF;have hF2:=hF.1 rfl;clear hF;go_simp;try with_reducible rfl) ⟨(fun _=>KW5d.out.cell 0),nD⟩ ?_
          try simp only[yA,yB,yC,Act.put,yD,yE,yF]
          refine rF 12 fun K hK=> ?_
          go_simp
          refine(z1c v1 IV1.out _ HL5d.out).mono ?_
          rintro e w6 ⟨rfl,hb6⟩
          try go_wp2_with fail
          refine hK.out _ _ (Sat.all kR (fun k=>⟨(fun _=>(KW5d.out.below hb6).cell 0),(fun _=>(KW5d.out.below hb6).cell 1)⟩)) ?_
          clear hK K
          try simp only[yA,yB,yC,Act.put,yD,yE,yF]
          have KW6:=zh (KW5d.out.below hb6)
          refine tF 16 ⟨nD,nD⟩ ?_
          refine tF 17 ⟨nD,nD⟩ ?_
          refine tF 18 ⟨nD,nD⟩ ?_
          refine tF 19 ⟨nD,nD⟩ ?_
          try simp only[yA,yB,yC,Act.put,yD,yE,yF]
          refine tF 21 ⟨nD,nD⟩ ?_
          refine tF 22 ⟨nD,nD⟩ ?_
          refine tG 23 rfl (by intro w hF;have hF2:=hF.2 rfl;clear hF;go_simp;try with_reducible rfl) ⟨nD,(fun _=>KW6.out.cell 1)⟩ ?_
          try simp only[yA,yB,yC,Act.put,yD,yE,yF]
          refine rF 20 fun K hK=> ?_
          go_simp
          refine(z1c v2 IV2.out _ (HL5d.out.below hb6)).mono ?_
          rintro e w7 ⟨rfl,hb7⟩
          try go_wp2_with fail
          refine hK.out _ _ (Sat.all kR (fun k=>⟨(fun _=>(KW6.out.below hb7).cell 0),(fun _=>(KW6.out.below hb7).cell 1)⟩)) ?_
          clear hK K
          try simp only[yA,yB,yC,Act.put,yD,yE,yF]
          refine tF 24 ⟨nD,nD⟩ ?_
          refine tF 25 ⟨nD,nD⟩ ?_
          refine z0f kR ?_ _
          have hb8:Below w.heap.size w w7:=below_then (below_then hbw5.drew hb6) hb7
          go_wp2
          go_ret3
          refine⟨?_,kL⟩
          unfold ParseEnd
          rw[E.out]
          rfl
        ·have E:Hid (parseV S= .inl k):=zh (by rw[hx.out.2.2.2.1];exact z0F k acc a b ha (by rw[item,hq3];simp only;rw[show wholeZ x=none by rw[wholeZ,hax];simp only;rw[if_neg h1]]))
         have q1:(Lib.itoa v1==x)=false:=beq_eq_false_iff_ne.2 h1
         clear hx hq3 h1
         go_wp2_with fail
         refine(CY.out _ HLr.out).mono ?_
         rintro e w1 ⟨rfl,hb1⟩
         have HL1:=zh (HLr.out.below hb1)
         have OW1:=zh (own_below OW.out hb1)
         have hbb:Below w.heap.size w w1:=hb.trans (hb1.mono hb.size)
         have hs1:=hbb.size
         clear hb1
         go_wp2_with fail
         refine(SN.out _ HL1.out).mono ?_
         rintro e w2 ⟨rfl,rfl⟩
         go_wp2_with fail
         refine cmark (F:=fun X=>Calls _ _ _ X _) (R:=fun W=>Below w.heap.size w W/\Hid (Blk W (w1.heap.size) (#[.string ⟨x.toArray⟩,.string ⟨y.toArray⟩,.string ⟨z.toArray⟩]) 9)/\Hid (Go.World.ownsRow W w.heap.size 63 3 u2 acc.length (inpCells acc))/\Hid (Lw Tryz.prog 0 W)) ⟨kL,zh kB,zh (own_below OW1.out (below_alloc (Below.refl _ _) _)),zh (HL1.out.below (below_alloc (Below.refl _ _) _))⟩ ?_
         rintro w2 ⟨hbw2,Kw2_0,OW2,HL2⟩
         obtain⟨lw2_0,cw2_0,fw2_0⟩:=Kw2_0.out.use
         refine(z1n x hxl v1 hax _).mono ?_
         rintro e w3 ⟨rfl,hb3⟩
         have HL3:=zh (HL2.out.below hb3)
         have OW3:=zh (own_below OW2.out hb3)
         have KW3:=zh (Kw2_0.out.below hb3)
         have cw3:=KW3.out.cell
         have hbw3:Below w.heap.size w w3:=below_then hbw2 hb3
         clear hb3 cw2_0 fw2_0
         go_wp2_with fail
         refine(z1n y hyl v2 hay _).mono ?_
         rintro e w4 ⟨rfl,hb4⟩
         have HL4:=zh (HL3.out.below hb4)
         have OW4:=zh (own_below OW3.out hb4)
         have KW4:=zh (KW3.out.below hb4)
         have cw4:=KW4.out.cell
         have hbw4:Below w.heap.size w w4:=below_then hbw3 hb4
         clear hb4 cw3
         go_wp2_with fail
         refine(z3j z d hz _).mono ?_
         rintro e w5 ⟨rfl,hb5⟩
         have HL5:=zh (HL4.out.below hb5)
         have OW5:=zh (own_below OW4.out hb5)
         have KW5:=zh (KW4.out.below hb5)
         have cw5:=KW5.out.cell
         have hbw5:Below w.heap.size w w5:=below_then hbw4 hb5
         clear hb5 cw4
         have HL5d:=zh (HL5.out.below (Below.refl _ _).drew)
         have KW5d:=zh KW5.out.drew
         go_wp2
         refine z0h (fun k W=>(k=15->W.cell? ⟨w1.heap.size,0,none⟩=some (.string ⟨x.toArray⟩))) [0,1,2,3,4,5,6,7,8,9,10,11,13,14,15,16,17,18,19,20,21,22,23,24,25] kR ?_
         refine tF 0 nD ?_
         refine tF 1 nD ?_
         refine tF 2 nD ?_
         refine tF 3 nD ?_
         try simp only[yA,yB,yC,Act.put,yD,yE,yF]
         refine tF 4 nD ?_
         refine tF 5 nD ?_
         refine tF 6 nD ?_
         refine tF 7 nD ?_
         try simp only[yA,yB,yC,Act.put,yD,yE,yF]
         refine tF 8 nD ?_
         refine tF 9 nD ?_
         refine tF 10 nD ?_
         refine tF 11 nD ?_
         try simp only[yA,yB,yC,Act.put,yD,yE,yF]
         refine tF 13 nD ?_
         refine tF 14 nD ?_
         refine tG 15 rfl (by intro w hF;have hF2:=hF rfl;clear hF;go_simp;try with_reducible rfl) (fun _=>KW5d.out.cell 0) ?_
         try simp only[yA,yB,yC,Act.put,yD,yE,yF]
         refine rF 12 fun K hK=> ?_
         go_simp
         refine(z1c v1 IV1.out _ HL5d.out).mono ?_
         rintro e w6 ⟨rfl,hb6⟩
         try go_wp2_with fail
         refine hK.out _ _ (Sat.all kR (fun k=>(fun _=>(KW5d.out.below hb6).cell 0))) ?_
         clear hK K
         try simp only[yA,yB,yC,Act.put,yD,yE,yF]
         have KW6:=zh (KW5d.out.below hb6)
         refine tF 16 nD ?_
         refine tF 17 nD ?_
         refine tF 18 nD ?_
         refine z0c (i:=19) (v:=undef) rfl kR kR kR kR (fun _ _ _ h=>h) (Or.inr ⟨by rfl,rfl⟩) nD ?_
         try simp only[yA,yB,yC,Act.put,yD,yE,yF]
         refine z0c (i:=20) (v:=undef) rfl kR kR kR kR (fun _ _ _ h=>h) (Or.inr ⟨by rfl,rfl⟩) nD ?_
         try simp only[yA,yB,yC,Act.put,yD,yE,yF]
         refine z0c (i:=21) (v:=undef) rfl kR kR kR kR (fun _ _ _ h=>h) (Or.inr ⟨by rfl,rfl⟩) nD ?_
         try simp only[yA,yB,yC,Act.put,yD,yE,yF]
         refine z0c (i:=22) (v:=undef) rfl kR kR kR kR (fun _ _ _ h=>h) (Or.inr ⟨by rfl,rfl⟩) nD ?_
         try simp only[yA,yB,yC,Act.put,yD,yE,yF]
         refine z0c (i:=23) (v:=undef) rfl kR kR kR kR (fun _ _ _ h=>h) (Or.inr ⟨by rfl,rfl⟩) nD ?_
         try simp only[yA,yB,yC,Act.put,yD,yE,yF]
         refine z0c (i:=24) (v:=undef) rfl kR kR kR kR (fun _ _ _ h=>h) (Or.inr ⟨by rfl,rfl⟩) nD ?_
         try simp only[yA,yB,yC,Act.put,yD,yE,yF]
         refine tF 25 nD ?_
         refine z0f kR ?_ _
         have hb8:Below w.heap.size w w6:=below_then hbw5.drew hb6
         go_wp2
         go_ret3
         refine⟨?_,kL⟩
         unfold ParseEnd
         rw[E.out]
         rfl
    -- arms end
    ·have E:Hid (parseV S= .inl k):=zh (by rw[hx.out.2.2.2.1];exact z0F k acc a b ha (by rw[item,hq3]))
     obtain⟨n4,hn4⟩:∃n4:Nat,n4=(x::y::z::z2::t).length:=⟨_,rfl⟩
     have hn5:((n4:Int) !=3)=true:=by simp[hn4];omega
     rw[<-hn4]at SN
     replace hn4:=zh hn4
     clear hx hq3
     go_wp2_with fail
     refine(CY.out _ HLr.out).mono ?_
     rintro e w1 ⟨rfl,hb1⟩
     have HL1:=zh (HLr.out.below hb1)
     have hbb:Below w.heap.size w w1:=hb.trans (hb1.mono hb.size)
     go_wp2_with fail
     refine(SN.out _ HL1.out).mono ?_
     rintro e w2 ⟨rfl,rfl⟩
     go_wp2
     go_ret3
     refine⟨?_,kL⟩
     unfold ParseEnd
     rw[E.out]
     rfl
   ·have E:Hid (parseV S= .inl k):=zh (by rw[hx.out.2.2.2.1];exact z5g k acc r h0 h10)
    have CN:=zh (z0af r hx.out.1 h10)
    have SN:=zh (z5E r hx.out.1)
    have HLr:=zh (HL.out.below hb)
    clear hx h10 h0
    go_wp2_with fail
    refine(CN.out _ HLr.out).mono ?_
    rintro e w1 ⟨rfl,hb1⟩
    have HL1:=zh (HLr.out.below hb1)
    have hbb:Below w.heap.size w w1:=hb.trans (hb1.mono hb.size)
    go_wp2_with fail
    refine(SN.out _ HL1.out).mono ?_
    rintro e w2 ⟨rfl,rfl⟩
    go_wp2
    go_ret3
    refine⟨?_,kL⟩
    unfold ParseEnd
    rw[E.out]
    rfl
end Go.Proofs.YtkoocfcnfolkhaaGreatDoor
