/- The program's buttons as a text. Conditions: the buttons are a byte. -/
import Derived.Test.YtkoocfcnfolkhaaGreatDoorSq
import Derived.Test.YtkoocfcnfolkhaaGreatDoorSh
import Derived.Test.YtkoocfcnfolkhaaGreatDoorP20
import Derived.Test.YtkoocfcnfolkhaaGreatDoorBase
import Derived.Test.YtkoocfcnfolkhaaGreatDoorShelf
import Derived.Test.YtkoocfcnfolkhaaGreatDoorRows
import Derived.LoopTactic
set_option linter.unusedVariables false
set_option linter.unusedSimpArgs false
set_option maxHeartbeats 1000000
set_option maxRecDepth 100000
namespace Go.Proofs.YtkoocfcnfolkhaaGreatDoor
open Go.RowKit Go.Mq
theorem z3L(k:Nat)(h:k<8)(h':k<(⟨#[117,100,108,114,97,98,115,116]⟩:ByteArray).size):((⟨#[117,100,108,114,97,98,115,116]⟩:ByteArray)[k]'h').toNat=(letB.getD k 0).toNat:=by
 rcases(by omega:k=0\/k=1\/k=2\/k=3\/k=4\/k=5\/k=6\/k=7)with rfl|rfl|rfl|rfl|rfl|rfl|rfl|rfl<;>rfl
theorem z7X(n k:Nat)(h:k<8):Lib.byteCells ((btn n).take (k+1))=Lib.byteCells ((btn n).take k)++[.int .u8 (if n/2^(7-k)%2=1 then((letB.getD k 0).toNat:Int)else 46)]:=by
 have hl:k<(btn n).length:=by simp[btn];omega
 rw[List.take_add_one,List.getElem?_eq_getElem hl]
 simp only[btn,List.getElem_map,List.getElem_range,Option.toList_some,Lib.byteCells,List.map_append,List.map_cons,List.map_nil]
 split<;>rfl
theorem bit8a:∀m,m<256->bits .and .u8 ((m:Nat):Int) 1=((m%2:Nat):Int):=by decide+kernel
theorem bit8(n j:Nat)(h:n<256):bits .and .u8 ((n:Int)/2^j) 1=((n/2^j%2:Nat):Int):=by
 have e:((n:Int)/2^j)=((n/2^j:Nat):Int):=by simp
 have hl:n/2^j<256:=Nat.lt_of_le_of_lt (Nat.div_le_self _ _) h
 rw[e]
 exact bit8a _ hl
theorem z4n(b:Int)(hb:U8 b)(w:World):
  Calls Tryz.prog 57 #[.int .u8 b] w fun e w'=>e= .returned (.string ⟨(btn b.toNat).toArray⟩)/\Below w.heap.size w w':=by
 obtain⟨n,rfl⟩:∃n:Nat,b=n:=⟨b.toNat,by unfold U8 at hb;omega⟩
 have hn:Hid (n<256):=zh (by unfold U8 at hb;omega)
 clear hb
 rw[Int.toNat_natCast]
 go_enter Tryz.func57,Tryz.ntmps57
 go_wp2
 go_loopw [5] (fun i wr=>∃k:Nat,k<=8/\i= .int .i64 k/\Hid (Lib.IsBuilder 138 5 w.heap.size w.heap.size (Lib.byteCells ((btn n).take k)) wr)/\Below w.heap.size w wr) (fun i _=>8-(intOf i).toNat)
 case atStart=>exact⟨0,by omega,rfl,zh (Lib.fresh_isBuilder _ _ _),kL⟩
 case round=>
  obtain⟨k,hk,rfl,hx,hb⟩:=hrel
  by_cases h8:k<8
  ·have e7:(7-(k:Int))=((7-k:Nat):Int):=by omega
   have hk7:(k:Int)<=7:=by omega
   have hl:((btn n).take k).length<=8:=by rw[List.length_take];omega
   have hbs:=hb.size
   have BT:=zh (z7X n k h8)
   by_cases hbit:n/2^(7-k)%2=1
   ·have hq:bits .and .u8 ((n:Int)/2^(7-k)) 1=1:=by rw[bit8 n _ hn.out,hbit];rfl
    have hq2:=zh hbit
    clear hbit
    go_wp2_with fail
    rw[z3L k h8]
    refine(Tryz.Builder_WriteByte _ _ _ _ _ hx.out (by rw[Lib.byteCells_length];omega) kO).mono ?_
    rintro e w1 ⟨rfl,hu,hb1⟩
    replace hu:Hid _:=zh hu
    have hbb:Below w.heap.size w w1:=hb.trans hb1
    go_wp2
    go_roundw
    case rel=>exact⟨k+1,by omega,by go_num,zh (Or.inr (by rw[BT.out,if_pos hq2.out];exact hu.out)),hbb⟩
    case measure=>simp[intOf];omega
   ·have hq:bits .and .u8 ((n:Int)/2^(7-k)) 1=0:=by rw[bit8 n _ hn.out,show n/2^(7-k)%2=0 by omega];rfl
    have hq2:=zh hbit
    clear hbit
    go_wp2_with fail
    refine(Tryz.Builder_WriteByte _ _ _ _ _ hx.out (by rw[Lib.byteCells_length];omega) kO).mono ?_
    rintro e w1 ⟨rfl,hu,hb1⟩
    replace hu:Hid _:=zh hu
    have hbb:Below w.heap.size w w1:=hb.trans hb1
    go_wp2
    go_roundw
    case rel=>exact⟨k+1,by omega,by go_num,zh (Or.inr (by rw[BT.out,if_neg hq2.out];exact hu.out)),hbb⟩
    case measure=>simp[intOf];omega
  ·have:k=8:=by omega
   subst this
   go_wp2_with fail
   refine(Tryz.Builder_String_any _ _ (btn n) _ (by have:=hx.out;rwa[List.take_of_length_le (by simp[btn])]at this) (by have:=hb.size;omega)).mono ?_
   rintro e w1 ⟨rfl,hb1⟩
   have hbb:Below w.heap.size w w1:=hb.trans hb1
   go_wp2
   go_ret
   exact⟨rfl,hbb⟩
def ofRes(l:List UInt8):Value:=match ofBtn l with
 |some n=> .tuple #[.int .u8 n,.int .i64 0]
 |none=> .tuple #[.int .u8 0,.int .i64 1]
theorem z3k:∀(cs:List UInt8) (a:Nat) (l:List UInt8),l.length≠cs.length->ofGo cs a l=none
 |[],a,[],h=>absurd rfl h
 |[],_,_::_,_=>rfl
 |_::_,_,[],_=>rfl
 |c::cs,a,x::xs,h=>by
  have h':xs.length≠cs.length:=fun e=>h (by simp[e])
  unfold ofGo
  rw[z3k cs _ xs h',z3k cs _ xs h']
  simp
theorem z8U:∀k,k<8->∀a,a<2^k->bits .or .u8 ((a*2^(8-k):Nat):Int) ((2^(7-k):Nat):Int)=(((2*a+1)*2^(7-k):Nat):Int):=by decide+kernel
theorem z8V(s:ByteArray)(k a:Nat)(h8:k<8)(hk:k<s.size):ofGo (letB.drop k) a (s.data.toList.drop k)=
  if s[k].toNat=(letB[k]?.getD 0).toNat then ofGo (letB.drop (k+1)) (2*a+1) (s.data.toList.drop (k+1))else if s[k].toNat=46 then ofGo (letB.drop (k+1)) (2*a) (s.data.toList.drop (k+1))else none:=by
 have h1:letB.drop k=letB[k]'h8::letB.drop (k+1):=List.drop_eq_getElem_cons h8
 have hk':k<s.data.toList.length:=by rw[<-Lib.size_eq];exact hk
 have h2:s.data.toList.drop k=s[k]::s.data.toList.drop (k+1):=by
  rw[List.drop_eq_getElem_cons hk']
  rfl
 have h3:letB[k]?.getD 0=letB[k]'h8:=by rw[List.getElem?_eq_getElem (show k<letB.length from h8)];rfl
 rw[h1,h2,h3,ofGo]
 have e1:(s[k]=letB[k]'h8)↔s[k].toNat=(letB[k]'h8).toNat:=UInt8.toNat_inj.symm
 have e2:(s[k]=46)↔s[k].toNat=46:=UInt8.toNat_inj.symm
 simp only[e1,e2]
theorem z8I(s:ByteArray)(w:World):Calls Tryz.prog 54 #[.string s] w fun e w'=>e= .returned (ofRes s.data.toList)/\Below w.heap.size w w':=by
 by_cases hs:s.size=8
 ·have hl:s.data.toList.length=8:=by rw[<-Lib.size_eq];exact hs
  have HS:=zh hs
  have HL:=zh hl
  have hs':(s.size:Int)=8:=by omega
  clear hl
  go_enter Tryz.func54,Tryz.ntmps54
  go_wp2
  go_loopw [4,11] (fun n i wr=>∃k a:Nat,k<=8/\n= .int .u8 ((a*2^(8-k):Nat):Int)/\i= .int .i64 k/\Hid (a<2^k/\ofBtn s.data.toList=ofGo (letB.drop k) a (s.data.toList.drop k))/\wr=w) (fun _ i _=>8-(intOf i).toNat)
  case atStart=>exact⟨0,0,by omega,rfl,rfl,zh ⟨by decide,rfl⟩,rfl⟩
  case round=>
   obtain⟨k,a,hk,rfl,rfl,hx,rfl⟩:=hrel
   by_cases h8:k<8
   ·have e7:(7-(k:Int))=((7-k:Nat):Int):=by omega
    have hk7:(k:Int)<=7:=by omega
    obtain⟨L,hL⟩:∃L:Nat,L=(letB.getD k 0).toNat:=⟨_,rfl⟩
    have LT:∀h',((⟨#[117,100,108,114,97,98,115,116]⟩:ByteArray)[k]'h').toNat=L:=fun h'=>by rw[hL];exact z3L k h8 h'
    have hkz:(k:Int)<8:=by omega
    have ST:=zh (z8V s k a h8 kO)
    have OR:=zh (z8U k h8 a hx.out.1)
    have PW:Hid (2^(k+1)=2*2^k):=zh (Nat.pow_succ' ..)
    have PX:Hid (2^(7-k)%256=2^(7-k)/\2^(8-k)=2*2^(7-k)/\8-(k+1)=7-k):=zh (by rcases(by omega:k=0\/k=1\/k=2\/k=3\/k=4\/k=5\/k=6\/k=7)with rfl|rfl|rfl|rfl|rfl|rfl|rfl|rfl<;>decide)
    go_wp2
    ·have hh:((s[k].toNat:Int)==((letB[k]?.getD 0).toNat:Int))=true:=by assumption
     have hn:s[k].toNat=(letB[k]?.getD 0).toNat:=by have:=beq_iff_eq.1 hh;omega
     refine⟨⟨k+1,2*a+1,by omega,?_,by simp,zh ⟨by rw[PW.out];have:=hx.out.1;omega,by rw[hx.out.2,ST.out,if_pos hn]⟩,trivial⟩,by simp[intOf];omega⟩
     have o:=OR.out
     rw[PX.out.2.2,<-o]
     congr 2
     simp only[Int.natCast_mul,Int.natCast_pow]
     first|rfl|(congr 1;have:=PX.out.1;omega)|(rw[show((2:Int)^(7-k)%256)=((2^(7-k)%256:Nat):Int) by simp,PX.out.1];simp)
    ·have hh:((s[k].toNat:Int)==((letB[k]?.getD 0).toNat:Int))=false:=by assumption
     have hg:((s[k].toNat:Int)==46)=true:=by assumption
     have hn:¬s[k].toNat=(letB[k]?.getD 0).toNat:=by have:=beq_eq_false_iff_ne.1 hh;omega
     have hm:s[k].toNat=46:=by have:=beq_iff_eq.1 hg;omega
     refine⟨⟨k+1,2*a,by omega,?_,by simp,zh ⟨by rw[PW.out];have:=hx.out.1;omega,by rw[hx.out.2,ST.out,if_neg hn,if_pos hm]⟩,trivial⟩,by simp[intOf];omega⟩
     rw[PX.out.2.2,PX.out.2.1,Nat.mul_comm 2 a,Nat.mul_assoc]
    ·have hh:((s[k].toNat:Int)==((letB[k]?.getD 0).toNat:Int))=false:=by assumption
     have hg:((s[k].toNat:Int)==46)=false:=by assumption
     have hn:¬s[k].toNat=(letB[k]?.getD 0).toNat:=by have:=beq_eq_false_iff_ne.1 hh;omega
     have hm:¬s[k].toNat=46:=by have:=beq_eq_false_iff_ne.1 hg;omega
     go_ret2
     refine⟨?_,Below.refl _ _⟩
     unfold ofRes
     rw[hx.out.2,ST.out,if_neg hn,if_neg hm]
     rfl
   ·have hk8:k=8:=by omega
    subst hk8
    have E:Hid (ofBtn s.data.toList=some a):=zh (by
     rw[hx.out.2,List.drop_of_length_le (show letB.length<=8 by decide),List.drop_of_length_le (show s.data.toList.length<=8 by rw[HL.out];omega)]
     rfl)
    go_wp2
    go_ret2
    refine⟨?_,Below.refl _ _⟩
    unfold ofRes
    rw[E.out]
    simp
 ·have hz:¬(s.size:Int)=8:=by omega
  have hb:((s.size:Int) !=8)=true:=by simp[hz]
  have E:Hid (ofBtn s.data.toList=none):=zh (z3k _ _ _ (by rw[<-Lib.size_eq];exact hs))
  go_enter Tryz.func54,Tryz.ntmps54
  go_wp2
  go_ret2
  refine⟨?_,Below.refl _ _⟩
  unfold ofRes
  rw[E.out]
  rfl
end Go.Proofs.YtkoocfcnfolkhaaGreatDoor
