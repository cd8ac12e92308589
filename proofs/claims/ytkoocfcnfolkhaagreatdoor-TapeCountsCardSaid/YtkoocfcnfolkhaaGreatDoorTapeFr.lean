/- The program tells a frame of what was shown. Conditions: its lines lie in memory. -/
import Derived.Test.YtkoocfcnfolkhaaGreatDoorSq
import Derived.Test.YtkoocfcnfolkhaaGreatDoorSh
import Derived.Test.YtkoocfcnfolkhaaGreatDoorRowsP
import Derived.Test.YtkoocfcnfolkhaaGreatDoorRows
import Derived.Test.YtkoocfcnfolkhaaGreatDoorBase
import Derived.Test.YtkoocfcnfolkhaaGreatDoorBase2
import Derived.Test.YtkoocfcnfolkhaaGreatDoorP40
import Derived.LoopTactic
set_option linter.unusedVariables false
set_option linter.unusedSimpArgs false
set_option maxHeartbeats 2000000
set_option maxRecDepth 100000
namespace Go.Proofs.YtkoocfcnfolkhaaGreatDoor
open Go.RowKit Go.Mq
def FrameEnd(base:Nat)(rs:List (List Int))(e:Ending)(w':World):Prop:=
 if rs.length=8 then ∃v,e= .returned (.tuple #[v,.int .i64 0])/\RowsAt w' v rs else e= .returned (.tuple #[.slice none 0 0,.int .i64 5])
theorem z0aB:(Tryz.prog.info? 65).map (fun i=>(i.zero,i.size,i.bytes))=some (some (.agg #[.int .u8 0,.int .u8 0,.int .u8 0,.int .u8 0,.int .u8 0,.int .u8 0,.int .u8 0,.int .u8 0,.int .u8 0,.int .u8 0,.int .u8 0,.int .u8 0,.int .u8 0,.int .u8 0,.int .u8 0,.int .u8 0]),16,16):=by kernel_rfl
theorem z6t(v s2 s3:Value)(xs:List Ln)(f:Int)(w:World)(h:LinesAt w v xs)(hf:I64 f)(hn:xs.length<=4398046511104):
  Calls Tryz.prog 8 #[.agg #[v,s2,s3],.int .i64 f] w fun e w'=>FrameEnd w.heap.size (pick f [] xs) e w'/\Below w.heap.size w w':=by
 obtain⟨a,cap,rfl,h1,h2,hok,h3⟩:=h
 have H3:=zh h3
 have HO:=zh hok
 have HN:=zh hn
 obtain⟨P0,hP0⟩:∃P0,P0=pick f [] xs:=⟨_,rfl⟩
 rw[<-hP0]
 replace hP0:=zh hP0
 obtain⟨i0,hi,hz0,hz1,hz2⟩:=info_parts z0aB
 have HI:=zh (And.intro hi (And.intro hz0 (And.intro hz1 hz2)))
 clear hi hz0 hz1 hz2 h3 hok hn
 go_enter Tryz.func8,Tryz.ntmps8
 go_wp2
 go_loopw [6,12] (fun v i wr=>∃(k:Nat) (acc:List (List Int)),i= .int .i64 k/\k<=xs.length/\Hid (P0=pick f acc (xs.drop k)/\acc.length<=k/\wr.ownsRow (w.heap.size+1) 65 16 v acc.length (rowsC acc)/\(∀r∈acc,RowOk r))/\Below w.heap.size w wr/\w.heap.size<wr.heap.size) (fun _ i _=>xs.length-(intOf i).toNat)
 case atStart=>exact⟨0,[],rfl,by omega,zh ⟨hP0.out,Nat.le_refl _,⟨rfl,.inl ⟨rfl,rfl⟩⟩,by simp⟩,kL,by simp⟩
 case round=>
  obtain⟨k,acc,rfl,hk,hx,hb,hlt⟩:=hrel
  by_cases hkn:k<xs.length
  ·obtain⟨b,off,rfl,hbl,hc⟩:=H3.out kO
   have hki:(k:Int)<xs.length:=by omega
   have hbs:=hb.size
   have W1:wrap64 ((k:Int)+1)=k+1:=by have:=HN.out;unfold wrap64;omega
   have hx1:Hid (P0=pick f acc (xs.getD k Ln0::xs.drop (k+1))):=zh (by rw[<-lines_drop hkn];exact hx.out.1)
   have HX:=zh hx.out.2
   have HOK:=zh (lines_ok HO.out hkn)
   have HC0:=zh (line_cells (hc k hkn) HOK.out)
   have HCB:Hid (∀j u,(lineC (xs.getD k Ln0)).toList[j]? =some u->wr.cell? (Addr.add ⟨b,off+k*18,none⟩ j)=some u):=zh (fun j u hj=>by rw[Addr.add_lit];exact(hb.cell (p:=⟨b,_,none⟩) hbl).trans (by have:=HC0.out j u hj;rwa[Addr.add_lit]at this))
   have CS0:=zh (line_facts HOK.out)
   obtain⟨C,hC⟩:∃C,C=lineC (xs.getD k Ln0):=⟨_,rfl⟩
   obtain⟨X,hX⟩:∃X,X=pixC (xs.getD k Ln0):=⟨_,rfl⟩
   have HC:Hid (∀j u,C.toList[j]? =some u->wr.cell? (Addr.add ⟨b,off+k*18,none⟩ j)=some u):=zh (by rw[hC];exact HCB.out)
   obtain⟨yf,hyf⟩:∃yf,yf=(xs.getD k Ln0).fr:=⟨_,rfl⟩
   obtain⟨yl,hyl⟩:∃yl,yl=(xs.getD k Ln0).ln:=⟨_,rfl⟩
   obtain⟨yp,hyp⟩:∃yp,yp=(xs.getD k Ln0).px:=⟨_,rfl⟩
   have CS:Hid (C.size=18/\C.all (·.oneCell')=true/\C[0]? =some (.int .i64 yf)/\C[1]? =some (.int .i64 yl)/\(C.toList.drop 2).take 16=X.toList/\X.size=16/\X.toList=yp.map (Value.int .u8)):=zh (by rw[hC,hX,hyf,hyl,hyp];exact CS0.out)
   have QOK:Hid (RowOk yp):=zh (by rw[hyp];exact HOK.out.2.2)
   have PY:Hid (xs.getD k Ln0=⟨yf,yl,yp⟩):=zh (by rw[hyf,hyl,hyp])
   replace hx1:Hid (P0=pick f acc (⟨yf,yl,yp⟩::xs.drop (k+1))):=zh (by rw[<-PY.out];exact hx1.out)
   obtain⟨ao,cp,rfl⟩:=z0a HX.out.2.1
   clear hx hc HC0 HCB CS0 hC hX hyf hyl hyp HOK PY
   by_cases g1:yf=f
   ·have t1:(yf==f)=true:=beq_iff_eq.2 g1
    by_cases g2:yl=acc.length
    ·have t2:(yl==(acc.length:Int))=true:=beq_iff_eq.2 g2
     have E:Hid (P0=pick f (acc++[yp]) (xs.drop (k+1))):=zh (by rw[hx1.out];exact pick_yes f acc _ _ g1 g2)
     clear hx1 g1 g2
     go_wp2_with (first
      |(refine wpList_loadC rfl 67 (.tmp 14) rfl ⟨b,off+k*18,none⟩ rfl C HC.out _ Tryz.underlying67 rfl (by rw[CS.out.1];kernel_rfl) ?_)
      |(refine z0j rfl 67 (.tmp 8) (.tmp 15) rfl (wr.heap.size) C rfl rfl 67 _ (Blk.new _ _ _) (by rw[CS.out.1];kernel_rfl) (by rw[CS.out.1];rfl) CS.out.2.1 ?_;intro w2 hp2 K2;have e0:w2.cell? ⟨wr.heap.size,0,none⟩=some (.int .i64 yf):=(K2.out.cell 0).trans CS.out.2.2.1;have e1:w2.cell? ⟨wr.heap.size,1,none⟩=some (.int .i64 yl):=(K2.out.cell 1).trans CS.out.2.2.2.1;have hb2:Below w.heap.size w w2:=below_put (below_alloc hb _) hp2 hbs;have hl2:w.heap.size<w2.heap.size:=(by have:=hp2.size;simp at this;omega);have HB2:Hid (Below wr.heap.size wr w2):=zh (below_put (below_alloc (Below.refl _ _) _) hp2 (Nat.le_refl _));have OW2:=zh (own_below HX.out.2.1 HB2.out);clear hp2)
      |(refine z1S rfl 65 (.tmp 28) rfl wr.heap.size 2 16 rfl 67 C X K2.out _ Tryz.underlying65 rfl kR CS.out.2.2.2.2.1 (by rw[Array.length_toList];exact CS.out.2.2.2.2.2.1) ?_)
      |(refine wpList_buildSlice rfl 51 65 1 #[(0,.tmp 29)] rfl X i0 _ Tryz.underlying51 HI.out.1 HI.out.2.1 (by have:=HI.out.2.2.1;omega) (by have:=HI.out.2.2.1;omega) (by rw[Array.toList_map];exact fill_row X _ HI.out.2.2.1 CS.out.2.2.2.2.2.1 _) ?_)
      |(at_builtin;refine wpList_append_own _ rfl (.tmp 27) (.tmp 30) 51 rfl (w.heap.size+1) 65 i0 (.agg #[.int .u8 0,.int .u8 0,.int .u8 0,.int .u8 0,.int .u8 0,.int .u8 0,.int .u8 0,.int .u8 0,.int .u8 0,.int .u8 0,.int .u8 0,.int .u8 0,.int .u8 0,.int .u8 0,.int .u8 0,.int .u8 0]) 16 16 Tryz.underlying51 HI.out.1 HI.out.2.1 HI.out.2.2.1 HI.out.2.2.2 rfl kD _ _ _ rfl (World.ownsRow.alloc OW2.out _) ⟨w2.heap.size,0,none⟩ 1 1 X.toList rfl (by rw[Array.length_toList,CS.out.2.2.2.2.2.1]) ?c1 ?c2 ?c3 ?c4 ?c5 ?_)
      |fail)
     case c1=>
      intro j u hj
      rw[Addr.add_lit,Nat.zero_add,(Blk.new _ _ _).cell j]
      simpa using hj
     case c2=>
      intro u hu
      rw[CS.out.2.2.2.2.2.2]at hu
      obtain⟨q,_,rfl⟩:=List.mem_map.1 hu
      rfl
     case c3=>have:=HX.out.1;have:=HN.out;unfold maxLen;omega
     case c4=>have:=HX.out.1;have:=HN.out;omega
     case c5=>have:=hl2;simp;omega
     intro v' w9 hown hgrow _
     have hb9:Below w.heap.size w w9:=z0w (below_alloc hb2 _) (by simp;omega) hgrow (World.ownsRow.alloc OW2.out _) (Nat.le_succ _)
     have hl9:w.heap.size<w9.heap.size:=by have:=hgrow.size;simp at this;omega
     have HO9:Hid (w9.ownsRow (w.heap.size+1) 65 16 v' (acc++[yp]).length (rowsC (acc++[yp]))):=zh (by
      rw[List.length_append,show rowsC (acc++[yp])=rowsC acc++X.toList by rw[CS.out.2.2.2.2.2.2];simp[rowsC]]
      exact hown)
     have OKX:Hid (∀r∈acc++[yp],RowOk r):=zh (fun r hr=>by
      rcases List.mem_append.1 hr with h|h
      ·exact HX.out.2.2 r h
      ·rw[List.mem_singleton]at h;subst h;exact QOK.out)
     obtain⟨ao',cp',rfl⟩:=z0a hown
     clear hown hgrow
     go_wp2
     go_roundw
     case rel=>exact⟨k+1,_,by go_num,by omega,zh ⟨E.out,by rw[List.length_append];have:=HX.out.1;simp;omega,HO9.out,OKX.out⟩,hb9,hl9⟩
     case measure=>exact meas_k _ _ _ hkn (by first|rfl|exact W1)
    ·have t2:(yl==(acc.length:Int))=false:=beq_eq_false_iff_ne.2 g2
     have E:Hid (P0=pick f acc (xs.drop (k+1))):=zh (by rw[hx1.out];exact pick_no f acc _ _ (fun h=>g2 h.2))
     clear hx1 g1 g2
     go_wp2_with (first
      |(refine wpList_loadC rfl 67 (.tmp 14) rfl ⟨b,off+k*18,none⟩ rfl C HC.out _ Tryz.underlying67 rfl (by rw[CS.out.1];kernel_rfl) ?_)
      |(refine z0j rfl 67 (.tmp 8) (.tmp 15) rfl (wr.heap.size) C rfl rfl 67 _ (Blk.new _ _ _) (by rw[CS.out.1];kernel_rfl) (by rw[CS.out.1];rfl) CS.out.2.1 ?_;intro w2 hp2 K2;have e0:w2.cell? ⟨wr.heap.size,0,none⟩=some (.int .i64 yf):=(K2.out.cell 0).trans CS.out.2.2.1;have e1:w2.cell? ⟨wr.heap.size,1,none⟩=some (.int .i64 yl):=(K2.out.cell 1).trans CS.out.2.2.2.1;have hb2:Below w.heap.size w w2:=below_put (below_alloc hb _) hp2 hbs;have hl2:w.heap.size<w2.heap.size:=(by have:=hp2.size;simp at this;omega);have HB2:Hid (Below wr.heap.size wr w2):=zh (below_put (below_alloc (Below.refl _ _) _) hp2 (Nat.le_refl _));have OW2:=zh (own_below HX.out.2.1 HB2.out);clear hp2)
      |fail)
     go_roundw
     case rel=>exact⟨k+1,acc,by go_num,by omega,zh ⟨E.out,by have:=HX.out.1;omega,OW2.out,HX.out.2.2⟩,hb2,hl2⟩
     case measure=>exact meas_k _ _ _ hkn (by first|rfl|exact W1)
   ·have t1:(yf==f)=false:=beq_eq_false_iff_ne.2 g1
    have E:Hid (P0=pick f acc (xs.drop (k+1))):=zh (by rw[hx1.out];exact pick_no f acc _ _ (fun h=>g1 h.1))
    clear hx1 g1
    go_wp2_with (first
     |(refine wpList_loadC rfl 67 (.tmp 14) rfl ⟨b,off+k*18,none⟩ rfl C HC.out _ Tryz.underlying67 rfl (by rw[CS.out.1];kernel_rfl) ?_)
     |(refine z0j rfl 67 (.tmp 8) (.tmp 15) rfl (wr.heap.size) C rfl rfl 67 _ (Blk.new _ _ _) (by rw[CS.out.1];kernel_rfl) (by rw[CS.out.1];rfl) CS.out.2.1 ?_;intro w2 hp2 K2;have e0:w2.cell? ⟨wr.heap.size,0,none⟩=some (.int .i64 yf):=(K2.out.cell 0).trans CS.out.2.2.1;have e1:w2.cell? ⟨wr.heap.size,1,none⟩=some (.int .i64 yl):=(K2.out.cell 1).trans CS.out.2.2.2.1;have hb2:Below w.heap.size w w2:=below_put (below_alloc hb _) hp2 hbs;have hl2:w.heap.size<w2.heap.size:=(by have:=hp2.size;simp at this;omega);have HB2:Hid (Below wr.heap.size wr w2):=zh (below_put (below_alloc (Below.refl _ _) _) hp2 (Nat.le_refl _));have OW2:=zh (own_below HX.out.2.1 HB2.out);clear hp2)
     |fail)
    go_roundw
    case rel=>exact⟨k+1,acc,by go_num,by omega,zh ⟨E.out,by have:=HX.out.1;omega,OW2.out,HX.out.2.2⟩,hb2,hl2⟩
    case measure=>exact meas_k _ _ _ hkn (by first|rfl|exact W1)
  ·have hkn':k=xs.length:=by omega
   have hP:Hid (P0=acc):=zh (by rw[hx.out.1,hkn',List.drop_length];rfl)
   have HX:=zh hx.out.2
   subst hkn'
   clear hx hkn
   obtain⟨ao,cp,rfl⟩:=z0a HX.out.2.1
   by_cases h8:acc.length=8
   ·have h8':((acc.length:Int) !=8)=false:=by simp;omega
    have H8:=zh h8
    clear h8
    go_wp2
    go_ret2
    refine⟨?_,kL⟩
    unfold FrameEnd
    rw[hP.out,if_pos H8.out]
    exact⟨_,rfl,own_rows HX.out.2.1 HX.out.2.2⟩
   ·have h8':((acc.length:Int) !=8)=true:=by simp;omega
    have H8:=zh h8
    clear h8
    go_wp2
    go_ret2
    refine⟨?_,kL⟩
    unfold FrameEnd
    rw[hP.out,if_neg H8.out]
    rfl
end Go.Proofs.YtkoocfcnfolkhaaGreatDoor
