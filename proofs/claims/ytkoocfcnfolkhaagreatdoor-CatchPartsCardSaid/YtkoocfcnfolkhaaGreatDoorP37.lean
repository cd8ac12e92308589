/- A builder of strings, kept while other memory turns. Conditions: none. -/
import Derived.Test.YtkoocfcnfolkhaaGreatDoorP34
import Derived.Test.YtkoocfcnfolkhaaGreatDoorRegF
import Derived.Lib.ItoaLen
import Derived.Test.YtkoocfcnfolkhaaGreatDoorSq
import Derived.Test.YtkoocfcnfolkhaaGreatDoorAsmLnB
import Derived.Test.YtkoocfcnfolkhaaGreatDoorRowsP
import Derived.Test.YtkoocfcnfolkhaaGreatDoorSh
import Derived.Test.YtkoocfcnfolkhaaGreatDoorP32
import Derived.LoopN
set_option linter.unusedVariables false
set_option linter.unusedSimpArgs false
set_option maxHeartbeats 2000000
set_option maxRecDepth 100000
namespace Go.Mq
open Go.RowKit
theorem z0aT{w:World}{b n m c:Nat}{e:TypeId}{lo:Option Addr}{vs:List Value}(h:w.ownsRow b e 1 (.slice lo m c) n vs){k:Nat}{u:Value}(hk:k<n)(hu:vs[k]? =some u):∃q,lo=some ⟨q,0,none⟩/\q<w.heap.size/\w.cell? ⟨q,k,none⟩=some u:=by
 rcases h.2 with⟨hv,hn⟩|⟨q,cap,cur,hv,hbg,hgg,_⟩
 ·omega
 ·injection hv with h1 h2 h3
  subst h1
  have hc:=h.cells (g:=q) rfl k u hu
  rw[Addr.add_lit,Nat.zero_add]at hc
  exact⟨q,rfl,(Array.getElem?_eq_some_iff.1 hgg).1,hc⟩
end Go.Mq
namespace Go.Proofs.YtkoocfcnfolkhaaGreatDoor
open Go.RowKit Go.Mq
theorem z5A{w:World}{b1 b2 s1 s2 n1 n2:Nat}{e1 e2:TypeId}{v1 v2:Value}{xs1 xs2:List Value}(h1:w.ownsRow b1 e1 s1 v1 n1 xs1)(h2:w.ownsRow b2 e2 s2 v2 n2 xs2)(he:e1≠e2):∀r,v1.ownBlock=some r->v2.ownBlock≠some r:=by
 intro r hr hr2
 rcases h1.2 with⟨rfl,_⟩|⟨q,cap,cur,rfl,_,hq,_⟩
 ·simp[Value.ownBlock]at hr
 ·rcases h2.2 with⟨rfl,_⟩|⟨q2,cap2,cur2,rfl,_,hq2,_⟩
  ·simp[Value.ownBlock]at hr2
  ·have a1:q=r:=by simpa [Value.ownBlock]using hr
   have a2:q2=r:=by simpa [Value.ownBlock]using hr2
   subst a1
   subst a2
   rw[hq]at hq2
   injection hq2 with hq2
   injection hq2 with _ hq2
   exact he hq2
theorem z5B{w w':World}{b s n:Nat}{e:TypeId}{v:Value}{xs:List Value}(h:w.ownsRow b e s v n xs)(hk:∀r,v.ownBlock=some r->w'.heap[r]? =w.heap[r]?):w'.ownsRow b e s v n xs:=by
 refine⟨h.1,?_⟩
 rcases h.2 with hn|⟨g,cap,cur,rfl,hbg,hgg,rest⟩
 ·exact .inl hn
 ·exact .inr ⟨g,cap,cur,rfl,hbg,by rw[hk g rfl];exact hgg,rest⟩
theorem z9M{w:World}{p b s n:Nat}{e t:TypeId}{cs:Array Value}{v:Value}{xs:List Value}(h:Blk w p cs t)(ho:w.ownsRow b e s v n xs)(he:t≠e):some p≠v.ownBlock:=by
 intro hr
 rcases ho.2 with⟨rfl,_⟩|⟨q,cap,cur,rfl,_,hq,_⟩
 ·simp[Value.ownBlock]at hr
 ·have a1:p=q:=by simpa [Value.ownBlock]using hr
  subst a1
  unfold Blk at h
  rw[h]at hq
  injection hq with hq
  injection hq with _ hq
  exact he hq
structure Keep(w:World)(g gm:Nat)(v:Value)(b:Bd):Prop where
 bd:Blk w g #[v,.map (some gm),.int .i64 b.sz] 145
 its:w.ownsRow (g+1) 150 8 v b.its.length (itsC b.its)
 nms:MapAt w gm b.nms
theorem Keep.below{w w':World}{g gm:Nat}{v:Value}{b:Bd}(h:Keep w g gm v b)(hb:Below w.heap.size w w'):Keep w' g gm v b:=
 ⟨h.bd.below hb,own_below h.its hb,by
  obtain⟨es,c,h3,he⟩:=h.nms
  exact⟨es,c,by rw[hb.block gm (Array.getElem?_eq_some_iff.1 h3).1];exact h3,he⟩⟩
theorem Keep.grown{w w':World}{g gm b2 n:Nat}{v rv:Value}{b:Bd}{xs:List Value}(h:Keep w g gm v b)(hg:w.grownBy w' rv.ownBlock)(ho:w.ownsRow b2 5 1 rv n xs):Keep w' g gm v b:=by
 refine⟨?_,z5B h.its (fun r hr=>hg.block r ?_ (fun e=>z5A h.its ho kD r hr e.symm)),?_⟩
 ·unfold Blk
  rw[hg.block g h.bd.lt (z9M h.bd ho kD)]
  exact h.bd
 ·exact(h.its.lt r hr).2
 ·obtain⟨es,c,h3,he⟩:=h.nms
  refine⟨es,c,?_,he⟩
  rw[hg.block gm (Array.getElem?_eq_some_iff.1 h3).1 (fun e=> ?_)]
  ·exact h3
  ·rcases ho.2 with⟨rfl,_⟩|⟨q,cap,cur,rfl,_,hq,_⟩
   ·simp[Value.ownBlock]at e
   ·have a1:gm=q:=by simpa [Value.ownBlock]using e
    subst a1
    rw[h3]at hq
    cases hq
theorem Keep.drew{w:World}{g gm:Nat}{v:Value}{b:Bd}(h:Keep w g gm v b):Keep w.drew g gm v b:=h.below (Below.refl _ _).drew
theorem Keep.setN{w:World}{g gm r m c p o:Nat}{x:Value}{b:Bd}(h:Keep w g gm (.slice (some ⟨r,0,none⟩) m c) b)(h1:g≠p)(h2:gm≠p)(h3:r≠p):Keep (w.setCell ⟨p,o,none⟩ x) g gm (.slice (some ⟨r,0,none⟩) m c) b:=
 ⟨h.bd.setAt h1,z0o h.its (fun q hq=>by
  have:r=q:=by simpa [Value.ownBlock]using hq
  subst this
  exact h3),by
  obtain⟨es,c,h4,he⟩:=h.nms
  exact⟨es,c,by rw[Below.heap_setCell _ _ _ _ (show gm≠p from h2)];exact h4,he⟩⟩
theorem z7H:∀(l:List It) (i j:Nat) (h:i<l.length),j<8->(itsC l)[i*8+j]? =(itC l[i])[j]?
 |[],i,j,h,_=>absurd h (Nat.not_lt_zero _)
 |x::t,0,j,_,hj=>by
  show(itC x++itsC t)[0*8+j]? =(itC x)[j]?
  rw[List.getElem?_append_left (by simp[itC];omega)]
  simp
 |x::t,i+1,j,h,hj=>by
  have hi:i<t.length:=by simpa using h
  show(itC x++itsC t)[(i+1)*8+j]? =(itC (t[i]'hi))[j]?
  rw[List.getElem?_append_right (by simp[itC];omega),<-z7H t i j hi hj]
  congr 1
  simp[itC]
  omega
theorem Keep.item{w:World}{g gm:Nat}{v:Value}{b:Bd}(h:Keep w g gm v b){k:Nat}(hk:k<b.its.length):∃r c,v= .slice (some ⟨r,0,none⟩) b.its.length c/\r<w.heap.size/\∀j u,(itC b.its[k]).toArray.toList[j]? =some u->w.cell? ((⟨r,k*8,none⟩:Addr).add j)=some u:=by
 obtain⟨ao,cp,rfl⟩:=z0c h.its
 rcases h.its.2 with⟨hv,hn⟩|⟨r,cap,cur,hv,hbg,hgg,_⟩
 ·omega
 ·injection hv with h1 h2 h3
  subst h1
  refine⟨r,cp,rfl,(Array.getElem?_eq_some_iff.1 hgg).1,fun j u hu=> ?_⟩
  have hj:j<8:=by
   have:=(List.getElem?_eq_some_iff.1 hu).1
   simpa [itC]using this
  have hc:=h.its.cells (g:=r) rfl (k*8+j) u ((z7H _ k j hk hj).trans (by simpa using hu))
  have e:(⟨r,k*8,none⟩:Addr).add j=(⟨r,0,none⟩:Addr).add (k*8+j):=by
   rw[Addr.add_lit]
   unfold Addr.add
   split<;>simp_all
  rw[e]
  exact hc
theorem z0cW:(Tryz.prog.info? 5).map (fun i=>(i.zero,i.size,i.bytes))=some (some (.int .u8 0),1,1):=by kernel_rfl
theorem z6F(o:Od)(h:checkO o=0):∀x∈wordsO o,U16 x:=fun x hx=>by
 obtain⟨⟨b0,b1,b2⟩,⟨d0,d1⟩,⟨s0,s1⟩,⟨n0,n1⟩,⟨w0,w1⟩,_⟩:=z5s o h
 unfold wordsO wordO at hx
 unfold U16
 split at hx
 ·simp at hx
  rcases hx with rfl|rfl<;>omega
 ·simp at hx
  subst hx
  omega
theorem z6G(o:Od):(wordsO o).length<=2:=by unfold wordsO;split<;>simp
theorem z0aD(l:List Int)(x:Int):wB (l++[x])=wB l++[x/256,x%256]:=by simp[wB]
theorem z0aC(l:List Int)(k:Nat)(hk:k<l.length):wB (l.take (k+1))=wB (l.take k)++[l[k]/256,l[k]%256]:=by
 rw[List.take_succ_eq_append_getElem hk,z0aD]
theorem z9W(l:List Int):(wB l).length=2*l.length:=by
 induction l with
 |nil=>rfl
 |cons x t ih=>simp only[wB,List.flatMap_cons,List.length_append,List.length_cons,List.length_nil]at ih⊢;omega
theorem wB_u8(l:List Int)(h:∀x∈l,U16 x):∀x∈wB l,U8 x:=fun x hx=>by
 unfold wB at hx
 rw[List.mem_flatMap]at hx
 obtain⟨y,hy,hx⟩:=hx
 have:=h y hy
 unfold U16 at this
 simp at hx
 unfold U8
 rcases hx with rfl|rfl<;>omega
theorem u8_wf(x:Int)(h:U8 x):(Lit.int .u8 x).wf=true:=by
 unfold U8 at h
 simp only[Lit.wf,Bool.and_eq_true,decide_eq_true_eq]
 exact⟨h.1,h.2⟩
theorem z0cQ(x:It):(itC x).toArray.all (·.oneCell')=true:=by simp[itC,Value.oneCell']
def BldEnd(s:List UInt8)(w:World)(e:Ending)(w':World):Prop:=∃v,e= .returned (.tuple #[v,.int .i64 (buildF s).2.1,.int .i64 (buildF s).2.2])/\SliceAt w' .u8 v (buildF s).1/\Below w.heap.size w w'
theorem z7n(w:World)(k:IntKind):SliceAt w k (.slice none 0 0) []:=⟨none,0,rfl,by simp,by simp[maxLen],by simp,fun h=>by simp at h⟩
theorem z2i{s:List UInt8}{w w':World}{i e:Int}(h:buildF s=([],i,e))(hb:Below w.heap.size w w'):BldEnd s w (.returned (.tuple #[.slice none 0 0,.int .i64 i,.int .i64 e])) w':=
 ⟨.slice none 0 0,by rw[h],by rw[h];exact z7n _ _,hb⟩
theorem z7a(c:UInt8):∀(s:List UInt8),∀t∈sepBy c s,t.length<=s.length
 |[],t,h=>by simp[sepBy]at h;subst h;simp
 |x::s,t,h=>by
  have ih:=z7a c s
  unfold sepBy at h
  split at h
  ·rcases List.mem_cons.1 h with rfl|h
   ·simp
   ·have:=ih t h
    simp only[List.length_cons]
    omega
  ·cases hs:sepBy c s with
   |nil=>exact absurd hs (z5o c s)
   |cons y r=>
    rw[hs]at h ih
    simp only[List.mem_cons]at h
    rcases h with rfl|h
    ·have:=ih y kS
     simp only[List.length_cons]
     omega
    ·have:=ih t (by simp[h])
     simp only[List.length_cons]
     omega
theorem z8x(w:World)(o:Obj):BdAt (((w.alloc o).alloc (.map #[] 0)).alloc (.cells #[.slice none 0 0,.map (some (w.heap.size+1)),.int .i64 0] 145)) (w.heap.size+1+1) (w.heap.size+1) (w.heap.size+1+1+1) ⟨[],[],0⟩:=by
 refine⟨⟨.slice none 0 0,Blk.new_at _ _ _ _ kS,⟨rfl,.inl ⟨rfl,rfl⟩⟩⟩,⟨#[],0,?_,rfl⟩,by simp,by simp⟩
 rw[(MapKept.heap_alloc _ _).2 _ kS]
 have:=(MapKept.heap_alloc (w.alloc o) (.map #[] 0)).1
 simpa using this
theorem z9n(g gm base:Nat)(hg:gm<g)(hb:g<base)(b:Bd)(i:Int)(l:List UInt8)(hl:l.length<=4000)(w:World)(hL:Lk w)(hB:BdAt w g gm base b)(hbw:base<=w.heap.size):
  Calls Tryz.prog 59 #[.pointer (some ⟨g,0,none⟩),.int .i64 i,.string ⟨l.toArray⟩] w (LineEnd g gm base b i l w):=by
 by_cases h:l.getLast? =some 58
 ·exact z0bn g gm base hg hb b i l hl h w hB hbw
 ·exact z0aU g gm base hg hb b i l hl h w hL hB hbw
theorem z0bT{w w':World}{b n:Nat}{cs:Array Value}{t:TypeId}(h:Blk w b cs t)(hb:Below n w w')(hn:b<n):Blk w' b cs t:=by
 unfold Blk
 rw[hb.block b hn]
 exact h
theorem z8i(s:List UInt8)(hs:s.length<=281474976710656)(w:World)(hL:Lk w):Calls Tryz.prog 24 #[.string ⟨s.toArray⟩] w (BldEnd s w):=by
 by_cases h1:4000<s.length
 ·have E:Hid (buildF s=([],0,2)):=zh (by unfold buildF;rw[if_pos h1])
  have hi:4000<(s.length:Int):=by omega
  clear h1
  go_enter Tryz.func24,Tryz.ntmps24
  go_wp2
  go_ret3
  exact z2i E.out (Below.refl _ _)
 by_cases h2:s=[]
 ·subst h2
  go_enter Tryz.func24,Tryz.ntmps24
  go_wp2
  go_ret3
  exact z2i rfl (Below.refl _ _)
 have SP:=zh (z6R ⟨s.toArray⟩ (by rw[Lib.size_eq];simp;omega) 10)
 rw[show(⟨s.toArray⟩:ByteArray).data.toList=s by simp]at SP
 have hi:¬4000<(s.length:Int):=by omega
 have q2:s.isEmpty=false:=by cases s with|nil=>exact absurd rfl h2|cons x r=>rfl
 have HS:=zh (And.intro h1 h2)
 have LE:Hid (∀t∈sepBy 10 s,t.length<=4000):=zh (fun t ht=>by have:=z7a 10 s t ht;omega)
 have HL:=zh hL
 obtain⟨L,hLs⟩:∃L,L=sepBy 10 s:=⟨_,rfl⟩
 have HN:Hid (1<=L.length):=zh (by rw[hLs];have:=z5o 10 s;cases h:sepBy 10 s with|nil=>exact absurd h this|cons x r=>simp)
 rw[<-hLs]at SP LE
 have HLS:=zh hLs
 clear h1 h2 hL hLs
 by_cases h3:301<L.length
 ·have E:Hid (buildF s=([],0,2)):=zh (by unfold buildF;rw[if_neg HS.out.1,if_neg HS.out.2,<-HLS.out,if_pos h3])
  have hi3:301<(L.length:Int):=by omega
  clear h3
  go_enter Tryz.func24,Tryz.ntmps24
  go_wp2_with fail
  refine(SP.out _ HL.out).mono ?_
  rintro e w1 ⟨rfl,rfl⟩
  go_wp2
  go_ret3
  exact z2i E.out (below_alloc (Below.refl _ _) _)
 have hi3:¬301<(L.length:Int):=by omega
 have HLn:=zh h3
 clear h3
 have hmm:= @run_makeMap Tryz.prog
 go_enter Tryz.func24,Tryz.ntmps24
 go_wp2_with fail
 refine(SP.out _ HL.out).mono ?_
 rintro e w1 ⟨rfl,rfl⟩
 go_upto_region 9 with(fail)
 refine z0h (R:=fun W=>Below w.heap.size w W/\Hid (Blk W (w.heap.size) ((L.map strV).toArray) 9)/\Hid (BdAt W (w.heap.size+1+1) (w.heap.size+1) (w.heap.size+1+1+1) ⟨[],[],0⟩)/\Hid (w.heap.size+1+1+1<=W.heap.size)) ⟨kL,zh kB,zh (z8x w _),zh kS⟩ ?_
 rintro w2 ⟨hbw2,Kw2_0,KB,HZ⟩
 obtain⟨lw2_0,cw2_0,fw2_0⟩:=Kw2_0.out.use
 obtain⟨g,hg⟩:∃g,g=w.heap.size+1+1:=⟨_,rfl⟩
 obtain⟨gm,hgm⟩:∃g,g=w.heap.size+1:=⟨_,rfl⟩
 rw[<-hg,<-hgm]at KB
 rw[<-hg]at HZ
 rw[<-hg,<-hgm]
 have HG:Hid (gm=w.heap.size+1/\g=gm+1):=zh ⟨hgm,by omega⟩
 have KL:=zh Kw2_0.out
 clear hg hgm SP hi hmm q2 cw2_0 fw2_0 lw2_0 Kw2_0
 go_wp2_with fail
 go_loopw [2,32] (fun rv j wr=>∃(k:Nat) (b:Bd),k<L.length/\rv= .slice none 0 0/\j= .int .i64 k/\Hid (linesGo 0 L ⟨[],[],0⟩=linesGo k (L.drop k) b)/\Hid (Blk wr w.heap.size (L.map strV).toArray 9/\BdAt wr g gm (g+1) b)/\Below w.heap.size w wr/\g+1<=wr.heap.size) (fun _ j _=>L.length-(intOf j).toNat)
 case atStart=>exact⟨0,⟨[],[],0⟩,HN.out,rfl,rfl,zh rfl,zh ⟨KL.out,KB.out⟩,hbw2,HZ.out⟩
 case round=>
  obtain⟨k,b,hk,rfl,rfl,hq,hx,hb,hz⟩:=hrel
  have hki:(k:Int)<L.length:=by omega
  obtain⟨t,ht⟩:∃t,t=L[k]:=⟨_,rfl⟩
  have c0:wr.cell? ⟨w.heap.size,k,none⟩=some (.string ⟨t.toArray⟩):=by
   rw[hx.out.1.cell k,List.getElem?_toArray,List.getElem?_map,List.getElem?_eq_getElem hk,ht]
   rfl
  have hl0:w.heap.size<wr.heap.size:=hx.out.1.lt
  have DR:Hid (L.drop k=t::L.drop (k+1)):=zh (by rw[ht];exact List.drop_eq_getElem_cons hk)
  have TL:Hid (t.length<=4000):=zh (LE.out t (by rw[ht];exact List.getElem_mem _))
  have HX:=zh hx.out
  clear ht hx
  by_cases hlast:k+1=L.length
  ·have hki2:((k:Int)==L.length-1)=true:=by simp;omega
   have HE:Hid (t=[]->linesGo 0 L ⟨[],[],0⟩= .inr b):=zh (fun h=>by rw[hq.out,DR.out,List.drop_of_length_le kO,h];rfl)
   have HF:Hid (t≠[]->linesGo 0 L ⟨[],[],0⟩= .inl (k,1)):=zh (fun h=>by rw[hq.out,DR.out,List.drop_of_length_le kO];unfold linesGo;rw[if_neg h])
   by_cases ht:t=[]
   ·have H1:=zh (HE.out ht)
    subst ht
    clear HE HF DR TL hq hlast
    -- the program: written by mkbld.py
    have FQ:Hid (buildF s=match romGo b.nms b.its []with
     | .inl x=>([],x.1,x.2)
     | .inr rom=>(rom,0,0)):=zh (by
     unfold buildF
     rw[if_neg HS.out.1,if_neg HS.out.2,<-HLS.out,if_neg HLn.out,H1.out]
     rfl)
    obtain⟨⟨v,B1,B2⟩,B3,B4,B5⟩:=HX.out.2
    have KP:Hid (Keep wr g gm v b):=zh ⟨B1,B2,B3⟩
    have HM:Hid (b.its.length<=600):=zh kO
    have HWO0:=zh (hb.size)
    have cb0:wr.cell? ⟨g,0,none⟩=some v:=B1.cell 0
    have hgl:g<wr.heap.size:=B1.lt
    obtain⟨ao,cp,rfl⟩:=z0c B2
    have hbw:=zh hb
    clear B1 B2 B3 B4 B5 HX H1
    go_wp2_with fail
    clear c0 hl0 hki hki2 hz HN LE KL
    obtain⟨wo,rfl⟩:∃wo:World,wo=wr:=⟨_,rfl⟩
    have HWO:Hid (w.heap.size<=wo.heap.size):=HWO0
    clear HWO0
    have hIb:(b.its.length:Int)<=600:=by have:=HM.out;omega
    go_loopw [2,59] (fun rv j wx=>∃(k2:Nat) (rom:List Int),k2<=b.its.length/\j= .int .i64 k2/\Hid (romGo b.nms b.its []=romGo b.nms (b.its.drop k2) rom/\rom.length<=4*k2/\∀x∈rom,U8 x)/\Hid (wx.ownsRow wo.heap.size 5 1 rv rom.length (rom.map (Value.int .u8))/\Keep wx g gm (.slice ao b.its.length cp) b)/\Hid (Below w.heap.size w wx)/\wo.heap.size<=wx.heap.size) (fun _ j _=>b.its.length-(intOf j).toNat)
    case atStart=>exact⟨0,[],by omega,rfl,zh ⟨rfl,by simp,by simp⟩,zh ⟨⟨rfl,.inl ⟨rfl,rfl⟩⟩,KP.out⟩,hbw,Nat.le_refl _⟩
    case round=>
     obtain⟨k2,rom,hk2,rfl,hr,hown,hbx,hzx⟩:=hrel
     obtain⟨ra,rc,erv⟩:=z0c hown.out.1
     subst erv
     by_cases hkn:k2<b.its.length
     ·have hki:(k2:Int)<b.its.length:=by omega
      obtain⟨r,c,ev,hrl,hrc⟩:=hown.out.2.item hkn
      injection ev with ev1 ev2 ev3
      subst ev1
      subst ev3
      obtain⟨it,hit⟩:∃x,x=b.its[k2]:=⟨_,rfl⟩
      rw[<-hit]at hrc
      have RC:=zh hrc
      have ST:Hid (romGo b.nms b.its []=match itemW b.nms it with
       |none=> .inl (it.ln,5)
       |some w=>romGo b.nms (b.its.drop (k2+1)) (rom++wB (itemX it w))):=zh (by
       rw[hr.out.1,List.drop_eq_getElem_cons hkn,<-hit]
       rfl)
      have hg2:g<wr.heap.size:=hown.out.2.bd.lt
      have i1c:=z0cQ it
      have hk2n:Hid (k2+1<=b.its.length):=zh hkn
      clear hrc hit ev2 hk2 hbw
      go_upto_region 22 with(first|(refine wpList_loadC rfl 150 (.tmp 61) rfl ⟨r,k2*8,none⟩ rfl (itC it).toArray RC.out _ Tryz.underlying150 rfl kR ?_)|((with_reducible show wpList _ _ _ _ _ _);refine sW 150 11 62 rfl rfl (wr.heap.size) (itC it).toArray rfl rfl #[.int .i64 0,.int .i64 0,.int .i64 0,.int .i64 0,.int .i64 0,.int .i64 0,.bool false,.string ⟨#[]⟩] kB ?_;intro w3 hp_w3 K_w3))
      have hb3:Below wr.heap.size wr w3:=below_put (below_alloc (Below.refl _ _) _) hp_w3 (Nat.le_refl _)
      have KW3:=zh (hown.out.2.below hb3)
      have OW3:=zh (own_below hown.out.1 hb3)
      have OL3:Hid (∀q,(Value.slice ra rom.length rc).ownBlock=some q->q≠wr.heap.size):=zh (fun q hq=>by have:=(hown.out.1.lt q hq).2;omega)
      have BW3:=zh (below_then hbx.out hb3)
      have HZ3:Hid (wo.heap.size<=w3.heap.size):=zh (Nat.le_trans hzx hb3.size)
      obtain⟨n,hn⟩:∃n,n=wr.heap.size:=⟨_,rfl⟩
      rw[<-hn]at K_w3 OL3⊢
      have KN:=K_w3.out
      unfold itC at KN
      obtain⟨ln3,cn3,fn3⟩:=KN.use
      have KN3:=zh KN
      have HGN:Hid (g<n/\gm<n/\r<n/\w.heap.size<=n):=zh ⟨by omega,by have:=HG.out;omega,by omega,by have:=hbx.out.size;omega⟩
      clear hp_w3 hb3 hown hbx hzx hn RC hg2 hrl KN i1c K_w3
      go_upto_if 65 with(fail)
      go_cut [2,12,13]from 65 to 83 (fun s2 s12 s13 wx=>∃wv,s2= .slice ra rom.length rc/\Hid (itemW b.nms it=some wv)/\Hid (Blk wx n #[.int .i64 it.ln,.int .i64 it.o.op,.int .i64 it.o.d,.int .i64 it.o.s,.int .i64 it.o.n,.int .i64 wv,.bool it.raw,.string ⟨it.nm.toArray⟩] 150)/\Hid (Keep wx g gm (.slice (some ⟨r,0,none⟩) b.its.length cp) b)/\Hid (wx.ownsRow wo.heap.size 5 1 (.slice ra rom.length rc) rom.length (rom.map (Value.int .u8)))/\Hid (Below w.heap.size w wx)/\Hid (wo.heap.size<=wx.heap.size))
      case first=>
       have HE:Hid (it.nm.isEmpty=true->itemW b.nms it=some it.o.w):=zh (fun h=>by unfold itemW;rw[if_pos (List.isEmpty_iff.1 h)])
       have HF:Hid (it.nm.isEmpty=false->itemW b.nms it=findN b.nms it.nm):=zh (fun h=>by unfold itemW;rw[if_neg (fun e=>by rw[e]at h;cases h)])
       have LK:Hid (∀X,Below w3.heap.size w3 X->(Instr.lookup 142 (.map (some gm)) (.string ⟨it.nm.toArray⟩) true).run Tryz.prog X= .ok (.tuple #[.int .i64 ((findN b.nms it.nm).getD 0),.bool (findN b.nms it.nm).isSome]) X):=zh (fun X hX=>z3C X gm b.nms it.nm (KW3.out.below hX).nms)
       obtain⟨em,hem⟩:∃e,e=it.nm.isEmpty:=⟨_,rfl⟩
       rw[<-hem]at HE HF⊢
       clear hem
       cases em
       ·cases hf:findN b.nms it.nm with
        |none=>
         have E:Hid (buildF s=([],it.ln,5)):=zh (by rw[FQ.out,ST.out,HF.out rfl,hf])
         rw[hf]at LK
         simp only[Option.getD_none,Option.isSome_none]at LK
         clear hf HE HF
         go_wp2_with fail
         refine z0k (fun k W=>(k=3->W.cell? ⟨g,1,none⟩=some (.map (some gm)))/\(k=5->W.cell? ⟨n,7,none⟩=some (.string ⟨it.nm.toArray⟩))/\(k=6->(Instr.lookup 142 (.map (some gm)) (.string ⟨it.nm.toArray⟩) true).run Tryz.prog W= .ok (.tuple #[.int .i64 0,.bool false]) W)) [0,1,2,3,4,5,6,7,8,9,10,11] kR ?_
         refine tF 0 ⟨nD,nD,nD⟩ ?_
         refine tF 1 ⟨nD,nD,nD⟩ ?_
         refine tF 2 ⟨nD,nD,nD⟩ ?_
         refine tG 3 rfl (by intro w hF;have hF2:=hF.1 rfl;clear hF;go_simp;try with_reducible rfl) ⟨(fun _=>(KW3.out.bd.drew.cell 1)),nD,nD⟩ ?_
         try simp only[yA,yB,yC,Act.put,yD,yE,yF]
         refine tF 4 ⟨nD,nD,nD⟩ ?_
         refine tG 5 rfl (by intro w hF;have hF2:=hF.2.1 rfl;clear hF;go_simp;try with_reducible rfl) ⟨nD,(fun _=>(KN3.out.drew.cell 7)),nD⟩ ?_
         refine tG 6 rfl (by intro w hF;have hF2:=hF.2.2 rfl;clear hF;go_simp;try with_reducible rfl) ⟨nD,nD,(fun _=>(LK.out _ (Below.refl _ _).drew))⟩ ?_
         refine tF 7 ⟨nD,nD,nD⟩ ?_
         try simp only[yA,yB,yC,Act.put,yD,yE,yF]
         refine tF 8 ⟨nD,nD,nD⟩ ?_
         refine tF 9 ⟨nD,nD,nD⟩ ?_
         refine tF 10 ⟨nD,nD,nD⟩ ?_
         refine tF 11 ⟨nD,nD,nD⟩ ?_
         try simp only[yA,yB,yC,Act.put,yD,yE,yF]
         refine z0g kR ?_ _
         go_wp2_with fail
         refine z0k (fun k W=>(k=1->W.cell? ⟨n,0,none⟩=some (.int .i64 it.ln))) [0,1,2,3,4] kR ?_
         refine tF 0 nD ?_
         refine tG 1 rfl (by intro w hF;have hF2:=hF rfl;clear hF;go_simp;try with_reducible rfl) (fun _=>(KN3.out.drew.drew.cell 0)) ?_
         refine tF 2 nD ?_
         refine tF 3 nD ?_
         try simp only[yA,yB,yC,Act.put,yD,yE,yF]
         refine tF 4 nD ?_
         refine z0g kR ?_ _
         go_wp2_with fail
         go_ret3
         exact z2i E.out BW3.out.drew.drew
        |some d=>
         have E:Hid (itemW b.nms it=some d):=zh (by rw[HF.out rfl,hf])
         rw[hf]at LK
         simp only[Option.getD_some,Option.isSome_some]at LK
         clear hf HE HF
         go_wp2_with fail
         refine z0k (fun k W=>(k=3->W.cell? ⟨g,1,none⟩=some (.map (some gm)))/\(k=5->W.cell? ⟨n,7,none⟩=some (.string ⟨it.nm.toArray⟩))/\(k=6->(Instr.lookup 142 (.map (some gm)) (.string ⟨it.nm.toArray⟩) true).run Tryz.prog W= .ok (.tuple #[.int .i64 d,.bool true]) W)) [0,1,2,3,4,5,6,7,8,9,10,11] kR ?_
         refine tF 0 ⟨nD,nD,nD⟩ ?_
         refine tF 1 ⟨nD,nD,nD⟩ ?_
         refine tF 2 ⟨nD,nD,nD⟩ ?_
         refine tG 3 rfl (by intro w hF;have hF2:=hF.1 rfl;clear hF;go_simp;try with_reducible rfl) ⟨(fun _=>(KW3.out.bd.drew.cell 1)),nD,nD⟩ ?_
         try simp only[yA,yB,yC,Act.put,yD,yE,yF]
         refine tF 4 ⟨nD,nD,nD⟩ ?_
         refine tG 5 rfl (by intro w hF;have hF2:=hF.2.1 rfl;clear hF;go_simp;try with_reducible rfl) ⟨nD,(fun _=>(KN3.out.drew.cell 7)),nD⟩ ?_
         refine tG 6 rfl (by intro w hF;have hF2:=hF.2.2 rfl;clear hF;go_simp;try with_reducible rfl) ⟨nD,nD,(fun _=>(LK.out _ (Below.refl _ _).drew))⟩ ?_
         refine tF 7 ⟨nD,nD,nD⟩ ?_
         try simp only[yA,yB,yC,Act.put,yD,yE,yF]
         refine tF 8 ⟨nD,nD,nD⟩ ?_
         refine tF 9 ⟨nD,nD,nD⟩ ?_
         refine tF 10 ⟨nD,nD,nD⟩ ?_
         refine tF 11 ⟨nD,nD,nD⟩ ?_
         try simp only[yA,yB,yC,Act.put,yD,yE,yF]
         refine z0g kR ?_ _
         go_wp2_with fail
         go_meet
         have hh:=HGN.out
         exact⟨d,rfl,E,zh (Blk.set KN3.out.drew rfl),zh (KW3.out.drew.setN kO kO kO),zh (z0o (World.ownsRow.drew OW3.out) (fun q hq=>(OL3.out q hq))),zh (Below.setCell BW3.out.drew (by show w.heap.size<=n;omega) _),zh (by have:=HZ3.out;simpa using this)⟩
       ·have E:=zh (HE.out rfl)
        clear HE HF LK
        go_wp2_with fail
        go_meet
        exact⟨it.o.w,rfl,E,KN3,KW3,OW3,BW3,HZ3⟩
      case rest=>
       obtain⟨wv,rfl,hwv,KN,KW,OW,BW,HZ⟩:=hcut
       have ST2:Hid (romGo b.nms b.its []=romGo b.nms (b.its.drop (k2+1)) (rom++wB (itemX it wv))):=zh (by rw[ST.out,hwv.out])
       obtain⟨ln4,cn4,fn4⟩:=KN.out.use
       have cw:=z0n wv
       have hh:=HGN.out
       clear hwv ST KN3 KW3 OW3 OL3 BW3 HZ3 cn3 fn3 ln3
       go_upto_if 90 with(fail)
       go_cut [14]from 89 to 97 (fun lv wx=>∃xs bb,Hid (itemX it wv=xs/\(∀x∈xs,U16 x)/\xs.length<=2)/\Hid (wx.ownsRow bb 24 1 lv xs.length (xs.map (Value.int .u16)))/\Hid (Below wc.heap.size wc wx))
       case first=>
        cases hraw:it.raw with
        |true=>
         have E:Hid (itemX it wv=[wv%65536]/\(∀x∈[wv%65536],U16 x)/\[wv%65536].length<=2):=zh ⟨by unfold itemX;rw[if_pos hraw],by simp;unfold U16;omega,by simp⟩
         rw[hraw]at cn4
         clear hraw
         go_wp2_with fail
         go_meet
         exact⟨[wv%65536],wc.heap.size,E,zh (z3H (Blk.new _ _ _) (Nat.le_refl _)),zh (below_alloc (Below.refl _ _) _)⟩
        |false=>
         have KN5:=zh (KN.out.alloc (.cells #[.int .u16 (wv%65536)] 24))
         rw[hraw]at cn4 KN5
         by_cases hck:checkO {it.o with w:=wv}=0
         ·have E:Hid (itemX it wv=wordsO {it.o with w:=wv}/\(∀x∈wordsO {it.o with w:=wv},U16 x)/\(wordsO {it.o with w:=wv}).length<=2):=zh ⟨by unfold itemX;rw[if_neg (by simp[hraw]),if_pos hck],z6F _ hck,z6G _⟩
          have WD:=zh (z6I {it.o with w:=wv} hck)
          clear hraw hck
          go_wp2_with (first|((with_reducible show wpList _ _ _ _ _ _);refine lA 148 92 rfl rfl (n) (1) 5 rfl 150 #[.int .i64 it.ln,.int .i64 it.o.op,.int .i64 it.o.d,.int .i64 it.o.s,.int .i64 it.o.n,.int .i64 wv,.bool false,.string ⟨it.nm.toArray⟩] #[.int .i64 it.o.op,.int .i64 it.o.d,.int .i64 it.o.s,.int .i64 it.o.n,.int .i64 wv] kB Tryz.underlying148 ?_))
          refine(WD.out _).mono ?_
          rintro e w5 ⟨lv,rfl,hlv,hb5⟩
          have OL:=zh hlv
          clear hlv
          go_wp2_with fail
          go_meet
          exact⟨wordsO {it.o with w:=wv},_,E,OL,zh (below_then (below_alloc (Below.refl _ _) _) hb5)⟩
         ·have E:Hid (itemX it wv=[]/\(∀x∈([]:List Int),U16 x)/\([]:List Int).length<=2):=zh ⟨by unfold itemX;rw[if_neg (by simp[hraw]),if_neg hck],by simp,by simp⟩
          have WD:=zh (z8s {it.o with w:=wv} hck)
          obtain⟨kc,hkc⟩:∃x,x=checkO {it.o with w:=wv}:=⟨_,rfl⟩
          rw[<-hkc]at WD
          clear hraw hck hkc
          go_wp2_with (first|((with_reducible show wpList _ _ _ _ _ _);refine lA 148 92 rfl rfl (n) (1) 5 rfl 150 #[.int .i64 it.ln,.int .i64 it.o.op,.int .i64 it.o.d,.int .i64 it.o.s,.int .i64 it.o.n,.int .i64 wv,.bool false,.string ⟨it.nm.toArray⟩] #[.int .i64 it.o.op,.int .i64 it.o.d,.int .i64 it.o.s,.int .i64 it.o.n,.int .i64 wv] kB Tryz.underlying148 ?_))
          refine(WD.out _).mono ?_
          rintro e w5 ⟨rfl,hb5⟩
          go_wp2_with fail
          go_meet
          exact⟨[],0,E,zh ⟨rfl,.inl ⟨rfl,rfl⟩⟩,zh (below_then (below_alloc (Below.refl _ _) _) hb5)⟩
       case rest=>
        rename_i wq
        obtain⟨xs,bb,hxs,OV,hbv⟩:=hcut
        have KW6:=zh (KW.out.below hbv.out)
        have OW6:=zh (own_below OW.out hbv.out)
        have BW6:=zh (below_then BW.out hbv.out)
        have HZ6:Hid (wo.heap.size<=wc.heap.size):=zh (Nat.le_trans HZ.out hbv.out.size)
        obtain⟨lo,lc,ev⟩:=z0c OV.out
        subst ev
        obtain⟨XS,hXS⟩:∃x,x=xs.length:=⟨_,rfl⟩
        have HXS:=zh hXS
        have OV0:=OV.out
        rw[<-hXS]at OV0⊢
        have OV1:=zh OV0
        obtain⟨i0,hi,hz0,hz1,hz2⟩:=info_parts z0cW
        have HI:=zh (And.intro hi (And.intro hz0 (And.intro hz1 hz2)))
        clear hi hz0 hz1 hz2 OV0 OV hXS KW OW BW HZ cn4 fn4 ln4 hbv KN hki
        go_wp2_with fail
        have hXb:(XS:Int)<=2:=by have:=hxs.out.2.2;have:=HXS.out;omega
        obtain⟨wi,rfl⟩:∃wi:World,wi=wc:=⟨_,rfl⟩
        go_loopw [2,99] (fun rv j wy=>∃(k3:Nat),k3<=XS/\j= .int .i64 k3/\Hid (wy.ownsRow wo.heap.size 5 1 rv (rom++wB (xs.take k3)).length ((rom++wB (xs.take k3)).map (Value.int .u8))/\Keep wy g gm (.slice (some ⟨r,0,none⟩) b.its.length cp) b/\wy.ownsRow bb 24 1 (.slice lo XS lc) XS (xs.map (Value.int .u16)))/\Hid (Below w.heap.size w wy)/\Hid (wo.heap.size<=wy.heap.size)) (fun _ j _=>XS-(intOf j).toNat)
        case atStart=>exact⟨0,by omega,rfl,zh ⟨by simpa [wB]using OW6.out,KW6.out,OV1.out⟩,BW6,HZ6⟩
        case round=>
         obtain⟨k3,hk3,rfl,hown,hbx,hzx⟩:=hrel
         obtain⟨rd,re,erv⟩:=z0c hown.out.1
         subst erv
         by_cases hkn3:k3<XS
         ·have hki3:(k3:Int)<XS:=by omega
          obtain⟨x,hx⟩:∃x,x=xs.getD k3 0:=⟨_,rfl⟩
          have hlt:k3<xs.length:=by have:=HXS.out;omega
          have hxm:xs[k3]? =some x:=by rw[hx,List.getD_eq_getElem?_getD,List.getElem?_eq_getElem hlt];rfl
          obtain⟨q,rfl,hql,hqc⟩:=z0aT hown.out.2.2 (u:= .int .u16 x) hkn3 (by rw[List.getElem?_map,hxm];rfl)
          have hxu:U16 x:=hxs.out.2.1 x (List.mem_of_getElem? hxm)
          have WT:Hid (rom++wB (xs.take (k3+1))=(rom++wB (xs.take k3))++[x/256,x%256]):=zh (by
           rw[z0aC xs k3 hlt,List.append_assoc]
           have:xs[k3]=x:=by rw[List.getElem?_eq_getElem hlt]at hxm;injection hxm
           rw[this])
          have hlen:Hid ((rom++wB (xs.take k3)).length<=2410):=zh (by
           rw[List.length_append,z9W,List.length_take]
           have:=hr.out.2.1
           have:=hxs.out.2.2
           have:=HM.out
           omega)
          obtain⟨hx0,hx1⟩:=hxu
          have hk3n:Hid (k3+1<=XS):=zh hkn3
          have s8:x>>>8=x/256:=Int.shiftRight_eq_div_pow x 8
          have HO:=zh hown.out
          obtain⟨ro,hro⟩:∃y,y=rom++wB (xs.take k3):=⟨_,rfl⟩
          rw[<-hro]at WT hlen HO⊢
          clear hx hlt hxm hown hro hk3
          go_wp2_with (first|(at_builtin;refine wpList_append_own _ rfl (.tmp 103) (.tmp 109) 22 rfl wo.heap.size 5 i0 (.int .u8 0) 1 1 Tryz.underlying22 HI.out.1 HI.out.2.1 HI.out.2.2.1 HI.out.2.2.2 rfl kD _ _ _ rfl (HO.out.1.alloc _) ⟨wr.heap.size,0,none⟩ 2 2 [.int .u8 (x/256),.int .u8 (x%256)] rfl rfl ?c1 ?c2 ?c3 ?c4 ?c5 ?_))
          case c1=>
           intro j u hj
           match j,hj with
           |0,hj=>simp at hj;subst hj;simp[Addr.add]
           |1,hj=>simp at hj;subst hj;simp[Addr.add]
          case c2=>intro u hu;simp at hu;rcases hu with rfl|rfl<;>rfl
          case c3=>unfold maxLen;have:=hlen.out;omega
          case c4=>have:=hlen.out;omega
          case c5=>have:=hzx.out;simp;omega
          intro v' w5 hown' hgrow _
          have KA:=HO.out.2.1.below (below_alloc (Below.refl wr.heap.size wr) (.cells #[.int .u8 (x/256),.int .u8 (x%256)] 5))
          have OA:=own_below HO.out.2.2 (below_alloc (Below.refl wr.heap.size wr) (.cells #[.int .u8 (x/256),.int .u8 (x%256)] 5))
          have RA:=HO.out.1.alloc (.cells #[.int .u8 (x/256),.int .u8 (x%256)] 5)
          have K5:=zh (KA.grown hgrow RA)
          have O5:Hid (w5.ownsRow bb 24 1 (.slice (some ⟨q,0,none⟩) XS lc) XS (xs.map (Value.int .u16))):=zh (z5B OA (fun t ht=>hgrow.block t (OA.lt t ht).2 (fun e=>z5A OA RA kD t ht e.symm)))
          have R5:Hid (w5.ownsRow wo.heap.size 5 1 v' (rom++wB (xs.take (k3+1))).length ((rom++wB (xs.take (k3+1))).map (Value.int .u8))):=zh (by
           rw[WT.out,List.map_append,List.length_append]
           exact hown')
          have B5:Hid (Below w.heap.size w w5):=zh (z0p (below_alloc hbx.out _) (by have:=hbx.out.size;simp;omega) hgrow RA (HWO.out))
          have Z5:Hid (wo.heap.size<=w5.heap.size):=zh (Nat.le_trans hzx.out (by have:=hgrow.size;simp at this;omega))
          clear hown' hgrow KA OA RA hqc hql s8 hx0 hx1
          go_wp2
          go_roundw
          case rel=>exact⟨k3+1,hk3n.out,by go_num,zh ⟨R5.out,K5.out,O5.out⟩,B5,Z5⟩
          case measure=>have:=hk3n.out;simp[intOf];omega
         ·have hke:k3=XS:=by omega
          subst hke
          have R6:Hid (wr.ownsRow wo.heap.size 5 1 (.slice rd (rom++wB (xs.take k3)).length re) (rom++wB xs).length ((rom++wB xs).map (Value.int .u8))):=zh (by
           have:=hown.out.1
           rw[List.take_of_length_le (by have:=HXS.out;omega)]at this⊢
           exact this)
          have K6:=zh hown.out.2.1
          have RX:Hid ((rom++wB xs).length<=4*(k2+1)/\∀x∈rom++wB xs,U8 x):=zh ⟨by
           rw[List.length_append,z9W]
           have:=hr.out.2.1
           have:=hxs.out.2.2
           omega,fun x hx=>by
           rw[List.mem_append]at hx
           rcases hx with hx|hx
           ·exact hr.out.2.2 x hx
           ·exact wB_u8 xs hxs.out.2.1 x hx⟩
          clear hown
          go_wp2
          go_roundw
          case rel=>exact⟨k2+1,rom++wB xs,hk2n.out,by go_num,zh ⟨by rw[ST2.out,hxs.out.1],RX.out.1,RX.out.2⟩,zh ⟨R6.out,K6.out⟩,hbx,hzx.out⟩
          case measure=>have:=hk2n.out;simp[intOf];omega
     ·have hke:k2=b.its.length:=by omega
      subst hke
      have E:Hid (buildF s=(rom,0,0)):=zh (by
       rw[FQ.out,hr.out.1,List.drop_of_length_le (Nat.le_refl _)]
       rfl)
      have R6:=zh (z0U hown.out.1 (fun x hx=>u8_wf x (hr.out.2.2 x hx)))
      have B6:=hbx.out
      clear hown
      go_wp2
      go_ret3
      exact⟨.slice ra rom.length rc,by rw[E.out];rfl,by rw[E.out];exact R6.out,B6⟩
    -- the end of it
   ·have q5:t.isEmpty=false:=by cases t with|nil=>exact absurd rfl ht|cons x r=>rfl
    have E:Hid (buildF s=([],(k:Int),1)):=zh (by
     unfold buildF
     rw[if_neg HS.out.1,if_neg HS.out.2,<-HLS.out,if_neg HLn.out,HF.out ht])
    clear HE HF DR TL hq hlast ht
    go_wp2
    go_ret3
    exact z2i E.out hb
  ·have hki2:((k:Int)==L.length-1)=false:=by simp;omega
   have LN:=zh (z9n g gm (g+1) (by have:=HG.out;omega) kO b k t TL.out wr (HL.out.below hb) HX.out.2 hz)
   obtain⟨t2,r2,hr2⟩:∃t2 r2,L.drop (k+1)=t2::r2:=by
    have:k+1<L.length:=by omega
    exact⟨L[k+1],L.drop (k+2),List.drop_eq_getElem_cons this⟩
   have HE:Hid ((lineF b k t).1≠0->linesGo 0 L ⟨[],[],0⟩= .inl (k,(lineF b k t).1)):=zh (fun h=>by rw[hq.out,DR.out,hr2];unfold linesGo;rw[if_pos h])
   have HF:Hid ((lineF b k t).1=0->linesGo 0 L ⟨[],[],0⟩=linesGo (k+1) (L.drop (k+1)) (lineF b k t).2):=zh (fun h=>by rw[hq.out,DR.out,hr2];conv=>lhs;unfold linesGo;rw[if_neg (by simp[h])])
   go_wp2_with fail
   refine(LN.out).mono ?_
   rintro e w3 ⟨rfl,hok,hb3⟩
   obtain⟨x,hx⟩:∃x,x=(lineF b k t).1:=⟨_,rfl⟩
   rw[<-hx]at HE HF hok⊢
   have HK:=zh hok
   have hb3w:Below w.heap.size w w3:=hb.trans (hb3.mono (by have:=HG.out;omega))
   have hk1:=zh (show k+1<L.length by omega)
   clear hok hx hr2 DR LN hlast
   by_cases hx0:x=0
   ·subst hx0
    have HB3:=zh (HK.out (by first|rfl|trivial))
    go_wp2
    go_roundw
    case rel=>exact⟨k+1,_,hk1.out,rfl,by go_num,zh (HF.out (by first|rfl|trivial)),zh ⟨z0bT HX.out.1 hb3 (by have:=HG.out;omega),HB3.out⟩,hb3w,by have:=hb3.size;omega⟩
    case measure=>simp[intOf];omega
   ·have q6:(x !=0)=true:=by simpa using hx0
    have E:Hid (buildF s=([],(k:Int),x)):=zh (by
     unfold buildF
     rw[if_neg HS.out.1,if_neg HS.out.2,<-HLS.out,if_neg HLn.out,HE.out hx0])
    replace hx0:=zh hx0
    go_wp2
    go_ret3
    exact z2i E.out hb3w
end Go.Proofs.YtkoocfcnfolkhaaGreatDoor
