/- The program checks what was pressed. Conditions: it lies in memory. -/
import Derived.Test.YtkoocfcnfolkhaaGreatDoorSq
import Derived.Test.YtkoocfcnfolkhaaGreatDoorSh
import Derived.Test.YtkoocfcnfolkhaaGreatDoorP29
import Derived.Test.YtkoocfcnfolkhaaGreatDoorRows
import Derived.LoopTactic
import Derived.Test.YtkoocfcnfolkhaaGreatDoorP22
import Derived.Test.YtkoocfcnfolkhaaGreatDoorP08
import Derived.StillTailTactics
import Derived.Deep.CutRange
set_option linter.unusedVariables false
set_option linter.unusedSimpArgs false
set_option maxHeartbeats 4000000
set_option maxRecDepth 100000
namespace Go.Proofs.YtkoocfcnfolkhaaGreatDoor
open Go.RowKit Go.Mq
theorem z0V(v:Value)(xs:List Inp)(f:Int)(w:World)(h:InpsAt w v xs)(hf:I64 f):
  Calls Tryz.prog 28 #[v,.int .i64 f] w fun e w'=>e= .returned (.int .i64 (chkI xs f))/\Below w.heap.size w w':=by
 obtain⟨a,cap,rfl,h1,h2,h4,h5⟩:=h
 unfold chkI
 by_cases h40:40<xs.length
 ·rw[if_pos h40]
  have h40':(40:Int)<xs.length:=by omega
  go_enter Tryz.func28,Tryz.ntmps28
  go_wp2
  go_ret
  exact⟨rfl,kL⟩
 ·rw[if_neg h40]
  have h40':¬(40:Int)<xs.length:=by omega
  have H5:=zh h5
  have H4:=zh h4
  have HN:=zh h40
  clear h4 h5 h40
  go_enter Tryz.func28,Tryz.ntmps28
  go_wp2
  go_loopw [12] (fun i wr=>∃k:Nat,k<=xs.length/\i= .int .i64 k/\Hid (chkFrom f xs=chkFrom (lastAt f xs k) (xs.drop k)/\f<=lastAt f xs k)/\Below w.heap.size w wr) (fun i _=>xs.length-(intOf i).toNat)
  case atStart=>exact⟨0,by omega,rfl,zh ⟨rfl,by simp[lastAt]⟩,Below.refl _ _⟩
  case round=>
   obtain⟨k,hk,rfl,hx,hb⟩:=hrel
   by_cases hkn:k<xs.length
   ·obtain⟨b,off,rfl,hbl,hc⟩:=H5.out kO
    have hck:=hc k hkn
    obtain⟨c0,c1,c2⟩:=hck
    replace c0:=(hb.cell (p:=⟨b,_,none⟩) hbl).trans c0
    replace c1:=(hb.cell (p:=⟨b,_,none⟩) hbl).trans c1
    replace c2:=(hb.cell (p:=⟨b,_,none⟩) hbl).trans c2
    have hki:(k:Int)<xs.length:=by omega
    have hbs:=hb.size
    have CA:=zh (z0aJ (f:=f) hkn)
    have OK:=H4.out (xs.getD k Inp0) (by rw[List.getD_eq_getElem?_getD,List.getElem?_eq_getElem hkn];exact List.getElem_mem hkn)
    obtain⟨o0,o1,o2⟩:=OK
    have LA:Hid (∀j,k=j+1->wr.cell? ⟨b,off+j*3,none⟩=some (.int .i64 (lastAt f xs k))):=zh fun j hj=>by
     subst hj
     exact(hb.cell (p:=⟨b,_,none⟩) hbl).trans (hc j kO).1
    obtain⟨y,ey⟩:∃y,y=xs.getD k Inp0:=⟨_,rfl⟩
    rw[<-ey]at c0 c1 c2 o0 o1 o2
    rw[<-ey]at CA
    replace ey:=zh ey
    clear hc
    by_cases g1:y.ck<f
    ·have E:Hid (chkFrom f xs=3):=zh (by rw[hx.out.1,CA.out,if_pos (Or.inl (by have:=hx.out.2;omega))])
     clear CA hx LA
     go_wp2
     refine z0g (R:=fun W=>Below w.heap.size w W/\Hid (Blk W (wr.heap.size) (#[.int .i64 y.ck,.int .i64 y.pd,.int .u8 y.dn]) 63)) ⟨kL,zh kB⟩ ?_
     rintro w2 ⟨hbw2,Kw2_0⟩
     obtain⟨lw2_0,cw2_0,fw2_0⟩:=Kw2_0.out.use
     go_quiet (fail)
     go_wp2
     go_ret
     exact⟨by rw[E.out];rfl,kL⟩
    ·have t1:decide (y.ck<f)=false:=decide_eq_false g1
     by_cases g2:400000<y.ck
     ·have E:Hid (chkFrom f xs=3):=zh (by rw[hx.out.1,CA.out,if_pos (Or.inr g2)])
      clear CA hx LA
      go_wp2
      refine z0g (R:=fun W=>Below w.heap.size w W/\Hid (Blk W (wr.heap.size) (#[.int .i64 y.ck,.int .i64 y.pd,.int .u8 y.dn]) 63)) ⟨kL,zh kB⟩ ?_
      rintro w2 ⟨hbw2,Kw2_0⟩
      obtain⟨lw2_0,cw2_0,fw2_0⟩:=Kw2_0.out.use
      go_quiet (fail)
      go_wp2
      go_ret
      exact⟨by rw[E.out];rfl,kL⟩
     ·have t2:decide (400000<y.ck)=false:=decide_eq_false g2
      rcases Nat.eq_zero_or_pos k with rfl|hk0
      ·have hx1:Hid (¬(y.ck<lastAt f xs 0\/400000<y.ck)):=zh (by show ¬(y.ck<f\/_);omega)
       clear LA
       simp only[Nat.zero_mul,Nat.add_zero]at c0 c1 c2
       have GO:Hid (y.pd=0\/y.pd=1->chkFrom f xs=chkFrom (lastAt f xs (0+1)) (xs.drop (0+1))/\f<=lastAt f xs (0+1)):=zh fun g=>⟨by rw[hx.out.1,CA.out,if_neg hx1.out,if_neg kO],by show f<=(xs.getD (0) Inp0).ck;rw[<-ey.out];omega⟩
       have NO:Hid (y.pd≠0/\y.pd≠1->chkFrom f xs=5):=zh fun g=>by rw[hx.out.1,CA.out,if_neg hx1.out,if_pos g]
       clear CA hx hx1
       by_cases p0:y.pd=0
       ·skip
        have q0:(y.pd !=0)=false:=by simp[p0]
        have E:=zh (GO.out kO)
        clear GO NO p0
        go_wp2
        refine z0g (R:=fun W=>Below w.heap.size w W/\Hid (Blk W (wr.heap.size) (#[.int .i64 y.ck,.int .i64 y.pd,.int .u8 y.dn]) 63)) ⟨kL,zh kB⟩ ?_
        rintro w2 ⟨hbw2,Kw2_0⟩
        obtain⟨lw2_0,cw2_0,fw2_0⟩:=Kw2_0.out.use
        go_quiet (fail)
        go_wp2
        go_roundw
        case rel=>exact⟨0+1,by omega,by go_num,E,kL⟩
        case measure=>simp[intOf];omega
       ·by_cases p1:y.pd=1
        ·skip
         have q0:(y.pd !=0)=true:=by simp[p0]
         have q1:(y.pd !=1)=false:=by simp[p1]
         have E:=zh (GO.out kO)
         clear GO NO p0 p1
         go_wp2
         refine z0g (R:=fun W=>Below w.heap.size w W/\Hid (Blk W (wr.heap.size) (#[.int .i64 y.ck,.int .i64 y.pd,.int .u8 y.dn]) 63)) ⟨kL,zh kB⟩ ?_
         rintro w2 ⟨hbw2,Kw2_0⟩
         obtain⟨lw2_0,cw2_0,fw2_0⟩:=Kw2_0.out.use
         go_quiet (fail)
         go_wp2
         go_roundw
         case rel=>exact⟨0+1,by omega,by go_num,E,kL⟩
         case measure=>simp[intOf];omega
        ·skip
         have q0:(y.pd !=0)=true:=by simp[p0]
         have q1:(y.pd !=1)=true:=by simp[p1]
         have E:=zh (NO.out ⟨p0,p1⟩)
         clear GO NO p0 p1
         go_wp2
         refine z0g (R:=fun W=>Below w.heap.size w W/\Hid (Blk W (wr.heap.size) (#[.int .i64 y.ck,.int .i64 y.pd,.int .u8 y.dn]) 63)) ⟨kL,zh kB⟩ ?_
         rintro w2 ⟨hbw2,Kw2_0⟩
         obtain⟨lw2_0,cw2_0,fw2_0⟩:=Kw2_0.out.use
         go_quiet (fail)
         go_wp2
         go_ret
         exact⟨by rw[E.out];rfl,kL⟩
      ·obtain⟨j,rfl⟩:∃j,k=j+1:=⟨k-1,by omega⟩
       have hl:=LA.out j rfl
       have hxl:=hx.out.2
       generalize hL:lastAt f xs (j+1)=z at*
       replace hL:=zh hL
       have hjb:(j:Int)<xs.length:=by omega
       by_cases g3:y.ck<z
       ·have E:Hid (chkFrom f xs=3):=zh (by rw[hx.out.1,CA.out,if_pos (Or.inl g3)])
        clear CA hx LA
        go_wp2
        refine z0g (R:=fun W=>Below w.heap.size w W/\Hid (Blk W (wr.heap.size) (#[.int .i64 y.ck,.int .i64 y.pd,.int .u8 y.dn]) 63)/\Hid (W.cell? ⟨b,off+j*3,none⟩=some (.int .i64 z))) ⟨kL,zh kB,zh (cell_later (below_alloc (Below.refl _ _) _) hl)⟩ ?_
        rintro w2 ⟨hbw2,Kw2_0,H2⟩
        obtain⟨lw2_0,cw2_0,fw2_0⟩:=Kw2_0.out.use
        have h2:=H2.out
        go_quiet (fail)
        go_wp2
        go_ret
        exact⟨by rw[E.out];rfl,kL⟩
       ·have t3:decide (y.ck<z)=false:=decide_eq_false g3
        have hx1:Hid (¬(y.ck<z\/400000<y.ck)):=zh kO
        clear LA
        have hxz:Hid (f<=z):=zh hxl
        have GO:Hid (y.pd=0\/y.pd=1->chkFrom f xs=chkFrom (lastAt f xs (j+1+1)) (xs.drop (j+1+1))/\f<=lastAt f xs (j+1+1)):=zh fun g=>⟨by rw[hx.out.1,CA.out,if_neg hx1.out,if_neg kO],by show f<=(xs.getD (j+1) Inp0).ck;rw[<-ey.out];omega⟩
        have NO:Hid (y.pd≠0/\y.pd≠1->chkFrom f xs=5):=zh fun g=>by rw[hx.out.1,CA.out,if_neg hx1.out,if_pos g]
        clear CA hx hx1
        by_cases p0:y.pd=0
        ·skip
         have q0:(y.pd !=0)=false:=by simp[p0]
         have E:=zh (GO.out kO)
         clear GO NO p0
         go_wp2
         refine z0g (R:=fun W=>Below w.heap.size w W/\Hid (Blk W (wr.heap.size) (#[.int .i64 y.ck,.int .i64 y.pd,.int .u8 y.dn]) 63)/\Hid (W.cell? ⟨b,off+j*3,none⟩=some (.int .i64 z))) ⟨kL,zh kB,zh (cell_later (below_alloc (Below.refl _ _) _) hl)⟩ ?_
         rintro w2 ⟨hbw2,Kw2_0,H2⟩
         obtain⟨lw2_0,cw2_0,fw2_0⟩:=Kw2_0.out.use
         have h2:=H2.out
         go_quiet (fail)
         go_wp2
         go_roundw
         case rel=>exact⟨j+1+1,by omega,by go_num,E,kL⟩
         case measure=>simp[intOf];omega
        ·by_cases p1:y.pd=1
         ·skip
          have q0:(y.pd !=0)=true:=by simp[p0]
          have q1:(y.pd !=1)=false:=by simp[p1]
          have E:=zh (GO.out kO)
          clear GO NO p0 p1
          go_wp2
          refine z0g (R:=fun W=>Below w.heap.size w W/\Hid (Blk W (wr.heap.size) (#[.int .i64 y.ck,.int .i64 y.pd,.int .u8 y.dn]) 63)/\Hid (W.cell? ⟨b,off+j*3,none⟩=some (.int .i64 z))) ⟨kL,zh kB,zh (cell_later (below_alloc (Below.refl _ _) _) hl)⟩ ?_
          rintro w2 ⟨hbw2,Kw2_0,H2⟩
          obtain⟨lw2_0,cw2_0,fw2_0⟩:=Kw2_0.out.use
          have h2:=H2.out
          go_quiet (fail)
          go_wp2
          go_roundw
          case rel=>exact⟨j+1+1,by omega,by go_num,E,kL⟩
          case measure=>simp[intOf];omega
         ·skip
          have q0:(y.pd !=0)=true:=by simp[p0]
          have q1:(y.pd !=1)=true:=by simp[p1]
          have E:=zh (NO.out ⟨p0,p1⟩)
          clear GO NO p0 p1
          go_wp2
          refine z0g (R:=fun W=>Below w.heap.size w W/\Hid (Blk W (wr.heap.size) (#[.int .i64 y.ck,.int .i64 y.pd,.int .u8 y.dn]) 63)/\Hid (W.cell? ⟨b,off+j*3,none⟩=some (.int .i64 z))) ⟨kL,zh kB,zh (cell_later (below_alloc (Below.refl _ _) _) hl)⟩ ?_
          rintro w2 ⟨hbw2,Kw2_0,H2⟩
          obtain⟨lw2_0,cw2_0,fw2_0⟩:=Kw2_0.out.use
          have h2:=H2.out
          go_quiet (fail)
          go_wp2
          go_ret
          exact⟨by rw[E.out];rfl,kL⟩
   ·have hkn':k=xs.length:=by omega
    have hc0:chkFrom f xs=0:=by rw[hx.out.1,hkn',List.drop_length];rfl
    have HC0:=zh hc0
    clear hc0
    subst hkn'
    clear hx
    go_wp2
    go_ret
    exact⟨by rw[HC0.out];rfl,kL⟩
theorem z0ay:(Tryz.prog.info? 5).map (fun i=>(i.zero,i.size,i.bytes))=some (some (.int .u8 0),1,1):=by kernel_rfl
theorem z4t(v:Vc)(hv:v.Ok)(n:Int)(h0:0<=n)(hn:n<=20000)(w:World):
  Calls Tryz.prog 64 #[.agg #[.int .u16 v.pd,.int .u16 v.ct,.int .u8 v.ld,.bool v.hi,.int .u16 v.nz],.int .i64 n] w fun e w'=>e= .returned (.tuple #[.agg #[.int .u16 (runV v n.toNat).pd,.int .u16 (runV v n.toNat).ct,.int .u8 (runV v n.toNat).ld,.bool (runV v n.toNat).hi,.int .u16 (runV v n.toNat).nz],.int .i64 0])/\Below w.heap.size w w':=by
 have:=z8H v hv n.toNat kO w
 rw[show((n.toNat:Nat):Int)=n from by omega]at this
 exact this
def vsC(s:Sd):Array Value:= #[.int .u16 s.a.pd,.int .u16 s.a.ct,.int .u8 s.a.ld,.bool s.a.hi,.int .u16 s.a.nz,.int .u16 s.b.pd,.int .u16 s.b.ct,.int .u8 s.b.ld,.bool s.b.hi,.int .u16 s.b.nz,.int .u16 s.c.pd,.int .u16 s.c.ct,.int .u8 s.c.ld,.bool s.c.hi,.int .u16 s.c.nz]
def vk(s:Sd):Nat->Vc
 |0=>s.a
 |1=>s.b
 |_=>s.c
theorem vk_ok{s:Sd}(h:s.In):∀k,(vk s k).Ok
 |0=>h.1
 |1=>h.2.1
 |_+2=>h.2.2
theorem vidxk(s:Sd)(w:World):∀k:Nat,k<3->(Instr.index 35 (.agg (vsC s)) (.int .i64 k)).run Tryz.prog w= .ok (.agg #[.int .u16 ((vk s k)).pd,.int .u16 ((vk s k)).ct,.int .u8 ((vk s k)).ld,.bool ((vk s k)).hi,.int .u16 ((vk s k)).nz]) w
 |0,_=>by kernel_rfl
 |1,_=>by kernel_rfl
 |2,_=>by kernel_rfl
 |k+3,h=>absurd h kO
theorem me3{k:Nat}(h:k<3):(3-((k:Int)+1)).toNat<(3-(k:Int)).toNat:=by omega
def sj(s:Sd)(n:Nat):Nat->Sd
 |0=>s
 |1=>{s with a:=runV s.a n}
 |2=>{s with a:=runV s.a n,b:=runV s.b n}
 |_=>{s with a:=runV s.a n,b:=runV s.b n,c:=runV s.c n}
def sdC(s:Sd):Array Value:= #[.int .u16 s.a.pd,.int .u16 s.a.ct,.int .u8 s.a.ld,.bool s.a.hi,.int .u16 s.a.nz,.int .u16 s.b.pd,.int .u16 s.b.ct,.int .u8 s.b.ld,.bool s.b.hi,.int .u16 s.b.nz,.int .u16 s.c.pd,.int .u16 s.c.ct,.int .u8 s.c.ld,.bool s.c.hi,.int .u16 s.c.nz,.int .i64 s.wt]
theorem z8i(s:Sd)(n:Nat):∀j,j<3->((sdC (sj s n j)).toList.take (j*5)++(#[.int .u16 ((runV (vk s j) n)).pd,.int .u16 ((runV (vk s j) n)).ct,.int .u8 ((runV (vk s j) n)).ld,.bool ((runV (vk s j) n)).hi,.int .u16 ((runV (vk s j) n)).nz]:Array Value).toList++(sdC (sj s n j)).toList.drop (j*5+(#[.int .u16 ((runV (vk s j) n)).pd,.int .u16 ((runV (vk s j) n)).ct,.int .u8 ((runV (vk s j) n)).ld,.bool ((runV (vk s j) n)).hi,.int .u16 ((runV (vk s j) n)).nz]:Array Value).size)).toArray=sdC (sj s n (j+1))
 |0,_=>by kernel_rfl
 |1,_=>by kernel_rfl
 |2,_=>by kernel_rfl
 |k+3,h=>absurd h kO
theorem z8j(s:Sd)(n j:Nat)(h:j<3):j*5+5<=(sdC (sj s n j)).size:=by
 have e:(sdC (sj s n j)).size=16:=rfl
 omega
theorem wrapT(n:Int)(h0: -1000000000000<=n)(h1:n<=1000000000000):wrap64 n=n:=by unfold wrap64;omega
theorem z5Y{w:World}{B size n:Nat}{e:TypeId}{v:Value}{xs:List Value}(h:w.ownsRow B e size v n xs){g:Nat}(hg:v.ownBlock=some g):B<=g/\∃cs,Blk w g cs e:=by
 rcases h.2 with⟨rfl,-⟩|⟨g',cap,cur,rfl,h1,h2,-⟩
 ·cases hg
 ·injection hg with hg
  subst hg
  exact⟨h1,cur,h2⟩
theorem z7r{w w':World}{B size n g:Nat}{e t:TypeId}{v:Value}{xs:List Value}{cs:Array Value}(h:w.ownsRow B e size v n xs)(hp:Put g w w')(hb:Blk w g cs t)(ht:t≠e):w'.ownsRow B e size v n xs:=by
 refine⟨h.1,?_⟩
 rcases h.2 with hn|⟨g',cap,cur,rfl,hbg,hgg,rest⟩
 ·exact .inl hn
 ·have hne:g'≠g:=fun e'=>by
   subst e'
   unfold Blk at hb
   rw[hb]at hgg
   injection hgg with hgg
   injection hgg with _ hgg
   exact ht hgg
  exact .inr ⟨g',cap,cur,rfl,hbg,by rw[hp.other g' hne];exact hgg,rest⟩
theorem z4X(u:Sd)(hu:u.Ok)(m:Nat)(hm:1<=m)(S:Sd)(hS:S=if u.wt=0 then {u with wt:=16}else u)(k:Nat)(hk:k=min m S.wt.toNat):
  (1<=k/\k<=m/\k<=16/\1<=S.wt/\S.wt<=16)/\S.In/\(goSd S k (S.wt-k)).Ok/\(if u.wt=0 then [levS u]else [])++smp (goSd S k (S.wt-k)) (m-k)=smp u m/\runS (goSd S k (S.wt-k)) (m-k)=runS u m:=by
 by_cases h:u.wt=0
 ·rw[if_pos h]at hS⊢
  subst hS
  have hk:k=min m 16:=hk
  obtain⟨h1,h2,h3⟩:=z5j u hu m k h kO kO kO
  exact⟨⟨by omega,by omega,by omega,by show(1:Int)<=16;decide,by show(16:Int)<=16;decide⟩,hu.1,h1,h2,h3⟩
 ·rw[if_neg h]at hS⊢
  subst hS
  have:=hu.2
  obtain⟨h1,h2,h3⟩:=z5x S hu m k kO kO
  exact⟨⟨by omega,by omega,by omega,by omega,by omega⟩,hu.1,h1,h2,h3⟩
theorem z2K(s:Sd)(hs:s.Ok)(n:Nat)(hn:n<=20000)(w:World):
  Calls Tryz.prog 32 #[.agg #[.int .u16 s.a.pd,.int .u16 s.a.ct,.int .u8 s.a.ld,.bool s.a.hi,.int .u16 s.a.nz,.int .u16 s.b.pd,.int .u16 s.b.ct,.int .u8 s.b.ld,.bool s.b.hi,.int .u16 s.b.nz,.int .u16 s.c.pd,.int .u16 s.c.ct,.int .u8 s.c.ld,.bool s.c.hi,.int .u16 s.c.nz,.int .i64 s.wt],.int .i64 n] w fun e w'=>∃ao cp,e= .returned (.tuple #[.slice ao (smp s n).length cp,.agg #[.int .u16 ((runS s n).a).pd,.int .u16 ((runS s n).a).ct,.int .u8 ((runS s n).a).ld,.bool ((runS s n).a).hi,.int .u16 ((runS s n).a).nz,.int .u16 ((runS s n).b).pd,.int .u16 ((runS s n).b).ct,.int .u8 ((runS s n).b).ld,.bool ((runS s n).b).hi,.int .u16 ((runS s n).b).nz,.int .u16 ((runS s n).c).pd,.int .u16 ((runS s n).c).ct,.int .u8 ((runS s n).c).ld,.bool ((runS s n).c).hi,.int .u16 ((runS s n).c).nz,.int .i64 (runS s n).wt],.int .i64 0])/\
   w'.ownsRow w.heap.size 5 1 (.slice ao (smp s n).length cp) (smp s n).length ((smp s n).map (Value.int .u8))/\Below w.heap.size w w':=by
 have hc:=z0L s hs.2.1 hs.2.2
 have HC:=zh hc
 have n0:(0:Int)<=n:=by omega
 have n1:(n:Int)<=20000:=by omega
 have HS:=zh hs
 have hle:(smp s n).length<=20000:=Nat.le_trans (z0ac s hs n) hn
 generalize hX:smp s n=X at*
 generalize hY:runS s n=Y at*
 have HX:=zh hX
 have HY:=zh hY
 clear hX hY hc hs
 obtain⟨i0,hi,hz0,hz1,hz2⟩:=info_parts z0ay
 have HI:=zh (And.intro hi (And.intro hz0 (And.intro hz1 hz2)))
 clear hi hz0 hz1 hz2
 go_enter Tryz.func32,Tryz.ntmps32
 go_wp2_with (first|((with_reducible show wpList _ _ _ _ _ _);refine lA 37 2 rfl rfl (w.heap.size) (0) 16 rfl 37 #[.int .u16 s.a.pd,.int .u16 s.a.ct,.int .u8 s.a.ld,.bool s.a.hi,.int .u16 s.a.nz,.int .u16 s.b.pd,.int .u16 s.b.ct,.int .u8 s.b.ld,.bool s.b.hi,.int .u16 s.b.nz,.int .u16 s.c.pd,.int .u16 s.c.ct,.int .u8 s.c.ld,.bool s.c.hi,.int .u16 s.c.nz,.int .i64 s.wt] #[.int .u16 s.a.pd,.int .u16 s.a.ct,.int .u8 s.a.ld,.bool s.a.hi,.int .u16 s.a.nz,.int .u16 s.b.pd,.int .u16 s.b.ct,.int .u8 s.b.ld,.bool s.b.hi,.int .u16 s.b.nz,.int .u16 s.c.pd,.int .u16 s.c.ct,.int .u8 s.c.ld,.bool s.c.hi,.int .u16 s.c.nz,.int .i64 s.wt] kB Tryz.underlying37 ?_))
 refine(HC.out _).mono ?_
 rintro e w1 ⟨rfl,hb1⟩
 have Kw1_0:Hid (Blk w1 (w.heap.size) #[.int .u16 s.a.pd,.int .u16 s.a.ct,.int .u8 s.a.ld,.bool s.a.hi,.int .u16 s.a.nz,.int .u16 s.b.pd,.int .u16 s.b.ct,.int .u8 s.b.ld,.bool s.b.hi,.int .u16 s.b.nz,.int .u16 s.c.pd,.int .u16 s.c.ct,.int .u8 s.c.ld,.bool s.c.hi,.int .u16 s.c.nz,.int .i64 s.wt] 37):=zh kB
 have Kw1_1:Hid (Blk w1 (w.heap.size+1) #[.int .u16 0,.int .u16 0,.int .u8 0,.bool false,.int .u16 0,.int .u16 0,.int .u16 0,.int .u8 0,.bool false,.int .u16 0,.int .u16 0,.int .u16 0,.int .u8 0,.bool false,.int .u16 0,.int .i64 0] 37):=zh kB
 obtain⟨lw1_0,cw1_0,fw1_0⟩:=Kw1_0.out.use
 obtain⟨lw1_1,cw1_1,fw1_1⟩:=Kw1_1.out.use
 go_wp2_with (first|((with_reducible show wpList _ _ _ _ _ _);refine lA 37 2 rfl rfl (w.heap.size) (0) 16 rfl 37 #[.int .u16 s.a.pd,.int .u16 s.a.ct,.int .u8 s.a.ld,.bool s.a.hi,.int .u16 s.a.nz,.int .u16 s.b.pd,.int .u16 s.b.ct,.int .u8 s.b.ld,.bool s.b.hi,.int .u16 s.b.nz,.int .u16 s.c.pd,.int .u16 s.c.ct,.int .u8 s.c.ld,.bool s.c.hi,.int .u16 s.c.nz,.int .i64 s.wt] #[.int .u16 s.a.pd,.int .u16 s.a.ct,.int .u8 s.a.ld,.bool s.a.hi,.int .u16 s.a.nz,.int .u16 s.b.pd,.int .u16 s.b.ct,.int .u8 s.b.ld,.bool s.b.hi,.int .u16 s.b.nz,.int .u16 s.c.pd,.int .u16 s.c.ct,.int .u8 s.c.ld,.bool s.c.hi,.int .u16 s.c.nz,.int .i64 s.wt] kB Tryz.underlying37 ?_))
 refine z0g (R:=fun W=>Below w.heap.size w W/\Hid (Blk W (w.heap.size) (#[.int .u16 s.a.pd,.int .u16 s.a.ct,.int .u8 s.a.ld,.bool s.a.hi,.int .u16 s.a.nz,.int .u16 s.b.pd,.int .u16 s.b.ct,.int .u8 s.b.ld,.bool s.b.hi,.int .u16 s.b.nz,.int .u16 s.c.pd,.int .u16 s.c.ct,.int .u8 s.c.ld,.bool s.c.hi,.int .u16 s.c.nz,.int .i64 s.wt]) 37)/\Hid (Blk W (w.heap.size+1) (#[.int .u16 0,.int .u16 0,.int .u8 0,.bool false,.int .u16 0,.int .u16 0,.int .u16 0,.int .u8 0,.bool false,.int .u16 0,.int .u16 0,.int .u16 0,.int .u8 0,.bool false,.int .u16 0,.int .i64 0]) 37)) ⟨kL,zh kB,zh kB⟩ ?_
 rintro w2 ⟨hbw2,Kw2_0,Kw2_1⟩
 clear Kw1_0 cw1_0 fw1_0 Kw1_1 cw1_1 fw1_1
 obtain⟨lw2_0,cw2_0,fw2_0⟩:=Kw2_0.out.use
 obtain⟨lw2_1,cw2_1,fw2_1⟩:=Kw2_1.out.use
 go_loopw [1,4] (fun i v wr=>∃m:Nat,∃u:Sd,∃xs:List Int,∃ao cp,m<=20000/\u.Ok/\Hid (xs++smp u m=X)/\Hid (runS u m=Y)/\i= .int .i64 m/\v= .slice ao xs.length cp/\Below w.heap.size w wr/\Hid (Blk wr w.heap.size #[.int .u16 u.a.pd,.int .u16 u.a.ct,.int .u8 u.a.ld,.bool u.a.hi,.int .u16 u.a.nz,.int .u16 u.b.pd,.int .u16 u.b.ct,.int .u8 u.b.ld,.bool u.b.hi,.int .u16 u.b.nz,.int .u16 u.c.pd,.int .u16 u.c.ct,.int .u8 u.c.ld,.bool u.c.hi,.int .u16 u.c.nz,.int .i64 u.wt] 37)/\Hid (Blk wr (w.heap.size+1) #[.int .u16 0,.int .u16 0,.int .u8 0,.bool false,.int .u16 0,.int .u16 0,.int .u16 0,.int .u8 0,.bool false,.int .u16 0,.int .u16 0,.int .u16 0,.int .u8 0,.bool false,.int .u16 0,.int .i64 0] 37)/\
  Hid (wr.ownsRow (w.heap.size+2) 5 1 (.slice ao xs.length cp) xs.length (xs.map (Value.int .u8)))) (fun i _ _=>(intOf i).toNat)
 case atStart=>exact⟨n,s,[],none,0,hn,HS.out,zh (by rw[List.nil_append];exact HX.out),HY,rfl,rfl,hbw2,Kw2_0,Kw2_1,zh (World.ownsRow_nil _ _ _ _)⟩
 case round=>
  obtain⟨m,u,xs,ao,cp,hm,hu,hx,hy,rfl,rfl,hbr,KA,KB,KO⟩:=hrel
  clear Kw2_0 Kw2_1 cw2_0 cw2_1 fw2_0 fw2_1 lw2_0 lw2_1
  have HU:=zh hu
  obtain⟨⟨ua,ub,uc⟩,u0,u1⟩:=hu
  obtain⟨lA,cA,fA⟩:=KA.out.use
  obtain⟨lB,cB,fB⟩:=KB.out.use
  have hxl:xs.length<=20000:=by
   have:=congrArg List.length hx.out
   rw[List.length_append]at this
   omega
  by_cases hm0:m=0
  ·subst hm0
   have hX':X=xs:=by have:=hx.out;simp[smp]at this;exact this.symm
   have hY':Y=u:=by have:=hy.out;simp[runS]at this;exact this.symm
   subst hX'
   subst hY'
   have KO1:=KO
   go_wp2_with fail
   refine wp_region_still_tail 3 kR kR ?_
   simp only[List.take_succ_cons,List.take_zero,List.drop_succ_cons,List.drop_zero]
   still_step
   change wpStill _ _ wr.drew _ _ _
   (refine z2U rfl 37 (.tmp 2) rfl (w.heap.size) (0) 16 rfl 37 #[.int .u16 Y.a.pd,.int .u16 Y.a.ct,.int .u8 Y.a.ld,.bool Y.a.hi,.int .u16 Y.a.nz,.int .u16 Y.b.pd,.int .u16 Y.b.ct,.int .u8 Y.b.ld,.bool Y.b.hi,.int .u16 Y.b.nz,.int .u16 Y.c.pd,.int .u16 Y.c.ct,.int .u8 Y.c.ld,.bool Y.c.hi,.int .u16 Y.c.nz,.int .i64 Y.wt] #[.int .u16 Y.a.pd,.int .u16 Y.a.ct,.int .u8 Y.a.ld,.bool Y.a.hi,.int .u16 Y.a.nz,.int .u16 Y.b.pd,.int .u16 Y.b.ct,.int .u8 Y.b.ld,.bool Y.b.hi,.int .u16 Y.b.nz,.int .u16 Y.c.pd,.int .u16 Y.c.ct,.int .u8 Y.c.ld,.bool Y.c.hi,.int .u16 Y.c.nz,.int .i64 Y.wt] (show Blk _ (w.heap.size) #[.int .u16 Y.a.pd,.int .u16 Y.a.ct,.int .u8 Y.a.ld,.bool Y.a.hi,.int .u16 Y.a.nz,.int .u16 Y.b.pd,.int .u16 Y.b.ct,.int .u8 Y.b.ld,.bool Y.b.hi,.int .u16 Y.b.nz,.int .u16 Y.c.pd,.int .u16 Y.c.ct,.int .u8 Y.c.ld,.bool Y.c.hi,.int .u16 Y.c.nz,.int .i64 Y.wt] 37 from kB) _ Tryz.underlying37 rfl kR rfl rfl ?_)
   still_step
   refine wpStill_nil ?_
   change wpList _ _ _ _ _ wr.drew
   go_wp2_with ((with_reducible show wpList _ _ _ _ _ _);refine sW 37 5 64 rfl rfl (w.heap.size+1) #[.int .u16 Y.a.pd,.int .u16 Y.a.ct,.int .u8 Y.a.ld,.bool Y.a.hi,.int .u16 Y.a.nz,.int .u16 Y.b.pd,.int .u16 Y.b.ct,.int .u8 Y.b.ld,.bool Y.b.hi,.int .u16 Y.b.nz,.int .u16 Y.c.pd,.int .u16 Y.c.ct,.int .u8 Y.c.ld,.bool Y.c.hi,.int .u16 Y.c.nz,.int .i64 Y.wt] rfl rfl #[.int .u16 0,.int .u16 0,.int .u8 0,.bool false,.int .u16 0,.int .u16 0,.int .u16 0,.int .u8 0,.bool false,.int .u16 0,.int .u16 0,.int .u16 0,.int .u8 0,.bool false,.int .u16 0,.int .i64 0] kB ?_;intro w7 hp_w7 K_w7)
   have K7:=(by with_reducible assumption:Hid (Blk _ (w.heap.size+1) #[.int .u16 Y.a.pd,.int .u16 Y.a.ct,.int .u8 Y.a.ld,.bool Y.a.hi,.int .u16 Y.a.nz,.int .u16 Y.b.pd,.int .u16 Y.b.ct,.int .u8 Y.b.ld,.bool Y.b.hi,.int .u16 Y.b.nz,.int .u16 Y.c.pd,.int .u16 Y.c.ct,.int .u8 Y.c.ld,.bool Y.c.hi,.int .u16 Y.c.nz,.int .i64 Y.wt] 37))
   refine bodyPost_ret (z3X Tryz.results32 _ _ (w.heap.size+1) 37 #[.int .u16 Y.a.pd,.int .u16 Y.a.ct,.int .u8 Y.a.ld,.bool Y.a.hi,.int .u16 Y.a.nz,.int .u16 Y.b.pd,.int .u16 Y.b.ct,.int .u8 Y.b.ld,.bool Y.b.hi,.int .u16 Y.b.nz,.int .u16 Y.c.pd,.int .u16 Y.c.ct,.int .u8 Y.c.ld,.bool Y.c.hi,.int .u16 Y.c.nz,.int .i64 Y.wt] _ rfl K7.out Tryz.underlying37 rfl kR) rfl ⟨ao,cp,rfl,?_,kL⟩
   exact z0t (base:=w.heap.size+2) kOw kO
  ·have hm1:1<=m:=by omega
   have mp:(0:Int)<m:=by omega
   obtain⟨S,hS⟩:∃S,S=if u.wt=0 then {u with wt:=16}else u:=⟨_,rfl⟩
   obtain⟨k,hk⟩:∃k,k=min m S.wt.toNat:=⟨_,rfl⟩
   obtain⟨⟨k1,k2,k3,t1,t2⟩,SI,TO,EX,EY⟩:=z4X u HU.out m hm1 S hS k hk
   obtain⟨T,hT⟩:∃T,T=goSd S k (S.wt-k):=⟨_,rfl⟩
   rw[<-hT]at TO EX EY
   have ETj:Hid ({sj S k 3 with wt:=S.wt-k}=T):=zh (by rw[hT];rfl)
   have HY2:Hid (runS T (m-k)=Y):=zh (EY.trans hy.out)
   have MN:(if S.wt<(m:Int)then S.wt else(m:Int))=(k:Int):=by rw[hk];split<;>omega
   have WS:wrap64 (S.wt-k)=S.wt-k:=wrapT _ kO kO
   have WM:(m:Int)-k=((m-k:Nat):Int):=by omega
   replace WM:=zh WM
   have VO:=zh (fun j W=>z4t (vk S j) (vk_ok SI j) k (Int.natCast_nonneg k) kO W)
   rw[show((k:Int)).toNat=k from rfl]at VO
   have SV:=zh (z8i S k)
   have TT:=zh TO
   have KK:=zh (And.intro k1 (And.intro k2 (And.intro (Nat.le_trans k2 hm) (And.intro SI (And.intro t1 t2)))))
   clear hT TO EY SI
   rcases(by omega:u.wt=0\/1<=u.wt)with hw0|hw1
   case' inl=>
    rw[if_pos hw0]at hS EX
    have hl:=z9k u ⟨ua,ub,uc⟩
    have hlv:=z6l u
    generalize hL:levS u=L at*
    have EX:Hid ((xs++[L])++smp T (m-k)=X):=zh (by rw[List.append_assoc,EX];exact hx.out)
    have HLV:=zh hl
    have ES:Hid (sdC u=sdC {u with wt:=0}/\S={u with wt:=16}):=zh ⟨by rw[<-hw0],hS⟩
    clear hl hL hS hk
    rw[hw0]at cA KA HLV
    go_wp2_with (first|((with_reducible show wpList _ _ _ _ _ _);refine lA 37 2 rfl rfl (w.heap.size) (0) 16 rfl 37 #[.int .u16 u.a.pd,.int .u16 u.a.ct,.int .u8 u.a.ld,.bool u.a.hi,.int .u16 u.a.nz,.int .u16 u.b.pd,.int .u16 u.b.ct,.int .u8 u.b.ld,.bool u.b.hi,.int .u16 u.b.nz,.int .u16 u.c.pd,.int .u16 u.c.ct,.int .u8 u.c.ld,.bool u.c.hi,.int .u16 u.c.nz,.int .i64 0] #[.int .u16 u.a.pd,.int .u16 u.a.ct,.int .u8 u.a.ld,.bool u.a.hi,.int .u16 u.a.nz,.int .u16 u.b.pd,.int .u16 u.b.ct,.int .u8 u.b.ld,.bool u.b.hi,.int .u16 u.b.nz,.int .u16 u.c.pd,.int .u16 u.c.ct,.int .u8 u.c.ld,.bool u.c.hi,.int .u16 u.c.nz,.int .i64 0] kB Tryz.underlying37 ?_))
    refine(HLV.out _).mono ?_
    rintro e w3 ⟨rfl,hb3⟩
    have KA3:=zh (KA.out.below hb3)
    have KB3:=zh (KB.out.below hb3)
    have KO3:=zh (own_below KO.out hb3)
    have hb3':=below_then hbr hb3
    obtain⟨lA3,cA3,fA3⟩:=KA3.out.use
    clear cA fA cB fB lA lB
    go_upto_region 9 with(first
     |(at_builtin;refine wpList_append_own _ rfl (.tmp 29) (.tmp 32) 22 rfl (w.heap.size+2) 5 i0 (.int .u8 0) 1 1 Tryz.underlying22 HI.out.1 HI.out.2.1 HI.out.2.2.1 HI.out.2.2.2 rfl kD _ _ _ rfl (KO3.out.alloc _) ⟨w3.heap.size,0,none⟩ 1 1 [.int .u8 L] rfl rfl (by intro j u hj;match j,hj with|0,hj=>(simp at hj;subst hj;simp[Addr.add])) (by intro u hu;simp at hu;subst hu;rfl) (by unfold maxLen;omega) kO (by have:=hbr.size;have:=hb3.size;have:=KB.out.lt;simp;omega) ?_)
     |fail)
    intro v' w5 hown hgrow _
    obtain⟨ao2,cp2,rfl⟩:=z0a hown
    have hsz:w.heap.size+2<=w3.heap.size:=by have:=hb3.size;have:=KB.out.lt;omega
    have KA5:=zh ((KA3.out.alloc _).grown hgrow (KO3.out.alloc _) kO)
    have KB5:=zh ((KB3.out.alloc _).grown hgrow (KO3.out.alloc _) kO)
    have hb5:Below w.heap.size w w5:=z0w (below_alloc hb3' _) (by simp;omega) hgrow (KO3.out.alloc _) kO
    obtain⟨xs2,hxs2⟩:∃l,l=xs++[L]:=⟨_,rfl⟩
    rw[<-hxs2]at EX
    have OWN:Hid (w5.ownsRow (w.heap.size+2) 5 1 (.slice ao2 (xs.length+1) cp2) (xs.length+1) (xs2.map (Value.int .u8))):=zh (by rw[hxs2,List.map_append];exact hown)
    have HN2:Hid (xs.length+1=xs2.length):=zh (by rw[hxs2];simp)
    clear hown hgrow hxs2 KA KB KO KA3 KB3 KO3 cA3 fA3 lA3 hb3 hb3' hbr hsz
    generalize xs.length+1=n2 at*
    have f5:=KA5.out.free
    have l5:=KA5.out.lt
    have c5:w5.cell? ⟨w.heap.size,15,none⟩=some (.int .i64 0):=KA5.out.cell 15
    go_upto_region 10 with(fail)
    have KS:Hid (Blk (w5.setCell ⟨w.heap.size,15,none⟩ (.int .i64 16)) w.heap.size (sdC S) 37):=zh (by rw[ES.out.2];exact Blk.set KA5.out rfl)
    have KT:Hid (Blk (w5.setCell ⟨w.heap.size,15,none⟩ (.int .i64 16)) (w.heap.size+1) #[.int .u16 0,.int .u16 0,.int .u8 0,.bool false,.int .u16 0,.int .u16 0,.int .u16 0,.int .u8 0,.bool false,.int .u16 0,.int .u16 0,.int .u16 0,.int .u8 0,.bool false,.int .u16 0,.int .i64 0] 37):=zh (KB5.out.setAt (Nat.ne_of_gt (Nat.lt_succ_self _)))
    refine z0g (R:=fun W=>Below w.heap.size w W/\Hid (Blk W w.heap.size (sdC S) 37)/\Hid (Blk W (w.heap.size+1) #[.int .u16 0,.int .u16 0,.int .u8 0,.bool false,.int .u16 0,.int .u16 0,.int .u16 0,.int .u8 0,.bool false,.int .u16 0,.int .u16 0,.int .u16 0,.int .u8 0,.bool false,.int .u16 0,.int .i64 0] 37)/\Hid (W.ownsRow (w.heap.size+2) 5 1 (.slice ao2 n2 cp2) n2 (xs2.map (Value.int .u8)))) ⟨hb5.setCell (Nat.le_refl _) _,KS,KT,zh (z0p OWN.out (fun g hg=>by obtain⟨h1,-⟩:=z5Y OWN.out hg;show g≠w.heap.size;omega))⟩ ?_
    clear KA5 KB5 hb5 OWN f5 l5 c5 KS KT ES HLV
    intro w6 ⟨B6,K6,Z6,KO6⟩
   case' inr=>
    have hwn:¬u.wt=0:=by omega
    rw[if_neg hwn]at hS EX
    have hwd:(u.wt==0)=false:=beq_eq_false_iff_ne.2 hwn
    obtain⟨xs2,hq⟩:∃l,l=xs:=⟨_,rfl⟩
    subst hq
    obtain⟨ao2,hq⟩:∃l,l=ao:=⟨_,rfl⟩
    subst hq
    obtain⟨cp2,hq⟩:∃l,l=cp:=⟨_,rfl⟩
    subst hq
    replace EX:Hid (xs2++smp T (m-k)=X):=zh (by have:=hx.out;rw[<-EX]at this;exact this)
    subst hS
    have KAS:Hid (Blk wr w.heap.size (sdC S) 37):=zh KA.out
    go_upto_region 10 with(fail)
    generalize hq2:xs2.length=n2 at*
    have HN2:Hid (n2=xs2.length):=zh hq2.symm
    clear hq2
    refine z0g (R:=fun W=>Below w.heap.size w W/\Hid (Blk W w.heap.size (sdC S) 37)/\Hid (Blk W (w.heap.size+1) #[.int .u16 0,.int .u16 0,.int .u8 0,.bool false,.int .u16 0,.int .u16 0,.int .u16 0,.int .u8 0,.bool false,.int .u16 0,.int .u16 0,.int .u16 0,.int .u8 0,.bool false,.int .u16 0,.int .i64 0] 37)/\Hid (W.ownsRow (w.heap.size+2) 5 1 (.slice ao2 n2 cp2) n2 (xs2.map (Value.int .u8)))) ⟨hbr,KAS,KB,KO⟩ ?_
    clear KA KAS KB KO cA fA lA cB fB lB hk hwd hbr hx
    intro w6 ⟨B6,K6,Z6,KO6⟩
   all_goals
    have f6:=K6.out.free
    have l6:=K6.out.lt
    have c15:w6.cell? ⟨w.heap.size,15,none⟩=some (.int .i64 S.wt):=K6.out.cell 15
    go_upto_region 12 with(first|((with_reducible show wpList _ _ _ _ _ _);refine lA 35 39 rfl rfl (w.heap.size) (0) 15 rfl 37 (sdC S) (vsC S) kB Tryz.underlying35 ?_))
    clear f6 l6 c15 MN
    go_loopw [41] (fun i wr=>∃j:Nat,j<=3/\i= .int .i64 j/\Hid (Blk wr w.heap.size (sdC (sj S k j)) 37)/\Hid (Blk wr (w.heap.size+1) #[.int .u16 0,.int .u16 0,.int .u8 0,.bool false,.int .u16 0,.int .u16 0,.int .u16 0,.int .u8 0,.bool false,.int .u16 0,.int .u16 0,.int .u16 0,.int .u8 0,.bool false,.int .u16 0,.int .i64 0] 37)/\Hid (wr.ownsRow (w.heap.size+2) 5 1 (.slice ao2 n2 cp2) n2 (xs2.map (Value.int .u8)))/\Below w.heap.size w wr) (fun i _=>(3-intOf i).toNat)
    case atStart=>exact⟨0,Nat.zero_le _,rfl,K6,Z6,KO6,B6⟩
    case round=>
     obtain⟨j,h3,rfl,KS,KZ,KW,BB⟩:=hrel
     clear K6 Z6 B6 KO6
     have KSW:=zh (And.intro KZ.out.lt BB.size)
     by_cases hlt:j<3
     ·have IX:=fun w=>vidxk S w j hlt
      have VS:=zh (SV.out j hlt)
      have VJ:=zh (VO.out j)
      have FT:=zh (z8j S k j hlt)
      have q3:(j:Int)<3:=Int.ofNat_lt.2 hlt
      have q0:(0:Int)<=j:=Int.natCast_nonneg _
      obtain⟨vv,hvv⟩:∃v,v=vk S j:=⟨_,rfl⟩
      rw[<-hvv]at IX VS VJ
      clear hvv
      go_upto_region 14 with(((with_reducible show wpList _ _ _ _ _ _);refine sW 34 10 44 rfl rfl (wr.heap.size) #[.int .u16 vv.pd,.int .u16 vv.ct,.int .u8 vv.ld,.bool vv.hi,.int .u16 vv.nz] rfl rfl #[.int .u16 0,.int .u16 0,.int .u8 0,.bool false,.int .u16 0] kB ?_;intro w7 hp_w7 K_w7))
      have b7:Below wr.heap.size wr w7:=kL
      have KS7:=zh (KS.out.below b7)
      have KZ7:=zh (KZ.out.below b7)
      have KW7:=zh (own_below KW.out b7)
      have BB7:=below_then BB b7
      clear hp_w7 IX KS KZ KW b7 BB
      go_wp2_with (first|((with_reducible show wpList _ _ _ _ _ _);refine lW 34 10 rfl rfl (wr.heap.size) rfl #[.int .u16 vv.pd,.int .u16 vv.ct,.int .u8 vv.ld,.bool vv.hi,.int .u16 vv.nz] kB Tryz.underlying34 ?_))
      refine(VJ.out _).mono ?_
      rintro e w8 ⟨rfl,hb8⟩
      have KS8:=zh (KS7.out.below hb8)
      have KZ8:=zh (KZ7.out.below hb8)
      have KW8:=zh (own_below KW7.out hb8)
      have BB8:=below_then BB7 hb8
      clear hb8 KS7 KZ7 KW7 BB7 K_w7 VJ
      have fb:=KS8.out.free
      have lb:=KS8.out.lt
      go_upto_region 15 with((with_reducible show wpList _ _ _ _ _ _);refine z0X rfl 34 (.tmp 53) (.tmp 50) rfl (w.heap.size) (j*5) #[.int .u16 ((runV vv k)).pd,.int .u16 ((runV vv k)).ct,.int .u8 ((runV vv k)).ld,.bool ((runV vv k)).hi,.int .u16 ((runV vv k)).nz] rfl rfl 37 (sdC (sj S k j)) (sdC (sj S k (j+1))) KS8.out kR FT.out (by simp[Value.oneCell']) VS.out ?_;intro w9 hp_w9 K_w9)
      have KZ9:Hid (Blk w9 (w.heap.size+1) #[.int .u16 0,.int .u16 0,.int .u8 0,.bool false,.int .u16 0,.int .u16 0,.int .u16 0,.int .u8 0,.bool false,.int .u16 0,.int .u16 0,.int .u16 0,.int .u8 0,.bool false,.int .u16 0,.int .i64 0] 37):=zh (KZ8.out.put hp_w9 (Nat.ne_of_gt (Nat.lt_succ_self _)))
      have KW9:=zh (z7r KW8.out hp_w9 KS8.out kD)
      have BB9:Below w.heap.size w w9:=kL
      clear KS8 KZ8 KW8 BB8 hp_w9 VS fb lb KSW
      go_wp2_with (first|((with_reducible show wpList _ _ _ _ _ _);refine lW 34 10 rfl rfl (wr.heap.size) rfl #[.int .u16 vv.pd,.int .u16 vv.ct,.int .u8 vv.ld,.bool vv.hi,.int .u16 vv.nz] kB Tryz.underlying34 ?_)|go_in)
      go_roundw
      case rel=>exact⟨j+1,hlt,rfl,K_w9,KZ9,KW9,BB9⟩
      case measure=>exact me3 hlt
     ·have e3:j=3:=Nat.le_antisymm h3 (Nat.le_of_not_lt hlt)
      subst e3
      clear hlt h3 SV VO
      have fb:=KS.out.free
      have lb:=KS.out.lt
      have c15:wr.cell? ⟨w.heap.size,15,none⟩=some (.int .i64 S.wt):=KS.out.cell 15
      have KT:Hid (Blk (wr.setCell ⟨w.heap.size,15,none⟩ (.int .i64 (S.wt-k))) w.heap.size #[.int .u16 T.a.pd,.int .u16 T.a.ct,.int .u8 T.a.ld,.bool T.a.hi,.int .u16 T.a.nz,.int .u16 T.b.pd,.int .u16 T.b.ct,.int .u8 T.b.ld,.bool T.b.hi,.int .u16 T.b.nz,.int .u16 T.c.pd,.int .u16 T.c.ct,.int .u8 T.c.ld,.bool T.c.hi,.int .u16 T.c.nz,.int .i64 T.wt] 37):=zh (by
       rw[<-ETj.out]
       exact Blk.set KS.out rfl)
      have KY:Hid (Blk (wr.setCell ⟨w.heap.size,15,none⟩ (.int .i64 (S.wt-k))) (w.heap.size+1) #[.int .u16 0,.int .u16 0,.int .u8 0,.bool false,.int .u16 0,.int .u16 0,.int .u16 0,.int .u8 0,.bool false,.int .u16 0,.int .u16 0,.int .u16 0,.int .u8 0,.bool false,.int .u16 0,.int .i64 0] 37):=zh (KZ.out.setAt (Nat.ne_of_gt (Nat.lt_succ_self _)))
      have KV:Hid ((wr.setCell ⟨w.heap.size,15,none⟩ (.int .i64 (S.wt-k))).ownsRow (w.heap.size+2) 5 1 (.slice ao2 xs2.length cp2) xs2.length (xs2.map (Value.int .u8))):=zh (by
       rw[<-HN2.out]
       exact z0p KW.out (fun g hg=>by obtain⟨h1,-⟩:=z5Y KW.out hg;show g≠w.heap.size;omega))
      have BT:Below w.heap.size w (wr.setCell ⟨w.heap.size,15,none⟩ (.int .i64 (S.wt-k))):=BB.setCell (Nat.le_refl _) _
      clear KS KZ KW BB ETj
      go_wp2_with (first|((with_reducible show wpList _ _ _ _ _ _);refine lW 34 10 rfl rfl (wr.heap.size) rfl #[.int .u16 vv.pd,.int .u16 vv.ct,.int .u8 vv.ld,.bool vv.hi,.int .u16 vv.nz] kB Tryz.underlying34 ?_)|go_in)
      go_roundw
      case rel=>exact⟨m-k,T,xs2,ao2,cp2,Nat.le_trans (Nat.sub_le _ _) hm,TT.out,EX,HY2,by rw[WM.out],by rw[HN2.out],BT,KT,KY,KV⟩
      case measure=>
       have h1:=KK.out
       show((m:Int)-k).toNat<((m:Int)).toNat
       omega
end Go.Proofs.YtkoocfcnfolkhaaGreatDoor
