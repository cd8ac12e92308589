/- Small words that all my texts share: endings by their parts, bounds of integers, worlds that have only drawn. Conditions: none. -/
import Derived.WalkKit
import Derived.WalkSpells
import Derived.WalkLawsBesides
import Derived.BigQuiet
import Derived.Deep.QuietTactic
import Derived.Lib.Hide
import Derived.Lib.SmallJoins
import Derived.Deep.RegionHeld3
import Derived.Laws.CopyOwn
import Derived.StillTailTactics
namespace Go
theorem zh{p:Prop}(h:p):RowKit.Hid p:=h
end Go
namespace Go.Mq
open Go.RowKit
def U8(a:Int):Prop:=0<=a/\a<=255
def U16(a:Int):Prop:=0<=a/\a<=65535
def I64(a:Int):Prop:= -9223372036854775808<=a/\a<=9223372036854775807
theorem ret1{u v:Value}(h:u=v):Ending.returned u= .returned v:=by rw[h]
theorem ret2{a b a' b':Value}(h:a=a')(h1:b=b'):Ending.returned (.tuple #[a,b])= .returned (.tuple #[a',b']):=by rw[h,h1]
theorem ret3{a b c a' b' c':Value}(h:a=a')(h1:b=b')(h2:c=c'):Ending.returned (.tuple #[a,b,c])= .returned (.tuple #[a',b',c']):=by rw[h,h1,h2]
theorem vi{k:IntKind}{a b:Int}(h:a=b):Value.int k a= .int k b:=by rw[h]
theorem vb{a b:Bool}(h:a=b):Value.bool a= .bool b:=by rw[h]
theorem z0l(n:Int):IntKind.u16.wrap n=n%65536:=IntKind.wrap_u16 n
theorem wrap8(n:Int):IntKind.u8.wrap n=n%256:=IntKind.wrap_u8 n
def Drew(w w':World):Prop:=∃d,w'=w.drewN d
theorem Drew.refl(w:World):Drew w w:=⟨0,rfl⟩
theorem Drew.drewN{w w':World}(h:Drew w w')(n:Nat):Drew w (w'.drewN n):=by
  obtain⟨d,rfl⟩:=h
  exact⟨d+n,by rw[World.drewN_drewN]⟩
theorem Drew.trans{a b c:World}(h:Drew a b)(h':Drew b c):Drew a c:=by
  obtain⟨d,rfl⟩:=h'
  exact h.drewN d
theorem Drew.cell{w w':World}(h:Drew w w')(a:Addr):w'.cell? a=w.cell? a:=by
  obtain⟨d,rfl⟩:=h
  rfl
theorem Drew.frozen{w w':World}(h:Drew w w')(a:Addr):w'.frozen? a=w.frozen? a:=by
  obtain⟨d,rfl⟩:=h
  rfl
theorem Drew.heap{w w':World}(h:Drew w w'):w'.heap=w.heap:=by
  obtain⟨d,rfl⟩:=h
  rfl
theorem Drew.below{w w':World}(h:Drew w w')(B:Nat):Below B w w':=by
  obtain⟨d,rfl⟩:=h
  exact⟨rfl,rfl,rfl,Nat.le_refl _,fun _ _=>rfl⟩
theorem z0M{P:Program}{f:FuncId}{args:Array Value}{w:World}{n:Nat}{v:Value}
    (h:Calls P f args (w.drewN n) fun e w'=>e= .returned v/\w.drewN n=w'):Calls P f args (w.drewN n) fun e w''=>e= .returned v/\∃m,w''=w.drewN m:=
  h.mono fun _ _ ⟨he,hm⟩=>⟨he,n,hm.symm⟩
theorem z7n{α:Type}(xs:Array α)(a b:α):(xs.push a).setIfInBounds xs.size b=xs.push b:=by
  apply Array.ext_getElem?
  intro i
  rw[Array.getElem?_setIfInBounds,Array.getElem?_push,Array.getElem?_push]
  by_cases h:xs.size=i
  · subst h;simp
  · have h':¬i=xs.size:=fun e=>h e.symm
    simp[h,h']
theorem z3W{P:Program}(w0:World){mty kt et:TypeId}{d:TypeDesc}{es:Array MapEntry}{clock n:Nat}{key val:Value}(hn:n=w0.heap.size)
    (hm:P.underlying mty=some (.map kt et))(hd:P.underlying kt=some d)(hk:MapKept.IsKey d key)(hf:Instr.findNow d key es.toList 0=some none):
    (Instr.mapUpdate mty (.map (some n)) key val).run P (w0.alloc (.map es clock))= .ok () (w0.alloc (.map (es.push {key:=key,val:=val,born:=clock}) (clock+1))):=by
  subst hn
  have hb:=(MapKept.heap_alloc w0 (.map es clock)).1
  have hc:=MapKept.run_checkKey (P:=P) (w:=w0.alloc (.map es clock)) hd hk false 9999
  have hfk:=MapKept.run_findKey (P:=P) (w:=w0.alloc (.map es clock)) hd hf
  simp[Instr.mapUpdate,run_underlying hm,MapKept.run_getObj_map hb,hc,hfk,MapKept.run_setObj_map _ hb,Result.andThen]
  unfold World.alloc
  congr 1
  exact z7n w0.heap _ _
theorem z0v{P:Program}(w0:World){mty kt et:TypeId}{d:TypeDesc}{es:Array MapEntry}{clock n i:Nat}{key v:Value}(hn:n=w0.heap.size)
    (hm:P.underlying mty=some (.map kt et))(hd:P.underlying kt=some d)(hk:MapKept.IsKey d key)(hf:Instr.findNow d key es.toList 0=some (some (i,v))):
    (Instr.lookup mty (.map (some n)) key false).run P (w0.alloc (.map es clock))= .ok v (w0.alloc (.map es clock)):=by
  subst hn
  have hb:=(MapKept.heap_alloc w0 (.map es clock)).1
  have hc:=MapKept.run_checkKey (P:=P) (w:=w0.alloc (.map es clock)) hd hk es.isEmpty 9999
  have hfk:=MapKept.run_findKey (P:=P) (w:=w0.alloc (.map es clock)) hd hf
  simp[Instr.lookup,run_underlying hm,MapKept.run_getObj_map hb,hc,hfk,Result.andThen]
theorem z3z{P:Program}(w0:World){mty kt et:TypeId}{d:TypeDesc}{es:Array MapEntry}{clock n:Nat}{key z:Value}(hn:n=w0.heap.size)
    (hm:P.underlying mty=some (.map kt et))(hd:P.underlying kt=some d)(hk:MapKept.IsKey d key)(hf:Instr.findNow d key es.toList 0=some none)
    (hz:∀w,(zeroValue et).run P w= .ok z w):
    (Instr.lookup mty (.map (some n)) key false).run P (w0.alloc (.map es clock))= .ok z (w0.alloc (.map es clock)):=by
  subst hn
  have hb:=(MapKept.heap_alloc w0 (.map es clock)).1
  have hc:=MapKept.run_checkKey (P:=P) (w:=w0.alloc (.map es clock)) hd hk es.isEmpty 9999
  have hfk:=MapKept.run_findKey (P:=P) (w:=w0.alloc (.map es clock)) hd hf
  simp[Instr.lookup,run_underlying hm,MapKept.run_getObj_map hb,hc,hfk,hz,Result.andThen]
@[go_sem] theorem setCell_drewN (w:World) (n:Nat) (a:Addr) (v:Value):(w.drewN n).setCell a v=(w.setCell a v).drewN n:=rfl
@[go_sem] theorem alloc_drewN (w:World) (n:Nat) (o:Obj):(w.drewN n).alloc o=(w.alloc o).drewN n:=rfl
theorem below_drewN{B:Nat}{a w:World}(h:Below B a w)(n:Nat):Below B a (w.drewN n):=h.trans ((Drew.refl w).drewN n |>.below B)
theorem below_then{w X Y:World}(h:Below w.heap.size w X)(hb:Below X.heap.size X Y):Below w.heap.size w Y:=h.trans (hb.mono h.size)
theorem below_alloc{w X:World}(h:Below w.heap.size w X)(o:Obj):Below w.heap.size w (X.alloc o):=h.alloc h.size o
/-! ### A slice of integers that came in -/
def SliceAt(w:World)(k:IntKind)(v:Value)(xs:List Int):Prop:=
  ∃a cap,v= .slice a xs.length cap/\xs.length<=cap/\cap<=maxLen/\(∀x∈xs,(Lit.int k x).wf=true)/\
    (0<xs.length->∃b off,a=some ⟨b,off,none⟩/\b<w.heap.size/\∀i,i<xs.length->w.cell? ⟨b,off+i,none⟩=some (.int k (xs.getD i 0)))
theorem SliceAt.below{w w':World}{k:IntKind}{v:Value}{xs:List Int}(h:SliceAt w k v xs)(hb:Below w.heap.size w w'):SliceAt w' k v xs:=by
  obtain⟨a,cap,hv,h1,h2,h3,h4⟩:=h
  refine⟨a,cap,hv,h1,h2,h3,fun h0=> ?_⟩
  obtain⟨b,off,ha,hlt,hc⟩:=h4 h0
  exact⟨b,off,ha,Nat.lt_of_lt_of_le hlt hb.size,fun i hi=>by rw[hb.cell (p:=⟨b,off+i,none⟩) hlt];exact hc i hi⟩
/-! ### A block that is known whole -/
def Blk(w:World)(b:Nat)(cs:Array Value)(t:TypeId):Prop:=w.heap[b]? =some (.cells cs t (0,0))
theorem Blk.lt{w:World}{b:Nat}{cs:Array Value}{t:TypeId}(h:Blk w b cs t):b<w.heap.size:=(Array.getElem?_eq_some_iff.1 h).1
theorem Blk.cell{w:World}{b:Nat}{cs:Array Value}{t:TypeId}(h:Blk w b cs t)(i:Nat):w.cell? ⟨b,i,none⟩=cs[i]? :=by
  unfold Blk at h;simp[World.cell?,h]
theorem Blk.free{w:World}{b:Nat}{cs:Array Value}{t:TypeId}(h:Blk w b cs t)(i:Nat):w.frozen? ⟨b,i,none⟩=false:=by
  unfold Blk at h;simp[World.frozen?,h]
theorem Blk.use{w:World}{b:Nat}{cs:Array Value}{t:TypeId}(h:Blk w b cs t):b<w.heap.size/\(∀i,w.cell? ⟨b,i,none⟩=cs[i]?)/\(∀i,w.frozen? ⟨b,i,none⟩=false):=⟨h.lt,h.cell,h.free⟩
theorem Blk.new(w:World)(cs:Array Value)(t:TypeId):Blk (w.alloc (.cells cs t)) w.heap.size cs t:=(MapKept.heap_alloc w (.cells cs t)).1
theorem Blk.new_at(w:World)(cs:Array Value)(t:TypeId)(n:Nat)(h:n=w.heap.size):Blk (w.alloc (.cells cs t)) n cs t:=by subst h;exact Blk.new w cs t
theorem Blk.alloc{w:World}{b:Nat}{cs:Array Value}{t:TypeId}(h:Blk w b cs t)(o:Obj):Blk (w.alloc o) b cs t:=by
  unfold Blk;rw[(MapKept.heap_alloc w o).2 b h.lt];exact h
theorem Blk.below{X Y:World}{b:Nat}{cs:Array Value}{t:TypeId}(h:Blk X b cs t)(hb:Below X.heap.size X Y):Blk Y b cs t:=by
  unfold Blk;rw[hb.block b h.lt];exact h
theorem Blk.drewN{w:World}{b:Nat}{cs:Array Value}{t:TypeId}(h:Blk w b cs t)(n:Nat):Blk (w.drewN n) b cs t:=h
theorem Blk.drew{w:World}{b:Nat}{cs:Array Value}{t:TypeId}(h:Blk w b cs t):Blk w.drew b cs t:=h
theorem Blk.setAt{w:World}{b:Nat}{cs:Array Value}{t:TypeId}(h:Blk w b cs t){a:Addr}{v:Value}(hne:b≠a.block):Blk (w.setCell a v) b cs t:=by
  unfold Blk;rw[Below.heap_setCell w a v b hne];exact h
theorem Blk.set{w:World}{b i:Nat}{cs cs':Array Value}{t:TypeId}{v:Value}(h:Blk w b cs t)(hcs:cs.setIfInBounds i v=cs'):Blk (w.setCell ⟨b,i,none⟩ v) b cs' t:=by
  subst hcs
  exact Joins.block_setCell h v
theorem z0g{P:Program}{c:Code}{Q:Exit->Act->World->Prop}{a:Act}{W:World}{R:World->Prop}(h:R W)(k:∀W',R W'->c.wp P Q a W'):c.wp P Q a W:=k W h
/-! ### Blocks held through a region that draws: old memory as it was, the blocks whole -/
/-! ### A block that is written whole, the world behind it told and not written out -/
structure Put(g:Nat)(w w':World):Prop where
  below:Below g w w'
  size:w'.heap.size=w.heap.size
  other:∀k,k≠g->w'.heap[k]? =w.heap[k]?
theorem z0b(w:World)(g:Nat)(cs:Array Value):Put g w (w.setRow g cs):=
  ⟨below_setRow (Below.refl g w) (Nat.le_refl g) cs,by simp,fun k hk=>setRow_other w g k cs hk⟩
theorem Blk.put{w w':World}{b g:Nat}{cs:Array Value}{t:TypeId}(h:Blk w b cs t)(hp:Put g w w')(hne:b≠g):Blk w' b cs t:=by
  unfold Blk;rw[hp.other b hne];exact h
theorem below_put{B g:Nat}{w0 w w':World}(h:Below B w0 w)(hp:Put g w w')(hg:B<=g):Below B w0 w':=h.trans (hp.below.mono hg)
theorem z0j{P:Program}{ops:Array Oper}{rest:List Oper}{o:Oper}{a:Act}{w:World}{Q:Exit->Act->World->Prop}(hgd:o.guard=none)(ty:TypeId)(x y:Operand)(ho:o.op= .store ty x y)
    (g:Nat)(cells:Array Value)(hx:a.eval x= .pointer (some ⟨g,0,none⟩))(hy:a.eval y= .agg cells)
    (t:TypeId)(old:Array Value)(hg:Blk w g old t)(hi:(P.info? ty).map (·.size)=some cells.size)
    (hold:old.size=cells.size)(h1:cells.all (·.oneCell')=true)
    (h:∀w',Put g w w'->Hid (Blk w' g cells t)->wpList P ops Q rest (a.put o.dst undef) w'):wpList P ops Q (o::rest) a w:=
  wpList_store_row hgd ty x y ho g cells hx hy t old hg hi hold h1 (h _ (z0b w g cells) (Lib.hid (setRow_heap w g old cells t (0,0) hg)))
theorem z0P{P:Program}{ops:Array Oper}{rest:List Oper}{o:Oper}{a:Act}{w:World}{Q:Exit->Act->World->Prop}(hgd:o.guard=none)(ty:TypeId)(x:Operand)(ho:o.op= .load ty x)
    (g:Nat)(hx:a.eval x= .pointer (some ⟨g,0,none⟩))(t:TypeId)(cs:Array Value)(hg:Blk w g cs t)(d:TypeDesc)
    (hu:P.underlying ty=some d)(hd:(match d with| .struct _| .array _ _=>true|_=>false)=true)(hi:(P.info? ty).map (·.size)=some cs.size)
    (h:wpList P ops Q rest (a.put o.dst (.agg cs)) w):wpList P ops Q (o::rest) a w:=
  wpList_load_row hgd ty x ho g hx t cs (0,0) d hg hu hd hi h
theorem own_below{X Y:World}{base:Nat}{e:TypeId}{size:Nat}{v:Value}{n:Nat}{xs:List Value}(h:X.ownsRow base e size v n xs)(hb:Below X.heap.size X Y):Y.ownsRow base e size v n xs:=by
  refine⟨h.1,?_⟩
  rcases h.2 with hn|⟨g,cap,cur,rfl,hbg,hgg,rest⟩
  · exact .inl hn
  · exact .inr ⟨g,cap,cur,rfl,hbg,by rw[hb.block g (Array.getElem?_eq_some_iff.1 hgg).1];exact hgg,rest⟩
theorem own_put{X Y:World}{base g:Nat}{e:TypeId}{size:Nat}{v:Value}{n:Nat}{xs:List Value}(h:X.ownsRow base e size v n xs)(hp:Put g X Y)(hne:g<base):Y.ownsRow base e size v n xs:=by
  refine⟨h.1,?_⟩
  rcases h.2 with hn|⟨g',cap,cur,rfl,hbg,hgg,rest⟩
  · exact .inl hn
  · exact .inr ⟨g',cap,cur,rfl,hbg,by rw[hp.other g' (by omega)];exact hgg,rest⟩
theorem z0t{X:World}{base base':Nat}{e:TypeId}{size:Nat}{v:Value}{n:Nat}{xs:List Value}(h:X.ownsRow base e size v n xs)(hb:base'<=base):X.ownsRow base' e size v n xs:=by
  refine⟨h.1,?_⟩
  rcases h.2 with hn|⟨g',cap,cur,rfl,hbg,hgg,rest⟩
  · exact .inl hn
  · exact .inr ⟨g',cap,cur,rfl,by omega,hgg,rest⟩
theorem z1g{w:World}{base:Nat}{e:TypeId}{k:IntKind}{v:Value}{xs:List Int}(h:w.ownsRow base e 1 v xs.length (xs.map (Value.int k)))(hwf:∀x∈xs,(Lit.int k x).wf=true):SliceAt w k v xs:=by
  rcases h.2 with⟨rfl,hn⟩|⟨g,cap,cur,rfl,hbg,hgg,h1,h2,h3,h4⟩
  · refine⟨none,0,by rw[hn],by omega,by simp[maxLen],hwf,fun h0=>by omega⟩
  · refine⟨some ⟨g,0,none⟩,cap,rfl,h1,h2,hwf,fun h0=>⟨g,0,rfl,(Array.getElem?_eq_some_iff.1 hgg).1,fun i hi=> ?_⟩⟩
    have hc:=h.cells (g:=g) rfl i (.int k (xs.getD i 0)) (by simp[List.getElem?_eq_getElem hi])
    rw[Addr.add_lit]at hc
    exact hc
theorem z0a{w:World}{base:Nat}{e:TypeId}{size:Nat}{v:Value}{n:Nat}{xs:List Value}(h:w.ownsRow base e size v n xs):∃ao cp,v= .slice ao n cp:=by
  rcases h.2 with⟨rfl,hn⟩|⟨g,cap,cur,rfl,_⟩
  · subst hn;exact⟨none,0,rfl⟩
  · exact⟨_,_,rfl⟩
theorem own_drewN{w:World}{base:Nat}{e:TypeId}{size:Nat}{v:Value}{n:Nat}{xs:List Value}(h:w.ownsRow base e size v n xs)(d:Nat):(w.drewN d).ownsRow base e size v n xs:=h
theorem Blk.grown{w w':World}{b base:Nat}{cs:Array Value}{t e:TypeId}{size:Nat}{v:Value}{n:Nat}{xs:List Value}(h:Blk w b cs t)(hg:w.grownBy w' v.ownBlock)(ho:w.ownsRow base e size v n xs)(hb:b<base):Blk w' b cs t:=by
  unfold Blk
  rw[hg.block b h.lt (fun hk=>by have:=ho.lt b hk.symm;omega)]
  exact h
theorem z0w{w0 w w':World}{B base:Nat}{e:TypeId}{size:Nat}{v:Value}{n:Nat}{xs:List Value}(h:Below B w0 w)(hB:B<=w.heap.size)(hg:w.grownBy w' v.ownBlock)(ho:w.ownsRow base e size v n xs)(hb:B<=base):Below B w0 w':=
  h.trans ⟨hg.os,hg.tape,hg.output,hg.size,fun k hk=>hg.block k (by omega) (fun hk'=>by have:=ho.lt k hk'.symm;omega)⟩
/-! ### Great structs: a load, a store, a result, each as one step (cell by cell the kernel takes minutes) -/
theorem z0D{P:Program}(w:World)(g off n:Nat)(t ty:TypeId)(cs sub:Array Value)(d:TypeDesc)(hg:Blk w g cs t)
    (hu:P.underlying ty=some d)(hd:(match d with| .struct _| .array _ _=>true|_=>false)=true)(hi:(P.info? ty).map (·.size)=some n)(hsub:(cs.toList.drop off).take n=sub.toList)(hn:sub.toList.length=n):
    (loadVar ty ⟨g,off,none⟩).run P w= .ok (.agg sub) w:=by
  have hl:(loadCells ⟨g,off,none⟩ n).run P w= .ok sub w:=by
    have:=run_loadCells_list (P:=P) w ⟨g,off,none⟩ sub.toList (fun j v hv=>by
      have hadd:(⟨g,off,none⟩:Addr).add j=⟨g,off+j,none⟩:=by unfold Addr.add;split<;>simp_all
      rw[hadd,hg.cell]
      have hj:=(List.getElem?_eq_some_iff.1 hv).1
      rw[<-hsub,List.getElem?_take,if_pos (by omega),List.getElem?_drop]at hv
      simpa using hv)
    rw[hn,Array.toArray_toList]at this
    exact this
  cases hq:P.info? ty with
  |none=>simp[hq]at hi
  |some i=>
    have hs:i.size=n:=by simpa [hq]using hi
    have hagg:(isAgg ty).run P w= .ok true w:=by
      unfold isAgg
      rw[Sem.run_bind,run_underlying hu w]
      cases d<;>simp_all
    simp[loadVar,Sem.run_bind,hagg,sizeOf,typeInfo,hq,hs,hl]
theorem z1S{P:Program}{ops:Array Oper}{rest:List Oper}{o:Oper}{a:Act}{w:World}{Q:Exit->Act->World->Prop}(hgd:o.guard=none)(ty:TypeId)(x:Operand)(ho:o.op= .load ty x)
    (g off n:Nat)(hx:a.eval x= .pointer (some ⟨g,off,none⟩))(t:TypeId)(cs sub:Array Value)(hg:Blk w g cs t)(d:TypeDesc)
    (hu:P.underlying ty=some d)(hd:(match d with| .struct _| .array _ _=>true|_=>false)=true)(hi:(P.info? ty).map (·.size)=some n)(hsub:(cs.toList.drop off).take n=sub.toList)(hn:sub.toList.length=n)
    (h:wpList P ops Q rest (a.put o.dst (.agg sub)) w):wpList P ops Q (o::rest) a w:=by
  refine wpList_plain hgd fun K hK=> ?_
  unfold Oper.wp execOp
  simp only[ho,hx,Instr.loadAt,Instr.sureAddr,Sem.run_bind,Sem.run_pure,Result.andThen_ok,z0D w g off n t ty cs sub d hg hu hd hi hsub hn]
  exact hK _ _ h
theorem z2U{P:Program}{ops:Array Oper}{rest:List Oper}{o:Oper}{a:Act}{w:World}{Q:Act->Prop}(hgd:o.guard=none)(ty:TypeId)(x:Operand)(ho:o.op= .load ty x)
    (g off n:Nat)(hx:a.eval x= .pointer (some ⟨g,off,none⟩))(t:TypeId)(cs sub:Array Value)(hg:Blk w g cs t)(d:TypeDesc)
    (hu:P.underlying ty=some d)(hd:(match d with| .struct _| .array _ _=>true|_=>false)=true)(hi:(P.info? ty).map (·.size)=some n)(hsub:(cs.toList.drop off).take n=sub.toList)(hn:sub.toList.length=n)
    (h:wpStill P ops w Q rest (a.put o.dst (.agg sub))):wpStill P ops w Q (o::rest) a:=by
  refine wpStill_step fun K hK=> ?_
  rw[if_pos (by simp[Region.wanted,hgd])]
  unfold Oper.still execOp
  simp only[ho,hx,Instr.loadAt,Instr.sureAddr,Sem.run_bind,Sem.run_pure,Result.andThen_ok,z0D w g off n t ty cs sub d hg hu hd hi hsub hn]
  rw[Oper.stillUpon_value]
  exact hK _ h
theorem z0X{P:Program}{ops:Array Oper}{rest:List Oper}{o:Oper}{a:Act}{w:World}{Q:Exit->Act->World->Prop}(hgd:o.guard=none)(ty:TypeId)(x y:Operand)(ho:o.op= .store ty x y)
    (g off:Nat)(cells:Array Value)(hx:a.eval x= .pointer (some ⟨g,off,none⟩))(hy:a.eval y= .agg cells)
    (t:TypeId)(old new:Array Value)(hg:Blk w g old t)(hi:(P.info? ty).map (·.size)=some cells.size)
    (hfit:off+cells.size<=old.size)(h1:cells.all (·.oneCell')=true)(hnew:(old.toList.take off++cells.toList++old.toList.drop (off+cells.size)).toArray=new)
    (h:∀w',Put g w w'->Hid (Blk w' g new t)->wpList P ops Q rest (a.put o.dst undef) w'):wpList P ops Q (o::rest) a w:=by
  refine wpList_plain hgd fun K hK=> ?_
  have hst:=run_storeCells_at P g off t cells.toList 0 old w hg (by simpa using hfit) (fun v hv=>by
    rw[Array.all_eq_true_iff_forall_mem]at h1
    exact h1 v (by simpa using hv))
  simp only[Nat.add_zero,Array.length_toList]at hst
  rw[hnew]at hst
  have hK2:=hK _ _ (h (w.setRow g new) (z0b w g new) (Lib.hid (setRow_heap w g old new t (0,0) hg)))
  cases hq:P.info? ty with
  |none=>simp[hq]at hi
  |some i=>
    have hs:i.size=cells.size:=by simpa [hq]using hi
    unfold Oper.wp execOp
    simp[ho,hx,hy,Instr.storeAt,Instr.sureAddr,storeVar,Value.cells,sizeOf,typeInfo,hq,hs,hst]
    exact hK2
theorem z3X{P:Program}{fn:Func}{t p u:Tmp}{ty:TypeId}(h:fn.results= #[.tmp t,.cell p ty,.tmp u])(tmps:Array Value)(w:World)(g:Nat)(tb:TypeId)(cs:Array Value)(d:TypeDesc)
    (hp:tmps.getD p undef= .pointer (some ⟨g,0,none⟩))(hg:Blk w g cs tb)
    (hu:P.underlying ty=some d)(hd:(match d with| .struct _| .array _ _=>true|_=>false)=true)(hi:(P.info? ty).map (·.size)=some cs.size):
    (results fn tmps).run P w= .ok (.tuple #[tmps.getD t undef,.agg cs,tmps.getD u undef]) w:=by
  have hp':tmps[p]?.getD undef= .pointer (some ⟨g,0,none⟩):=by simpa using hp
  simp[results,h,hp',asAddr,run_loadVar_row w g tb ty cs (0,0) d hg hu hd hi]
theorem z0k{P:Program}{fn:Func}{p u:Tmp}{ty:TypeId}(h:fn.results= #[.cell p ty,.tmp u])(tmps:Array Value)(w:World)(g:Nat)(tb:TypeId)(cs:Array Value)(d:TypeDesc)
    (hp:tmps.getD p undef= .pointer (some ⟨g,0,none⟩))(hg:Blk w g cs tb)
    (hu:P.underlying ty=some d)(hd:(match d with| .struct _| .array _ _=>true|_=>false)=true)(hi:(P.info? ty).map (·.size)=some cs.size):
    (results fn tmps).run P w= .ok (.tuple #[.agg cs,tmps.getD u undef]) w:=by
  have hp':tmps[p]?.getD undef= .pointer (some ⟨g,0,none⟩):=by simpa using hp
  simp[results,h,hp',asAddr,run_loadVar_row w g tb ty cs (0,0) d hg hu hd hi]
theorem own_made{X Y:World}{o:Obj}{base:Nat}{e:TypeId}{size:Nat}{v:Value}{n:Nat}{xs:List Value}(h:X.ownsRow base e size v n xs)(hp:Put X.heap.size (X.alloc o) Y):Y.ownsRow base e size v n xs:=by
  refine⟨h.1,?_⟩
  rcases h.2 with hn|⟨g',cap,cur,rfl,hbg,hgg,rest⟩
  · exact .inl hn
  · have hlt:=(Array.getElem?_eq_some_iff.1 hgg).1
    exact .inr ⟨g',cap,cur,rfl,hbg,by rw[hp.other g' (by omega),(MapKept.heap_alloc X o).2 g' hlt];exact hgg,rest⟩
end Go.Mq
