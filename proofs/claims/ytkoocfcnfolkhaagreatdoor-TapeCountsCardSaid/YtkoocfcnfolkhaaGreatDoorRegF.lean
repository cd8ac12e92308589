/- A region that draws its order, its loads taken first though what they read is written later in it: what a load needs is asked of those operations alone that needn't wait for it. Conditions: none of its own. -/
import Derived.Test.YtkoocfcnfolkhaaGreatDoorBase
import Derived.Deep.RegionHeld3
namespace Go
section
variable {P:Program} {ops:Array Oper} {Q:Exit->Act->World->Prop} {md:Region.Mode} {F:Nat->World->Prop} {ls:List Nat}
def depsB(md:Region.Mode)(o:Oper):List Nat:=(o.after.toList.filter (Region.binds md)).map (·.on)
def maskOf(ms:List Nat)(ds:List Nat):Nat:=ds.foldl (fun m d=>m|||((1<<<d)|||ms.getD d 0)) 0
def masks(md:Region.Mode)(ops:Array Oper):List Nat:=ops.toList.foldl (fun ms o=>ms++[maskOf ms (depsB md o)]) []
def masksOk(md:Region.Mode)(ops:Array Oper):Bool:=(List.range ops.size).all fun j=>match ops[j]? with
  |some o=>(masks md ops).getD j 0==maskOf (masks md ops) (depsB md o)
  |none=>true
def looseB(md:Region.Mode)(ops:Array Oper)(j k:Nat):Bool:= !((masks md ops).getD j 0).testBit k
def belowB(md:Region.Mode)(ops:Array Oper)(listed:Array Bool)(i:Nat):Bool:=(List.range listed.size).all fun a=> !(listed.getD a false)||looseB md ops a i
theorem z3O(ms:List Nat)(k:Nat):∀(ds:List Nat) (m:Nat),(ds.foldl (fun m d=>m|||((1<<<d)|||ms.getD d 0)) m).testBit k=true->m.testBit k=true\/∃d∈ds,k=d\/(ms.getD d 0).testBit k=true
  |[],m,h=> .inl h
  |d::t,m,h=>by
    rcases z3O ms k t _ h with h|⟨e,he,hk⟩
    · rw[Nat.testBit_or,Nat.testBit_or,Bool.or_eq_true,Bool.or_eq_true]at h
      rcases h with h|h|h
      · exact .inl h
      · refine .inr ⟨d,List.mem_cons_self ..,.inl ?_⟩
        rw[Nat.one_shiftLeft,Nat.testBit_two_pow]at h
        exact(of_decide_eq_true h).symm
      · exact .inr ⟨d,List.mem_cons_self ..,.inr h⟩
    · exact .inr ⟨e,List.mem_cons_of_mem _ he,hk⟩
theorem z6e(h:masksOk md ops=true){j k:Nat}{o:Oper}(ho:ops[j]? =some o)(hb:((masks md ops).getD j 0).testBit k=true):∃e∈o.after,Region.binds md e=true/\(k=e.on\/((masks md ops).getD e.on 0).testBit k=true):=by
  have hj:j<ops.size:=(Array.getElem?_eq_some_iff.1 ho).1
  have:=List.all_eq_true.1 h j (List.mem_range.2 hj)
  rw[ho]at this
  simp only[beq_iff_eq]at this
  rw[this]at hb
  rcases z3O _ k _ _ hb with h0|⟨d,hd,hk⟩
  · simp at h0
  · obtain⟨e,he,rfl⟩:=List.mem_map.1 hd
    obtain⟨he1,he2⟩:=List.mem_filter.1 he
    exact⟨e,by simpa using he1,he2,hk⟩
def freeB(md:Region.Mode)(ops:Array Oper)(ls:List Nat)(listed:Array Bool)(k:Nat):Bool:=(List.range listed.size).all fun a=>ls.contains a|| !(listed.getD a false)||looseB md ops a k
def Sat(md:Region.Mode)(ops:Array Oper)(F:Nat->World->Prop)(ls:List Nat)(listed:Array Bool)(j:Nat)(w w':World):Prop:=(j∈ls->w'=w)/\(j∉ls->∀k∈ls,freeB md ops ls listed k=true->looseB md ops j k=true->F k w')
theorem Sat.none{listed:Array Bool}{j:Nat}(h:(!(ls.contains j)&&ls.all (fun k=> !freeB md ops ls listed k|| !looseB md ops j k))=true)(w w':World):Sat md ops F ls listed j w w':=by
  simp only[Bool.and_eq_true,Bool.not_eq_true',List.contains_eq_mem,decide_eq_false_iff_not]at h
  refine⟨fun hj=>absurd hj h.1,fun _ k hk h0 hl=> ?_⟩
  have:=List.all_eq_true.1 h.2 k hk
  rw[hl,h0]at this
  cases this
theorem Sat.off{listed:Array Bool}{j:Nat}(fl:List Nat)(hF:∀k w,k∉fl->F k w)(h:(!(ls.contains j)&&fl.all (fun k=> !freeB md ops ls listed k|| !looseB md ops j k))=true)(w w':World):Sat md ops F ls listed j w w':=by
  simp only[Bool.and_eq_true,Bool.not_eq_true',List.contains_eq_mem,decide_eq_false_iff_not]at h
  refine⟨fun hj=>absurd hj h.1,fun _ k hk h0 hl=> ?_⟩
  by_cases hkf:k∈fl
  · have:=List.all_eq_true.1 h.2 k hkf
    rw[hl,h0]at this
    cases this
  · exact hF k w' hkf
theorem Sat.all{listed:Array Bool}{j:Nat}{w w':World}(hj:ls.contains j=false)(h:∀k,F k w'):Sat md ops F ls listed j w w':=by
  simp only[List.contains_eq_mem,decide_eq_false_iff_not]at hj
  exact⟨fun h'=>absurd h' hj,fun _ k _ _ _=>h k⟩
theorem z9o{listed:Array Bool}{i:Nat}(hi:i∈ls)(hb:∀a,listed.getD a false=true->looseB md ops a i=true):freeB md ops ls (listed.setIfInBounds i true) i=true:=by
  refine List.all_eq_true.2 fun a _=> ?_
  by_cases h:i=a
  · subst h
    simp[hi]
  · rw[getD_set_ne false h]
    cases hl:listed.getD a false with
    |false=>simp
    |true=>simp[hb a hl]
theorem z7K{listed:Array Bool}{i k:Nat}(hi:i∈ls)(h:freeB md ops ls listed k=true):freeB md ops ls (listed.setIfInBounds i true) k=true:=by
  refine List.all_eq_true.2 fun a ha=> ?_
  rw[Array.size_setIfInBounds]at ha
  have:=List.all_eq_true.1 h a ha
  by_cases hia:i=a
  · subst hia
    simp[hi]
  · rw[getD_set_ne false hia]
    exact this
theorem Sat.back{listed:Array Bool}{i j:Nat}{w w':World}(hi:i∈ls)(h:Sat md ops F ls (listed.setIfInBounds i true) j w w'):Sat md ops F ls listed j w w':=
  ⟨h.1,fun hj k hk hf hl=>h.2 hj k hk (z7K hi hf) hl⟩
def wpAnyF(P:Program)(md:Region.Mode)(ops:Array Oper)(Q:Exit->Act->World->Prop)(F:Nat->World->Prop)(ls:List Nat):Nat->Array Bool->Act->World->Prop
  |0,listed,a,w=>Region.ready md ops listed=[]/\Q .normal a w
  |fuel+1,listed,a,w=>
    (Region.ready md ops listed=[]->Q .normal a w)/\
    ∀i∈Region.ready md ops listed,wpOp P ops Q i (fun a' w'=>Sat md ops F ls listed i w w'/\wpAnyF P md ops Q F ls fuel (listed.setIfInBounds i true) a' w') a w
theorem z2E:∀(fuel:Nat) (listed:Array Bool) (a:Act) (w:World),wpAnyF P md ops Q F ls fuel listed a w->wpAny P md ops Q fuel listed a w
  |0,_,_,_,h=>h
  |fuel+1,_,_,_,h=>⟨h.1,fun i hi=>wpOp_mono (fun a' w' h'=>z2E fuel _ a' w' h'.2) (h.2 i hi)⟩
theorem z7C{listed:Array Bool}{j i:Nat}{oj:Oper}(hm:masksOk md ops=true)(hoj:ops[j]? =some oj)(hall:∀e∈oj.after,Region.binds md e=true->listed.getD e.on false=true)(hi:listed.getD i false=false)
    (hb:∀a,listed.getD a false=true->looseB md ops a i=true):looseB md ops j i=true:=by
  cases hc:looseB md ops j i with
  |true=>rfl
  |false=>
    exfalso
    unfold looseB at hc
    rw[Bool.not_eq_false']at hc
    obtain⟨e,he,hbe,hk⟩:=z6e hm hoj hc
    have hl:=hall e he hbe
    rcases hk with hk|hk
    · subst hk
      rw[hi]at hl
      cases hl
    · have:=hb _ hl
      unfold looseB at this
      rw[hk]at this
      cases this
theorem z6O{listed:Array Bool}{j i:Nat}(hb:∀a,listed.getD a false=true->looseB md ops a i=true)(hj:looseB md ops j i=true):∀a,(listed.setIfInBounds j true).getD a false=true->looseB md ops a i=true:=fun a ha=>by
  by_cases h:j=a
  · subst h;exact hj
  · refine hb a ?_
    rw[getD_set_ne false h]at ha
    exact ha
theorem z5q{listed:Array Bool}{i:Nat}(h:belowB md ops listed i=true):∀a,listed.getD a false=true->looseB md ops a i=true:=fun a ha=>by
  have hlt:a<listed.size:=by
    rcases Nat.lt_or_ge a listed.size with h'|h'
    · exact h'
    · simp[Array.getElem?_eq_none h']at ha
  have:=List.all_eq_true.1 h a (List.mem_range.2 hlt)
  rw[ha]at this
  simpa using this
theorem z3r{i:Nat}{oi:Oper}{v:Value}(hi:ops[i]? =some oi)(hsel:∀(j:Nat) (o:Oper) cs b,ops[j]? =some o->o.op≠ .select cs b)
    (hil:i∈ls)(hmk:masksOk md ops=true)(hQ:∀c a w,Q (.panic c) (a.put oi.dst v) w->Q (.panic c) a w):
    ∀(fuel:Nat) (listed:Array Bool) (a:Act) (w:World),
      (∀j oj,ops[j]? =some oj->j≠i->listed.getD j true=false->(∀e∈oj.after,Region.binds md e=true->e.on≠i)->oi.apart ops oj=true)->
      (∀a,listed.getD a false=true->looseB md ops a i=true)->i∈Region.ready md ops listed->YieldsIf P ops (F i) oi v a->F i w->
      wpAnyF P md ops Q F ls fuel (listed.setIfInBounds i true) (a.put oi.dst v) w->wpAnyF P md ops Q F ls (fuel+1) listed a w:=by
  intro fuel
  induction fuel with
  |zero=>
    intro listed a w _ _ hr hy hS H
    refine⟨fun h=>(by rw[h]at hr;cases hr),fun j hj=> ?_⟩
    by_cases hji:j=i
    · subst hji;exact hy.wpOp hi hS ⟨⟨fun _=>rfl,fun h=>absurd hil h⟩,H⟩
    · have:=ready_mono hj hji
      rw[H.1]at this
      cases this
  |succ fuel ih=>
    intro listed a w hfree hbel hr hy hS H
    refine⟨fun h=>(by rw[h]at hr;cases hr),fun j hj=> ?_⟩
    by_cases hji:j=i
    · subst hji;exact hy.wpOp hi hS ⟨⟨fun _=>rfl,fun h=>absurd hil h⟩,H⟩
    · have h1:=H.2 j (ready_mono hj hji)
      obtain⟨hjun,oj,hoj,hall⟩:=mem_ready.1 hj
      have hnot:∀e∈oj.after,Region.binds md e=true->e.on≠i:=fun e he hb heq=>by
        have h1:=hall e he hb
        have h0:=(mem_ready.1 hr).1
        rw[heq]at h1
        rcases Nat.lt_or_ge i listed.size with h'|h'
        · simp[h']at h0 h1;rw[h0]at h1;cases h1
        · simp[Array.getElem?_eq_none h']at h1
      have hiu:listed.getD i false=false:=by
        have h0:=(mem_ready.1 hr).1
        rcases Nat.lt_or_ge i listed.size with h'|h'
        · simp[h']at h0⊢;exact h0
        · simp[Array.getElem?_eq_none h']
      have hlo:looseB md ops j i=true:=z7C hmk hoj hall hiu hbel
      have h2:=wpOp_putIf hoj (hfree j oj hoj hji hjun hnot) (fun cs b=>hsel i oi cs b hi) (fun cs b=>hsel j oj cs b hoj) hQ hy h1
      have hfree':∀k ok,ops[k]? =some ok->k≠i->(listed.setIfInBounds j true).getD k true=false->
          (∀e∈ok.after,Region.binds md e=true->e.on≠i)->oi.apart ops ok=true:=fun k ok hk hki hun hno=>by
        refine hfree k ok hk hki ?_ hno
        by_cases hjk:j=k
        · subst hjk;exact hjun
        · rw[getD_set_ne true hjk]at hun;exact hun
      refine wpOp_mono (fun a' w' h3=>⟨h3.2.1.back hil,ih (listed.setIfInBounds j true) a' w' hfree' (z6O hbel hlo) (ready_mono hr (Ne.symm hji)) h3.1 ?_ ?_⟩) h2
      · by_cases hjl:j∈ls
        · rw[h3.2.1.1 hjl];exact hS
        · exact h3.2.1.2 hjl i hil (z9o hil hbel) hlo
      · rw[Array.setIfInBounds_comm _ _ hji]
        exact h3.2.2
theorem z0c{i:Nat}{oi:Oper}{v:Value}{fuel:Nat}{listed:Array Bool}{a:Act}{w:World}(hi:ops[i]? =some oi)
    (hs:Region.noSelect ops=true)(hf:(Region.free md ops listed i&&belowB md ops listed i&&masksOk md ops)=true)(hr:(Region.ready md ops listed).contains i=true)(hil:ls.contains i=true)
    (hQ:∀c a w,Q (.panic c) (a.put oi.dst v) w->Q (.panic c) a w)(hy:YieldsIf P ops (F i) oi v a)(hS:F i w)
    (h:wpAnyF P md ops Q F ls fuel (listed.setIfInBounds i true) (a.put oi.dst v) w):wpAnyF P md ops Q F ls (fuel+1) listed a w:=
  have hf':=hf
  by
    simp only[Bool.and_eq_true]at hf'
    exact z3r hi (Region.noSelect_spec hs) (by simpa using hil) hf'.2 hQ fuel listed a w (Region.free_spec hi hf'.1.1) (z5q hf'.1.2) (by simpa using hr) hy hS h
theorem z0f{listed:Array Bool}{a:Act}{w:World}(hr:Region.ready md ops listed=[])(h:Q .normal a w):∀fuel,wpAnyF P md ops Q F ls fuel listed a w
  |0=>⟨hr,h⟩
  |_+1=>⟨fun _=>h,by rw[hr];simp⟩
def AllReadyF(P:Program)(md:Region.Mode)(ops:Array Oper)(Q:Exit->Act->World->Prop)(F:Nat->World->Prop)(ls:List Nat)(fuel:Nat)(listed:Array Bool)(a:Act)(w:World)(rs:List Nat):Prop:=
  ∀i∈rs,wpOp P ops Q i (fun a' w'=>Sat md ops F ls listed i w w'/\wpAnyF P md ops Q F ls fuel (listed.setIfInBounds i true) a' w') a w
theorem AllReadyF.nil{fuel:Nat}{listed:Array Bool}{a:Act}{w:World}:AllReadyF P md ops Q F ls fuel listed a w []:=fun _ h=>by cases h
theorem AllReadyF.cons{fuel:Nat}{listed:Array Bool}{a:Act}{w:World}{i:Nat}{o:Oper}{rs:List Nat}(ho:ops[i]? =some o)
    (h:∀K':Act->World->Prop,Shut (∀a w',Sat md ops F ls listed i w w'->wpAnyF P md ops Q F ls fuel (listed.setIfInBounds i true) a w'->K' a w')->if Region.wanted o (yielded ops a.tmps)=true then Oper.wp P o a w K' Q else K' (a.put o.dst undef) w)
    (hs:AllReadyF P md ops Q F ls fuel listed a w rs):AllReadyF P md ops Q F ls fuel listed a w (i::rs):=fun j hj=>by
  rcases List.mem_cons.1 hj with rfl|hj
  · exact wpOp_step ho (fun K' hK=>h K' (fun a w' hS hW=>hK a w' ⟨hS,hW⟩))
  · exact hs j hj
theorem z0e{rs:List Nat}{fuel:Nat}{listed:Array Bool}{a:Act}{w:World}(hr:Region.ready md ops listed=rs)(hne:rs≠[])
    (h:AllReadyF P md ops Q F ls fuel listed a w rs):wpAnyF P md ops Q F ls (fuel+1) listed a w:=⟨fun h0=>absurd (hr▸h0) hne,hr▸h⟩
theorem z0h{id:Nat}{a:Act}{w:World}(F:Nat->World->Prop)(ls:List Nat)(hm:P.follows .mixedOrders=true)
    (h:wpAnyF P .any ops Q F ls ops.size (Array.replicate ops.size false) a w.drew):(Code.region id ops true).wp P Q a w:=
  wp_region_any hm (z2E _ _ _ _ h)
end
end Go
