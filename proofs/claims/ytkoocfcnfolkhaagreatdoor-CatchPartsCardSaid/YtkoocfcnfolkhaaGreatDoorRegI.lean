/- A region that draws its order, shown by what holds however much of it has been done. Conditions: each operation waits for earlier ones alone. -/
import Derived.Test.YtkoocfcnfolkhaaGreatDoorBase
import Derived.Deep.RegionHeld3
namespace Go
section
variable {P:Program} {ops:Array Oper} {Q:Exit->Act->World->Prop} {md:Region.Mode} {S:World->Prop}
def openN(l:Array Bool):Nat:=l.toList.countP (fun b=> !b)
theorem openL:∀(l:List Bool) (i:Nat),l.getD i true=false->(l.set i true).countP (fun b=> !b)+1=l.countP (fun b=> !b)
  |[],i,h=>by simp at h
  |b::t,0,h=>by simp at h;subst h;simp
  |b::t,i+1,h=>by
    have:=openL t i (by simpa using h)
    simp only[List.set_cons_succ,List.countP_cons]
    omega
theorem z8T{l:Array Bool}{i:Nat}(h:l.getD i true=false):openN (l.setIfInBounds i true)+1=openN l:=by
  have:=openL l.toList i (by simpa using h)
  unfold openN
  rw[Array.toList_setIfInBounds]
  exact this
theorem z3q:∀(l:List Bool),l.countP (fun b=> !b)=0->∀i,l.getD i true=true
  |[],_,i=>by simp
  |b::t,h,0=>by
    cases b
    · simp at h
    · rfl
  |b::t,h,i+1=>by
    have:=z3q t (by rw[List.countP_cons]at h;omega) i
    simpa using this
def lowB(ops:Array Oper):Bool:=(List.range ops.size).all fun j=>((ops[j]?.map (fun o=>o.after.all (fun e=>decide (e.on<j)))).getD true)
theorem z9V(hl:lowB ops=true){listed:Array Bool}(hs:listed.size=ops.size)(hr:Region.ready md ops listed=[]):∀i,listed.getD i true=true:=by
  intro i
  induction i using Nat.strongRecOn with
  |_ i ih=>
    cases hc:listed.getD i true with
    |true=>rfl
    |false=>
      exfalso
      have hi:i<listed.size:=by
        rcases Nat.lt_or_ge i listed.size with h|h
        · exact h
        · simp[Array.getElem?_eq_none h]at hc
      have ho:ops[i]? =some ops[i]:=Array.getElem?_eq_getElem (by omega)
      have:i∈Region.ready md ops listed:=mem_ready.2 ⟨hc,_,ho,fun e he _=>by
        have h1:=List.all_eq_true.1 hl i (List.mem_range.2 (by omega))
        rw[ho]at h1
        simp only[Option.map_some,Option.getD_some,Array.all_eq_true_iff_forall_mem,decide_eq_true_eq]at h1
        have h2:=h1 e he
        have h3:=ih e.on h2
        have h4:e.on<listed.size:=by omega
        simp[h4]at h3⊢
        exact h3⟩
      rw[hr]at this
      cases this
theorem z3g{a0:Act}(J:Act->Array Bool->Act->World->Prop)(hl:lowB ops=true)(hJ:∀listed a w,J a0 listed a w->listed.size=ops.size)
    (step:∀listed a w i,J a0 listed a w->i∈Region.ready md ops listed->wpOp P ops Q i (fun a' w'=>S w'/\J a0 (listed.setIfInBounds i true) a' w') a w)
    (last:∀listed a w,J a0 listed a w->(∀i,listed.getD i true=true)->Q .normal a w):∀(fuel:Nat) (listed:Array Bool) (a:Act) (w:World),openN listed<=fuel->J a0 listed a w->wpAnyH P md ops Q S fuel listed a w
  |0,listed,a,w,hf,h=>by
    have hz:=z3q listed.toList (Nat.le_zero.1 hf)
    have hz':∀i,listed.getD i true=true:=fun i=>by have:=hz i;simpa using this
    refine⟨?_,last listed a w h hz'⟩
    cases hr:Region.ready md ops listed with
    |nil=>rfl
    |cons i t=>
      have:i∈Region.ready md ops listed:=by rw[hr];exact List.mem_cons_self ..
      have h1:=(mem_ready.1 this).1
      rw[hz' i]at h1
      cases h1
  |fuel+1,listed,a,w,hf,h=>by
    refine⟨fun hr=>last listed a w h (z9V hl (hJ _ _ _ h) hr),fun i hi=> ?_⟩
    have h1:=z8T (mem_ready.1 hi).1
    exact wpOp_mono (fun a' w' h'=>⟨h'.1,z3g J hl hJ step last fuel _ a' w' (by omega) h'.2⟩) (step listed a w i h hi)
theorem z4N{a:Act}(J:Act->Array Bool->Act->World->Prop){fuel:Nat}{listed:Array Bool}{w:World}(hl:lowB ops=true)(hJ:∀l a' w',J a l a' w'->l.size=ops.size)(hf:openN listed<=fuel)(h0:J a listed a w)
    (step:∀l a' w' i,J a l a' w'->i∈Region.ready md ops l->wpOp P ops Q i (fun a'' w''=>S w''/\J a (l.setIfInBounds i true) a'' w'') a' w')
    (last:∀l a' w',J a l a' w'->(∀i,l.getD i true=true)->Q .normal a' w'):wpAnyH P md ops Q S fuel listed a w:=z3g J hl hJ step last fuel listed a w hf h0
theorem z0T{i:Nat}{listed:Array Bool}(hi:i∈Region.ready md ops listed)(j:Nat)(o:Oper)(ho:ops[i]? =some o)(hd:(o.after.any fun e=>e.on==j&&Region.binds md e)=true):listed.getD j false=true:=by
  obtain⟨-,o',ho',h⟩:=mem_ready.1 hi
  rw[ho]at ho'
  injection ho' with ho'
  subst ho'
  obtain⟨k,hk,he⟩:=Array.any_eq_true.1 hd
  simp only[Bool.and_eq_true,beq_iff_eq]at he
  have:=h _ (Array.getElem_mem hk) he.2
  rw[he.1]at this
  exact this
theorem z8H{i:Nat}{listed:Array Bool}(hi:i∈Region.ready md ops listed):i<listed.size:=by
  have h1:=(mem_ready.1 hi).1
  rcases Nat.lt_or_ge i listed.size with h|h
  · exact h
  · simp[Array.getElem?_eq_none h]at h1
theorem stepJ(i:Nat){o:Oper}{a:Act}{w:World}{R:Act->World->Prop}(h:∀K:Act->World->Prop,Shut (∀a' w',R a' w'->K a' w')->if Region.wanted o (yielded ops a.tmps)=true then Oper.wp P o a w K Q else K (a.put o.dst undef) w)(ho:ops[i]? =some o:=by rfl):wpOp P ops Q i R a w:=
  wpOp_step ho (fun K' hK=>h K' hK)
end
end Go
