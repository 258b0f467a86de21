import Derived.Test.YtdoifigogbdodaaGreatDoorEvThree
import Derived.Recover
import Derived.Below
import Derived.WalkKit
import Derived.ProofKit
import Derived.OpenShut
import Derived.ShutString
import Derived.Deep.Slices
import Derived.SizedLaws
import Derived.ChangeArms
import Derived.RowKit
set_option linter.unusedVariables false
set_option linter.unusedSimpArgs false
set_option maxHeartbeats 1000000
namespace Go.Proofs.YtdoifigogbdodaaGreatDoor.Ev
open Go
variable {T:Nat→Type} {C:wB T} {P:Program} {σ:Lk} {H H':List (zT T)} {w:World} {G:Nat→Option (List (V T))} {R:Type}
def zjS:Option (List R)→Option (List R)→Option (List R)
 |some a,some b=>some (a++b)
 |_,_ =>none
def zk6(P:Program)(ops:List Oper)(dsts:Nat→Option Nat)(taken:List (Nat×Bool))(i:Nat):Bool:=match ops[i]? with|some o=>ziF P o&&zXA taken o&&zfW ops dsts taken o|none=>false
def zQt(ops:List Oper)(taken:List (Nat×Bool))(i:Nat):Bool:=match ops[i]? with|some o=>zXA taken o|none=>false
def zha(f:Nat→Option (List R)):List Nat→Option (List R)
 |[]=>some []
 |i::l=>zjS (f i) (zha f l)
def pW(i:Nat)(l:List Nat):List Nat:=l.filter fun j=> !Nat.beq j i
def zVk(C:wB T)(P:Program)(G:Nat→Option (List (V T)))(Γ:qK T)(n:Nat)(ops:List Oper)(dsts:Nat→Option Nat):Nat→List (Nat×Bool)→List Nat→zRm→Env T→List (zT T)→Ds T→KS T (List R)→KP T (List R)→Option (List R)
 |0,_,_,_,env,H,ds,K,_ =>K env H ds
 |k+1,taken,todo,pend,env,H,ds,K,Kp=>match todo.find? (zk6 P ops dsts taken)with
  |some i=>match ops[i]? with
   |none=>none
   |some o=>bif chk ops dsts taken [(i,true)]then match o.dst with
     |some d=>bif Nat.blt d n then zW8 C P G dsts o env H fun env x D=>zVk C P G Γ n ops dsts k ((i,true)::taken) (pW i todo) ((i,(bif zIG o then D else []),refs x++D)::pend) (kT env d x) H ds K Kp else none
     |none=>none
    else none
  |none=>bif jX (todo.filter (zQt ops taken))then none else zha (fun i=>match ops[i]? with
   |none=>none
   |some o=>bif chk ops dsts taken [(i,false)]&&pend.all (fun p=>clo ops 40 o p.1||zFs (xu H env o) p.2.1)then
    zXz C P G Γ dsts o env H ds (fun env x H S ds=>bif jX S||pend.all (fun p=>clo ops 40 o p.1||(jX p.2.1&&jX p.2.2))then
     zcK o.dst n env x S fun env=>zVk C P G Γ n ops dsts k ((i,false)::taken) (pW i todo) pend env H ds K Kp else none) (fun env=>Kp (zXI ops env))
    else none) (todo.filter (zQt ops taken))
theorem zUT{f:Nat→Option (List R)}{r:R}:∀{l:List Nat} {L:List R},zha f l=some L→(∀x∈L,x=r)→∀i∈l,∃L',f i=some L'∧∀x∈L',x=r
 |[],_,_,_,i,hi=>by cases hi
 |j::l,L,h,hr,i,hi=>by
  unfold zha zjS at h;split at h
  ·rename_i a b ha hb
   cases h;rcases List.mem_cons.1 hi with rfl|hi
   ·exact⟨a,ha,fun x hx=>hr x (List.mem_append_left _ hx)⟩
   ·exact zUT hb (fun x hx=>hr x (List.mem_append_right _ hx)) i hi
  ·cases h
theorem zV7{i j:Nat}{l:List Nat}:j∈pW i l↔j∈l∧j≠i:=by
 unfold pW;rw [List.mem_filter];constructor
 ·rintro⟨h1,h2⟩
  refine⟨h1,fun e=> ?_⟩;subst e;simp at h2
 ·rintro⟨h1,h2⟩
  refine⟨h1, ?_⟩;cases hb:Nat.beq j i
  ·rfl
  ·exact(h2 (Nat.eq_of_beq_eq_true hb)).elim
theorem zOp{i:Nat}:∀{l:List Nat},l.Nodup→i∈l→(pW i l).length+1=l.length
 |[],_,h=>by cases h
 |a::l,hn,h=>by
  rw [List.nodup_cons]at hn;unfold pW;rcases List.mem_cons.1 h with rfl|h
  ·have:pW i l=l:=by
    unfold pW;refine List.filter_eq_self.2 fun x hx=> ?_
    cases hb:Nat.beq x i
    ·rfl
    ·rw [Nat.eq_of_beq_eq_true hb]at hx;exact(hn.1 hx).elim
   unfold pW at this;rw [List.filter_cons_of_neg (by simp),this,List.length_cons]
  ·have hne:a≠i:=fun e=>hn.1 (by rw [e];exact h)
   have hb:Nat.beq a i=false:=by
    cases hb:Nat.beq a i
    ·rfl
    ·exact(hne (Nat.eq_of_beq_eq_true hb)).elim
   rw [List.filter_cons_of_pos (by rw [hb];rfl),List.length_cons,List.length_cons];have:=zOp hn.2 h;unfold pW at this;omega
theorem zQn{i:Nat}{l:List Nat}(h:l.Nodup):(pW i l).Nodup:=h.filter _
theorem zfN(hC:yj C){Γ:qK T}(hΓ:ql P C G Γ){n:Nat}{B:jS T}{ops:Array Oper}{dsts:Nat→Option Nat}(hd:∀j,dsts j=(ops[j]?).bind (·.dst)){K:KS T (List R)}{Kp:KP T (List R)}{r:R}{Q:Exit→Act→World→Prop}
  (hK:∀σ' env' H' ds' a' w' L,K env' H' ds'=some L→(∀x∈L,x=r)→St C G n B σ' env' H' ds' a' w'→Q .normal a' w')
  (hP:∀σ' env' p H' ds' a' v w' L,Kp env' p H' ds'=some L→(∀x∈L,x=r)→PSt C G n B σ' env' p H' ds' a' v w'→Q (.panic [{v,recovered:=false}]) a' w'):
  ∀(fuel k:Nat) (todo:List Nat) (taken:List (Nat×Bool)) (pend:zRm) (Pd:List Nat) (listed:Array Bool) (σ:Lk) (as:Act) (env:Env T) (H:List (zT T)) (ds:Ds T) (a:Act) (w:World) (L:List R),
   DI C P G n B ops dsts σ as taken pend Pd listed env H ds a w→(∀i,i<ops.size→(∃p∈taken,p.1=i)∨i∈todo)→todo.Nodup→k=todo.length→fuel=todo.length+Pd.length→
   zVk C P G Γ n ops.toList dsts k taken todo pend env H ds K Kp=some L→(∀x∈L,x=r)→wpAny P .any ops Q fuel listed a w:=by
 have done:∀{taken:List (Nat×Bool)} {pend:zRm} {listed:Array Bool} {σ:Lk} {as:Act} {env:Env T} {H:List (zT T)} {ds:Ds T} {a:Act} {w:World} {L:List R},
   DI C P G n B ops dsts σ as taken pend [] listed env H ds a w→K env H ds=some L→(∀x∈L,x=r)→Q .normal a w:=by
  intro taken pend listed σ as env H ds a w L hI hk hr;refine hK σ env H ds a w L hk hr ⟨hI.st.rp,hI.st.anc,by rw [hI.agr.size];exact hI.st.size,fun t=> ?_,by rw [hI.agr.defers];exact hI.st.ds⟩;rw [hI.agr.slot t (fun i hi=>by cases hi)];exact hI.st.env t
 have hlisted:∀{taken:List (Nat×Bool)} {pend:zRm} {Pd:List Nat} {listed:Array Bool} {σ:Lk} {as:Act} {env:Env T} {H:List (zT T)} {ds:Ds T} {a:Act} {w:World},
   DI C P G n B ops dsts σ as taken pend Pd listed env H ds a w→∀i,i<ops.size→listed.getD i false=listed.getD i true:=fun hI i hi=>(zSc (by rw [hI.sz];exact hi)).symm
 intro fuel
 induction fuel with
 |zero=>
  intro k todo taken pend Pd listed σ as env H ds a w L hI hall hnd hkl hf h hr;have h1:todo=[]:=List.length_eq_zero_iff.1 (by omega);have h2:Pd=[]:=List.length_eq_zero_iff.1 (by omega);subst h1;subst h2;subst hkl;refine⟨?_,done hI h hr⟩;refine List.eq_nil_iff_forall_not_mem.2 fun i hi=> ?_
  obtain⟨h0,o,ho,_⟩:=mem_ready.1 hi;have hlt:=yT ho;rcases hall i hlt with hp|hp
  ·rw [(hI.li i hlt).2 ⟨hp,by simp⟩]at h0;cases h0
  ·cases hp
 |succ f ihf=>
  intro k
  induction k with
  |zero=>
   intro todo taken pend Pd listed σ as env H ds a w L hI hall hnd hkl hf h hr;have h1:todo=[]:=List.length_eq_zero_iff.1 hkl.symm;subst h1;refine⟨fun hrd=> ?_,fun i hi=> ?_⟩
   ·
    have hPd:Pd=[]:=by
     refine Classical.byContradiction fun hne=> ?_
     ·obtain⟨j,hj⟩:=List.exists_mem_of_ne_nil Pd hne
      obtain⟨p,hp,h1,o,ho,h2⟩:=hI.tp.first ⟨(j,true),(hI.pd j hj).1,hj⟩
      have:p.1∈Region.ready .any ops listed:=by
       refine mem_ready.2 ⟨?_,o,ho,fun e he hb=> ?_⟩
       ·cases hl:listed.getD p.1 true
        ·rfl
        ·exact(((hI.li p.1 (yT ho)).1 hl).2 h1).elim
       ·obtain⟨h3,q,hq,h4⟩:=h2 e he hb
        obtain⟨oq,hoq,_⟩:=hI.tp.get q hq;rw [h4]at hoq;rw [hlisted hI _ (yT hoq)];exact(hI.li e.on (yT hoq)).2 ⟨⟨q,hq,h4⟩,h3⟩
      rw [hrd]at this;cases this
    subst hPd;exact done hI h hr
   ·obtain⟨h0,o,ho,h1⟩:=mem_ready.1 hi
    have hlt:=yT ho;have hp:i∈Pd:=by
     rcases hall i hlt with hp|hp
     ·by_cases hm:i∈Pd
      ·exact hm
      ·rw [(hI.li i hlt).2 ⟨hp,hm⟩]at h0;cases h0
     ·cases hp
    refine hI.exec hC hd ho hp h1 fun as' a' hI'=>ihf 0 [] taken pend _ _ σ as' env H ds a' w L hI' hall hnd rfl ?_ h hr
    rw [List.length_erase_of_mem hp];have:=List.length_pos_of_mem hp;simp at hf⊢;omega
  |succ k ih=>
   intro todo taken pend Pd listed σ as env H ds a w L hI hall hnd hkl hf h hr;have h':=h;unfold zVk at h;split at h
   ·
    rename_i i hfind;have hit:i∈todo:=List.mem_of_find?_eq_some hfind;split at h
    ·cases h
    ·rename_i o ho0
     cases hck:chk ops.toList dsts taken [(i,true)]
     ·rw [hck]at h;cases h
     ·rw [hck,cond_true]at h
      obtain⟨⟨o2,hc⟩,_⟩:=zNU hck;have hget:ops.toList[i]? =some o2:=by simpa using hc.at_
      have hoo:o=o2:=by rw [hget]at ho0;exact(Option.some.inj ho0).symm
      subst hoo;have hlt:=yT hc.at_;have hnot:¬∃p∈taken,p.1=i:=fun⟨p,hp,e⟩=>hc.new p hp e
      have hall':∀j,j<ops.size→(∃p∈(i,true)::taken,p.1=j)∨j∈pW i todo:=by
       intro j hj;rcases hall j hj with⟨p,hp,e⟩|hp
       ·exact .inl ⟨p,List.mem_cons_of_mem _ hp,e⟩
       ·by_cases hji:j=i
        ·exact .inl ⟨(i,true),by simp,hji.symm⟩
        ·exact .inr (zV7.2 ⟨hp,hji⟩)
      have hdl:=zOp hnd hit;have hpw:((i,true)::taken).Pairwise (zao ops dsts):=by
       rw [List.pairwise_cons];refine⟨fun p hp=>⟨hc.new p hp, ?_⟩,hI.pw⟩;obtain⟨x,h1,h2⟩:=hc.pair p hp;exact⟨x,o,h1,hc.at_,h2⟩
      have htp:zS0 ops ((i,true)::taken):=⟨⟨o,hc.at_,hc.sel,hc.zbL⟩,hI.tp⟩
      split at h
      ·rename_i d hdst
       cases hdn:Nat.blt d n
       ·rw [hdn]at h;cases h
       ·rw [hdn,cond_true]at h
        obtain⟨x,D,v,k1,k2,k3⟩:=zVY hC hd hI.st.rp hI.st.env h;have hlt':=Nat.le_of_ble_eq_true hdn;have hself:=hc.self rfl;rw [hdst]at hself;have hupd:Ev.kT env d x d=x:=by simp [Ev.kT]
        refine ih (pW i todo) ((i,true)::taken) _ (i::Pd) listed σ (as.put (some d) v) _ H ds a w L ⟨hI.st.put hlt' k3,⟨by rw [zCe];exact hI.agr.size,by rw [put_defers];exact hI.agr.defers,fun t ht=> ?_⟩,fun j hj=> ?_, ?_,hI.sz,fun k hk=> ?_,hI.cl,hpw,htp⟩ hall' (zQn hnd) (by omega) (by simp at hf⊢;omega) k1 hr
        ·have h1:d≠t:=fun e=>ht i (by simp) (by simp [zFh,hc.at_,hdst,e])
         rw [zC7,if_neg (fun h=>h1 (Option.some.inj h.1))];exact hI.agr.slot t fun j hj=>ht j (List.mem_cons_of_mem _ hj)
        ·rcases List.mem_cons.1 hj with rfl|hj
         ·refine⟨by simp,o,d,D,hc.at_,hdst,hlt',by rw [hupd];simp, ?_,by rw [hdst];exact hself⟩
          rw [hupd];exact k2.kT (jF hself d rfl)
         ·obtain⟨h0,oj,dj,Dj,h1,h2,h3,h4,h5,h6⟩:=hI.pd j hj
          obtain⟨y,h7,h8⟩:=hc.pair _ h0;simp only at h7 h8;rw [h1]at h7;cases h7;simp only [zEe,Bool.and_eq_true,Bool.not_true,Bool.false_or,Bool.not_eq_true']at h8;have hne:Ev.kT env d x dj=env dj:=by
           unfold Ev.kT;cases hb:Nat.beq dj d
           ·rfl
           ·exact(zKx h8.2.2 dj h2 (by rw [hdst,Nat.eq_of_beq_eq_true hb])).elim
          refine⟨List.mem_cons_of_mem _ h0,oj,dj,Dj,h1,h2,h3,by rw [hne];exact List.mem_cons_of_mem _ h4, ?_,h6⟩;rw [hne];exact h5.kT (jF h8.2.1 d hdst)
        ·exact List.nodup_cons.2 ⟨fun hm=>hnot ⟨_,(hI.pd i hm).1,rfl⟩,hI.nd⟩
        ·rw [hI.li k hk]
         constructor
         ·rintro⟨⟨p,hp,e⟩,h2⟩
          refine⟨⟨p,List.mem_cons_of_mem _ hp,e⟩,fun hm=> ?_⟩;rcases List.mem_cons.1 hm with rfl|hm
          ·exact hnot ⟨p,hp,e⟩
          ·exact h2 hm
         ·rintro⟨⟨p,hp,e⟩,h2⟩
          rw [List.mem_cons,not_or]at h2;rcases List.mem_cons.1 hp with rfl|hp
          ·exact(h2.1 e.symm).elim
          ·exact⟨⟨p,hp,e⟩,h2.2⟩
      ·cases h
   ·
    cases hnil:jX (todo.filter (zQt ops.toList taken))
    ·rw [hnil,cond_false]at h
     refine⟨fun hrd=> ?_,fun j hj=> ?_⟩
     ·
      exfalso;obtain⟨i,hi⟩:∃i,i∈todo.filter (zQt ops.toList taken):=List.exists_mem_of_ne_nil _ (fun e=>by rw [e]at hnil;cases hnil);rw [List.mem_filter]at hi;obtain⟨hit,hca⟩:=hi;unfold zQt at hca;split at hca
      ·rename_i o ho
       have hat:ops[i]? =some o:=by simpa using ho
       have hlt:=yT hat;have hed:∀e∈o.after,Region.binds .any e=true→∃p∈taken,p.1=e.on:=fun e he hb=>by
        have:=List.all_eq_true.1 hca e (Array.mem_toList_iff.2 he);rw [show zXP e=true from hb]at this;exact any_beq.1 (by simpa using this)
       by_cases hPd:∃p∈taken,p.1∈Pd
       ·obtain⟨p,hp,h1,o',ho',h2⟩:=hI.tp.first hPd
        have:p.1∈Region.ready .any ops listed:=by
         refine mem_ready.2 ⟨?_,o',ho',fun e he hb=> ?_⟩
         ·cases hl:listed.getD p.1 true
          ·rfl
          ·exact(((hI.li p.1 (yT ho')).1 hl).2 h1).elim
         ·obtain⟨h3,q,hq,h4⟩:=h2 e he hb
          obtain⟨oq,hoq,_⟩:=hI.tp.get q hq;rw [h4]at hoq;rw [hlisted hI _ (yT hoq)];exact(hI.li e.on (yT hoq)).2 ⟨⟨q,hq,h4⟩,h3⟩
        rw [hrd]at this;cases this
       ·by_cases hti:∃p∈taken,p.1=i
        ·
         have hck0:chk ops.toList dsts taken [(i,false)]=true∨chk ops.toList dsts taken [(i,false)]=false:=by cases chk ops.toList dsts taken [(i,false)]<;>simp
         obtain⟨Li,hLi,_⟩:=zUT h hr i (by rw [List.mem_filter];exact⟨hit,by unfold zQt;rw [ho];exact hca⟩);rw [ho]at hLi;simp only at hLi;rcases hck0 with hck0|hck0
         ·obtain⟨⟨o2,hc⟩,_⟩:=zNU hck0
          obtain⟨p,hp,e⟩:=hti;exact hc.new p hp e
         ·rw [hck0]at hLi;cases hLi
        ·have:i∈Region.ready .any ops listed:=by
          refine mem_ready.2 ⟨?_,o,hat,fun e he hb=> ?_⟩
          ·cases hl:listed.getD i true
           ·rfl
           ·exact(hti ((hI.li i hlt).1 hl).1).elim
          ·obtain⟨q,hq,h4⟩:=hed e he hb
           obtain⟨oq,hoq,_⟩:=hI.tp.get q hq;rw [h4]at hoq;rw [hlisted hI _ (yT hoq)];exact(hI.li e.on (yT hoq)).2 ⟨⟨q,hq,h4⟩,fun hm=>hPd ⟨q,hq,h4▸hm⟩⟩
         rw [hrd]at this;cases this
      ·cases hca
     ·obtain⟨h0,oj,hoj,hre⟩:=mem_ready.1 hj
      have hjlt:=yT hoj;by_cases hm:j∈Pd
      ·
       refine hI.exec hC hd hoj hm hre fun as' a' hI'=>ihf (k+1) todo taken pend _ _ σ as' env H ds a' w L hI' hall hnd hkl ?_ h' hr
       rw [List.length_erase_of_mem hm];have:=List.length_pos_of_mem hm;omega
      ·rcases hall j hjlt with hp|hp
       ·rw [(hI.li j hjlt).2 ⟨hp,hm⟩]at h0;cases h0
       ·
        have hget:ops.toList[j]? =some oj:=by simpa using hoj
        have hca:zQt ops.toList taken j=true:=by
         unfold zQt;rw [hget];refine List.all_eq_true.2 fun e he=> ?_
         cases hb:zXP e
         ·rfl
         ·have hl:=hre e (Array.mem_toList_iff.1 he) hb
          have hlt2:e.on<ops.size:=by
           rcases Nat.lt_or_ge e.on ops.size with h|h
           ·exact h
           ·rw [Array.getD_eq_getD_getElem?,Array.getElem?_eq_none (by rw [hI.sz];exact h)]at hl;cases hl
          rw [hlisted hI _ hlt2]at hl;have:=any_beq.2 ((hI.li _ hlt2).1 hl).1;rw [this];rfl
        obtain⟨Lj,hLj,hrj⟩:=zUT h hr j (List.mem_filter.2 ⟨hp,hca⟩);rw [hget]at hLj;simp only at hLj;cases hck:chk ops.toList dsts taken [(j,false)]&&pend.all (fun p=>clo ops.toList 40 oj p.1||zFs (xu H env oj) p.2.1)
        ·rw [hck]at hLj;cases hLj
        ·rw [hck,cond_true]at hLj
         rw [Bool.and_eq_true]at hck;obtain⟨⟨o2,hc⟩,_⟩:=zNU hck.1;have ho2:o2=oj:=by have:=hc.at_;rw [hoj]at this;exact(Option.some.inj this).symm
         subst ho2;have hnot:¬∃p∈taken,p.1=j:=fun⟨p,hp,e⟩=>hc.new p hp e
         have hdl:=zOp hnd hp;have hall':∀i,i<ops.size→(∃p∈(j,false)::taken,p.1=i)∨i∈pW j todo:=by
          intro i hi;rcases hall i hi with⟨p,hp,e⟩|hp
          ·exact .inl ⟨p,List.mem_cons_of_mem _ hp,e⟩
          ·by_cases hji:i=j
           ·exact .inl ⟨(j,false),by simp,hji.symm⟩
           ·exact .inr (zV7.2 ⟨hp,hji⟩)
         have hpw:((j,false)::taken).Pairwise (zao ops dsts):=by
          rw [List.pairwise_cons];refine⟨fun p hp=>⟨hc.new p hp, ?_⟩,hI.pw⟩;obtain⟨x,h1,h2⟩:=hc.pair p hp;exact⟨x,o2,h1,hc.at_,h2⟩
         have htp:zS0 ops ((j,false)::taken):=⟨⟨o2,hc.at_,hc.sel,hc.zbL⟩,hI.tp⟩
         refine hI.effect hC hΓ hd hc hre (K:=fun env H ds=>zVk C P G Γ n ops.toList dsts k ((j,false)::taken) (pW j todo) pend env H ds K Kp) hck.2 hLj (fun σ' as' a' env' H' ds' w' k1 k2 hag=> ?_) (fun σ' env' p H' ds' a' v w' hk hp=>hP σ' env' p H' ds' a' v w' Lj hk hrj hp);refine ihf k (pW j todo) ((j,false)::taken) pend Pd _ σ' as' env' H' ds' a' w' Lj ⟨k2.st,hag,fun i hi=> ?_,hI.nd,by simp [hI.sz],fun i hi=> ?_,fun i ok hok hlk e he hb=> ?_,hpw,htp⟩ hall' (zQn hnd) (by omega) (by omega) k1 hrj
         ·obtain⟨h1,_⟩:=hI.pd i hi
          exact⟨List.mem_cons_of_mem _ h1,k2.pd i hi⟩
         ·by_cases hki:j=i
          ·subst hki
           have h1:(listed.setIfInBounds j true).getD j true=true:=by simp
           exact⟨fun _ =>⟨⟨_,List.mem_cons_self ..,rfl⟩,fun hm=>hnot ⟨_,(hI.pd j hm).1,rfl⟩⟩,fun _ =>h1⟩
          ·rw [getD_set_ne true hki,hI.li i hi]
           constructor
           ·rintro⟨⟨p,hp,e⟩,h2⟩
            exact⟨⟨p,List.mem_cons_of_mem _ hp,e⟩,h2⟩
           ·rintro⟨⟨p,hp,e⟩,h2⟩
            rcases List.mem_cons.1 hp with rfl|hp
            ·exact(hki e).elim
            ·exact⟨⟨p,hp,e⟩,h2⟩
         ·by_cases hki:j=i
          ·subst hki
           rw [hc.at_]at hok;cases hok;exact getD_set_true (hre e he hb)
          ·rw [getD_set_ne false hki]at hlk
           exact getD_set_true (hI.cl i ok hok hlk e he hb)
    ·rw [hnil]at h;cases h
def zWa(C:wB T)(P:Program)(G:Nat→Option (List (V T)))(Γ:qK T)(n:Nat)(ops:Array Oper)(env:Env T)(H:List (zT T))(ds:Ds T)(K:KC T R):Option (List R):=
 zVk C P G Γ n ops.toList (fun j=>(ops.toList[j]?).bind (·.dst)) ops.size [] (List.range ops.size) [] env H ds (fun env H ds=>(K .normal env H ds).map ([·])) (fun env p H ds=>(K (.vU p) env H ds).map ([·]))
theorem zZ1(hC:yj C){Γ:qK T}(hΓ:ql P C G Γ)(hm:P.follows .mixedOrders=true){n:Nat}{B:jS T}{id:Nat}{ops:Array Oper}{K:KC T R}{r:R}{env:Env T}{ds:Ds T}{a:Act}{L:List R}
  (st:St C G n B σ env H ds a w) (h:zWa C P G Γ n ops env H ds K=some L) (hr:∀x∈L,x=r):(Code.region id ops true).wp P (zV0 C G n B K r) a w:=by
 refine wp_region_any hm ?_;unfold zWa at h;have one:∀{o:Option R} {L:List R},o.map ([·])=some L→(∀x∈L,x=r)→o=some r:=by
  intro o L h1 h2;cases o with
  |none=>cases h1
  |some x=>cases h1;rw [h2 x (by simp)]
 refine zfN hC hΓ (dsts:=fun j=>(ops.toList[j]?).bind (·.dst)) (fun j=>by simp) (fun σ' env' H' ds' a' w' L h1 h2 st'=>⟨σ',.normal,env',H',ds',one h1 h2,rfl,st'⟩) (fun σ' env' p H' ds' a' v w' L h1 h2 st'=>⟨σ',.vU p,env',H',ds',one h1 h2,⟨v,rfl,st'.2⟩,st'.1⟩)
  ops.size ops.size (List.range ops.size) [] [] [] _ σ a env H ds a _ L ⟨?_,Agr.refl,fun i hi=>(by cases hi),List.nodup_nil,by simp,fun i hi=> ?_,fun i o ho hl=> ?_,List.Pairwise.nil,trivial⟩ (fun i hi=> .inr (List.mem_range.2 hi)) List.nodup_range (by simp) (by simp) h hr
 ·exact zYr st
 ·simp [hi]
 ·have:=yT ho
  simp [this]at hl
theorem Piece.region{S E:Type}{p:Piece T S E}(hp:zN p)(hC:yj C)(hm:P.follows .mixedOrders=true){Γ:qK T}(hΓ:ql P C G Γ){n nB id:Nat}{N:zp T}(hN:ze C G nB N){X:Ex T→zp T}(hX:∀x,ze C G nB (X x)){ops:Array Oper}{f:S→Option E}(m:Nat)
  (hev:∀s x,f s=some x→zWa C P G Γ n ops (zVG (p.slS s)) (p.obS s) (p.dsS s) (zT5 X p.dcE)=some (List.replicate m x)):zP P C G n nB (.region id ops true) (p.cut N f):=
 Piece.ok hp hN fun s e he B σ a w hB st=>wp_mono (zZ1 hC hΓ hm st (hev s e he) (fun x hx=>(List.mem_replicate.1 hx).2)) fun _ _ _ h=>xd hX hB h
end Go.Proofs.YtdoifigogbdodaaGreatDoor.Ev

namespace Go.Proofs.YtdoifigogbdodaaGreatDoor.Ev
open Go
variable {T:Nat→Type} {C:wB T} {P:Program} {σ:Lk} {H:List (zT T)} {w:World} {G:Nat→Option (List (V T))} {R:Type}
def zAQ:List UInt8→List UInt8→Bool
 |[],[]=>true
 |a::l,b::m=>Nat.beq a.toNat b.toNat&&zAQ l m
 |_,_ =>false
theorem zQD:∀{l m:List UInt8},zAQ l m=true→l=m
 |[],[],_ =>rfl
 |a::l,b::m,h=>by
  simp only [zAQ,Bool.and_eq_true]at h;rw [zQD h.2,UInt8.toNat_inj.1 (Nat.eq_of_beq_eq_true h.1)]
 |[],_ ::_,h|_ ::_,[],h=>by cases h
class EqT (T:Nat→Type) where
 eq:(t:Nat)→T t→T t→Bool
 ok:∀t x y,eq t x y=true→x=y
variable [EqT T]
end Go.Proofs.YtdoifigogbdodaaGreatDoor.Ev
namespace Go.Proofs.YtdoifigogbdodaaGreatDoor.Ev
open Go
variable {T:Nat→Type} {C:wB T} {P:Program} {G:Nat→Option (List (V T))}
end Go.Proofs.YtdoifigogbdodaaGreatDoor.Ev
namespace Go.Proofs.YtdoifigogbdodaaGreatDoor.Ev
open Go
variable {T:Nat→Type} [EqT T] {C:wB T} {P:Program} {G:Nat→Option (List (V T))}
end Go.Proofs.YtdoifigogbdodaaGreatDoor.Ev

namespace Go.Proofs.YtdoifigogbdodaaGreatDoor.Ev
open Go
variable {T:Nat→Type} {C:wB T} {P:Program} {σ:Lk} {H:List (zT T)} {w:World} {G:Nat→Option (List (V T))} {R:Type}
def ziy(vU:Bool)(v:Value):FrameMode:=bif vU then .panicking [{v,recovered:=false}]else .returning
def zVg(vU:Bool)(v:Value):FrameMode:=bif vU then .panicking [{v,recovered:=true}]else .returning
abbrev zdA(T:Nat→Type):=(R:Type)→Bool→AV T→List (AV T)→List (zT T)→(AV T→List (zT T)→Option R)→Option R
abbrev zco(T:Nat→Type):=FuncId→zdA T
def zof(P:Program)(C:wB T)(G:Nat→Option (List (V T)))(g:FuncId)(e:zdA T):Prop:=
 ∀(R:Type) (vU:Bool) (p:AV T) (args:List (AV T)) (H:List (zT T)) (k:AV T→List (zT T)→Option R) (r:R),e R vU p args H k=some r→
  ∀(σ:Lk) (w:World) (v:Value) (vs:List Value),Rp C σ H w G→zr C σ H w p v→yW C σ H w args vs→
   (callFunc g vs.toArray).run P w= .ok (.enter g vs.toArray) w∧CallsD P g vs.toArray (ziy vU v) w fun en u' w'=>u'=zVg vU v∧∃x H',k x H'=some r∧Ends C G σ H w (.ret x H') en w'
def zjt(P:Program)(C:wB T)(G:Nat→Option (List (V T)))(Γ:zco T):Prop:=∀g,zof P C G g (Γ g)
def zP7(o:Oper):Bool:=
 match o.guard,o.op with
 |none,.call {callee:= .builtin .recover,args,.. }=>Nat.beq args.size 0
 |_,_ =>false
def zj8(C:wB T)(P:Program)(G:Nat→Option (List (V T)))(Γ:qK T)(cut:Key→Option (Cut T))(NR:zp T)(fn:Func)(vU:Bool)(p:AV T)(args:List (AV T))(H:List (zT T))(K:AV T→List (zT T)→Option R):Option R:=
 match fn.body with
 |some (.seq (.region _ ops false) c)=>match ops.toList with
  |o::rest=>bif Nat.ble args.length fn.ntmps&&zP7 o then
    zR1 o.dst fn.ntmps (zVl args) [] (bif vU then p else .v .if0) H [] fun env H1 ds=>
     zdH C P G Γ fn.ntmps (fun j=>(ops[j]?).bind (·.dst)) rest env H1 ds (fun env H1 ds=>pX C P G Γ fn.ntmps cut c env H1 ds fun
      | .normal,env,H',[]=>(zJA C P G env H' fn.results.toList).bind fun xs=>zYh NR (oneOf xs) H' fun x H=>K x H
      | .ret,env,H',[]=>(zJA C P G env H' fn.results.toList).bind fun xs=>zYh NR (oneOf xs) H' fun x H=>K x H
      |_,_,_,_ =>none) (fun _ _ _ _ =>none)
   else none
  |_ =>none
 |_ =>none
theorem zhn(hC:yj C){Γ:qK T}(hΓ:ql P C G Γ){n:Nat}{B:jS T}{ops:Array Oper}{dsts:Nat→Option Nat}(hd:∀j,dsts j=(ops[j]?).bind (·.dst)){K:KS T R}{r:R}{Q:Exit→Act→List Frame→World→Prop}{cs:List Frame}
  (hK:∀σ' env' H' ds' a' w',K env' H' ds'=some r→St C G n B σ' env' H' ds' a' w'→Q .normal a' cs w'):
  ∀(l:List Oper) (k:Nat),(∀j,l[j]? =ops[k+j]?)→∀(σ:Lk) (env:Env T) (H:List (zT T)) (ds:Ds T) (a:Act) (w:World),St C G n B σ env H ds a w→zdH C P G Γ n dsts l env H ds K (fun _ _ _ _ =>none)=some r→wpOpsS P ops Q (List.range' k l.length) a cs w:=by
 intro l
 induction l with
 |nil=>intro k _ σ env H ds a w st h;exact hK _ _ _ _ _ _ h st
 |cons o l ih=>
  intro k hk σ env H ds a w st h;have ho:ops[k]? =some o:=by have:=hk 0;simpa using this.symm
  have:=zXU hC hΓ st hd h (next:=fun a w=>wpOpsS P ops Q (List.range' (k+1) l.length) a cs w) (Q:=fun _ _ _ =>False)
   (fun σ' env' H' ds' a' w' h' st'=>ih (k+1) (fun j=>by have:=hk (j+1);simp at this;rw [this];congr 1;omega) σ' env' H' ds' a' w' st' h')
   (fun σ' env' p H' ds' v w' h' st'=>by cases h')
  rw [List.length_cons,List.range'_succ];simp only [wpOpsS,ho];split
  ·rename_i hw
   rw [if_pos hw]at this;unfold Oper.wp at this;split
   ·rename_i w' hr;rw [hr]at this;exact this.elim
   ·rename_i r' hnot
    generalize (execOp a.eval o).run P w=rr at this;cases rr with
    |ok x w1=>
     cases x<;>first
      |exact this
      |(exact this.elim)
      |(refine this.mono fun e w2 he=> ?_
        cases e with
        |returned v=>exact he
        |panicked c=>exact he.elim
        |outgrown=>obtain⟨_,_,hf⟩:=he;exact hf.elim)
    |halt x w1=>cases x<;>exact this.elim
  ·rename_i hw
   rw [if_neg hw]at this;exact this
theorem zfu(hC:yj C){Γ:qK T}(hΓ:ql P C G Γ)(hm:P.follows .mixedOrders=true){cut:Key→Option (Cut T)}{NR:zp T}{f:FuncId}{fn:Func}(hf:P.funcs[f]? =some fn){vU:Bool}{p:AV T}
  {args:List (AV T)} {H:List (zT T)} (hNR:ze C G H.length NR) (hcut:∀x c,fn.body=some (.seq x c)→kQ P C G fn.ntmps H.length cut c) {K:AV T→List (zT T)→Option R} {r:R} (h:zj8 C P G Γ cut NR fn vU p args H K=some r):
  ∀(σ:Lk) (w:World) (v:Value) (vs:List Value),Rp C σ H w G→zr C σ H w p v→yW C σ H w args vs→CallsD P f vs.toArray (ziy vU v) w fun en u' w'=>u'=zVg vU v∧∃x H',K x H'=some r∧Ends C G σ H w (.ret x H') en w':=by
 intro σ w v vs hR hp ha;unfold zj8 at h;split at h
 ·rename_i id ops c hb
  split at h
  ·rename_i o rest hops
   cases hle:Nat.ble args.length fn.ntmps&&zP7 o
   ·rw [hle]at h;cases h
   ·rw [hle]at h
    simp only [cond_true]at h;rw [Bool.and_eq_true]at hle;have hle':=Nat.le_of_ble_eq_true hle.1;have hlen:=ha.length;refine callsD_of_wpS hf hb fun c₀ cs hmode=>wpS_seq (wpS_region ?_)
    have st:St C G fn.ntmps ⟨σ,H,w⟩ σ (zVl args) H [] {tmps:=vs.toArray++Array.replicate (fn.ntmps-vs.toArray.size) undef,defers:=[]} w:=
     ⟨hR,Anc.refl C σ H w,by simp;omega,zVu ha _,rfl⟩
    generalize ({tmps:=vs.toArray++Array.replicate (fn.ntmps-vs.toArray.size) undef,defers:=[]}:Act)=a0 at st⊢;have w9:ops.size=rest.length+1:=by have:=congrArg List.length hops;simpa using this
    have ho0:ops[0]? =some o:=by rw [←Array.getElem?_toList,hops];rfl
    rw [List.range_eq_range',w9,List.range'_succ];simp only [wpOpsS,ho0];have hrec:=hle.2;unfold zP7 at hrec;split at hrec
    ·rename_i ar jI hg hop
     have hw:Region.wanted o (yielded ops a0.tmps)=true:=by simp [Region.wanted,hg]
     rw [if_pos hw];have hrun:(execOp a0.eval o).run P w= .ok .recover w:=by
      unfold execOp;rw [hop];rfl
     rw [hrun];simp only;have fin:∀(x:AV T) (y:Value) (cs':List Frame),zr C σ H w x y→x=(bif vU then p else .v .if0)→cs'={c₀ with mode:=zVg vU v}::cs→
       wpOpsS P ops (Exit.thenS (Code.wpS P c (bodyPostS P fn c₀ cs fun en u' w'=>u'=zVg vU v∧∃x H',K x H'=some r∧Ends C G σ H w (.ret x H') en w')) (bodyPostS P fn c₀ cs fun en u' w'=>u'=zVg vU v∧∃x H',K x H'=some r∧Ends C G σ H w (.ret x H') en w')) (List.range' 1 rest.length) (a0.put o.dst y) cs' w:=by
      intro x y cs' hx hxe hcs;rw [←hxe]at h;obtain⟨env',ds',h',st'⟩:=zBZ st (Step.refl hR) hx h;refine zhn hC hΓ (ops:=ops) (fun j=>rfl) (fun σ' env' H' ds' a' w' hk st'=> ?_) rest 1 (fun j=> ?_) σ env' H ds' _ w st' h'
      ·show Code.wpS P c _ a' cs' w'
       refine wpS_of_wp (wp_mono (zNq hC hΓ hm (B:=⟨σ,H,w⟩) rfl c (hcut _ c hb) _ σ' env' H' ds' a' w' st' hk) fun e a'' w'' hpost=> ?_);obtain⟨σ2,ex,env2,H2,ds2,q1,q2,q3⟩:=hpost;have done:∀env2 H2 ds2 σ2,(zJA C P G env2 H2 fn.results.toList).bind (fun xs=>zYh NR (oneOf xs) H2 fun x H=>K x H)=some r→ds2=[]→St C G fn.ntmps ⟨σ,H,w⟩ σ2 env2 H2 ds2 a'' w''→
         a''.defers=[]∧∃u',cs'={c₀ with mode:=u'}::cs∧∃v2,(results fn a''.tmps).run P w''= .ok v2 w''∧u'=zVg vU v∧∃x H',K x H'=some r∧Ends C G σ H w (.ret x H') (.returned v2) w'':=by
        intro env2 H2 ds2 σ2 hh hds q3;subst hds;obtain⟨xs,hxs,hh⟩:=Option.bind_eq_some_iff.1 hh;obtain⟨v2,k1,k2⟩:=zQj (P:=P) q3.rp q3.env hxs;obtain⟨x',H'',σ'',z1,z2,z3,z4⟩:=zWx hNR (B:=⟨σ,H,w⟩) rfl q3.rp q3.anc k2 hh;exact⟨q3.ds,_,hcs,v2,k1,rfl,x',H'',z1,v2,σ'',rfl,z2,z3,z4⟩
       cases ex with
       |normal=>
        cases(show e=_ from q2);cases ds2 with
        |nil=>exact done _ _ _ _ q1 rfl q3
        |cons=>cases q1
       |ret=>
        cases(show e=_ from q2);cases ds2 with
        |nil=>exact done _ _ _ _ q1 rfl q3
        |cons=>cases q1
       |exit i=>cases ds2<;>cases q1
       |vU p=>cases ds2<;>cases q1
      ·have:=congrArg (fun l:List Oper=>l[j+1]?) hops
       simp at this;rw [←this,Nat.add_comm]
     cases vU with
     |false=>
      have hm0:c₀.mode= .returning:=hmode;have hrd:recoverD (c₀::cs)=none:=by simp [recoverD,hm0]
      rw [hrd];refine fin (.v .if0) .nilIface _ .if0 rfl ?_;have:({c₀ with mode:=FrameMode.returning}:Frame)=c₀:=by rw [←hm0]
      show c₀::cs={c₀ with mode:=FrameMode.returning}::cs;rw [this]
     |true=>
      have hm0:c₀.mode= .panicking [{v,recovered:=false}]:=hmode;have hrd:recoverD (c₀::cs)=some (v,{c₀ with mode:= .panicking [{v,recovered:=true}]}::cs):=by simp [recoverD,hm0]
      rw [hrd];exact fin p v _ hp rfl rfl
    ·cases hrec
  ·cases h
 ·cases h
def zco.zj(Δ:zco T)(g:Nat)(vU:Bool){I X:Type}(s:Spec T I X)(f:I→Option X):zco T:=
 fun h R pan' p args H k=>bif Nat.beq h g&&(vU==pan')then(match s.dcI (p::args) H with
  |some i=>(f i).bind fun x=>s.goO R x fun o=>match o with
   | .ret y H'=>k y H'
   | .panic _ _ =>none
  |none=>Δ h R pan' p args H k)else Δ h R pan' p args H k
def ziJ(C:wB T)(P:Program)(G:Nat→Option (List (V T)))(Γ:qK T)(cut:Key→Option (Cut T))(NR:zp T)(fn:Func)(vU:Bool)(as:List (AV T))(H:List (zT T))(K:AV T→List (zT T)→Option R):Option R:=
 match as with
 |p::args=>zj8 C P G Γ cut NR fn vU p args H K
 |[]=>none
theorem zjt.zj{I X:Type}{s:Spec T I X}(hs:zo s)(hC:yj C)(hm:P.follows .mixedOrders=true){Δ:zco T}(hΔ:zjt P C G Δ){Γ:qK T}(hΓ:ql P C G Γ){cut:Key→Option (Cut T)}{g:Nat}{vU:Bool}{fn:Func}{c x:Code}{NR:zp T}{nB:Nat}
  (hf:P.funcs[g]? =some fn) (hb:fn.body=some (.seq x c)) (hn:(fn.name=="runtime.NumGoroutine")=false) (hnB:∀i,(s.ecH i).length=nB) (hNR:ze C G nB NR) (hcut:kQ P C G fn.ntmps nB cut c)
  {f:I→Option X} (hev:∀i,ziJ C P G Γ cut NR fn vU (s.ecA i) (s.ecH i) (fun y H=>s.dcO (.ret y H))=f i):zjt P C G (Δ.zj g vU s f):=by
 intro h R pan' p args H k r hr;unfold zco.zj at hr;cases hq:Nat.beq h g&&(vU==pan')
 ·rw [hq]at hr;exact hΔ h R pan' p args H k r hr
 ·rw [hq]at hr
  simp only [cond_true]at hr;rw [Bool.and_eq_true]at hq;split at hr
  ·rename_i i hi
   have hg:=Nat.eq_of_beq_eq_true hq.1;subst hg;have hp:vU=pan':=by simpa using hq.2
   subst hp;obtain⟨z,hz,hk⟩:=Option.bind_eq_some_iff.1 hr;rw [hs.hG]at hk;obtain⟨ha,hH⟩:=hs.hI _ _ _ hi;intro σ w v vs hR hpv hvs;refine⟨vF hf hb hn _ w, ?_⟩;have hev':=hev i;rw [←ha,←hH]at hev';unfold ziJ at hev';rw [hz]at hev';have hH':H.length=nB:=by rw [hH];exact hnB i
   refine(zfu hC hΓ hm hf (by rw [hH'];exact hNR) (fun x' c' hc=>by rw [hb]at hc;cases hc;rw [hH'];exact hcut) hev' σ w v vs hR hpv hvs).mono fun en u' w' ⟨hu,y,H',k1,k2⟩=>⟨hu, ?_⟩
   rw [←hs.hO _ _ k1]at hk;exact⟨y,H',hk,k2⟩
  ·exact hΔ h R pan' p args H k r hr
end Go.Proofs.YtdoifigogbdodaaGreatDoor.Ev

namespace Go.Proofs.YtdoifigogbdodaaGreatDoor.Ev
open Go
def zQN{T:Nat→Type}:List (V T)→List (V T)→Prop
 |[],[]=>True
 |a::l,b::m=>zUY a b∧zQN l m
 |_,_ =>False
theorem zUY.rfl{T:Nat→Type}{a:V T}:zUY a a:= .inl (Eq.refl a)
theorem zQN.length{T:Nat→Type}:∀{l m:List (V T)},zQN l m→l.length=m.length
 |[],[],_ =>Eq.refl _
 |a::l,b::m,h=>congrArg (· +1) h.2.length
 |[],_ ::_,h=>h.elim
 |_ ::_,[],h=>h.elim
theorem zQN.get{T:Nat→Type}:∀{l m:List (V T)},zQN l m→∀(j:Nat) (a b:V T),l[j]? =some a→m[j]? =some b→zUY a b
 |[],[],_,j,a,b,h,_ =>by simp at h
 |x::l,y::m,h,0,a,b,h1,h2=>by simp at h1 h2;subst h1;subst h2;exact h.1
 |x::l,y::m,h,j+1,a,b,h1,h2=>h.2.get j a b (by simpa using h1) (by simpa using h2)
 |[],_ ::_,h,_,_,_,_,_ =>h.elim
 |_ ::_,[],h,_,_,_,_,_ =>h.elim
structure Co(T:Nat→Type)(X:Type) where
 size:Nat
 enc:X→List (V T)
 dec:List (V T)→Option X
 len:∀x,(enc x).length=size
 fin:∀cs x,dec cs=some x→zQN cs (enc x)
 pos:0<size
def zjy(T:Nat→Type)(X:Type):Co T X:=⟨1,fun _ =>[.b true],fun _ =>none,fun _ =>rfl,fun _ _ h=>(by cases h),Nat.one_pos⟩
def mkC{T:Nat→Type}(co:(t:Nat)→Co T (T t))(typed:Nat→Bool)(bt:Nat)(ofB:Int→T bt)(toB:T bt→Int):wB T:=
 {enc:=fun t=>(co t).enc,dec:=fun t=>(co t).dec,size:=fun t=>(co t).size,typed,bt,ofB,toB}
theorem zkO{T:Nat→Type}{co:(t:Nat)→Co T (T t)}{typed:Nat→Bool}{bt:Nat}{ofB:Int→T bt}{toB:T bt→Int}
  (h1:∀x,(co bt).enc x=[.i .u8 (toB x)]) (h2:∀n,toB (ofB n)=n):yj (mkC co typed bt ofB toB):=
 ⟨fun t x=>(co t).len x,fun t cs x h=>((co t).fin cs x h).get,fun t cs x h=>((co t).fin cs x h).length.trans ((co t).len x),fun t=>(co t).pos,h1,h2⟩
end Go.Proofs.YtdoifigogbdodaaGreatDoor.Ev

namespace Go.Proofs.YtdoifigogbdodaaGreatDoor.Ev
open Go Go.RowKit
variable {T:Nat→Type} {C:wB T} {P:Program} {σ:Lk} {w w':World} {G:Nat→Option (List (V T))} {R:Type}
theorem zaV(hb:Below w.heap.size w w'){F:Nat→Nat→Prop}:∀b off x,Cell C σ [] w b off x→Cell C σ [] w' b off x:=by
 intro b off x ⟨h1,h2⟩;exact⟨h1,(wj (hb.block b (uW h2))).trans h2⟩
theorem zdO(hR:Rp C σ [] w G)(hb:Below w.heap.size w w'):Rp C σ [] w' G∧Anc C σ [] w σ [] w':=by
 have hc:∀b off x,Cell C σ [] w b off x→Cell C σ [] w' b off x:=zaV (F:=σ.F) hb;have nil:∀{i:Nat} {o:zT T},([]:List (zT T))[i]? =some o→False:=fun h=>by simp at h
 refine⟨⟨fun i j oi oj b hi=>(nil hi).elim,fun i o b hi=>(nil hi).elim,fun i o hi=>(nil hi).elim,fun g l hg=>(hR.zDJ g l hg).mono hc,fun i o b hi=>(nil hi).elim,fun b off hF=>Nat.lt_of_lt_of_le (hR.fb b off hF) hb.size⟩,
  ⟨rfl,hb.os,hb.tape,hb.output,hb.size,Nat.le_refl _,fun _ _ _ h=>h,fun b off hlt _ =>wj (hb.block b hlt),fun b hlt _ =>hb.block b hlt,fun _ _ _ _ =>rfl,fun _ o _ h1 h2 h3=> .inl ⟨o,h1,h2,h3⟩,fun _ o o' h h' hr=>by rw [h]at h';cases h';exact hr⟩⟩
theorem Spec.lib{I X:Type}{s:Spec T I X}(hs:zo s){g:FuncId}{f:I→Option X}(hcall:∀(vs:Array Value) (w:World),(callFunc g vs).run P w= .ok (.enter g vs) w)
  (hH:∀i,s.ecH i=[])
  (h:∀i x,f i=some x→∀(σ:Lk) (w:World) (vs:List Value),Rp C σ [] w G→yW C σ [] w (s.ecA i) vs→∃y,s.ecO x= .ret y []∧
   Calls P g vs.toArray w fun e w'=>Below w.heap.size w w'∧∃v,e= .returned v∧zr C σ [] w' y v):wM P C G g (s.entry f):=by
 intro R args H k r hr;intro σ w vs hR ha;unfold Spec.entry at hr;obtain⟨i,hi,h'⟩:=Option.bind_eq_some_iff.1 hr;obtain⟨x,hx,hk⟩:=Option.bind_eq_some_iff.1 h';rw [hs.hG]at hk;obtain⟨h1,h2⟩:=hs.hI _ _ _ hi;rw [hH]at h2;subst h1;subst h2;obtain⟨y,hy,hc⟩:=h i x hx σ w vs hR ha;refine .inl ⟨hcall _ w,hc.mono fun e w' ⟨hb,v,he,hv⟩=>⟨_,hk, ?_⟩⟩;rw [hy];obtain⟨q1,q2⟩:=zdO hR hb;exact⟨v,σ,he,q1,q2,hv⟩
theorem zLt{σ':Lk}{H':List (zT T)}(hA:Anc C σ [] w σ' H' w'):Below w.heap.size w w':=
 ⟨hA.os,hA.tape,hA.output,hA.size,fun b hb=>hA.block b hb fun i o hi=>by simp at hi⟩
theorem zWP{g:FuncId}{e:Entry T}(h:wM P C G g e)(hen:∀(vs:Array Value) (w:World),(callFunc g vs).run P w= .ok (.enter g vs) w){args:List (AV T)}{X:Type}{r:X}{k:Out T→Option X}(he:e X args [] k=some r)(hG:∀g l,G g=some l→zQV C (Cell C ⟨fun _ =>none,fun _ _ =>False⟩ ([]:List (zT T)) w) l g 0){vs:List Value}
  (ha:yW C ⟨fun _ =>none,fun _ _ =>False⟩ [] w args vs):
  Calls P g vs.toArray w fun e w'=>Below w.heap.size w w'∧∃out σ' H',k out=some r∧match out with
   | .ret x H2=>H2=H'∧∃v,e= .returned v∧zr C σ' H' w' x v
   | .panic p H2=>H2=H'∧∃v,e= .panicked [{v,recovered:=false}]∧zr C σ' H' w' p v:=by
 have nil:∀{i:Nat} {o:zT T},([]:List (zT T))[i]? =some o→False:=fun h=>by simp at h
 have hR:Rp C ⟨fun _ =>none,fun _ _ =>False⟩ [] w G:=
  ⟨fun i j oi oj b hi=>(nil hi).elim,fun i o b hi=>(nil hi).elim,fun i o hi=>(nil hi).elim,fun g l hg=>hG g l hg,fun i o b hi=>(nil hi).elim,fun b off hF=>hF.elim⟩
 have h2:Calls P g vs.toArray w fun e w'=>∃out,k out=some r∧Ends C G ⟨fun _ =>none,fun _ _ =>False⟩ [] w out e w':=by
  rcases h X args [] k r he _ w vs hR ha with⟨_,h2⟩|⟨v,w',h1,_⟩
  ·exact h2
  ·rw [hen]at h1;cases h1
 refine h2.mono fun e w' ⟨out,ho,hend⟩=> ?_
 cases out with
 |ret x H'=>
  obtain⟨v,σ',k1,k2,k3,k4⟩:=hend;exact⟨zLt k3,_,σ',H',ho,rfl,v,k1,k4⟩
 |panic p H'=>
  obtain⟨v,σ',k1,k2,k3,k4⟩:=hend;exact⟨zLt k3,_,σ',H',ho,rfl,v,k1,k4⟩
end Go.Proofs.YtdoifigogbdodaaGreatDoor.Ev

namespace Go.Proofs.YtdoifigogbdodaaGreatDoor.Ev
open Go Go.ChangeShapes Go.WideShapes Go.RowKit
open Go.ChangeMaps (open_string shut_string)
variable {T:Nat→Type} {C:wB T} {P:Program}
abbrev CW(w:World)(b off:Nat)(x:Value):Prop:=w.cell? ⟨b,off,none⟩=some x
def zTa(C:wB T)(w:World)(vs:List (V T))(cs:List Value):Prop:=vs.length=cs.length∧∀(j:Nat) v c,vs[j]? =some v→cs[j]? =some c→qI C (CW w) v c
def zZz{α:Type}(C:wB T)(P:Program)(f:α→List (V T))(sz:Nat)(t:TypeId)(wf:α→Prop)(N:Nat):Prop:=
 sz=P.cellsOf t∧∀(H:Type) (enc:TypeId×Value→H) (w:World) (base:Nat) (spare:Nat→Bool) (held:Bool) (fuel:Nat) (cs:List Value) (x:DataW H×List MemPlace),
  fuel≤N→DataW.trod enc P w base spare held fuel t cs=some x→(∀n∈x.1.weights P t,n≤reachBytes)→cs.length=sz∧∃a,zTa C w (f a) cs∧wf a
theorem zZz.mono{α:Type}{f:α→List (V T)}{sz:Nat}{t:TypeId}{wf wf':α→Prop}{N:Nat}(h:zZz C P f sz t wf N)(hw:∀a,wf a→wf' a):zZz C P f sz t wf' N:=
 ⟨h.1,fun H enc w base spare held fuel cs x hN hx hz=>by
  obtain⟨hl,a,hk,ha⟩:=h.2 H enc w base spare held fuel cs x hN hx hz;exact⟨hl,a,hk,hw a ha⟩⟩
theorem zTa.one{w:World}{v:V T}{c:Value}(h:qI C (CW w) v c):zTa C w [v] [c]:=
 ⟨rfl,fun j v' c' h1 h2=>by
  cases j with
  |zero=>cases h1;cases h2;exact h
  |succ j=>simp at h1⟩
theorem zTa.append{w:World}{a b:List (V T)}{x y:List Value}(h:zTa C w a x)(k:zTa C w b y):zTa C w (a++b) (x++y):=by
 refine⟨by rw [List.length_append,List.length_append,h.1,k.1],fun j v c h1 h2=> ?_⟩;by_cases hj:j<a.length
 ·rw [List.getElem?_append_left hj]at h1
  rw [List.getElem?_append_left (by rw [←h.1];exact hj)]at h2;exact h.2 j v c h1 h2
 ·rw [List.getElem?_append_right (by omega)]at h1
  rw [List.getElem?_append_right (by rw [←h.1];omega),←h.1]at h2;exact k.2 _ v c h1 h2
end Go.Proofs.YtdoifigogbdodaaGreatDoor.Ev
