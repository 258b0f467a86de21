import Derived.Test.YtdoifigogbdodaaGreatDoorEvTwo
import Derived.Scope
import Derived.LoopN
import Derived.Laws.Externs
set_option linter.unusedVariables false
set_option linter.unusedSimpArgs false
set_option maxHeartbeats 1000000
namespace Go.Proofs.YtdoifigogbdodaaGreatDoor.Ev
open Go
variable {T:Nat→Type} {C:Cdc T} {P:Program} {σ:Lk} {H H':List (AObj T)} {w:World} {G:Nat→Option (List (V T))} {R:Type}
abbrev KX(T:Nat→Type)(R:Type):=AV T→List (AObj T)→List Nat→Ds T→Option R
def runX(C:Cdc T)(P:Program)(G:Nat→Option (List (V T)))(Γ:Gam T)(o:Oper)(env:Env T)(H:List (AObj T))(ds:Ds T)(K:KX T R)(Kp:KP T R):Option R:=
 match o.op with
 | .call {callee:= .value f,args,.. }=>match evO env f with
  | .fn (.func g) first cap=>callA Γ g (first++args.toList.map (evO env)++cap) H (fun x H S=>K x H S (purgeDs S ds)) (fun p H S=>Kp (penv S env) p H (purgeDs S ds))
  |_ =>none
 | .call {callee:= .invoke f name,args,.. }=>match evO env f with
  | .ifc t x=>match methA P t name with
   |some g=>callA Γ g (x::args.toList.map (evO env)) H (fun x H S=>K x H S (purgeDs S ds)) (fun p H S=>Kp (penv S env) p H (purgeDs S ds))
   |none=>none
  |_ =>none
 | .defer {callee:= .value f,args,.. }=>match evO env f with
  | .fn g first cap=>K .any H [] ((g,first++args.toList.map (evO env),cap)::ds)
  |_ =>none
 |_ =>evOp C P G o env H (fun x H S=>K x H S (purgeDs S ds)) (fun p H=>Kp env p H ds)
theorem purgeDs_nil(ds:Ds T):purgeDs [] ds=ds:=by
 unfold purgeDs;rw [List.map_congr_left (g:=id) (fun d _ =>by obtain⟨a,b,c⟩:=d;simp [purgeL_nil])];simp
theorem runX_ok(hC:CdcOk C){Γ:Gam T}(hΓ:GOk P C G Γ){n:Nat}{B:Base T}{env:Env T}{ds:Ds T}{a:Act}(st:St C G n B σ env H ds a w){o:Oper}{K:KX T R}{Kp:KP T R}{r:R}
  (h:runX C P G Γ o env H ds K Kp=some r) {next:Act→World→Prop} {Q:Exit→Act→World→Prop}
  (hK:∀σ' x v H' S ds' dd w',K x H' S ds'=some r→Step C G S σ H w σ' H' w'→RepA C σ' H' w' x v→RepDs C σ' H' w' ds' dd→next ({a with defers:=dd}.put o.dst v) w')
  (hP:∀σ' env' p H' ds' v w',Kp env' p H' ds'=some r→PSt C G n B σ' env' p H' ds' a v w'→Q (.panic [{v,recovered:=false}]) a w'):
  o.wp P a w next Q:=by
 have plain:evOp C P G o env H (fun x H S=>K x H S (purgeDs S ds)) (fun p H=>Kp env p H ds)=some r→o.wp P a w next Q:=by
  intro h;unfold Oper.wp;rcases evOp_good hC st.rp st.env h with⟨x,H',S,v,σ',w',h1,h2,h3,h4⟩|⟨p,H',v,σ',w',h1,h2,h3,h4⟩
  ·have:=hK σ' x v H' S _ a.defers w' h1 h3 h4 (st.ds.move h3.move)
   rcases h2 with h2|⟨h2,rfl⟩<;>rw [h2]<;>exact this
  ·rw [h2]
   have hst:=st.step h3;rw [purgeDs_nil]at hst;exact hP _ _ _ _ _ _ _ h1 ⟨hst,h4⟩
 unfold runX at h;split at h
 ·rename_i f args at_ hop
  split at h
  ·rename_i g first cap hf
   have hfv:=rep_evO st.env f;rw [hf]at hfv;obtain⟨a1,a2,h1,h2,h3⟩:=hfv;have hargs:=(h2.append (rep_evOs st.env args.toList)).append h3;have hdo:=callA_ok hC st.rp (hΓ g) hargs h;have harr:(a1++args.map a.eval++a2)=(a1.toList++args.toList.map a.eval++a2.toList).toArray:=by
    apply Array.ext';simp
   have hrun:(execOp a.eval o).run P w=(callFunc g (a1.toList++args.toList.map a.eval++a2.toList).toArray).run P w:=by
    unfold execOp;rw [hop];simp only [resolve,h1,Deferred.ofValue,Sem.run_bind,Sem.run_pure,Result.andThen_ok,invoke];rw [←harr]
   unfold Oper.wp;rw [hrun];rcases hdo with⟨k1,k2⟩|⟨v0,w0,k1,k2⟩
   ·rw [k1]
    simp only [Oper.upon];refine k2.mono fun e w' he=> ?_
    rcases he with⟨x,H',S,v,σ',q1,rfl,q3,q4⟩|⟨p,H',S,v,σ',q1,rfl,q3,q4⟩
    ·exact hK σ' x v H' S _ a.defers w' q1 q3 q4 (st.ds.move q3.move)
    ·exact hP _ _ _ _ _ _ _ q1 ⟨st.step q3,q4⟩
   ·rw [k1]
    simp only [Oper.upon];rcases k2 with⟨x,H',S,v,σ',q1,e2,q3,q4⟩|⟨p,H',S,v,σ',q1,e2,q3,q4⟩
    ·cases e2
     exact hK σ' x _ H' S _ a.defers _ q1 q3 q4 (st.ds.move q3.move)
    ·cases e2
  ·cases h
 ·rename_i f name args at_ hop
  split at h
  ·rename_i t x hf
   split at h
   ·rename_i g hg
    have hfv:=rep_evO st.env f;rw [hf]at hfv;obtain⟨z,h1,h2⟩:=hfv;have hargs:RepL C σ H w (x::args.toList.map (evO env)) (z::args.toList.map a.eval):=⟨z,_,rfl,h2,rep_evOs st.env args.toList⟩
    have hdo:=callA_ok hC st.rp (hΓ g) hargs h;have hrun:(execOp a.eval o).run P w=(callFunc g (z::args.toList.map a.eval).toArray).run P w:=by
     unfold execOp;rw [hop];simp only [resolve,Sem.run_bind,Sem.run_pure,Result.andThen_ok,invoke];have h0:(#[a.eval f]++args.map a.eval)[0]? =some (.iface t z):=by
      have h1':a.eval f= .iface t z:=h1;rw [h1',←Array.getElem?_toList,Array.toList_append];rfl
     rw [h0];show(callMethod (.iface t z) name _).run P w=_;rw [methA_ok hg];congr 2;apply Array.ext';simp only [Array.toList_append,Array.toList_extract,Array.toList_map,List.extract_eq_take_drop,Array.size_append,List.size_toArray,Array.size_map,List.cons_append,List.nil_append];simp [List.take_of_length_le]
    unfold Oper.wp;rw [hrun];rcases hdo with⟨k1,k2⟩|⟨v0,w0,k1,k2⟩
    ·rw [k1]
     simp only [Oper.upon];refine k2.mono fun e w' he=> ?_
     rcases he with⟨x,H',S,v,σ',q1,rfl,q3,q4⟩|⟨p,H',S,v,σ',q1,rfl,q3,q4⟩
     ·exact hK σ' x v H' S _ a.defers w' q1 q3 q4 (st.ds.move q3.move)
     ·exact hP _ _ _ _ _ _ _ q1 ⟨st.step q3,q4⟩
    ·rw [k1]
     simp only [Oper.upon];rcases k2 with⟨x,H',S,v,σ',q1,e2,q3,q4⟩|⟨p,H',S,v,σ',q1,e2,q3,q4⟩
     ·cases e2
      exact hK σ' x _ H' S _ a.defers _ q1 q3 q4 (st.ds.move q3.move)
     ·cases e2
   ·cases h
  ·cases h
 ·rename_i f args at_ hop
  split at h
  ·rename_i g first cap hf
   have hfv:=rep_evO st.env f;rw [hf]at hfv;obtain⟨a1,a2,h1,h2,h3⟩:=hfv;have hrun:(execOp a.eval o).run P w= .ok (.defer {target:= .fn g a2,args:=a1++args.map a.eval}) w:=by
    unfold execOp;rw [hop];simp only [resolve,h1,Deferred.ofValue,Sem.run_bind,Sem.run_pure,Result.andThen_ok]
   unfold Oper.wp;rw [hrun];simp only [Oper.upon];refine hK σ .any undef H [] _ _ w h (Step.refl st.rp) trivial ⟨_,_,_,rfl, ?_,h3,st.ds⟩;rw [Array.toList_append,Array.toList_map];exact h2.append (rep_evOs st.env args.toList)
  ·cases h
 ·exact plain h
def SameC(H H':List (AObj T)):Prop:=∀(o e:Nat) (g:Option Nat) (l:List (AV T)),H'[o]? =some (.cells e g l)→H[o]? =some (.cells e g l)
theorem SameC.refl:SameC H H:=fun _ _ _ _ h=>h
theorem SameC.trans{H2:List (AObj T)}(h:SameC H H')(k:SameC H' H2):SameC H H2:=fun o e g l hx=>h o e g l (k o e g l hx)
theorem SameC.lend{o:Nat}:SameC H (Ev.lend o H):=by
 intro p e g l h;unfold Ev.lend at h;split at h
 ·rw [List.getElem?_set]at h
  split at h
  ·split at h<;>cases h
  ·exact h
 ·exact h
mutual
theorem lendK1_fr:∀(x:AV T) (H:List (AObj T)) (K K':AV T→List (AObj T)→Option R),(∀x' H',Fr (refs x) H H'→(∀o∈refs x',o∈refs x)→SameC H H'→K x' H'=K' x' H')→lendK1 x H K=lendK1 x H K'
 | .own o,H,K,K',h=>by
  simp only [lendK1];split
  ·exact h _ _ (Fr.lend (by simp [refs])) (fun o ho=>by cases ho) SameC.lend
  ·rfl
 | .agg l,H,K,K',h=>by
  simp only [lendK1];exact lendK_fr l H _ _ fun l' H' h1 h2 h3=>h _ _ h1 h2 h3
 | .tup l,H,K,K',h=>by
  simp only [lendK1];exact lendK_fr l H _ _ fun l' H' h1 h2 h3=>h _ _ h1 h2 h3
 | .fn f a b,H,K,K',h=>h _ _ Fr.refl (fun _ h=>h) SameC.refl
 | .ifc t x,H,K,K',h=>h _ _ Fr.refl (fun _ h=>h) SameC.refl
 | .any,H,K,K',h=>h _ _ Fr.refl (fun _ h=>h) SameC.refl
 | .v x,H,K,K',h=>h _ _ Fr.refl (fun _ h=>h) SameC.refl
 | .ptr o k,H,K,K',h=>h _ _ Fr.refl (fun _ h=>h) SameC.refl
 | .rptr o i k,H,K,K',h=>h _ _ Fr.refl (fun _ h=>h) SameC.refl
 | .cptr t x k,H,K,K',h=>h _ _ Fr.refl (fun _ h=>h) SameC.refl
 | .gptr g k,H,K,K',h=>h _ _ Fr.refl (fun _ h=>h) SameC.refl
 | .sp o,H,K,K',h=>h _ _ Fr.refl (fun _ h=>h) SameC.refl
 | .slc o k n c,H,K,K',h=>h _ _ Fr.refl (fun _ h=>h) SameC.refl
 | .cap0,H,K,K',h=>h _ _ Fr.refl (fun _ h=>h) SameC.refl
 | .z0,H,K,K',h=>h _ _ Fr.refl (fun _ h=>h) SameC.refl
theorem lendK_fr:∀(l:List (AV T)) (H:List (AObj T)) (K K':List (AV T)→List (AObj T)→Option R),(∀l' H',Fr (refsL l) H H'→(∀o∈refsL l',o∈refsL l)→SameC H H'→K l' H'=K' l' H')→lendK l H K=lendK l H K'
 |[],H,K,K',h=>h _ _ Fr.refl (fun _ h=>h) SameC.refl
 |x::l,H,K,K',h=>by
  simp only [lendK];refine lendK1_fr x H _ _ fun x' H1 h1 h2 h3=>lendK_fr l H1 _ _ fun l' H2 k1 k2 k3=>h _ _ ((h1.mono fun o ho=>by simp [refsL,ho]).trans (k1.mono fun o ho=>by simp [refsL,ho])) (fun o ho=> ?_) (h3.trans k3)
  simp only [refsL,List.mem_append]at ho⊢;exact ho.imp (h2 o) (k2 o)
end
theorem mem_addAll:∀(xs acc:List Nat) (o:Nat),o∈addAll acc xs↔o∈acc∨o∈xs
 |[],acc,o=>by simp [addAll]
 |x::xs,acc,o=>by
  have:addAll acc (x::xs)=addAll (bif acc.elem x then acc else acc++[x]) xs:=rfl;rw [this,mem_addAll xs];cases he:acc.elem x
  ·simp only [cond_false,List.mem_append,List.mem_cons,List.not_mem_nil,or_false]
   constructor
   ·rintro((h|h)|h)
    ·exact .inl h
    ·exact .inr (.inl h)
    ·exact .inr (.inr h)
   ·rintro(h|h|h)
    ·exact .inl (.inl h)
    ·exact .inl (.inr h)
    ·exact .inr h
  ·simp only [cond_true,List.mem_cons]
   have hx:x∈acc:=by simpa using he
   constructor
   ·rintro(h|h)
    ·exact .inl h
    ·exact .inr (.inr h)
   ·rintro(h|h|h)
    ·exact .inl h
    ·subst h;exact .inl hx
    ·exact .inr h
def refsAt(H:List (AObj T))(p o:Nat):Prop:=∃e g l,H[p]? =some (AObj.cells e g l)∧o∈refsL l
theorem mem_fold(o:Nat):∀(l acc:List Nat),o∈l.foldl (fun(acc:List Nat) (p:Nat)=>match H[p]? with|some (AObj.cells _ _ l)=>addAll acc (refsL l)|_ =>acc) acc↔o∈acc∨∃p∈l,refsAt H p o
 |[],acc=>by simp
 |p::l,acc=>by
  rw [List.foldl_cons,mem_fold o l];cases hp:H[p]? with
  |none=>simp [refsAt,hp]
  |some x=>
   cases x with
   |cells e g c=>
    simp only [mem_addAll,List.mem_cons,exists_eq_or_imp];have:refsAt H p o↔o∈refsL c:=⟨fun⟨_,_,_,h1,h2⟩=>by rw [hp]at h1;cases h1;exact h2,fun h=>⟨e,g,c,hp,h⟩⟩
    rw [this];constructor
    ·rintro((h|h)|h)
     ·exact .inl h
     ·exact .inr (.inl h)
     ·exact .inr (.inr h)
    ·rintro(h|h|h)
     ·exact .inl (.inl h)
     ·exact .inl (.inr h)
     ·exact .inr h
   |row t l m=>simp [refsAt,hp]
   |siter s q=>simp [refsAt,hp]
   |dead=>simp [refsAt,hp]
theorem reach_mono(hs:SameC H H'):∀(k:Nat) (A B:List Nat),(∀o∈A,o∈B)→∀o∈reach H' k A,o∈reach H k B
 |0,A,B,h=>h
 |k+1,A,B,h=>by
  unfold reach;refine reach_mono hs k _ _ fun o ho=> ?_
  refine(mem_fold (H:=H) o B B).2 ?_;rcases(mem_fold (H:=H') o A A).1 ho with ho|⟨p,hp,e,g,l,h1,h2⟩
  ·exact .inl (h o ho)
  ·exact .inr ⟨p,h p hp,e,g,l,hs p e g l h1,h2⟩
theorem reach_self:∀(k:Nat) (A:List Nat),∀o∈A,o∈reach H k A
 |0,A,o,h=>h
 |k+1,A,o,h=>by
  unfold reach;exact reach_self k _ o ((mem_fold o A A).2 (.inl h))
theorem callA_fr{Γ:Gam T}{g:FuncId}{args:List (AV T)}{S0:List Nat}(ha:∀o∈reach H 3 (addAll [] (refsL args)),o∈S0){K K' Kp:Kont T R}(h:∀x H' S,Framed S0 H H' S→K x H' S=K' x H' S):callA Γ g args H K Kp=callA Γ g args H K' Kp:=by
 have hself:∀o∈refsL args,o∈S0:=fun o ho=>ha o (reach_self 3 _ o ((mem_addAll _ _ _).2 (.inr ho)))
 have inner:∀(args':List (AV T)) (H1:List (AObj T)),Fr (refsL args) H H1→(∀o∈refsL args',o∈refsL args)→SameC H H1→
   (fun(S:List Nat)=>bif nodupB S&&closedB S H1&&withinL S args' then
    Γ g R (renL S.idxOf args') (subH S H1) fun
     | .ret x H2=>bif nilB S&&nilB H2 then K (ren (back S H1.length) x) H1 []else K (ren (back S H1.length) x) (merge S (rowsOf S H1) H1 H2) (rowsOf S H1)
     | .panic p H2=>Kp (ren (back S H1.length) p) (merge S (rowsOf S H1) H1 H2) (rowsOf S H1)
    else none) (reach H1 3 (addAll [] (refsL args')))=
   (fun(S:List Nat)=>bif nodupB S&&closedB S H1&&withinL S args' then
    Γ g R (renL S.idxOf args') (subH S H1) fun
     | .ret x H2=>bif nilB S&&nilB H2 then K' (ren (back S H1.length) x) H1 []else K' (ren (back S H1.length) x) (merge S (rowsOf S H1) H1 H2) (rowsOf S H1)
     | .panic p H2=>Kp (ren (back S H1.length) p) (merge S (rowsOf S H1) H1 H2) (rowsOf S H1)
    else none) (reach H1 3 (addAll [] (refsL args'))):=by
  intro args' H1 h1 h2 h3;have hsub:∀o∈reach H1 3 (addAll [] (refsL args')),o∈S0:=fun o ho=>ha o (reach_mono h3 3 _ _ (fun p hp=>by
   rw [mem_addAll]at hp⊢;exact hp.imp id (h2 p)) o ho)
  generalize reach H1 3 (addAll [] (refsL args'))=S at hsub;simp only;have hf:∀H2,rowsOf S H1=[]→Fr S0 H (merge S [] H1 H2):=fun H2 _ =>by
   refine⟨by unfold merge;simp only [List.length_append,List.length_map,List.length_range];have:=h1.len;omega,fun o ho hn=> ?_⟩;have ho1:o<H1.length:=Nat.lt_of_lt_of_le ho h1.len;have hS:S.elem o=false:=by
    cases he:S.elem o
    ·rfl
    ·exact(hn (hsub o (by simpa using he))).elim
   unfold merge;rw [List.getElem?_append_left (by simpa using ho1),List.getElem?_map,List.getElem?_range ho1,Option.map_some,hS,if_neg (by simp),List.getD_eq_getElem?_getD,List.getElem?_eq_getElem ho1,Option.getD_some,purgeO_nil,←List.getElem?_eq_getElem ho1];exact h1.get o ho fun hm=>hn (hself o hm)
  congr 2;funext out;cases out with
  |ret x H2=>
   simp only;cases nilB S&&nilB H2
   ·refine h _ _ _ fun hr=> ?_
    rw [hr];exact hf H2 hr
   ·exact h _ _ _ fun _ =>h1.mono hself
  |panic p H2=>rfl
 unfold callA lendB;cases Γ.own g
 ·exact lendK_fr args H _ _ fun args' H1 h1 h2 h3=>inner args' H1 h1 h2 h3
 ·exact inner args H Fr.refl (fun _ h=>h) SameC.refl
def touchA(H:List (AObj T))(env:Env T)(o:Oper):Option (List Nat):=
 match o.op with
 | .call {callee:= .value _,.. }=>some (reach H 3 (addAll [] (refsO env o)))
 | .call {callee:= .invoke _ _,.. }=>some (reach H 3 (addAll [] (refsO env o)))
 | .call {callee:= .builtin .unsafeSliceData,.. }=>some []
 |_ =>some (refsO env o)
theorem runX_fr{Γ:Gam T}{o:Oper}{env:Env T}{ds:Ds T}{S0:List Nat}(ht:touchA H env o=some S0){K K':KX T R}{Kp:KP T R}(h:∀x H' S ds',Framed S0 H H' S→K x H' S ds'=K' x H' S ds'):
  runX C P G Γ o env H ds K Kp=runX C P G Γ o env H ds K' Kp:=by
 have plain:touchA H env o=some (refsO env o)→evOp C P G o env H (fun x H S=>K x H S (purgeDs S ds)) (fun p H=>Kp env p H ds)=evOp C P G o env H (fun x H S=>K' x H S (purgeDs S ds)) (fun p H=>Kp env p H ds):=fun e=>by
  rw [e]at ht;cases ht;exact evOp_fr fun x H' S hf=>h _ _ _ _ hf
 unfold runX;split
 ·rename_i f args at_ hop
  unfold touchA at ht;rw [hop]at ht;simp only at ht;cases ht;have hsub:∀x∈f::args.toList,∀i∈refs (evO env x),i∈refsO env o:=fun x hx i hi=>by
   unfold refsO;rw [hop];exact List.mem_flatMap.2 ⟨x,by simpa [Op.operands,Call.operands] using hx,hi⟩
  split
  ·rename_i g first cap hf
   have h1:=hsub f (by simp);rw [hf]at h1;refine callA_fr (fun i hi=> ?_) fun x H' S hfr=>h _ _ _ _ hfr
   refine reach_mono SameC.refl 3 _ _ (fun p hp=> ?_) i hi;rw [mem_addAll]at hp⊢;refine hp.imp id fun hp=> ?_
   obtain⟨y,hy,hi'⟩:=mem_refsL.1 hp;simp only [List.mem_append,List.mem_map]at hy;rcases hy with(hy|⟨z,hz,rfl⟩)|hy
   ·exact h1 p (List.mem_append_left _ (mem_refsL.2 ⟨y,hy,hi'⟩))
   ·exact hsub z (by simp [hz]) p hi'
   ·exact h1 p (List.mem_append_right _ (mem_refsL.2 ⟨y,hy,hi'⟩))
  ·rfl
 ·rename_i f name args at_ hop
  unfold touchA at ht;rw [hop]at ht;simp only at ht;cases ht;have hsub:∀x∈f::args.toList,∀i∈refs (evO env x),i∈refsO env o:=fun x hx i hi=>by
   unfold refsO;rw [hop];exact List.mem_flatMap.2 ⟨x,by simpa [Op.operands,Call.operands] using hx,hi⟩
  split
  ·rename_i t x hf
   split
   ·rename_i g hg
    have h1:=hsub f (by simp);rw [hf]at h1;refine callA_fr (fun i hi=> ?_) fun x H' S hfr=>h _ _ _ _ hfr
    refine reach_mono SameC.refl 3 _ _ (fun p hp=> ?_) i hi;rw [mem_addAll]at hp⊢;refine hp.imp id fun hp=> ?_
    obtain⟨y,hy,hi'⟩:=mem_refsL.1 hp;rcases List.mem_cons.1 hy with rfl|hy
    ·exact h1 p hi'
    ·obtain⟨z,hz,rfl⟩:=List.mem_map.1 hy
     exact hsub z (by simp [hz]) p hi'
   ·rfl
  ·rfl
 ·split
  ·exact h _ _ _ _ fun _ =>Fr.refl
  ·rfl
 ·rename_i h1 h1b h2
  by_cases hsd:∃args at_,o.op= .call {callee:= .builtin .unsafeSliceData,args:=args,argTypes:=at_ }
  ·obtain⟨args,at_,hop⟩:=hsd
   unfold touchA at ht;rw [hop]at ht;cases ht;unfold evOp;rw [hop];simp only;unfold builtinA;split
   all_goals first|rfl|(rename_i heq _ _;cases heq;done)|skip
   all_goals first|exact sliceDataA_fr fun x H' S hf=>h _ _ _ _ hf|(rename_i heq;cases heq;done)|(rename_i heq _ _ _;cases heq;done)|(rename_i heq _;cases heq;done)
  ·refine plain ?_
   unfold touchA;split
   ·rename_i hop;exact(h1 _ _ _ hop).elim
   ·rename_i hop;exact(h1b _ _ _ _ hop).elim
   ·rename_i hop;exact(hsd ⟨_,_,hop⟩).elim
   ·rfl
def operX(C:Cdc T)(P:Program)(G:Nat→Option (List (V T)))(Γ:Gam T)(dsts:Nat→Option Nat)(o:Oper)(env:Env T)(H:List (AObj T))(ds:Ds T)(K:Env T→KX T R)(Kp:KP T R):Option R:=
 match o.guard with
 |none=>runX C P G Γ o env H ds (K env) Kp
 |some (j,want)=>match dsts j with
  |some t=>match env t with
   | .v (.b b)=>
    bif b then bif want then runX C P G Γ o (upd env t (.v (.b true))) H ds (K (upd env t (.v (.b true)))) Kp else K (upd env t (.v (.b true))) (.tup []) H [] ds
    else bif want then K (upd env t (.v (.b false))) (.tup []) H [] ds else runX C P G Γ o (upd env t (.v (.b false))) H ds (K (upd env t (.v (.b false)))) Kp
   | .tup []=>K env (.tup []) H [] ds
   |_ =>none
  |none=>none
theorem upd_self{env:Env T}{t:Nat}{x:AV T}(h:env t=x):upd env t x=env:=by
 funext u;unfold upd;cases hu:Nat.beq u t
 ·rfl
 ·have:=Nat.eq_of_beq_eq_true hu
  subst this;exact h.symm
theorem yielded_rep{ops:Array Oper}{dsts:Nat→Option Nat}(hd:∀j,dsts j=(ops[j]?).bind (·.dst)){a:Act}{j t:Nat}{b:Bool}(ht:dsts j=some t)(hv:a.tmps.getD t undef= .bool b):yielded ops a.tmps j=some b:=by
 have hlt:t<a.tmps.size:=by
  rcases Nat.lt_or_ge t a.tmps.size with h|h
  ·exact h
  ·rw [Array.getD_eq_getD_getElem?,Array.getElem?_eq_none h]at hv;cases hv
 have hget:a.tmps[t]? =some (.bool b):=by
  rw [Array.getD_eq_getD_getElem?,Array.getElem?_eq_getElem hlt]at hv;rw [Array.getElem?_eq_getElem hlt]
  simpa using hv
 unfold yielded;rw [←hd,ht];simp only [Option.bind_some,hget]
theorem wanted_guard{o:Oper}{j:Nat}{want b:Bool}(hg:o.guard=some (j,want)){f:Nat→Option Bool}(hy:f j=some b):Region.wanted o f=(b==want):=by
 simp only [Region.wanted,hg,hy];cases b<;>cases want<;>rfl
theorem operX_cases{Γ:Gam T}{n:Nat}{B:Base T}{env:Env T}{ds:Ds T}{a:Act}(st:St C G n B σ env H ds a w){ops:Array Oper}{dsts:Nat→Option Nat}(hd:∀j,dsts j=(ops[j]?).bind (·.dst)){o:Oper}{K:Env T→KX T R}{Kp:KP T R}{r:R}
  (h:operX C P G Γ dsts o env H ds K Kp=some r):
  (Region.wanted o (yielded ops a.tmps)=true∧runX C P G Γ o env H ds (K env) Kp=some r)∨(Region.wanted o (yielded ops a.tmps)=false∧K env (.tup []) H [] ds=some r):=by
 unfold operX at h;split at h
 ·rename_i hg
  exact .inl ⟨by simp [Region.wanted,hg],h⟩
 ·rename_i j want hg
  split at h
  ·rename_i t ht
   split at h
   ·rename_i b hb
    have hv:=st.env t;rw [hb]at hv;have hw:=wanted_guard hg (yielded_rep hd ht (rep_b hv));rw [hw];cases b<;>cases want<;>simp only [cond_true,cond_false]at h<;>rw [upd_self hb]at h
    ·exact .inl ⟨rfl,h⟩
    ·exact .inr ⟨rfl,h⟩
    ·exact .inr ⟨rfl,h⟩
    ·exact .inl ⟨rfl,h⟩
   ·rename_i hb
    have hv:=st.env t;rw [hb]at hv;exact .inr ⟨wanted_undef hg (yielded_undef hd ht (undef_rep hv)),h⟩
   ·cases h
  ·cases h
end Go.Proofs.YtdoifigogbdodaaGreatDoor.Ev

namespace Go.Proofs.YtdoifigogbdodaaGreatDoor.Ev
open Go
variable {T:Nat→Type} {C:Cdc T} {P:Program} {σ:Lk} {H H':List (AObj T)} {w:World} {G:Nat→Option (List (V T))} {R:Type}
def edge(e:Edge):Bool:=Region.binds .any e
def direct(o:Oper)(j:Nat):Bool:=o.after.toList.any fun e=>edge e&&Nat.beq e.on j
def clo(ops:List Oper):Nat→Oper→Nat→Bool
 |0,o,j=>direct o j
 |k+1,o,j=>direct o j||o.after.toList.any fun e=>edge e&&match ops[e.on]? with|some o'=>clo ops k o' j|none=>false
def looks(dsts:Nat→Option Nat)(o:Oper):List Nat:=
 (o.op.operands.toList.filterMap fun| .tmp t=>some t|_ =>none)++(match o.guard with|some (g,_)=>(dsts g).toList|none=>[])
def noDst(d:Option Nat)(l:List Nat):Bool:=match d with|some d=> !l.elem d|none=>true
def eqDst(a b:Option Nat):Bool:=match a,b with|some a,some b=>Nat.beq a b|_,_ =>false
def pairOk(dsts:Nat→Option Nat)(x y:Oper)(i:Nat)(q:Bool):Bool:=
 (direct y i||(noDst x.dst (looks dsts y)&&noDst y.dst (looks dsts x)&& !eqDst x.dst y.dst))&&(!q||(noDst y.dst (looks dsts x)&& !eqDst x.dst y.dst))
def isSel(o:Oper):Bool:=match o.op with| .select _ _ =>true|_ =>false
def chk(ops:List Oper)(dsts:Nat→Option Nat):List (Nat×Bool)→List (Nat×Bool)→Bool
 |_,[]=>true
 |taken,(i,q)::rest=>match ops[i]? with
  |none=>false
  |some o=> !isSel o&& !taken.any (fun p=>Nat.beq p.1 i)&&o.after.toList.all (fun e=> !edge e||taken.any fun p=>Nat.beq p.1 e.on)&&
   taken.all (fun p=>match ops[p.1]? with|some x=>pairOk dsts x o p.1 q|none=>false)&&
   (!q||noDst o.dst (looks dsts o))&&
   (q||rest.all fun p=>match ops[p.1]? with|some o'=>o'.after.toList.any (fun e=>edge e&& !taken.any fun p=>Nat.beq p.1 e.on)|none=>false)&&
   chk ops dsts ((i,q)::taken) rest
structure ChkAt(ops:Array Oper)(dsts:Nat→Option Nat)(taken:List (Nat×Bool))(i:Nat)(q:Bool)(rest:List (Nat×Bool))(o:Oper):Prop where
 at_ :ops[i]? =some o
 sel:∀cs b,o.op≠.select cs b
 new:∀p∈taken,p.1≠i
 edges:∀e∈o.after,Region.binds .any e=true→∃p∈taken,p.1=e.on
 pair:∀p∈taken,∃x,ops[p.1]? =some x∧pairOk dsts x o p.1 q=true
 self:q=true→noDst o.dst (looks dsts o)=true
 lone:q=false→∀p∈rest,∃o',ops[p.1]? =some o'∧∃e∈o'.after,Region.binds .any e=true∧∀p∈taken,p.1≠e.on
theorem any_beq{taken:List (Nat×Bool)}{i:Nat}:(taken.any fun p=>Nat.beq p.1 i)=true↔∃p∈taken,p.1=i:=by
 rw [List.any_eq_true];constructor
 ·rintro⟨p,hp,h⟩;exact⟨p,hp,Nat.eq_of_beq_eq_true h⟩
 ·rintro⟨p,hp,rfl⟩;exact⟨p,hp,by simp⟩
theorem chk_cons{ops:Array Oper}{dsts:Nat→Option Nat}{taken:List (Nat×Bool)}{i:Nat}{q:Bool}{rest:List (Nat×Bool)}(h:chk ops.toList dsts taken ((i,q)::rest)=true):
  (∃o,ChkAt ops dsts taken i q rest o)∧chk ops.toList dsts ((i,q)::taken) rest=true:=by
 unfold chk at h;split at h
 ·cases h
 ·rename_i o ho
  simp only [Bool.and_eq_true]at h;obtain⟨⟨⟨⟨⟨⟨h1,h2⟩,h3⟩,h4⟩,h7⟩,h5⟩,h6⟩:=h;refine⟨⟨o,by simpa using ho,fun cs b e=>by simp [isSel,e]at h1,fun p hp e=> ?_,fun e he hb=> ?_,fun p hp=> ?_,fun hq=>by rw [hq]at h7;simpa using h7,fun hq p hp=> ?_⟩,h6⟩
  ·have:(taken.any fun p=>Nat.beq p.1 i)=true:=any_beq.2 ⟨p,hp,e⟩
   rw [this]at h2;cases h2
  ·have:=List.all_eq_true.1 h3 e (Array.mem_toList_iff.2 he)
   rw [show edge e=true from hb]at this;exact any_beq.1 (by simpa using this)
  ·have:=List.all_eq_true.1 h4 p hp
   split at this
   ·rename_i x hx;exact⟨x,by simpa using hx,this⟩
   ·cases this
  ·rw [hq,Bool.false_or]at h5
   have:=List.all_eq_true.1 h5 p hp;split at this
   ·rename_i o' ho'
    obtain⟨e,he,h7⟩:=List.any_eq_true.1 this;rw [Bool.and_eq_true]at h7;refine⟨o',by simpa using ho',e,Array.mem_toList_iff.1 he,h7.1,fun p' hp' e'=> ?_⟩;have h8:(taken.any fun p=>Nat.beq p.1 e.on)=true:=any_beq.2 ⟨p',hp',e'⟩;rw [h8]at h7;cases h7.2
   ·cases this
theorem looks_eq{ops:Array Oper}{dsts:Nat→Option Nat}(hd:∀j,dsts j=(ops[j]?).bind (·.dst))(o:Oper):looks dsts o=o.looksAt ops:=by
 unfold looks Oper.looksAt;congr 1;cases o.guard with
 |none=>rfl
 |some g=>simp only;rw [hd]
theorem noDst_spec{d:Option Nat}{l:List Nat}(h:noDst d l=true):∀t,d=some t→t∉l:=by
 rintro t rfl hm;simp [noDst,hm]at h
theorem eqDst_spec{a b:Option Nat}(h:eqDst a b=false):∀t,a=some t→b≠some t:=by
 rintro t rfl rfl;simp [eqDst]at h
theorem direct_spec{o:Oper}{j:Nat}(h:direct o j=true):∃e∈o.after,Region.binds .any e=true∧e.on=j:=by
 obtain⟨e,he,h1⟩:=List.any_eq_true.1 h;rw [Bool.and_eq_true]at h1;exact⟨e,Array.mem_toList_iff.1 he,h1.1,Nat.eq_of_beq_eq_true h1.2⟩
def quietA(C:Cdc T)(P:Program)(G:Nat→Option (List (V T)))(dsts:Nat→Option Nat)(o:Oper)(env:Env T)(H:List (AObj T))(K:Env T→AV T→List Nat→Option R):Option R:=
 match o.guard with
 |none=>bif quietB P env o then evOp C P G o env H (fun x _ _ =>K env x (refsO env o)) (fun _ _ =>none)else none
 |some (j,want)=>match dsts j with
  |some t=>match env t with
   | .v (.b b)=>
    bif b then bif want then(bif quietB P (upd env t (.v (.b true))) o then evOp C P G o (upd env t (.v (.b true))) H (fun x _ _ =>K (upd env t (.v (.b true))) x (refsO (upd env t (.v (.b true))) o)) (fun _ _ =>none)else none)else K (upd env t (.v (.b true))) (.tup []) []
    else bif want then K (upd env t (.v (.b false))) (.tup []) []else(bif quietB P (upd env t (.v (.b false))) o then evOp C P G o (upd env t (.v (.b false))) H (fun x _ _ =>K (upd env t (.v (.b false))) x (refsO (upd env t (.v (.b false))) o)) (fun _ _ =>none)else none)
   | .tup []=>K env (.tup []) []
   |_ =>none
  |none=>none
abbrev Pend:=List (Nat×List Nat×List Nat)
def touchOk(t:Option (List Nat))(D:List Nat):Bool:=match t with|some S=>D.all fun o=> !S.elem o|none=>nilB D
def putA(dst:Option Nat)(n:Nat)(env:Env T)(x:AV T)(S:List Nat)(K:Env T→Option R):Option R:=
 match dst with
 |some d=>bif Nat.blt d n then K (upd (penv S env) d x)else none
 |none=>K (penv S env)
def maskE(ops:List Oper)(env:Env T):Env T:=fun t=>bif ops.any (fun o=>match o.dst with|some d=>Nat.beq d t|none=>false)then .any else env t
def drawL(C:Cdc T)(P:Program)(G:Nat→Option (List (V T)))(Γ:Gam T)(n:Nat)(ops:List Oper)(dsts:Nat→Option Nat):List (Nat×Bool)→Pend→Env T→List (AObj T)→Ds T→KS T R→KP T R→Option R
 |[],_,env,H,ds,K,_ =>K env H ds
 |(i,q)::rest,pend,env,H,ds,K,Kp=>match ops[i]? with
  |none=>none
  |some o=>bif q then match o.dst with
    |some d=>bif Nat.blt d n then quietA C P G dsts o env H fun env x D=>drawL C P G Γ n ops dsts rest ((i,(bif heapB o then D else []),refs x++D)::pend) (upd env d x) H ds K Kp else none
    |none=>none
   else bif pend.all (fun p=>clo ops 40 o p.1||touchOk (touchA H env o) p.2.1)then
    operX C P G Γ dsts o env H ds (fun env x H S ds=>bif nilB S||pend.all (fun p=>clo ops 40 o p.1||(nilB p.2.1&&nilB p.2.2))then
     putA o.dst n env x S fun env=>drawL C P G Γ n ops dsts rest pend env H ds K Kp else none) (fun env=>Kp (maskE ops env))
   else none
def dstOf(ops:Array Oper)(i:Nat):Option Nat:=(ops[i]?).bind (·.dst)
structure Agr(ops:Array Oper)(Pd:Nat→Prop)(a b:Act):Prop where
 size:b.tmps.size=a.tmps.size
 defers:b.defers=a.defers
 slot:∀t,(∀i,Pd i→dstOf ops i≠some t)→b.tmps.getD t undef=a.tmps.getD t undef
theorem Agr.refl{ops:Array Oper}{Pd:Nat→Prop}{a:Act}:Agr ops Pd a a:=⟨rfl,rfl,fun _ _ =>rfl⟩
theorem put_getD(a:Act)(d:Option Nat)(v:Value)(t:Nat):(a.put d v).tmps.getD t undef=if d=some t∧t<a.tmps.size then v else a.tmps.getD t undef:=by
 cases d with
 |none=>simp [Act.put]
 |some d=>
  by_cases h:d=t
  ·subst h
   by_cases hl:d<a.tmps.size
   ·simp [Act.put,hl]
   ·simp [Act.put,hl]
  ·simp [Act.put,Array.getElem?_setIfInBounds_ne h,h]
theorem put_size(a:Act)(d:Option Nat)(v:Value):(a.put d v).tmps.size=a.tmps.size:=by cases d<;>simp [Act.put]
theorem put_defers(a:Act)(d:Option Nat)(v:Value):(a.put d v).defers=a.defers:=by cases d<;>rfl
theorem Agr.put{ops:Array Oper}{Pd:Nat→Prop}{a b:Act}(h:Agr ops Pd a b)(d:Option Nat)(v:Value)(dd:List Deferred):Agr ops Pd ({a with defers:=dd}.put d v) ({b with defers:=dd}.put d v):=
 ⟨by rw [put_size,put_size];exact h.size,by rw [put_defers,put_defers],fun t ht=>by rw [put_getD,put_getD];simp only [h.size,h.slot t ht]⟩
theorem Agr.eval{ops:Array Oper}{Pd:Nat→Prop}{a b:Act}(h:Agr ops Pd a b){o:Oper}(hl:∀t∈o.looksAt ops,∀i,Pd i→dstOf ops i≠some t):(∀x∈o.op.operands,b.eval x=a.eval x)∧Region.wanted o (yielded ops b.tmps)=Region.wanted o (yielded ops a.tmps):=by
 constructor
 ·intro x hx
  cases x with
  |tmp t=>exact h.slot t (hl t (List.mem_append_left _ (List.mem_filterMap.2 ⟨.tmp t,by simpa using hx,rfl⟩)))
  |_ =>rfl
 ·unfold Region.wanted
  cases hg:o.guard with
  |none=>rfl
  |some gw=>
   obtain⟨g,want⟩:=gw;have hy:yielded ops b.tmps g=yielded ops a.tmps g:=by
    unfold yielded;cases ht:(ops[g]?).bind (·.dst)with
    |none=>rfl
    |some t=>
     have hs:=h.slot t (hl t (by simp [Oper.looksAt,hg,ht]));have hz:=h.size;simp only [Option.bind_some];rcases Nat.lt_or_ge t a.tmps.size with hlt|hge
     ·have hlt':t<b.tmps.size:=by rw [hz];exact hlt
      rw [Array.getD_eq_getD_getElem?,Array.getD_eq_getD_getElem?,Array.getElem?_eq_getElem hlt,Array.getElem?_eq_getElem hlt']at hs;rw [Array.getElem?_eq_getElem hlt,Array.getElem?_eq_getElem hlt'];simp only [Option.getD_some]at hs;rw [hs]
     ·rw [Array.getElem?_eq_none hge,Array.getElem?_eq_none (by rw [hz];exact hge)]
   simp only [hy]
theorem wp_agr{ops:Array Oper}{Pd:Nat→Prop}{a b:Act}(h:Agr ops Pd a b){o:Oper}(hsel:∀cs b,o.op≠.select cs b)(hl:∀t∈o.looksAt ops,∀i,Pd i→dstOf ops i≠some t)
  {next next':Act→World→Prop} {Q:Exit→Act→World→Prop} (hn:∀a' b' w',Agr ops Pd a' b'→next' a' w'→next b' w')
  (hw:o.wp P a w next' (fun e a' w'=>∀b',Agr ops Pd a' b'→Q e b' w')):o.wp P b w next Q:=by
 have he:execOp b.eval o=execOp a.eval o:=execOp_congr o hsel (h.eval hl).1;have hput:∀d v,Agr ops Pd (a.put d v) (b.put d v):=fun d v=>by
  have:=h.put d v a.defers;have e1:({a with defers:=a.defers}:Act)=a:=rfl;have e2:({b with defers:=a.defers}:Act)=b:=by rw [←h.defers]
  rwa [e1,e2]at this
 unfold Oper.wp at*;rw [he];generalize (execOp a.eval o).run P w=r at*;cases r with
 |ok n w'=>
  cases n<;>simp only [Oper.upon]at hw⊢
  case value u=>exact hn _ _ _ (hput _ _) hw
  case skip=>exact hn _ _ _ (hput _ _) hw
  case defer d=>exact hn _ _ _ (by rw [h.defers];exact h.put _ _ _) hw
  case enter f args=>
   refine Calls.mono hw fun e w'' he=> ?_
   cases e with
   |returned u=>exact hn _ _ _ (hput _ _) he
   |panicked c=>exact he _ h
   |outgrown=>obtain⟨a',w3,h3⟩:=he;exact⟨a',w3,h3 _ Agr.refl⟩
  case row row args=>exact Go.Rows.mono hw fun u w'' he=>hn _ _ _ (hput _ _) he
 |halt x w'=>
  cases x<;>simp only [Oper.upon]at hw⊢
  case panic u=>exact hw _ h
end Go.Proofs.YtdoifigogbdodaaGreatDoor.Ev

namespace Go.Proofs.YtdoifigogbdodaaGreatDoor.Ev
open Go
variable {T:Nat→Type} {C:Cdc T} {P:Program} {σ:Lk} {H H':List (AObj T)} {w:World} {G:Nat→Option (List (V T))} {R:Type}
def gw(dsts:Nat→Option Nat)(o:Oper)(env:Env T)(b:Bool):Prop:=
 match o.guard with
 |none=>b=true
 |some (j,want)=>∃t,dsts j=some t∧((∃c,env t= .v (.b c)∧(c==want)=b)∨(env t= .tup []∧b=false))
theorem gw_wanted{ops:Array Oper}{dsts:Nat→Option Nat}(hd:∀j,dsts j=(ops[j]?).bind (·.dst)){o:Oper}{env:Env T}{b:Bool}{a:Act}(h:gw dsts o env b)(he:RepE C σ H w env a):
  Region.wanted o (yielded ops a.tmps)=b:=by
 unfold gw at h;split at h
 ·rename_i hg;subst h;simp [Region.wanted,hg]
 ·rename_i j want hg
  obtain⟨t,h1,⟨c,h2,h3⟩|⟨h2,h3⟩⟩:=h
  ·have hv:=he t
   rw [h2]at hv;rw [wanted_guard hg (yielded_rep hd h1 (rep_b hv)),h3]
  ·have hv:=he t
   rw [h2]at hv;rw [wanted_undef hg (yielded_undef hd h1 (undef_rep hv)),h3]
structure QR(C:Cdc T)(P:Program)(G:Nat→Option (List (V T)))(dsts:Nat→Option Nat)(o:Oper)(env:Env T)(H:List (AObj T))(x:AV T)(D:List Nat):Prop where
 run:(gw dsts o env true∧refsO env o=D∧quietB P env o=true∧evOp C P G o env H ret3 (fun _ _ =>none)=some (x,H,[]))∨(gw dsts o env false∧x= .tup []∧D=[])
theorem guard_looks{dsts:Nat→Option Nat}{o:Oper}{j t:Nat}{want:Bool}(hg:o.guard=some (j,want))(ht:dsts j=some t):t∈looks dsts o:=by
 simp [looks,hg,ht]
theorem operand_looks{dsts:Nat→Option Nat}{o:Oper}{t:Nat}(h:Operand.tmp t∈o.op.operands):t∈looks dsts o:=
 List.mem_append_left _ (List.mem_filterMap.2 ⟨.tmp t,by simpa using h,rfl⟩)
theorem gw_congr{dsts:Nat→Option Nat}{o:Oper}{env env':Env T}{b:Bool}(h:∀t,t∈looks dsts o→refs (env t)=[]→env' t=env t)(hg:gw dsts o env b):gw dsts o env' b:=by
 unfold gw at*;split at hg
 ·exact hg
 ·rename_i j want hj
  obtain⟨t,h1,⟨c,h2,h3⟩|⟨h2,h3⟩⟩:=hg
  ·exact⟨t,h1,.inl ⟨c,(h t (guard_looks hj h1) (by rw [h2];rfl)).trans h2,h3⟩⟩
  ·exact⟨t,h1,.inr ⟨(h t (guard_looks hj h1) (by rw [h2];rfl)).trans h2,h3⟩⟩
theorem refsO_congr{o:Oper}{env env':Env T}(h:∀x∈o.op.operands,evO env x=evO env' x):refsO env o=refsO env' o:=by
 unfold refsO;rw [List.flatMap_def,List.flatMap_def];congr 1;exact List.map_congr_left fun x hx=>by rw [h x (Array.mem_toList_iff.1 hx)]
theorem QR.congr{dsts:Nat→Option Nat}{o:Oper}{env env':Env T}{x:AV T}{D:List Nat}(h:QR C P G dsts o env H x D)
  (h1:∀t,t∈looks dsts o→refs (env t)=[]→env' t=env t) (h2:refsO env o=D→∀x∈o.op.operands,evO env x=evO env' x):QR C P G dsts o env' H x D:=by
 rcases h.run with⟨k1,k2,k3,k4⟩|⟨k1,k2,k3⟩
 ·have h2:=h2 k2
  exact⟨.inl ⟨gw_congr h1 k1,(refsO_congr h2).symm.trans k2,by rw [←quietB_congr h2];exact k3,by rw [←evOp_congr h2];exact k4⟩⟩
 ·exact⟨.inr ⟨gw_congr h1 k1,k2,k3⟩⟩
theorem QR.heap{dsts:Nat→Option Nat}{o:Oper}{env:Env T}{x:AV T}{D:List Nat}(h:QR C P G dsts o env H x D)(hs:heapB o=true→Same D H H'):QR C P G dsts o env H' x D:=by
 rcases h.run with⟨k1,k2,k3,k4⟩|h
 ·refine⟨.inl ⟨k1,k2,k3, ?_⟩⟩
  rw [evOp_h k3 (fun hb=>by rw [k2];exact hs hb),k4];rfl
 ·exact⟨.inr h⟩
theorem QR.upd{dsts:Nat→Option Nat}{o:Oper}{env:Env T}{x y:AV T}{D:List Nat}{u:Nat}(h:QR C P G dsts o env H x D)(hu:u∉looks dsts o):QR C P G dsts o (Ev.upd env u y) H x D:=by
 have hne:∀t,t∈looks dsts o→Ev.upd env u y t=env t:=fun t ht=>by
  unfold Ev.upd;cases hb:Nat.beq t u
  ·rfl
  ·have:=Nat.eq_of_beq_eq_true hb
   subst this;exact(hu ht).elim
 refine h.congr (fun t ht _ =>hne t ht) fun _ x hx=> ?_
 cases x with
 |tmp t=>exact(hne t (operand_looks hx)).symm
 |_ =>rfl
mutual
theorem purge_norefs(S:List Nat):∀(x:AV T),refs x=[]→purge S x=x
 | .any,_ | .v _,_ | .cptr _ _ _,_ | .gptr _ _,_ | .cap0,_ | .z0,_ =>rfl
 | .agg l,h=>congrArg AV.agg (purge_norefsL S l h)
 | .tup l,h=>congrArg AV.tup (purge_norefsL S l h)
 | .ptr o off,h| .rptr o i off,h| .own o,h| .sp o,h| .slc o a b c,h=>by cases h
 | .fn f a b,h=>by
  have h':=List.append_eq_nil_iff.1 (show refsL a++refsL b=[]from h)
  show AV.fn f (purgeL S a) (purgeL S b)=_;rw [purge_norefsL S a h'.1,purge_norefsL S b h'.2]
 | .ifc t x,h=>congrArg (AV.ifc t) (purge_norefs S x h)
theorem purge_norefsL(S:List Nat):∀(l:List (AV T)),refsL l=[]→purgeL S l=l
 |[],_ =>rfl
 |x::l,h=>by
  have h':=List.append_eq_nil_iff.1 (show refs x++refsL l=[]from h)
  show purge S x::purgeL S l=_;rw [purge_norefs S x h'.1,purge_norefsL S l h'.2]
end
theorem penv_same{S:List Nat}{env:Env T}{t:Nat}(h:refs (env t)=[]):penv S env t=env t:=by
 cases S with
 |nil=>rfl
 |cons a l=>exact purge_norefs _ _ h
theorem QR.purge{dsts:Nat→Option Nat}{o:Oper}{env:Env T}{x:AV T}{D S:List Nat}(h:QR C P G dsts o env H x D)(hs:S=[]∨D=[]):QR C P G dsts o (penv S env) H x D:=by
 rcases hs with rfl|rfl
 ·exact h
 ·refine h.congr (fun t ht hb=>penv_same hb) fun hD x hx=> ?_
  cases x with
  |tmp t=>
   refine(penv_same (S:=S) (env:=env) ?_).symm;refine List.eq_nil_iff_forall_not_mem.2 fun i hi=> ?_
   have:i∈refsO env o:=List.mem_flatMap.2 ⟨.tmp t,Array.mem_toList_iff.2 hx,hi⟩;rw [hD]at this;cases this
  |_ =>rfl
mutual
theorem refs_below{n:Nat}:∀(x:AV T),below n x=true→∀o∈refs x,o<n
 | .any,_,o,h| .v _,_,o,h| .cptr _ _ _,_,o,h| .gptr _ _,_,o,h| .cap0,_,o,h| .z0,_,o,h=>by cases h
 | .agg l,hb,o,h=>refs_belowL l hb o h
 | .tup l,hb,o,h=>refs_belowL l hb o h
 | .ptr p off,hb,o,h| .rptr p i off,hb,o,h| .own p,hb,o,h| .sp p,hb,o,h| .slc p a b c,hb,o,h=>by
  have:o=p:=by simpa [refs] using h
  subst this;exact Nat.le_of_ble_eq_true hb
 | .fn f a b,hb,o,h=>by
  have h':(belowL n a&&belowL n b)=true:=hb;rw [Bool.and_eq_true]at h';rcases List.mem_append.1 (show o∈refsL a++refsL b from h)with h|h
  ·exact refs_belowL a h'.1 o h
  ·exact refs_belowL b h'.2 o h
 | .ifc t x,hb,o,h=>refs_below x hb o h
theorem refs_belowL{n:Nat}:∀(l:List (AV T)),belowL n l=true→∀o∈refsL l,o<n
 |[],_,o,h=>by cases h
 |x::l,hb,o,h=>by
  have h':(below n x&&belowL n l)=true:=hb;rw [Bool.and_eq_true]at h';rcases List.mem_append.1 (show o∈refs x++refsL l from h)with h|h
  ·exact refs_below x h'.1 o h
  ·exact refs_belowL l h'.2 o h
end
theorem QR.lt{dsts:Nat→Option Nat}{o:Oper}{env:Env T}{x:AV T}{D:List Nat}(h:QR C P G dsts o env H x D){a:Act}(he:RepE C σ H w env a):∀i∈D,i<H.length:=by
 rcases h.run with⟨_,k2,_⟩|⟨_,_,k3⟩
 ·subst k2
  intro i hi;obtain⟨y,hy,hi'⟩:=List.mem_flatMap.1 hi;exact refs_below _ (below_of_rep _ _ (rep_evO he y)) i hi'
 ·subst k3;intro i hi;cases hi
theorem quietA_ok(hC:CdcOk C){dsts:Nat→Option Nat}{ops:Array Oper}(hd:∀j,dsts j=(ops[j]?).bind (·.dst)){o:Oper}{env:Env T}{a:Act}(hR:Rp C σ H w G)(he:RepE C σ H w env a){K:Env T→AV T→List Nat→Option R}{r:R}
  (h:quietA C P G dsts o env H K=some r):∃x D v,K env x D=some r∧QR C P G dsts o env H x D∧RepA C σ H w x v:=by
 have run:gw dsts o env true→(bif quietB P env o then evOp C P G o env H (fun x _ _ =>K env x (refsO env o)) (fun _ _ =>none)else none)=some r→∃x D v,K env x D=some r∧QR C P G dsts o env H x D∧RepA C σ H w x v:=by
  intro hg h;cases hq:quietB P env o
  ·rw [hq]at h;cases h
  ·rw [hq,cond_true]at h
   obtain⟨z,h1,h2⟩:=evOp_nat hq h;obtain⟨x,v,h3,h4,h5⟩:=evOp_q hC hR he h1 hq;cases h3;exact⟨x,_,v,h2,⟨.inl ⟨hg,rfl,hq,h1⟩⟩,h5⟩
 have skip:gw dsts o env false→K env (.tup []) []=some r→∃x D v,K env x D=some r∧QR C P G dsts o env H x D∧RepA C σ H w x v:=
  fun hg h=>⟨.tup [],[],undef,h,⟨.inr ⟨hg,rfl,rfl⟩⟩,rep_undef⟩
 unfold quietA at h;split at h
 ·rename_i hg
  exact run (by unfold gw;rw [hg]) h
 ·rename_i j want hg
  split at h
  ·rename_i t ht
   split at h
   ·rename_i b hb
    have hgw:gw dsts o env (b==want):=by unfold gw;rw [hg];exact⟨t,ht,.inl ⟨b,hb,rfl⟩⟩
    cases b<;>cases want<;>simp only [cond_true,cond_false,upd_self hb]at h
    ·exact run hgw h
    ·exact skip hgw h
    ·exact skip hgw h
    ·exact run hgw h
   ·rename_i hb
    exact skip (by unfold gw;rw [hg];exact⟨t,ht,.inr ⟨hb,rfl⟩⟩) h
   ·cases h
  ·cases h
theorem QR.exec(hC:CdcOk C){dsts:Nat→Option Nat}{ops:Array Oper}(hd:∀j,dsts j=(ops[j]?).bind (·.dst)){o:Oper}{env:Env T}{a:Act}(hR:Rp C σ H w G)(he:RepE C σ H w env a){x:AV T}{D:List Nat}
  (h:QR C P G dsts o env H x D):(Region.wanted o (yielded ops a.tmps)=true∧∃v,(execOp a.eval o).run P w= .ok (.value v) w∧RepA C σ H w x v)∨(Region.wanted o (yielded ops a.tmps)=false∧RepA C σ H w x undef):=by
 rcases h.run with⟨k1,k2,k3,k4⟩|⟨k1,k2,k3⟩
 ·obtain⟨y,v,h3,h4,h5⟩:=evOp_q hC hR he k4 k3
  cases h3;exact .inl ⟨gw_wanted hd k1 he,v,h4,h5⟩
 ·subst k2;exact .inr ⟨gw_wanted hd k1 he,rep_undef⟩
end Go.Proofs.YtdoifigogbdodaaGreatDoor.Ev

namespace Go.Proofs.YtdoifigogbdodaaGreatDoor.Ev
open Go
variable {T:Nat→Type} {C:Cdc T} {P:Program} {σ:Lk} {H H':List (AObj T)} {w:World} {G:Nat→Option (List (V T))} {R:Type}
def PairR(ops:Array Oper)(dsts:Nat→Option Nat)(later earlier:Nat×Bool):Prop:=
 earlier.1≠later.1∧∃x y,ops[earlier.1]? =some x∧ops[later.1]? =some y∧pairOk dsts x y earlier.1 later.2=true
def Topo(ops:Array Oper):List (Nat×Bool)→Prop
 |[]=>True
 |p::rest=>(∃o,ops[p.1]? =some o∧(∀cs b,o.op≠.select cs b)∧∀e∈o.after,Region.binds .any e=true→∃q∈rest,q.1=e.on)∧Topo ops rest
theorem Topo.get{ops:Array Oper}:∀{l:List (Nat×Bool)},Topo ops l→∀p∈l,∃o,ops[p.1]? =some o∧(∀cs b,o.op≠.select cs b)∧∀e∈o.after,Region.binds .any e=true→∃q∈l,q.1=e.on
 |[],_,p,hp=>by cases hp
 |a::l,⟨⟨o,h1,h2,h3⟩,ht⟩,p,hp=>by
  rcases List.mem_cons.1 hp with rfl|hp
  ·exact⟨o,h1,h2,fun e he hb=>by obtain⟨q,hq,e'⟩:=h3 e he hb;exact⟨q,List.mem_cons_of_mem _ hq,e'⟩⟩
  ·obtain⟨o',k1,k2,k3⟩:=Topo.get ht p hp
   exact⟨o',k1,k2,fun e he hb=>by obtain⟨q,hq,e'⟩:=k3 e he hb;exact⟨q,List.mem_cons_of_mem _ hq,e'⟩⟩
theorem Topo.first{ops:Array Oper}{Pd:List Nat}:∀{l:List (Nat×Bool)},Topo ops l→(∃p∈l,p.1∈Pd)→∃p∈l,p.1∈Pd∧∃o,ops[p.1]? =some o∧∀e∈o.after,Region.binds .any e=true→e.on∉Pd∧∃q∈l,q.1=e.on
 |[],_,⟨p,hp,_⟩=>by cases hp
 |a::l,⟨⟨o,h1,h2,h3⟩,ht⟩,⟨p,hp,hpd⟩=>by
  by_cases hl:∃p∈l,p.1∈Pd
  ·obtain⟨q,hq,k1,o',k2,k3⟩:=Topo.first ht hl
   exact⟨q,List.mem_cons_of_mem _ hq,k1,o',k2,fun e he hb=>by
    obtain⟨q1,q2,q3,q4⟩:=k3 e he hb;exact⟨q1,q2,List.mem_cons_of_mem _ q3,q4⟩⟩
  ·rcases List.mem_cons.1 hp with rfl|hp
   ·exact⟨p,by simp,hpd,o,h1,fun e he hb=>by
     obtain⟨q,hq,e'⟩:=h3 e he hb;exact⟨fun hm=>hl ⟨q,hq,e'▸hm⟩,q,List.mem_cons_of_mem _ hq,e'⟩⟩
   ·exact(hl ⟨p,hp,hpd⟩).elim
structure DI(C:Cdc T)(P:Program)(G:Nat→Option (List (V T)))(n:Nat)(B:Base T)(ops:Array Oper)(dsts:Nat→Option Nat)(σ:Lk)(as:Act)(taken:List (Nat×Bool))(pend:Pend)(Pd:List Nat)(listed:Array Bool)
  (env:Env T) (H:List (AObj T)) (ds:Ds T) (a:Act) (w:World):Prop where
 st:St C G n B σ env H ds as w
 agr:Agr ops (· ∈Pd) as a
 pd:∀i∈Pd,(i,true)∈taken∧∃o d D,ops[i]? =some o∧o.dst=some d∧d<n∧(i,(bif heapB o then D else []),refs (env d)++D)∈pend∧QR C P G dsts o env H (env d) D∧noDst o.dst (looks dsts o)=true
 nd:Pd.Nodup
 sz:listed.size=ops.size
 li:∀i,i<ops.size→(listed.getD i true=true↔(∃p∈taken,p.1=i)∧i∉Pd)
 cl:∀i o,ops[i]? =some o→listed.getD i false=true→∀e∈o.after,Region.binds .any e=true→listed.getD e.on false=true
 pw:taken.Pairwise (PairR ops dsts)
 tp:Topo ops taken
theorem getD_tf{l:Array Bool}{i:Nat}(h:i<l.size):l.getD i true=l.getD i false:=by
 simp [h]
section
variable {n:Nat} {B:Base T} {ops:Array Oper} {dsts:Nat→Option Nat} {as:Act} {taken:List (Nat×Bool)} {pend:Pend} {Pd:List Nat} {listed:Array Bool} {env:Env T} {ds:Ds T} {a:Act}
theorem lt_of_get{i:Nat}{o:Oper}(h:ops[i]? =some o):i<ops.size:=(Array.getElem?_eq_some_iff.1 h).1
theorem pairwise_or{α:Type}{r:α→α→Prop}:∀{l:List α},l.Pairwise r→∀x∈l,∀y∈l,x≠y→r x y∨r y x
 |[],_,x,hx,_,_,_ =>by cases hx
 |a::l,h,x,hx,y,hy,hne=>by
  rw [List.pairwise_cons]at h;rcases List.mem_cons.1 hx with h1|h1<;>rcases List.mem_cons.1 hy with h2|h2
  ·exact(hne (h1.trans h2.symm)).elim
  ·subst h1;exact .inl (h.1 y h2)
  ·subst h2;exact .inr (h.1 x h1)
  ·exact pairwise_or h.2 x h1 y h2 hne
theorem eqDst_comm{a b:Option Nat}(h:eqDst a b=false):eqDst b a=false:=by
 cases a<;>cases b<;>simp only [eqDst]at* <;>first|rfl|skip
 rename_i x y;cases hb:Nat.beq y x
 ·rfl
 ·rw [Nat.eq_of_beq_eq_true hb]at h;simp at h
theorem DI.apart(hd:∀j,dsts j=(ops[j]?).bind (·.dst))(hI:DI C P G n B ops dsts σ as taken pend Pd listed env H ds a w){i j:Nat}{oi oj:Oper}(hi:ops[i]? =some oi)(hj:j∈Pd)(hoj:ops[j]? =some oj)
  (hq:(i,true)∈taken) (hne:j≠i) (hr:∀e∈oi.after,Region.binds .any e=true→listed.getD e.on false=true):
  noDst oj.dst (looks dsts oi)=true∧eqDst oj.dst oi.dst=false:=by
 have hnd:direct oi j=false:=by
  cases hdir:direct oi j
  ·rfl
  ·obtain⟨e,he,hb,hon⟩:=direct_spec hdir
   have h1:=hr e he hb;rw [hon,←getD_tf (by rw [hI.sz];exact lt_of_get hoj)]at h1;exact((hI.li j (lt_of_get hoj)).1 h1).2 hj|>.elim
 rcases pairwise_or hI.pw (j,true) (hI.pd j hj).1 (i,true) hq (fun e=>hne (congrArg (·.1) e))with⟨_,x,y,h1,h2,h3⟩|⟨_,x,y,h1,h2,h3⟩
 ·simp only at h1 h2 h3
  rw [hi]at h1;cases h1;rw [hoj]at h2;cases h2;simp only [pairOk,Bool.and_eq_true,Bool.not_true,Bool.false_or,Bool.not_eq_true']at h3;refine⟨h3.2.1, ?_⟩;exact eqDst_comm h3.2.2
 ·simp only at h1 h2 h3
  rw [hoj]at h1;cases h1;rw [hi]at h2;cases h2;simp only [pairOk,hnd,Bool.false_or,Bool.and_eq_true,Bool.not_eq_true']at h3;exact⟨h3.1.1.1,h3.1.2⟩
theorem DI.exec(hC:CdcOk C)(hd:∀j,dsts j=(ops[j]?).bind (·.dst))(hI:DI C P G n B ops dsts σ as taken pend Pd listed env H ds a w){i:Nat}{o:Oper}(hi:ops[i]? =some o)(hp:i∈Pd)
  (hr:∀e∈o.after,Region.binds .any e=true→listed.getD e.on false=true) {Q:Exit→Act→World→Prop} {K:Act→World→Prop}
  (hK:∀as' a',DI C P G n B ops dsts σ as' taken pend (Pd.erase i) (listed.setIfInBounds i true) env H ds a' w→K a' w):wpOp P ops Q i K a w:=by
 obtain⟨hti,o',d,D,h1,h2,h3,h4,h5,h6⟩:=hI.pd i hp;rw [hi]at h1;cases h1;have hapart:∀t∈o.looksAt ops,∀j,j∈Pd→dstOf ops j≠some t:=by
  intro t ht j hj hdj;obtain⟨_,oj,dj,Dj,k1,k2,k3,k4,k5,k6⟩:=hI.pd j hj;have hdj':oj.dst=some t:=by simpa [dstOf,k1] using hdj
  rw [←looks_eq hd]at ht;by_cases hji:j=i
  ·subst hji
   rw [hi]at k1;cases k1;exact noDst_spec h6 t hdj' ht
  ·exact noDst_spec (hI.apart hd hi hj k1 hti hji hr).1 t hdj' ht
 obtain⟨he,hwt⟩:=hI.agr.eval hapart;obtain⟨o2,k1,hsel,_⟩:=hI.tp.get _ hti;rw [hi]at k1;cases k1;have hexec:execOp a.eval o=execOp as.eval o:=execOp_congr o hsel he;have hsz:i<ops.size:=lt_of_get hi;have hun:listed.getD i true=false:=by
  cases hl:listed.getD i true
  ·rfl
  ·exact(((hI.li i hsz).1 hl).2 hp).elim
 have fin:∀v,RepA C σ H w (env d) v→K (a.put o.dst v) w:=by
  intro v hv;rw [h2];have hst:=hI.st.put h3 hv;rw [upd_self rfl]at hst;refine hK (as.put (some d) v) (a.put (some d) v) ⟨hst,⟨by rw [put_size,put_size];exact hI.agr.size,by rw [put_defers,put_defers];exact hI.agr.defers,fun t ht=> ?_⟩,fun j hj=>hI.pd j (List.mem_of_mem_erase hj),hI.nd.erase i,by simp [hI.sz],fun k hk=> ?_,fun k ok hok hlk e he hb=> ?_,hI.pw,hI.tp⟩
  ·rw [put_getD,put_getD,hI.agr.size]
   split
   ·rfl
   ·rename_i hne
    by_cases htd:d=t
    ·
     have hge:¬t<as.tmps.size:=fun h=>hne ⟨by rw [htd],h⟩
     have hge':¬t<a.tmps.size:=by rw [hI.agr.size];exact hge
     rw [Array.getD_eq_getD_getElem?,Array.getD_eq_getD_getElem?,Array.getElem?_eq_none (by omega),Array.getElem?_eq_none (by omega)]
    ·refine hI.agr.slot t fun j hj=> ?_
     by_cases hji:j=i
     ·subst hji
      simp only [dstOf,hi,Option.bind_some,h2];intro e;exact htd (Option.some.inj e)
     ·exact ht j ((List.mem_erase_of_ne hji).2 hj)
  ·by_cases hki:i=k
   ·subst hki
    have:(listed.setIfInBounds i true).getD i true=true:=by simp
    refine⟨fun _ =>⟨⟨_,hti,rfl⟩,hI.nd.not_mem_erase⟩,fun _ =>this⟩
   ·rw [getD_set_ne true hki,hI.li k hk]
    have hki':k≠i:=fun e=>hki e.symm
    rw [List.mem_erase_of_ne hki']
  ·by_cases hki:i=k
   ·subst hki
    rw [hi]at hok;cases hok;exact getD_set_true (hr e he hb)
   ·rw [getD_set_ne false hki]at hlk
    exact getD_set_true (hI.cl k ok hok hlk e he hb)
 unfold wpOp;simp only [hi];rcases h5.exec hC hd hI.st.rp hI.st.env with⟨hw,v,hv1,hv2⟩|⟨hw,hv⟩
 ·rw [hwt,hw,if_pos rfl]
  refine .inl ?_;unfold Oper.wp;rw [hexec,hv1];exact fin v hv2
 ·rw [hwt,hw,if_neg (by simp)]
  exact fin undef hv
end
end Go.Proofs.YtdoifigogbdodaaGreatDoor.Ev

namespace Go.Proofs.YtdoifigogbdodaaGreatDoor.Ev
open Go
variable {T:Nat→Type} {C:Cdc T} {P:Program} {σ:Lk} {H H':List (AObj T)} {w:World} {G:Nat→Option (List (V T))} {R:Type}
variable {n:Nat} {B:Base T} {ops:Array Oper} {dsts:Nat→Option Nat} {as:Act} {taken:List (Nat×Bool)} {pend:Pend} {Pd:List Nat} {listed:Array Bool} {env:Env T} {ds:Ds T} {a:Act}
theorem clo_listed(hcl:∀i o,ops[i]? =some o→listed.getD i false=true→∀e∈o.after,Region.binds .any e=true→listed.getD e.on false=true):
  ∀(k:Nat) (o:Oper) (j:Nat),(∀e∈o.after,Region.binds .any e=true→listed.getD e.on false=true)→clo ops.toList k o j=true→listed.getD j false=true:=by
 have dir:∀(o:Oper) (j:Nat),(∀e∈o.after,Region.binds .any e=true→listed.getD e.on false=true)→direct o j=true→listed.getD j false=true:=by
  intro o j h hd;obtain⟨e,he,hb,rfl⟩:=direct_spec hd;exact h e he hb
 intro k
 induction k with
 |zero=>exact fun o j h hd=>dir o j h hd
 |succ k ih=>
  intro o j h hd;unfold clo at hd;rw [Bool.or_eq_true]at hd;rcases hd with hd|hd
  ·exact dir o j h hd
  ·obtain⟨e,he,h1⟩:=List.any_eq_true.1 hd
   rw [Bool.and_eq_true]at h1;obtain⟨h2,h3⟩:=h1;have hl:=h e (Array.mem_toList_iff.1 he) h2;split at h3
   ·rename_i o' ho'
    exact ih o' j (hcl e.on o' (by simpa using ho') hl) h3
   ·cases h3
theorem nil_of_nilB{α:Type}{l:List α}(h:nilB l=true):l=[]:=by cases l with|nil=>rfl|cons=>cases h
structure Nx(C:Cdc T)(P:Program)(G:Nat→Option (List (V T)))(n:Nat)(B:Base T)(ops:Array Oper)(dsts:Nat→Option Nat)(pend:Pend)(Pd:List Nat)(σ:Lk)(env:Env T)(H:List (AObj T))(ds:Ds T)(as:Act)(w:World):Prop where
 st:St C G n B σ env H ds as w
 pd:∀i∈Pd,∃o d D,ops[i]? =some o∧o.dst=some d∧d<n∧(i,(bif heapB o then D else []),refs (env d)++D)∈pend∧QR C P G dsts o env H (env d) D∧noDst o.dst (looks dsts o)=true
theorem DI.effect(hC:CdcOk C){Γ:Gam T}(hΓ:GOk P C G Γ)(hd:∀j,dsts j=(ops[j]?).bind (·.dst))(hI:DI C P G n B ops dsts σ as taken pend Pd listed env H ds a w)
  {i:Nat} {o:Oper} {rest:List (Nat×Bool)} (hck:ChkAt ops dsts taken i false rest o) (hr:∀e∈o.after,Region.binds .any e=true→listed.getD e.on false=true)
  {K:Env T→List (AObj T)→Ds T→Option R} {Kp:KP T R} {r:R}
  (h1:pend.all (fun p=>clo ops.toList 40 o p.1||touchOk (touchA H env o) p.2.1)=true)
  (h:operX C P G Γ dsts o env H ds (fun env x H S ds=>bif nilB S||pend.all (fun p=>clo ops.toList 40 o p.1||(nilB p.2.1&&nilB p.2.2))then putA o.dst n env x S fun env=>K env H ds else none) (fun env=>Kp (maskE ops.toList env))=some r)
  {Q:Exit→Act→World→Prop} {nx:Act→World→Prop}
  (hK:∀σ' as' a' env' H' ds' w',K env' H' ds'=some r→Nx C P G n B ops dsts pend Pd σ' env' H' ds' as' w'→Agr ops (· ∈Pd) as' a'→nx a' w')
  (hP:∀σ' env' p H' ds' a' v w',Kp env' p H' ds'=some r→PSt C G n B σ' env' p H' ds' a' v w'→Q (.panic [{v,recovered:=false}]) a' w'):wpOp P ops Q i nx a w:=by
 have hpend:∀j∈Pd,∀oj D X,ops[j]? =some oj→(j,D,X)∈pend→(∀t∈looks dsts oj,o.dst≠some t)∧(∀t,oj.dst=some t→o.dst≠some t∧t∉looks dsts o)∧clo ops.toList 40 o j=false:=by
  intro j hj oj D X hoj hjp;have hnl:listed.getD j false=false:=by
   cases hl:listed.getD j false
   ·rfl
   ·rw [←getD_tf (by rw [hI.sz];exact lt_of_get hoj)]at hl
    exact(((hI.li j (lt_of_get hoj)).1 hl).2 hj).elim
  have hclo:clo ops.toList 40 o j=false:=by
   cases hc:clo ops.toList 40 o j
   ·rfl
   ·rw [clo_listed hI.cl 40 o j hr hc]at hnl;cases hnl
  have hnd:direct o j=false:=by
   cases hdir:direct o j
   ·rfl
   ·obtain⟨e,he,hb,hon⟩:=direct_spec hdir
    have h1:=hr e he hb;rw [hon,hnl]at h1;cases h1
  obtain⟨x,k1,k2⟩:=hck.pair (j,true) (hI.pd j hj).1;simp only at k1 k2;rw [hoj]at k1;cases k1;simp only [pairOk,hnd,Bool.false_or,Bool.and_eq_true,Bool.not_eq_true',Bool.not_false,Bool.true_or,and_true]at k2;obtain⟨⟨k3,k4⟩,k5⟩:=k2;refine⟨fun t ht e=>noDst_spec k4 t e ht,fun t ht=>⟨eqDst_spec k5 t ht,noDst_spec k3 t ht⟩,hclo⟩
 have hl:∀t∈o.looksAt ops,∀j,j∈Pd→dstOf ops j≠some t:=by
  intro t ht j hj hdj;obtain⟨_,oj,dj,D,k1,k2,k3,k4,_⟩:=hI.pd j hj;have hdj':oj.dst=some t:=by simpa [dstOf,k1] using hdj
  rw [←looks_eq hd]at ht;exact((hpend j hj oj _ _ k1 k4).2.1 t hdj').2 ht
 obtain⟨he,hwt⟩:=hI.agr.eval hl;have step:∀{σ':Lk} {x:AV T} {v:Value} {H':List (AObj T)} {S:List Nat} {ds':Ds T} {dd:List Deferred} {w':World},
   (bif nilB S||pend.all (fun p=>clo ops.toList 40 o p.1||(nilB p.2.1&&nilB p.2.2))then putA o.dst n env x S fun env=>K env H' ds' else none)=some r→
   (∀S0,touchA H env o=some S0→Framed S0 H H' S)→Step C G S σ H w σ' H' w'→RepA C σ' H' w' x v→RepDs C σ' H' w' ds' dd→
   ∃env',K env' H' ds'=some r∧Nx C P G n B ops dsts pend Pd σ' env' H' ds' ({as with defers:=dd}.put o.dst v) w':=by
  intro σ' x v H' S ds' dd w' hk hfr hs hx hds;cases hb:nilB S||pend.all (fun p=>clo ops.toList 40 o p.1||(nilB p.2.1&&nilB p.2.2))
  ·rw [hb]at hk;cases hk
  ·rw [hb,cond_true]at hk
   have hst:St C G n B σ' (penv S env) H' ds' {as with defers:=dd} w':=⟨hs.rp,hI.st.anc.trans hs.anc,hI.st.size,penv_rep hs.move hI.st.env,hds⟩
   have hpd:∀j∈Pd,∃oj d D,ops[j]? =some oj∧oj.dst=some d∧d<n∧(j,(bif heapB oj then D else []),refs (penv S env d)++D)∈pend∧QR C P G dsts oj (penv S env) H' (penv S env d) D∧noDst oj.dst (looks dsts oj)=true∧o.dst≠some d∧∀t∈looks dsts oj,o.dst≠some t:=by
    intro j hj;obtain⟨_,oj,d,D,k1,k2,k3,k4,k5,k6⟩:=hI.pd j hj;obtain⟨q1,q2,q3⟩:=hpend j hj oj _ _ k1 k4;have hS:S=[]∨(D=[]∧refs (env d)=[]):=by
     rw [Bool.or_eq_true]at hb;rcases hb with hb|hb
     ·exact .inl (nil_of_nilB hb)
     ·have:=List.all_eq_true.1 hb _ k4
      simp only [q3,Bool.false_or,Bool.and_eq_true]at this;have h2:=List.append_eq_nil_iff.1 (nil_of_nilB this.2);exact .inr ⟨h2.2,h2.1⟩
    have hx:penv S env d=env d:=by
     rcases hS with rfl|⟨_,h⟩
     ·rfl
     ·exact penv_same h
    have hsame:heapB oj=true→Same D H H':=by
     intro hhb;have ht:=List.all_eq_true.1 h1 _ k4;simp only [q3,Bool.false_or,hhb,cond_true]at ht;rcases hS with rfl|⟨rfl,_⟩
     ·unfold touchOk at ht
      split at ht
      ·rename_i S0 hS0
       have hf:=hfr S0 hS0 rfl;intro i hi;refine(hf.get i (k5.lt hI.st.env i hi) fun hm=> ?_).symm;have:=List.all_eq_true.1 ht i hi;simp [hm]at this
      ·rw [nil_of_nilB ht];intro i hi;cases hi
     ·intro i hi;cases hi
    refine⟨oj,d,D,k1,k2,k3,by rw [hx];exact k4, ?_,k6,(q2 d k2).1,q1⟩;rw [hx];exact(k5.heap hsame).purge (hS.imp id (·.1))
   unfold putA at hk;cases hdst:o.dst with
   |none=>
    rw [hdst]at hk;exact⟨_,hk,hst,fun j hj=>by
     obtain⟨oj,d,D,k1,k2,k3,k4,k5,k6,_⟩:=hpd j hj;exact⟨oj,d,D,k1,k2,k3,k4,k5,k6⟩⟩
   |some u=>
    rw [hdst]at hk;simp only at hk;cases hu:Nat.blt u n
    ·rw [hu]at hk;cases hk
    ·rw [hu,cond_true]at hk
     refine⟨_,hk,hst.put (Nat.le_of_ble_eq_true hu) hx,fun j hj=> ?_⟩;obtain⟨oj,d,D,k1,k2,k3,k4,k5,k6,k7,k8⟩:=hpd j hj;rw [hdst]at k7 k8;have hne:Ev.upd (penv S env) u x d=penv S env d:=by
      unfold Ev.upd;cases hb:Nat.beq d u
      ·rfl
      ·exact(k7 (by rw [Nat.eq_of_beq_eq_true hb])).elim
     refine⟨oj,d,D,k1,k2,k3,by rw [hne];exact k4, ?_,k6⟩;rw [hne];exact k5.upd fun hm=>k8 u hm rfl
 have panic:∀{σ':Lk} {env':Env T} {p:AV T} {H':List (AObj T)} {ds':Ds T} {v:Value} {w':World},Kp (maskE ops.toList env') p H' ds'=some r→PSt C G n B σ' env' p H' ds' as v w'→∀b,Agr ops (· ∈Pd) as b→Q (.panic [{v,recovered:=false}]) b w':=by
  intro σ' env' p H' ds' v w' hk hp b hb;refine hP _ _ _ _ _ b _ _ hk ⟨⟨hp.1.rp,hp.1.anc,by rw [hb.size];exact hp.1.size,fun t=> ?_,by rw [hb.defers];exact hp.1.ds⟩,hp.2⟩;unfold maskE;cases hm:ops.toList.any (fun o=>match o.dst with|some d=>Nat.beq d t|none=>false)
  ·rw [hb.slot t fun i _ hi=> ?_]
   ·exact hp.1.env t
   ·unfold dstOf at hi
    cases ho:ops[i]? with
    |none=>rw [ho]at hi;cases hi
    |some o=>
     rw [ho]at hi;have hi':o.dst=some t:=hi;have hmem:o∈ops.toList:=by
      have h1:ops.toList[i]? =some o:=by simpa using ho
      exact List.mem_of_getElem? h1
     have:=List.any_eq_false.1 hm o hmem;rw [hi']at this;simp at this
  ·trivial
 unfold wpOp;simp only [hck.at_];rcases operX_cases hI.st hd h with⟨hw,hx⟩|⟨hw,hx⟩
 ·rw [hwt,hw,if_pos rfl]
  refine .inl (wp_agr hI.agr hck.sel hl (next':=fun a' w'=>∃σ' env' H' ds',K env' H' ds'=some r∧Nx C P G n B ops dsts pend Pd σ' env' H' ds' a' w') ?_ ?_)
  ·rintro a' b' w' hag ⟨σ',env',H',ds',k1,k2⟩
   exact hK σ' a' b' env' H' ds' w' k1 k2 hag
  ·
   cases ht:touchA H env o with
   |none=>
    refine runX_ok hC hΓ hI.st hx (fun σ' x v H' S ds' dd w' k1 k2 k3 k4=> ?_) (fun σ' env' p H' ds' v w' k1 k2=>panic k1 k2);obtain⟨env',q1,q2⟩:=step k1 (fun S0 h0=>by rw [ht]at h0;cases h0) k2 k3 k4;exact⟨σ',env',H',ds',q1,q2⟩
   |some S0=>
    classical
    have hx':=(runX_fr ht (K':=fun x H' S ds'=>if Framed S0 H H' S then(bif nilB S||pend.all (fun p=>clo ops.toList 40 o p.1||(nilB p.2.1&&nilB p.2.2))then putA o.dst n env x S fun env=>K env H' ds' else none)else none)
     (fun x H' S ds' hf=>by rw [if_pos hf])).symm.trans hx
    refine runX_ok hC hΓ hI.st hx' (fun σ' x v H' S ds' dd w' k1 k2 k3 k4=> ?_) (fun σ' env' p H' ds' v w' k1 k2=>panic k1 k2);split at k1
    ·rename_i hf
     obtain⟨env',q1,q2⟩:=step k1 (fun S1 h1=>by rw [ht]at h1;cases h1;exact hf) k2 k3 k4;exact⟨σ',env',H',ds',q1,q2⟩
    ·cases k1
 ·rw [hwt,hw,if_neg (by simp)]
  obtain⟨env',q1,q2⟩:=step hx (fun S0 _ _ =>Fr.refl) (Step.refl hI.st.rp) (x:= .tup []) (v:=undef) rep_undef hI.st.ds;refine hK σ _ _ env' H ds w q1 q2 ?_;have:=hI.agr.put o.dst undef as.defers
  rwa [show({a with defers:=as.defers}:Act)=a from by rw [←hI.agr.defers]]at this
end Go.Proofs.YtdoifigogbdodaaGreatDoor.Ev

namespace Go.Proofs.YtdoifigogbdodaaGreatDoor.Ev
open Go
variable {T:Nat→Type} {C:Cdc T} {P:Program} {σ:Lk} {H H':List (AObj T)} {w:World} {G:Nat→Option (List (V T))} {R:Type}
theorem draw_ok(hC:CdcOk C){Γ:Gam T}(hΓ:GOk P C G Γ){n:Nat}{B:Base T}{ops:Array Oper}{dsts:Nat→Option Nat}(hd:∀j,dsts j=(ops[j]?).bind (·.dst)){K:KS T R}{Kp:KP T R}{r:R}{Q:Exit→Act→World→Prop}
  (hK:∀σ' env' H' ds' a' w',K env' H' ds'=some r→St C G n B σ' env' H' ds' a' w'→Q .normal a' w')
  (hP:∀σ' env' p H' ds' a' v w',Kp env' p H' ds'=some r→PSt C G n B σ' env' p H' ds' a' v w'→Q (.panic [{v,recovered:=false}]) a' w'):
  ∀(fuel:Nat) (todo taken:List (Nat×Bool)) (pend:Pend) (Pd:List Nat) (listed:Array Bool) (σ:Lk) (as:Act) (env:Env T) (H:List (AObj T)) (ds:Ds T) (a:Act) (w:World),
   DI C P G n B ops dsts σ as taken pend Pd listed env H ds a w→chk ops.toList dsts taken todo=true→(∀i,i<ops.size→(∃p∈taken,p.1=i)∨∃p∈todo,p.1=i)→fuel=todo.length+Pd.length→
   drawL C P G Γ n ops.toList dsts todo pend env H ds K Kp=some r→wpAny P .any ops Q fuel listed a w:=by
 have done:∀{taken:List (Nat×Bool)} {pend:Pend} {listed:Array Bool} {σ:Lk} {as:Act} {env:Env T} {H:List (AObj T)} {ds:Ds T} {a:Act} {w:World},
   DI C P G n B ops dsts σ as taken pend [] listed env H ds a w→K env H ds=some r→Q .normal a w:=by
  intro taken pend listed σ as env H ds a w hI hk;refine hK σ env H ds a w hk ⟨hI.st.rp,hI.st.anc,by rw [hI.agr.size];exact hI.st.size,fun t=> ?_,by rw [hI.agr.defers];exact hI.st.ds⟩;rw [hI.agr.slot t (fun i hi=>by cases hi)];exact hI.st.env t
 have hlisted:∀{taken:List (Nat×Bool)} {pend:Pend} {Pd:List Nat} {listed:Array Bool} {σ:Lk} {as:Act} {env:Env T} {H:List (AObj T)} {ds:Ds T} {a:Act} {w:World},
   DI C P G n B ops dsts σ as taken pend Pd listed env H ds a w→∀i,i<ops.size→listed.getD i false=listed.getD i true:=fun hI i hi=>(getD_tf (by rw [hI.sz];exact hi)).symm
 intro fuel
 induction fuel with
 |zero=>
  intro todo taken pend Pd listed σ as env H ds a w hI hck hall hf h;have h1:todo=[]:=List.length_eq_zero_iff.1 (by omega);have h2:Pd=[]:=List.length_eq_zero_iff.1 (by omega);subst h1;subst h2;refine⟨?_,done hI h⟩;refine List.eq_nil_iff_forall_not_mem.2 fun i hi=> ?_
  obtain⟨h0,o,ho,_⟩:=mem_ready.1 hi;have hlt:=lt_of_get ho;rcases hall i hlt with hp|⟨p,hp,_⟩
  ·rw [(hI.li i hlt).2 ⟨hp,by simp⟩]at h0;cases h0
  ·cases hp
 |succ f ihf=>
  intro todo
  induction todo with
  |nil=>
   intro taken pend Pd listed σ as env H ds a w hI hck hall hf h;refine⟨fun hr=> ?_,fun i hi=> ?_⟩
   ·
    have hPd:Pd=[]:=by
     refine Classical.byContradiction fun hne=> ?_
     ·obtain⟨j,hj⟩:=List.exists_mem_of_ne_nil Pd hne
      obtain⟨p,hp,h1,o,ho,h2⟩:=hI.tp.first ⟨(j,true),(hI.pd j hj).1,hj⟩
      have:p.1∈Region.ready .any ops listed:=by
       refine mem_ready.2 ⟨?_,o,ho,fun e he hb=> ?_⟩
       ·cases hl:listed.getD p.1 true
        ·rfl
        ·exact(((hI.li p.1 (lt_of_get ho)).1 hl).2 h1).elim
       ·obtain⟨h3,q,hq,h4⟩:=h2 e he hb
        obtain⟨oq,hoq,_⟩:=hI.tp.get q hq;rw [h4]at hoq;rw [hlisted hI _ (lt_of_get hoq)];exact(hI.li e.on (lt_of_get hoq)).2 ⟨⟨q,hq,h4⟩,h3⟩
      rw [hr]at this;cases this
    subst hPd;exact done hI h
   ·obtain⟨h0,o,ho,h1⟩:=mem_ready.1 hi
    have hlt:=lt_of_get ho;have hp:i∈Pd:=by
     rcases hall i hlt with hp|⟨p,hp,_⟩
     ·by_cases hm:i∈Pd
      ·exact hm
      ·rw [(hI.li i hlt).2 ⟨hp,hm⟩]at h0;cases h0
     ·cases hp
    refine hI.exec hC hd ho hp h1 fun as' a' hI'=>ihf [] taken pend _ _ σ as' env H ds a' w hI' hck hall ?_ h
    rw [List.length_erase_of_mem hp];have:=List.length_pos_of_mem hp;simp at hf⊢;omega
  |cons p rest ih=>
   intro taken pend Pd listed σ as env H ds a w hI hck hall hf h;obtain⟨i,q⟩:=p;obtain⟨⟨o,hc⟩,hck'⟩:=chk_cons hck;have hlt:=lt_of_get hc.at_;have hnot:¬∃p∈taken,p.1=i:=fun⟨p,hp,e⟩=>hc.new p hp e
   have hall':∀k,k<ops.size→(∃p∈(i,q)::taken,p.1=k)∨∃p∈rest,p.1=k:=by
    intro k hk;rcases hall k hk with⟨p,hp,e⟩|⟨p,hp,e⟩
    ·exact .inl ⟨p,List.mem_cons_of_mem _ hp,e⟩
    ·rcases List.mem_cons.1 hp with rfl|hp
     ·exact .inl ⟨_,by simp,e⟩
     ·exact .inr ⟨p,hp,e⟩
   have hpw:((i,q)::taken).Pairwise (PairR ops dsts):=by
    rw [List.pairwise_cons];refine⟨fun p hp=>⟨hc.new p hp, ?_⟩,hI.pw⟩;obtain⟨x,h1,h2⟩:=hc.pair p hp;exact⟨x,o,h1,hc.at_,h2⟩
   have htp:Topo ops ((i,q)::taken):=⟨⟨o,hc.at_,hc.sel,hc.edges⟩,hI.tp⟩
   unfold drawL at h;have hget:ops.toList[i]? =some o:=by simpa using hc.at_
   rw [hget]at h;simp only at h;cases q with
   |true=>
    rw [cond_true]at h;split at h
    ·rename_i d hdst
     cases hdn:Nat.blt d n
     ·rw [hdn]at h;cases h
     ·rw [hdn,cond_true]at h
      obtain⟨x,D,v,k1,k2,k3⟩:=quietA_ok hC hd hI.st.rp hI.st.env h;have hlt':=Nat.le_of_ble_eq_true hdn;have hself:=hc.self rfl;rw [hdst]at hself;have hupd:Ev.upd env d x d=x:=by simp [Ev.upd]
      refine ih ((i,true)::taken) _ (i::Pd) listed σ (as.put (some d) v) _ H ds a w ⟨hI.st.put hlt' k3,⟨by rw [put_size];exact hI.agr.size,by rw [put_defers];exact hI.agr.defers,fun t ht=> ?_⟩,fun j hj=> ?_, ?_,hI.sz,fun k hk=> ?_,hI.cl,hpw,htp⟩ hck' hall' (by simp at hf⊢;omega) k1
      ·have h1:d≠t:=fun e=>ht i (by simp) (by simp [dstOf,hc.at_,hdst,e])
       rw [put_getD,if_neg (fun h=>h1 (Option.some.inj h.1))];exact hI.agr.slot t fun j hj=>ht j (List.mem_cons_of_mem _ hj)
      ·rcases List.mem_cons.1 hj with rfl|hj
       ·refine⟨by simp,o,d,D,hc.at_,hdst,hlt',by rw [hupd];simp, ?_,by rw [hdst];exact hself⟩
        rw [hupd];exact k2.upd (noDst_spec hself d rfl)
       ·obtain⟨h0,oj,dj,Dj,h1,h2,h3,h4,h5,h6⟩:=hI.pd j hj
        obtain⟨y,h7,h8⟩:=hc.pair _ h0;simp only at h7 h8;rw [h1]at h7;cases h7;simp only [pairOk,Bool.and_eq_true,Bool.not_true,Bool.false_or,Bool.not_eq_true']at h8;have hne:Ev.upd env d x dj=env dj:=by
         unfold Ev.upd;cases hb:Nat.beq dj d
         ·rfl
         ·exact(eqDst_spec h8.2.2 dj h2 (by rw [hdst,Nat.eq_of_beq_eq_true hb])).elim
        refine⟨List.mem_cons_of_mem _ h0,oj,dj,Dj,h1,h2,h3,by rw [hne];exact List.mem_cons_of_mem _ h4, ?_,h6⟩;rw [hne];exact h5.upd (noDst_spec h8.2.1 d hdst)
      ·exact List.nodup_cons.2 ⟨fun hm=>hnot ⟨_,(hI.pd i hm).1,rfl⟩,hI.nd⟩
      ·rw [hI.li k hk]
       constructor
       ·rintro⟨⟨p,hp,e⟩,h2⟩
        refine⟨⟨p,List.mem_cons_of_mem _ hp,e⟩,fun hm=> ?_⟩;rcases List.mem_cons.1 hm with rfl|hm
        ·exact hnot ⟨p,hp,e⟩
        ·exact h2 hm
       ·rintro⟨⟨p,hp,e⟩,h2⟩
        rw [List.mem_cons,not_or]at h2;rcases List.mem_cons.1 hp with rfl|hp
        ·exact(h2.1 e.symm).elim
        ·exact⟨⟨p,hp,e⟩,h2.2⟩
    ·cases h
   |false=>
    rw [cond_false]at h;cases hb:pend.all (fun p=>clo ops.toList 40 o p.1||touchOk (touchA H env o) p.2.1)
    ·rw [hb]at h;cases h
    ·rw [hb,cond_true]at h
     refine⟨fun hr=> ?_,fun j hj=> ?_⟩
     ·
      exfalso;by_cases hPd:∃p∈taken,p.1∈Pd
      ·obtain⟨p,hp,h1,o',ho',h2⟩:=hI.tp.first hPd
       have:p.1∈Region.ready .any ops listed:=by
        refine mem_ready.2 ⟨?_,o',ho',fun e he hb=> ?_⟩
        ·cases hl:listed.getD p.1 true
         ·rfl
         ·exact(((hI.li p.1 (lt_of_get ho')).1 hl).2 h1).elim
        ·obtain⟨h3,q,hq,h4⟩:=h2 e he hb
         obtain⟨oq,hoq,_⟩:=hI.tp.get q hq;rw [h4]at hoq;rw [hlisted hI _ (lt_of_get hoq)];exact(hI.li e.on (lt_of_get hoq)).2 ⟨⟨q,hq,h4⟩,h3⟩
       rw [hr]at this;cases this
      ·have:i∈Region.ready .any ops listed:=by
        refine mem_ready.2 ⟨?_,o,hc.at_,fun e he hb=> ?_⟩
        ·cases hl:listed.getD i true
         ·rfl
         ·exact(hnot ((hI.li i hlt).1 hl).1).elim
        ·obtain⟨q,hq,h4⟩:=hc.edges e he hb
         obtain⟨oq,hoq,_⟩:=hI.tp.get q hq;rw [h4]at hoq;rw [hlisted hI _ (lt_of_get hoq)];exact(hI.li e.on (lt_of_get hoq)).2 ⟨⟨q,hq,h4⟩,fun hm=>hPd ⟨q,hq,h4▸hm⟩⟩
       rw [hr]at this;cases this
     ·obtain⟨h0,oj,hoj,hre⟩:=mem_ready.1 hj
      have hjlt:=lt_of_get hoj;rcases hall j hjlt with hp|⟨p,hp,e⟩
      ·
       have hm:j∈Pd:=by
        by_cases hm:j∈Pd
        ·exact hm
        ·rw [(hI.li j hjlt).2 ⟨hp,hm⟩]at h0;cases h0
       refine hI.exec hC hd hoj hm hre fun as' a' hI'=>ihf ((i,false)::rest) taken pend _ _ σ as' env H ds a' w hI' hck hall ?_ ?_
       ·rw [List.length_erase_of_mem hm]
        have:=List.length_pos_of_mem hm;simp at hf⊢;omega
       ·unfold drawL
        rw [hget];simp only [cond_false];rw [hb,cond_true];exact h
      ·rcases List.mem_cons.1 hp with rfl|hp
       ·
        simp only at e;subst e;rw [hc.at_]at hoj;cases hoj;refine hI.effect hC hΓ hd hc hre (K:=fun env H ds=>drawL C P G Γ n ops.toList dsts rest pend env H ds K Kp) hb h (fun σ' as' a' env' H' ds' w' k1 k2 hag=> ?_) hP;refine ihf rest ((i,false)::taken) pend Pd _ σ' as' env' H' ds' a' w' ⟨k2.st,hag,fun k hk=> ?_,hI.nd,by simp [hI.sz],fun k hk=> ?_,fun k ok hok hlk e he hb=> ?_,hpw,htp⟩ hck' hall' (by simp at hf⊢;omega) k1
        ·obtain⟨h1,_⟩:=hI.pd k hk
         exact⟨List.mem_cons_of_mem _ h1,k2.pd k hk⟩
        ·by_cases hki:i=k
         ·subst hki
          have h1:(listed.setIfInBounds i true).getD i true=true:=by simp
          exact⟨fun _ =>⟨⟨_,List.mem_cons_self ..,rfl⟩,fun hm=>hnot ⟨_,(hI.pd i hm).1,rfl⟩⟩,fun _ =>h1⟩
         ·rw [getD_set_ne true hki,hI.li k hk]
          constructor
          ·rintro⟨⟨p,hp,e⟩,h2⟩
           exact⟨⟨p,List.mem_cons_of_mem _ hp,e⟩,h2⟩
          ·rintro⟨⟨p,hp,e⟩,h2⟩
           rcases List.mem_cons.1 hp with rfl|hp
           ·exact(hki e).elim
           ·exact⟨⟨p,hp,e⟩,h2⟩
        ·by_cases hki:i=k
         ·subst hki
          rw [hc.at_]at hok;cases hok;exact getD_set_true (hre e he hb)
         ·rw [getD_set_ne false hki]at hlk
          exact getD_set_true (hI.cl k ok hok hlk e he hb)
       ·
        obtain⟨o',h1,e',he',hb',hn⟩:=hc.lone rfl p hp;rw [e,hoj]at h1;cases h1;have hl:=hre e' he' hb';have hlt2:e'.on<ops.size:=by
         rcases Nat.lt_or_ge e'.on ops.size with h|h
         ·exact h
         ·rw [Array.getD_eq_getD_getElem?,Array.getElem?_eq_none (by rw [hI.sz];exact h)]at hl;cases hl
        rw [hlisted hI _ hlt2]at hl;obtain⟨q,hq,h4⟩:=((hI.li _ hlt2).1 hl).1;exact(hn q hq h4).elim
theorem rep_world{w':World}(hh:w'.heap=w.heap):(∀x y,RepA C σ H w x y→RepA C σ H w' x y)∧(Rp C σ H w G→Rp C σ H w' G):=by
 have hM:Move C [] σ H w σ H w':=by
  refine⟨fun b off x ⟨h1,h2⟩=>⟨h1,by unfold World.cell? at*;rw [hh];exact h2⟩,Nat.le_refl _,fun _ _ _ =>rfl,fun o _ _ n s h=>⟨h,fun b _ cs e fz hcs=>⟨cs,e,fz,by rw [hh];exact hcs,rfl⟩⟩⟩
 refine⟨fun x y h=>RepA.move0 hM h,fun hR=>⟨hR.inj,fun i o b h1 h2 h3=>by rw [hh];exact hR.lt i o b h1 h2 h3,fun i o hi=> ?_,fun g l hg=>(hR.glob g l hg).mono hM.cell,hR.free,fun b off hF=>by rw [hh];exact hR.fb b off hF⟩⟩;have:=RepO.move hM rfl (fun b _ =>by rw [hh]) (hR.obj i o hi)
 rwa [purgeO_nil]at this
theorem st_drawn{n:Nat}{B:Base T}{env:Env T}{ds:Ds T}{a:Act}(st:St C G n B σ env H ds a w):St C G n B σ env H ds a {w with drawn:=w.drawn+1}:=by
 obtain⟨h1,h2⟩:=rep_world (C:=C) (σ:=σ) (H:=H) (w:=w) (w':={w with drawn:=w.drawn+1}) (G:=G) rfl;have hA:=st.anc;refine⟨h2 st.rp,⟨hA.F,hA.os,hA.tape,hA.output,hA.size,hA.len,hA.okc,hA.same,hA.block,hA.sig,hA.fresh,hA.kind⟩,st.size,fun t=>h1 _ _ (st.env t), ?_⟩;have hM:Move C [] σ H w σ H {w with drawn:=w.drawn+1}:=
  ⟨fun b off x h=>h,Nat.le_refl _,fun _ _ _ =>rfl,fun o _ _ n s h=>⟨h,fun b _ cs e fz hcs=>⟨cs,e,fz,hcs,rfl⟩⟩⟩
 have:=st.ds.move hM
 rwa [purgeDs_nil]at this
def calmB(P:Program)(o:Oper):Bool:=
 match o.op with
 | .move _ | .pick _ _ _ | .build _ _ | .load _ _ | .nilCheck _ | .binOp _ _ _ _ _ | .unOp _ _ _ | .makeInterface _ _ | .makeFunc _ _ _
 | .fieldAddr _ _ _ | .field _ _ _ | .indexAddr _ _ _ | .index _ _ _ | .typeAssert _ _ _ _ | .extract _ _ | .assign _ =>true
 | .convert _ d _ => !isSliceT P d
 | .slice t _ _ _ _ => !isSliceT P t
 | .call {callee:= .builtin b,.. }=>match b with
  | .len| .min| .max=>true
  |_ =>false
 |_ =>false
def readyB(taken:List (Nat×Bool))(o:Oper):Bool:=o.after.toList.all fun e=> !edge e||taken.any fun p=>Nat.beq p.1 e.on
def freshB(ops:List Oper)(dsts:Nat→Option Nat)(taken:List (Nat×Bool))(o:Oper):Bool:=
 (match o.dst with|some _ =>true|none=>false)&&noDst o.dst (looks dsts o)&&taken.all fun p=>match ops[p.1]? with|some x=>noDst o.dst (looks dsts x)&& !eqDst x.dst o.dst|none=>false
def planL(P:Program)(ops:List Oper)(dsts:Nat→Option Nat):Nat→List (Nat×Bool)→List (Nat×Oper)→List (Nat×Bool)
 |0,taken,_ =>taken.reverse
 |k+1,taken,todo=>
  match todo.find? fun p=>calmB P p.2&&readyB taken p.2&&freshB ops dsts taken p.2 with
  |some p=>planL P ops dsts k ((p.1,true)::taken) (todo.filter fun x=> !Nat.beq x.1 p.1)
  |none=>match todo.find? fun p=>readyB taken p.2 with
   |some p=>planL P ops dsts k ((p.1,false)::taken) (todo.filter fun x=> !Nat.beq x.1 p.1)
   |none=>taken.reverse
def enumL{α:Type}:Nat→List α→List (Nat×α)
 |_,[]=>[]
 |k,x::l=>(k,x)::enumL (k+1) l
def planB(P:Program)(ops:List Oper)(dsts:Nat→Option Nat):List (Nat×Bool):=planL P ops dsts ops.length [] (enumL 0 ops)
def allIn(plan:List (Nat×Bool)):Nat→Bool
 |0=>true
 |k+1=>(plan.any fun p=>Nat.beq p.1 k)&&allIn plan k
theorem allIn_ok{plan:List (Nat×Bool)}:∀{k:Nat},allIn plan k=true→∀i,i<k→∃p∈plan,p.1=i
 |0,_,i,hi=>by omega
 |k+1,h,i,hi=>by
  unfold allIn at h;rw [Bool.and_eq_true]at h;by_cases hik:i=k
  ·subst hik;exact any_beq.1 h.1
  ·exact allIn_ok h.2 i (by omega)
def planOk(ops:List Oper)(dsts:Nat→Option Nat)(plan:List (Nat×Bool)):Bool:=Nat.beq plan.length ops.length&&allIn plan ops.length&&chk ops dsts [] plan
def drawA(C:Cdc T)(P:Program)(G:Nat→Option (List (V T)))(Γ:Gam T)(n:Nat)(ops:Array Oper)(env:Env T)(H:List (AObj T))(ds:Ds T)(K:KS T R)(Kp:KP T R):Option R:=
 (fun(l:List Oper)=>(fun(dsts:Nat→Option Nat)=>(fun(plan:List (Nat×Bool))=>
  bif planOk l dsts plan then drawL C P G Γ n l dsts plan [] env H ds K Kp else none) (planB P l dsts)) (fun j=>(l[j]?).bind (·.dst))) ops.toList
theorem drawA_ok(hC:CdcOk C){Γ:Gam T}(hΓ:GOk P C G Γ)(hm:P.follows .mixedOrders=true){n:Nat}{B:Base T}{id:Nat}{ops:Array Oper}{K:KS T R}{Kp:KP T R}{r:R}{Q:Exit→Act→World→Prop}{env:Env T}{ds:Ds T}{a:Act}
  (st:St C G n B σ env H ds a w) (h:drawA C P G Γ n ops env H ds K Kp=some r)
  (hK:∀σ' env' H' ds' a' w',K env' H' ds'=some r→St C G n B σ' env' H' ds' a' w'→Q .normal a' w')
  (hP:∀σ' env' p H' ds' a' v w',Kp env' p H' ds'=some r→PSt C G n B σ' env' p H' ds' a' v w'→Q (.panic [{v,recovered:=false}]) a' w'):(Code.region id ops true).wp P Q a w:=by
 refine wp_region_any hm ?_;unfold drawA at h;simp only at h;generalize planB P ops.toList (fun j=>(ops.toList[j]?).bind (·.dst))=plan at h;cases hb:planOk ops.toList (fun j=>(ops.toList[j]?).bind (·.dst)) plan
 ·rw [hb]at h;cases h
 ·rw [hb,cond_true]at h
  unfold planOk at hb;simp only [Bool.and_eq_true]at hb;obtain⟨⟨h1,h2⟩,h3⟩:=hb;have hlen:plan.length=ops.size:=by have:=Nat.eq_of_beq_eq_true h1;simpa using this
  refine draw_ok hC hΓ (dsts:=fun j=>(ops.toList[j]?).bind (·.dst)) (fun j=>by simp) hK hP ops.size plan [] [] [] _ σ a env H ds a _ ⟨?_,Agr.refl,fun i hi=>(by cases hi),List.nodup_nil,by simp,fun i hi=> ?_,fun i o ho hl=> ?_,List.Pairwise.nil,trivial⟩ h3 (fun i hi=> .inr (allIn_ok h2 i (by simpa using hi))) (by simp [hlen]) h
  ·exact st_drawn st
  ·simp [hi]
  ·have:=lt_of_get ho
   simp [this]at hl
end Go.Proofs.YtdoifigogbdodaaGreatDoor.Ev

namespace Go.Proofs.YtdoifigogbdodaaGreatDoor.Ev
open Go
variable {T:Nat→Type} {C:Cdc T} {P:Program} {σ:Lk} {H:List (AObj T)} {w:World} {G:Nat→Option (List (V T))} {R:Type}
def opsA(C:Cdc T)(P:Program)(G:Nat→Option (List (V T)))(Γ:Gam T)(n:Nat)(dsts:Nat→Option Nat):List Oper→Env T→List (AObj T)→Ds T→KS T R→KP T R→Option R
 |[],env,H,ds,K,_ =>K env H ds
 |o::l,env,H,ds,K,Kp=>operA C P G Γ n dsts o env H ds (fun env H ds=>opsA C P G Γ n dsts l env H ds K Kp) Kp
theorem opsA_ok(hC:CdcOk C){Γ:Gam T}(hΓ:GOk P C G Γ){n:Nat}{B:Base T}{ops:Array Oper}{dsts:Nat→Option Nat}(hd:∀j,dsts j=(ops[j]?).bind (·.dst)){K:KS T R}{Kp:KP T R}{r:R}{Q:Exit→Act→World→Prop}
  (hK:∀σ' env' H' ds' a' w',K env' H' ds'=some r→St C G n B σ' env' H' ds' a' w'→Q .normal a' w')
  (hP:∀σ' env' p H' ds' a' v w',Kp env' p H' ds'=some r→PSt C G n B σ' env' p H' ds' a' v w'→Q (.panic [{v,recovered:=false}]) a' w'):
  ∀(l:List Oper) (σ:Lk) (env:Env T) (H:List (AObj T)) (ds:Ds T) (a:Act) (w:World),St C G n B σ env H ds a w→opsA C P G Γ n dsts l env H ds K Kp=some r→wpList P ops Q l a w:=by
 intro l
 induction l with
 |nil=>intro σ env H ds a w st h;exact hK _ _ _ _ _ _ h st
 |cons o l ih=>
  intro σ env H ds a w st h;have:=operA_ok hC hΓ st hd h (next:=wpList P ops Q l) (Q:=Q) (fun σ' env' H' ds' a' w' h' st'=>ih σ' env' H' ds' a' w' st' h') (fun σ' env' p H' ds' v w' h' st'=>hP σ' env' p H' ds' a v w' h' st');unfold wpList;split
  ·rename_i hw;rw [if_pos hw]at this;exact .inl this
  ·rename_i hw;rw [if_neg hw]at this;exact this
inductive Ex(T:Nat→Type):Type
 |normal
 |exit (i:Nat)
 |ret
 |pan (p:AV T)
abbrev KC(T:Nat→Type)(R:Type):=Ex T→Env T→List (AObj T)→Ds T→Option R
abbrev Cut(T:Nat→Type):=(R:Type)→Env T→List (AObj T)→Ds T→KC T R→Option R
inductive Key|blk(id:Nat)|cnd(slot n:Nat)|reg(id:Nat)
def rid:Code→Nat
 | .region id _ _ =>id+1
 | .seq a b=>match rid a with|0=>rid b|n+1=>n+1
 | .cond _ a b=>match rid a with|0=>rid b|n+1=>n+1
 | .block _ b=>rid b
 | .loop b=>rid b
 | .scope b=>rid b
 |_ =>0
def cutAt(cut:Key→Option (Cut T))(c:Operand)(a b:Code):Option (Cut T):=
 match c with
 | .tmp t=>cut (.cnd t (rid (.seq a b)))
 |_ =>none
def codeA(C:Cdc T)(P:Program)(G:Nat→Option (List (V T)))(Γ:Gam T)(n:Nat)(cut:Key→Option (Cut T)):Code→Env T→List (AObj T)→Ds T→KC T R→Option R
 | .skip,env,H,ds,K=>K .normal env H ds
 | .region id ops draw,env,H,ds,K=>match cut (.reg id)with
  |some e=>e R env H ds K
  |none=>bif draw then drawA C P G Γ n ops env H ds (fun env H ds=>K .normal env H ds) (fun env p H ds=>K (.pan p) env H ds)else
   opsA C P G Γ n (fun j=>(ops[j]?).bind (·.dst)) ops.toList env H ds (fun env H ds=>K .normal env H ds) (fun env p H ds=>K (.pan p) env H ds)
 | .seq a b,env,H,ds,K=>codeA C P G Γ n cut a env H ds fun
   | .normal,env,H,ds=>codeA C P G Γ n cut b env H ds K
   | .exit i,env,H,ds=>K (.exit i) env H ds
   | .ret,env,H,ds=>K .ret env H ds
   | .pan p,env,H,ds=>K (.pan p) env H ds
 | .cond c a b,env,H,ds,K=>match cutAt cut c a b with
  |some e=>e R env H ds K
  |none=>match evO env c with
   | .v (.b x)=>bif x then codeA C P G Γ n cut a env H ds K else codeA C P G Γ n cut b env H ds K
   |_ =>none
 | .block id b,env,H,ds,K=>match cut (.blk id)with
  |some e=>e R env H ds K
  |none=>codeA C P G Γ n cut b env H ds fun
   | .exit i,env,H,ds=>bif Nat.beq i id then K .normal env H ds else K (.exit i) env H ds
   | .normal,env,H,ds=>K .normal env H ds
   | .ret,env,H,ds=>K .ret env H ds
   | .pan p,env,H,ds=>K (.pan p) env H ds
 | .exit id,env,H,ds,K=>K (.exit id) env H ds
 | .ret,env,H,ds,K=>K .ret env H ds
 | .label _,env,H,ds,K=>K .normal env H ds
 | .scope b,env,H,ds,K=>codeA C P G Γ n cut b env H ds K
 |_,_,_,_,_ =>none
def ExM(C:Cdc T)(σ:Lk)(H:List (AObj T))(w:World):Ex T→Exit→Prop
 | .normal,e=>e= .normal
 | .exit i,e=>e= .exit i
 | .ret,e=>e= .ret
 | .pan p,e=>∃v,e= .panic [{v,recovered:=false}]∧RepA C σ H w p v
def PostC(C:Cdc T)(G:Nat→Option (List (V T)))(n:Nat)(B:Base T)(K:KC T R)(r:R)(e:Exit)(a:Act)(w:World):Prop:=
 ∃σ x env H ds,K x env H ds=some r∧ExM C σ H w x e∧St C G n B σ env H ds a w
def CutOk(P:Program)(C:Cdc T)(G:Nat→Option (List (V T)))(n nB:Nat)(c:Code)(e:Cut T):Prop:=
 ∀(R:Type) (env:Env T) (H:List (AObj T)) (ds:Ds T) (K:KC T R) (r:R),e R env H ds K=some r→∀(B:Base T) (σ:Lk) (a:Act) (w:World),B.H.length=nB→St C G n B σ env H ds a w→c.wp P (PostC C G n B K r) a w
def CutsOk(P:Program)(C:Cdc T)(G:Nat→Option (List (V T)))(n nB:Nat)(cut:Key→Option (Cut T)):Code→Prop
 | .region id ops d=>∀e,cut (.reg id)=some e→CutOk P C G n nB (.region id ops d) e
 | .seq a b=>CutsOk P C G n nB cut a∧CutsOk P C G n nB cut b
 | .cond c a b=>(∀e,cutAt cut c a b=some e→CutOk P C G n nB (.cond c a b) e)∧(cutAt cut c a b=none→CutsOk P C G n nB cut a∧CutsOk P C G n nB cut b)
 | .block id b=>(∀e,cut (.blk id)=some e→CutOk P C G n nB (.block id b) e)∧(cut (.blk id)=none→CutsOk P C G n nB cut b)
 | .scope b=>CutsOk P C G n nB cut b
 |_ =>True
theorem codeA_ok(hC:CdcOk C){Γ:Gam T}(hΓ:GOk P C G Γ)(hm:P.follows .mixedOrders=true){n nB:Nat}{cut:Key→Option (Cut T)}{B:Base T}(hB:B.H.length=nB){r:R}:∀(c:Code),CutsOk P C G n nB cut c→∀(K:KC T R) (σ:Lk) (env:Env T) (H:List (AObj T)) (ds:Ds T) (a:Act) (w:World),
  St C G n B σ env H ds a w→codeA C P G Γ n cut c env H ds K=some r→c.wp P (PostC C G n B K r) a w:=by
 intro c
 induction c with
 |skip=>intro _ K σ env H ds a w st h;exact wp_skip ⟨σ,.normal,env,H,ds,h,rfl,st⟩
 |region id ops draw=>
  intro hcut K σ env H ds a w st h;simp only [codeA]at h;split at h
  ·rename_i e he
   exact hcut e he R env H ds K r h B σ a w hB st
  ·cases draw
   ·simp only [cond_false]at h
    refine wp_region_list ?_;exact opsA_ok hC hΓ (ops:=ops) (fun j=>rfl) (fun σ' env' H' ds' a' w' h' st'=>⟨σ',.normal,env',H',ds',h',rfl,st'⟩) (fun σ' env' p H' ds' a' v w' h' st'=>⟨σ',.pan p,env',H',ds',h',⟨v,rfl,st'.2⟩,st'.1⟩) ops.toList σ env H ds a w st h
   ·simp only [cond_true]at h
    exact drawA_ok hC hΓ hm st h (fun σ' env' H' ds' a' w' h' st'=>⟨σ',.normal,env',H',ds',h',rfl,st'⟩) (fun σ' env' p H' ds' a' v w' h' st'=>⟨σ',.pan p,env',H',ds',h',⟨v,rfl,st'.2⟩,st'.1⟩)
 |seq x y ihx ihy=>
  intro hcut K σ env H ds a w st h;simp only [codeA]at h;refine wp_seq ?_;refine wp_mono (ihx hcut.1 _ σ env H ds a w st h) fun e a' w' hpost=> ?_
  obtain⟨σ',ex,env',H',ds',h1,h2,h3⟩:=hpost;cases ex with
  |normal=>cases(show e=_ from h2);exact ihy hcut.2 K σ' env' H' ds' a' w' h3 h1
  |exit i=>cases(show e=_ from h2);exact⟨σ',.exit i,env',H',ds',h1,rfl,h3⟩
  |ret=>cases(show e=_ from h2);exact⟨σ',.ret,env',H',ds',h1,rfl,h3⟩
  |pan p=>obtain⟨v,rfl,hv⟩:=h2;exact⟨σ',.pan p,env',H',ds',h1,⟨v,rfl,hv⟩,h3⟩
 |cond c x y ihx ihy=>
  intro hcut K σ env H ds a w st h;simp only [codeA]at h;split at h
  ·rename_i e he
   exact hcut.1 e he R env H ds K r h B σ a w hB st
  ·rename_i he
   have hc:=hcut.2 he;split at h
   ·rename_i b hb
    have hv:=rep_evO st.env c;rw [hb]at hv;have hvb:=rep_b hv;cases b
    ·exact wp_cond_false hvb (ihy hc.2 K σ env H ds a w st h)
    ·exact wp_cond_true hvb (ihx hc.1 K σ env H ds a w st h)
   ·cases h
 |block id b ih=>
  intro hcut K σ env H ds a w st h;simp only [codeA]at h;split at h
  ·rename_i e he
   exact hcut.1 e he R env H ds K r h B σ a w hB st
  ·rename_i he
   refine wp_block (wp_mono (ih (hcut.2 he) _ σ env H ds a w st h) fun e a' w' hpost=> ?_);obtain⟨σ',ex,env',H',ds',h1,h2,h3⟩:=hpost;cases ex with
   |normal=>cases(show e=_ from h2);exact⟨σ',.normal,env',H',ds',h1,rfl,h3⟩
   |exit i=>
    cases(show e=_ from h2);simp only at h1;cases hi:Nat.beq i id
    ·rw [hi]at h1
     have hne:¬i=id:=fun e=>by subst e;simp at hi
     simp only [Exit.inBlock,hne,if_false];exact⟨σ',.exit i,env',H',ds',h1,rfl,h3⟩
    ·rw [hi]at h1
     have:=Nat.eq_of_beq_eq_true hi;simp only [Exit.inBlock,this,if_true];exact⟨σ',.normal,env',H',ds',h1,rfl,h3⟩
   |ret=>cases(show e=_ from h2);exact⟨σ',.ret,env',H',ds',h1,rfl,h3⟩
   |pan p=>obtain⟨v,rfl,hv⟩:=h2;exact⟨σ',.pan p,env',H',ds',h1,⟨v,rfl,hv⟩,h3⟩
 |exit id=>intro _ K σ env H ds a w st h;exact wp_exit ⟨σ,.exit id,env,H,ds,h,rfl,st⟩
 |ret=>intro _ K σ env H ds a w st h;exact wp_ret ⟨σ,.ret,env,H,ds,h,rfl,st⟩
 |scope b ih=>
  intro hcut K σ env H ds a w st h;simp only [codeA]at h;refine wp_scope_straight (wp_mono (ih hcut K σ env H ds a w st h) fun e a' w' hpost=> ?_);obtain⟨σ',ex,env',H',ds',h1,h2,h3⟩:=hpost;cases ex with
  |normal=>cases(show e=_ from h2);exact⟨σ',.normal,env',H',ds',h1,rfl,h3⟩
  |exit i=>cases(show e=_ from h2);exact⟨σ',.exit i,env',H',ds',h1,rfl,h3⟩
  |ret=>cases(show e=_ from h2);exact⟨σ',.ret,env',H',ds',h1,rfl,h3⟩
  |pan p=>obtain⟨v,rfl,hv⟩:=h2;exact⟨σ',.pan p,env',H',ds',h1,⟨v,rfl,hv⟩,h3⟩
 |label l=>intro _ K σ env H ds a w st h;exact wp_label ⟨σ,.normal,env,H,ds,h,rfl,st⟩
 |_ =>intro _ K σ env H ds a w st h;cases h
end Go.Proofs.YtdoifigogbdodaaGreatDoor.Ev

namespace Go.Proofs.YtdoifigogbdodaaGreatDoor.Ev
open Go
variable {T:Nat→Type} {C:Cdc T} {P:Program} {σ:Lk} {H:List (AObj T)} {w:World} {G:Nat→Option (List (V T))} {R:Type}
def gcσ(S:List Nat)(σ:Lk):Lk:={f:=fun i=>(S[i]?).bind σ.f,F:=σ.F}
section
variable {S:List Nat}
theorem rn_gc(hn:S.Nodup):Rn C S.idxOf (· ∈S) σ H w (gcσ S σ) (subH S H) w:=by
 refine⟨fun b off x ⟨h1,h2⟩=>⟨⟨h1.1,fun i o hi hs=> ?_⟩,h2⟩,fun o ho _ => ?_,fun o ho _ => ?_,fun o ho hlt n s h=> ?_,fun o _ b _ cs e fz h=>⟨cs,e,fz,h,rfl⟩⟩
 ·obtain⟨q,hq,rfl⟩:=subH_get hi
  rw [foot_renO];have hs':σ q=some b:=by simpa [gcσ,hq] using hs
  cases hx:H[q]? with
  |none=>rw [List.getD_eq_getElem?_getD,hx];exact fun h=>h
  |some x=>rw [getD_some hx];exact h1.2 q x hx hs'
 ·show S.idxOf o<(S.map _).length
  rw [List.length_map];exact List.idxOf_lt_length_of_mem ho
 ·simp [gcσ,get_idx ho]
 ·obtain⟨x,hx0,hxs⟩:=svH_some h
  obtain⟨q,hq,hx⟩:=subH_get hx0;rw [get_idx ho]at hq;cases hq;subst hx;have hr:=svO_ren _ n s hxs;rw [List.getD_eq_getElem?_getD,List.getElem?_eq_getElem hlt]at hr;exact svH_of (List.getElem?_eq_getElem hlt) (by simpa using hr)
theorem gc_key(hc:closedB S H=true){i:Nat}{x:AObj T}(h:(subH S H)[i]? =some x):
  ∃o z,S[i]? =some o∧H[o]? =some z∧x=renO S.idxOf z∧withinO S z=true∧gcσ S σ i=σ o:=by
 obtain⟨o,ho,rfl⟩:=subH_get h;obtain⟨z,hz,hw⟩:=closed_get hc (List.mem_of_getElem? ho);exact⟨o,z,ho,hz,by rw [getD_some hz],hw,by simp [gcσ,ho]⟩
theorem gc_rp(hn:S.Nodup)(hc:closedB S H=true)(hR:Rp C σ H w G):Rp C (gcσ S σ) (subH S H) w G:=by
 have hM:=rn_gc (C:=C) (σ:=σ) (H:=H) (w:=w) hn;refine⟨fun i j oi oj b hi hj hli hlj hsi hsj=> ?_,fun i o b hi hl hs=> ?_,fun i o hi=> ?_,fun g l hg=>(hR.glob g l hg).mono hM.cell,fun i o b hi hl hs off hF=> ?_,fun b off hF=>hR.fb b off hF⟩
 ·obtain⟨p,z,h1,h2,rfl,_,h3⟩:=gc_key (σ:=σ) hc hi
  obtain⟨q,z',k1,k2,rfl,_,k3⟩:=gc_key (σ:=σ) hc hj;rw [live_renO]at hli hlj;have:=hR.inj p q z z' b h2 k2 hli hlj (h3▸hsi) (k3▸hsj);subst this;rw [←idx_get hn h1,←idx_get hn k1]
 ·obtain⟨p,z,h1,h2,rfl,_,h3⟩:=gc_key (σ:=σ) hc hi
  rw [live_renO]at hl;exact hR.lt p z b h2 hl (h3▸hs)
 ·obtain⟨p,z,h1,h2,rfl,hw,h3⟩:=gc_key (σ:=σ) hc hi
  have:=RepO.ren hM (j:=p) (o:=z) (by cases z<;>first|trivial|exact names_withinL S _ hw) (by rw [idx_get hn h1];exact h3) (fun _ _ =>rfl) (hR.obj p z h2)
  rwa [idx_get hn h1]at this
 ·obtain⟨p,z,h1,h2,rfl,hw,h3⟩:=gc_key (σ:=σ) hc hi
  rw [live_renO]at hl;exact hR.free p z b h2 hl (h3▸hs) off hF
theorem gc_anc(hn:S.Nodup)(hc:closedB S H=true){σ0:Lk}{H0:List (AObj T)}{w0:World}(hid:∀i,i<H0.length→S[i]? =some i)(hA:Anc C σ0 H0 w0 σ H w):Anc C σ0 H0 w0 (gcσ S σ) (subH S H) w:=by
 have hM:=rn_gc (C:=C) (σ:=σ) (H:=H) (w:=w) hn;have hlen:H0.length≤S.length:=by
  rcases Nat.eq_zero_or_pos H0.length with h|h
  ·omega
  ·have:=(List.getElem?_eq_some_iff.1 (hid (H0.length-1) (by omega))).1
   omega
 refine⟨hA.F,hA.os,hA.tape,hA.output,hA.size,by simpa [subH] using hlen,fun b off hb ho=> ?_,hA.same,hA.block,fun i o hi hr=> ?_,fun i o b hi hl hs=> ?_,fun i o o' hi hi' hr=> ?_⟩
 ·have h:=hA.okc b off hb ho
  refine⟨h.1,fun i o hi hs=> ?_⟩;obtain⟨p,z,h1,h2,rfl,_,h3⟩:=gc_key (σ:=σ) hc hi;rw [foot_renO];exact h.2 p z h2 (h3▸hs)
 ·have hlt:=(List.getElem?_eq_some_iff.1 hi).1
  have:gcσ S σ i=σ i:=by simp [gcσ,hid i hlt]
  rw [this];exact hA.sig i o hi hr
 ·obtain⟨p,z,h1,h2,rfl,_,h3⟩:=gc_key (σ:=σ) hc hi
  rw [live_renO]at hl;rcases hA.fresh p z b h2 hl (h3▸hs)with⟨o',k1,k2,k3⟩|k
  ·have hlt:=(List.getElem?_eq_some_iff.1 k1).1
   have:=hid p hlt;have hip:p=i:=(idx_get hn this).symm.trans (idx_get hn h1);subst hip;exact .inl ⟨o',k1,k2,k3⟩
  ·exact .inr k
 ·have hlt:=(List.getElem?_eq_some_iff.1 hi).1
  obtain⟨p,z,h1,h2,rfl,_,_⟩:=gc_key (σ:=σ) hc hi';rw [hid i hlt]at h1;cases h1;rw [isRow_renO];exact hA.kind i o z hi h2 hr
end
structure Sv(C:Cdc T)(G:Nat→Option (List (V T)))(B:Base T)(σ:Lk)(env:Env T)(H:List (AObj T))(ds:Ds T)(val:Nat→Value)(dl:List Deferred)(w:World):Prop where
 rp:Rp C σ H w G
 anc:Anc C B.σ B.H B.w σ H w
 env:∀t,RepA C σ H w (env t) (val t)
 ds:RepDs C σ H w ds dl
theorem St.sv{n:Nat}{B:Base T}{env:Env T}{ds:Ds T}{a:Act}(st:St C G n B σ env H ds a w):Sv C G B σ env H ds (fun t=>a.tmps.getD t undef) a.defers w:=⟨st.rp,st.anc,st.env,st.ds⟩
theorem Sv.st{n:Nat}{B:Base T}{env:Env T}{ds:Ds T}{a:Act}(h:Sv C G B σ env H ds (fun t=>a.tmps.getD t undef) a.defers w)(hn:a.tmps.size=n):St C G n B σ env H ds a w:=⟨h.rp,h.anc,hn,h.env,h.ds⟩
abbrev NormT(T:Nat→Type):=Env T→List (AObj T)→Ds T→Env T×List (AObj T)×Ds T
def NormOk(C:Cdc T)(G:Nat→Option (List (V T)))(nB:Nat)(N:NormT T):Prop:=
 ∀(B:Base T) (σ:Lk) (env:Env T) (H:List (AObj T)) (ds:Ds T) (val:Nat→Value) (dl:List Deferred) (w:World),B.H.length=nB→Sv C G B σ env H ds val dl w→
  ∃σ',Sv C G B σ' (N env H ds).1 (N env H ds).2.1 (N env H ds).2.2 val dl w
def idN:NormT T:=fun env H ds=>(env,H,ds)
theorem idN_ok{nB:Nat}:NormOk C G nB idN:=fun B σ env H ds val dl w _ h=>⟨σ,h⟩
def andN(N M:NormT T):NormT T:=fun env H ds=>(fun r=>M r.1 r.2.1 r.2.2) (N env H ds)
theorem andN_ok{nB:Nat}{N M:NormT T}(hN:NormOk C G nB N)(hM:NormOk C G nB M):NormOk C G nB (andN N M):=fun B σ env H ds val dl w hB h=>by
 obtain⟨σ1,h1⟩:=hN B σ env H ds val dl w hB h;exact hM B σ1 _ _ _ val dl w hB h1
def refsDs(ds:Ds T):List Nat:=ds.foldr (fun d acc=>refsL d.2.1++refsL d.2.2++acc) []
def renDs(f:Nat→Nat)(ds:Ds T):Ds T:=ds.map fun d=>(d.1,renL f d.2.1,renL f d.2.2)
def withinDs(S:List Nat)(ds:Ds T):Bool:=ds.all fun d=>withinL S d.2.1&&withinL S d.2.2
def idB(n:Nat)(S:List Nat):Bool:=(List.range n).all fun i=>match S[i]? with|some j=>Nat.beq i j|none=>false
theorem RepDs.ren{f:Nat→Nat}{D:Nat→Prop}{σ':Lk}{H':List (AObj T)}{w':World}(M:Rn C f D σ H w σ' H' w'):∀{ds:Ds T} {l:List Deferred},(∀d∈ds,NamesL D d.2.1∧NamesL D d.2.2)→RepDs C σ H w ds l→RepDs C σ' H' w' (renDs f ds) l
 |[],_,_,h=>h
 |d::ds,_,hn,⟨args,cap,l',h1,h2,h3,h4⟩=>
  ⟨args,cap,l',h1,RepL.ren M _ _ (hn d (by simp)).1 h2,RepL.ren M _ _ (hn d (by simp)).2 h3,RepDs.ren M (fun d hd=>hn d (List.mem_cons_of_mem _ hd)) h4⟩
def gcRun(nB:Nat)(live:List Nat)(S:List Nat):NormT T:=fun env H ds=>
 bif nodupB S&&closedB S H&&idB nB S&&withinL S (live.map env)&&withinDs S ds then
  (fun t=>bif live.elem t then ren S.idxOf (env t)else .any,subH S H,renDs S.idxOf ds)
 else(env,H,ds)
def gcN(nB:Nat)(live:List Nat):NormT T:=fun env H ds=>gcRun nB live (reach H 5 (addAll (List.range nB) (refsL (live.map env)++refsDs ds))) env H ds
theorem withinL_mem{S:List Nat}:∀{l:List (AV T)} {x:AV T},withinL S l=true→x∈l→within S x=true
 |y::l,x,h,hx=>by
  have h':(within S y&&withinL S l)=true:=h;rw [Bool.and_eq_true]at h';rcases List.mem_cons.1 hx with rfl|hx
  ·exact h'.1
  ·exact withinL_mem h'.2 hx
theorem gcRun_ok{nB:Nat}{live S:List Nat}:NormOk C G nB (gcRun nB live S):=by
 intro B σ env H ds val dl w hB h;unfold gcRun;cases hb:nodupB S&&closedB S H&&idB nB S&&withinL S (live.map env)&&withinDs S ds
 ·exact⟨σ,h⟩
 ·simp only [Bool.and_eq_true]at hb
  obtain⟨⟨⟨⟨h1,h2⟩,h3⟩,h4⟩,h5⟩:=hb;have hn:=nodup_of h1;have hM:=rn_gc (C:=C) (σ:=σ) (H:=H) (w:=w) hn;have hid:∀i,i<B.H.length→S[i]? =some i:=by
   intro i hi;have:=List.all_eq_true.1 h3 i (List.mem_range.2 (by omega));cases hs:S[i]? with
   |none=>rw [hs]at this;cases this
   |some j=>rw [hs]at this;rw [Nat.eq_of_beq_eq_true this]
  refine⟨gcσ S σ,gc_rp hn h2 h.rp,gc_anc hn h2 hid h.anc,fun t=> ?_,h.ds.ren hM fun d hd=> ?_⟩
  ·show RepA C _ _ w (bif live.elem t then ren S.idxOf (env t)else .any) _
   cases ht:live.elem t
   ·trivial
   ·have hm:t∈live:=by simpa using ht
    exact RepA.ren hM _ _ (names_within S _ (withinL_mem h4 (List.mem_map.2 ⟨t,hm,rfl⟩))) (h.env t)
  ·have:=List.all_eq_true.1 h5 d hd
   rw [Bool.and_eq_true]at this;exact⟨names_withinL S _ this.1,names_withinL S _ this.2⟩
theorem gcN_ok{nB:Nat}{live:List Nat}:NormOk C G nB (gcN nB live):=fun B σ env H ds val dl w hB h=>gcRun_ok B σ env H ds val dl w hB h
def promAV(n:Nat):List Nat→AV T→Option (AV T)
 |[],.cap0=>some (.own n)
 |i::p,.agg l=>match l[i]? with
  |some x=>match promAV n p x with
   |some y=>some (.agg (l.set i y))
   |none=>none
  |none=>none
 |i::p,.tup l=>match l[i]? with
  |some x=>match promAV n p x with
   |some y=>some (.tup (l.set i y))
   |none=>none
  |none=>none
 |_,_ =>none
theorem RepL.set{l:List (AV T)}{ys:List Value}(h:RepL C σ H w l ys){i:Nat}{x:AV T}(hx:∀y,ys[i]? =some y→RepA C σ H w x y):RepL C σ H w (l.set i x) ys:=by
 refine RepL.of_get (by simp [h.length]) fun j a y hj hy=> ?_
 rw [List.getElem?_set]at hj;by_cases hij:i=j
 ·subst hij
  rw [if_pos rfl]at hj;by_cases hl:i<l.length
  ·rw [if_pos hl]at hj;cases hj;exact hx y hy
  ·rw [if_neg hl]at hj;cases hj
 ·rw [if_neg hij]at hj
  obtain⟨y',k1,k2⟩:=h.get j a hj;rw [hy]at k1;cases k1;exact k2
theorem promAV_rep{n:Nat}(hn:n<H.length)(hrow:∀q s,svH C H n=some (q,s)→σ n=none):∀(p:List Nat) (x x':AV T) (y:Value),promAV n p x=some x'→RepA C σ H w x y→RepA C σ H w x' y
 |[],.cap0,x',y,h,hx=>by
  cases h;have hA:y= .slice none 0 0:=hx;exact⟨hn,⟨none,0,0,hA⟩,fun q s hr=> .inl ⟨hrow q s hr,hA⟩⟩
 |i::p,.agg l,x',y,h,⟨vs,h1,h2⟩=>by
  simp only [promAV]at h;split at h
  ·rename_i z hz
   split at h
   ·rename_i z' hz'
    cases h;refine⟨vs,h1,h2.set fun y hy=> ?_⟩;obtain⟨y',k1,k2⟩:=h2.get i z hz;rw [hy]at k1;cases k1;exact promAV_rep hn hrow p z z' _ hz' k2
   ·cases h
  ·cases h
 |i::p,.tup l,x',y,h,⟨vs,h1,h2⟩=>by
  simp only [promAV]at h;split at h
  ·rename_i z hz
   split at h
   ·rename_i z' hz'
    cases h;refine⟨vs,h1,h2.set fun y hy=> ?_⟩;obtain⟨y',k1,k2⟩:=h2.get i z hz;rw [hy]at k1;cases k1;exact promAV_rep hn hrow p z z' _ hz' k2
   ·cases h
  ·cases h
 |[],.z0,_,_,h,_ |[],.any,_,_,h,_ |[],.v _,_,_,h,_ |[],.agg _,_,_,h,_ |[],.tup _,_,_,h,_ |[],.ptr _ _,_,_,h,_ |[],.rptr _ _ _,_,_,h,_ |[],.cptr _ _ _,_,_,h,_
 |[],.gptr _ _,_,_,h,_ |[],.sp _,_,_,h,_ |[],.own _,_,_,h,_ |[],.slc _ _ _ _,_,_,h,_ |[],.fn _ _ _,_,_,h,_ |[],.ifc _ _,_,_,h,_ =>by cases h
 |_ ::_,.z0,_,_,h,_ |_ ::_,.any,_,_,h,_ |_ ::_,.v _,_,_,h,_ |_ ::_,.ptr _ _,_,_,h,_ |_ ::_,.rptr _ _ _,_,_,h,_ |_ ::_,.cptr _ _ _,_,_,h,_
 |_ ::_,.gptr _ _,_,_,h,_ |_ ::_,.sp _,_,_,h,_ |_ ::_,.own _,_,_,h,_ |_ ::_,.slc _ _ _ _,_,_,h,_ |_ ::_,.fn _ _ _,_,_,h,_ |_ ::_,.ifc _ _,_,_,h,_ |_ ::_,.cap0,_,_,h,_ =>by cases h
theorem step_nil(hR:Rp C σ H w G)(e:Nat):Step C G [] σ H w (add σ H.length none) (H++[.row e [] true]) w:=
 step_add hR _ none w rfl rfl rfl (Nat.le_refl _) (fun b _ =>rfl) (fun b hb=>by cases hb) fun _ => .inl ⟨rfl,by simp [add]⟩
theorem purgeDs_nil'(ds:Ds T):purgeDs [] ds=ds:=by
 unfold purgeDs;rw [List.map_congr_left (g:=id) (fun d _ =>by obtain⟨a,b,c⟩:=d;simp [purgeL_nil])];simp
theorem Sv.step{B:Base T}{env:Env T}{ds:Ds T}{val:Nat→Value}{dl:List Deferred}(h:Sv C G B σ env H ds val dl w){σ':Lk}{H':List (AObj T)}{w':World}(hs:Step C G [] σ H w σ' H' w'):Sv C G B σ' env H' ds val dl w':=
 ⟨hs.rp,h.anc.trans hs.anc,fun t=>RepA.move0 hs.move (h.env t),by have:=h.ds.move hs.move;rwa [purgeDs_nil']at this⟩
def promS(t:Nat)(p:List Nat)(e:Nat):NormT T:=fun env H ds=>
 match promAV H.length p (env t)with
 |some y=>(upd env t y,H++[.row e [] true],ds)
 |none=>(env,H,ds)
theorem promS_ok{nB t:Nat}{p:List Nat}{e:Nat}:NormOk C G nB (promS t p e):=by
 intro B σ env H ds val dl w hB h;unfold promS;split
 ·rename_i y hy
  have h':=h.step (step_nil h.rp e);refine⟨_,h'.rp,h'.anc,fun u=> ?_,h'.ds⟩
  show RepA C _ _ w (upd env t y u) _;unfold upd;cases hu:Nat.beq u t
  ·exact h'.env u
  ·have:=Nat.eq_of_beq_eq_true hu
   subst this;exact promAV_rep (by simp) (fun q s hr=>by simp [add]) p _ y _ hy (h'.env u)
 ·exact⟨σ,h⟩
end Go.Proofs.YtdoifigogbdodaaGreatDoor.Ev

namespace Go.Proofs.YtdoifigogbdodaaGreatDoor.Ev
open Go
variable {T:Nat→Type} {C:Cdc T} {P:Program} {σ:Lk} {H:List (AObj T)} {w:World} {G:Nat→Option (List (V T))} {R:Type}
def envOf(args:List (AV T)):Env T:=fun t=>args.getD t .any
def resA(C:Cdc T)(P:Program)(G:Nat→Option (List (V T)))(env:Env T)(H:List (AObj T)):List ResultVar→Option (List (AV T))
 |[]=>some []
 | .tmp t::l=>(resA C P G env H l).map (env t:: ·)
 | .cell a t::l=>loadA C P G t (env a) H fun x _ _ =>(resA C P G env H l).map (x:: ·)
def oneOf:List (AV T)→AV T
 |[x]=>x
 |l=> .tup l
def oneN(N:NormT T)(x:AV T)(H:List (AObj T))(K:AV T→List (AObj T)→Option R):Option R:=
 (fun r=>K (r.1 0) r.2.1) (N (fun _ =>x) H [])
def funA(C:Cdc T)(P:Program)(G:Nat→Option (List (V T)))(Γ:Gam T)(cut:Key→Option (Cut T))(NR NP:NormT T)(fn:Func)(args:List (AV T))(H:List (AObj T))(K:Out T→Option R):Option R:=
 match fn.body with
 |some c=>bif Nat.ble args.length fn.ntmps then codeA C P G Γ fn.ntmps cut c (envOf args) H [] fun
   | .normal,env,H',[]=>(resA C P G env H' fn.results.toList).bind fun xs=>oneN NR (oneOf xs) H' fun x H=>K (.ret x H)
   | .ret,env,H',[]=>(resA C P G env H' fn.results.toList).bind fun xs=>oneN NR (oneOf xs) H' fun x H=>K (.ret x H)
   | .pan p,_,H',[]=>oneN NP p H' fun p H=>K (.panic p H)
   |_,_,_,_ =>none
  else none
 |none=>none
theorem oneN_ok{nB:Nat}{N:NormT T}(hN:NormOk C G nB N){B:Base T}(hB:B.H.length=nB)(hR:Rp C σ H w G)(hA:Anc C B.σ B.H B.w σ H w){x:AV T}{y:Value}(hx:RepA C σ H w x y){K:AV T→List (AObj T)→Option R}{r:R}
  (h:oneN N x H K=some r):∃x' H' σ',K x' H'=some r∧Rp C σ' H' w G∧Anc C B.σ B.H B.w σ' H' w∧RepA C σ' H' w x' y:=by
 obtain⟨σ',h'⟩:=hN B σ (fun _ =>x) H [] (fun _ =>y) [] w hB ⟨hR,hA,fun _ =>hx,rfl⟩;exact⟨_,_,σ',h,h'.rp,h'.anc,h'.env 0⟩
def resRun(tmps:Array Value):ResultVar→Sem Value
 | .tmp t=>pure (tmps.getD t undef)
 | .cell c t=>do loadVar t (←asAddr (tmps.getD c undef))
theorem results_eq(fn:Func)(tmps:Array Value):results fn tmps=(do
  let vs←fn.results.mapM (resRun tmps)
  pure (if h:vs.size=1 then vs[0]else .tuple vs)):=by
 unfold results;congr 1
theorem resA_ok(hR:Rp C σ H w G){env:Env T}{a:Act}(he:RepE C σ H w env a):∀(l:List ResultVar) (xs:List (AV T)),resA C P G env H l=some xs→
  ∃vs,(l.mapM (resRun a.tmps)).run P w= .ok vs w∧RepL C σ H w xs vs
 |[],xs,h=>by cases h;exact⟨[],rfl,rfl⟩
 | .tmp t::l,xs,h=>by
  simp only [resA]at h;cases hr:resA C P G env H l with
  |none=>rw [hr]at h;cases h
  |some ys=>
   rw [hr]at h;cases h;obtain⟨vs,h1,h2⟩:=resA_ok hR he l ys hr;refine⟨a.tmps.getD t undef::vs, ?_,_,_,rfl,he t,h2⟩;rw [List.mapM_cons];simp only [resRun,Sem.run_bind,Sem.run_pure,Result.andThen_ok,h1]
 | .cell c t::l,xs,h=>by
  simp only [resA]at h;unfold loadA at h;split at h
  ·rename_i n ag hn ha
   split at h
   ·rename_i cs hcs
    obtain⟨ad,ys,hy,h1,h2⟩:=cellsAt_ok hR (he c) hcs;have key:∃x v,(resA C P G env H l).map (x:: ·)=some xs∧(loadVar t ad).run P w= .ok v w∧RepA C σ H w x v:=by
     rcases whole_some h with⟨rfl,hl,hK⟩|⟨rfl,z,hz,hK⟩
     ·refine⟨_,.agg ys.toArray,hK, ?_,_,rfl,by simpa using h1⟩
      have h3:ys.length=n:=by rw [h1.length,hl]
      have:=run_loadCells_list (P:=P) w ad ys h2;rw [h3]at this;simp only [loadVar,Sem.run_bind,Sem.run_pure,Result.andThen_ok,run_isAgg' ha,if_true,run_sizeOf' hn,this]
     ·subst hz
      obtain⟨v,ys',rfl,h3,h4⟩:=h1;have hc:=h2 0 v rfl;have h0:ad.add 0=ad:=by simp [Addr.add]
      rw [h0]at hc;refine⟨_,v,hK, ?_,h3⟩;simp only [loadVar,Sem.run_bind,Sem.run_pure,Result.andThen_ok,run_isAgg' ha,Bool.false_eq_true,if_false,run_load,hc]
    obtain⟨x,v,k1,k2,k3⟩:=key;cases hr:resA C P G env H l with
    |none=>rw [hr]at k1;cases k1
    |some zs=>
     rw [hr]at k1;cases k1;obtain⟨vs,h3,h4⟩:=resA_ok hR he l zs hr;refine⟨v::vs, ?_,_,_,rfl,k3,h4⟩;rw [List.mapM_cons];simp only [resRun,hy,asAddr,Sem.run_bind,Sem.run_pure,Result.andThen_ok,k2,h3]
   ·cases h
  ·cases h
theorem oneOf_rep{xs:List (AV T)}{vs:List Value}(h:RepL C σ H w xs vs):RepA C σ H w (oneOf xs) (if h:vs.toArray.size=1 then vs.toArray[0]else .tuple vs.toArray):=by
 unfold oneOf;split
 ·rename_i x
  obtain⟨y,ys,rfl,h1,h2⟩:=h;have:ys=[]:=h2;subst this;exact h1
 ·rename_i hne
  rw [dif_neg]
  ·exact⟨_,rfl,by simpa using h⟩
  ·intro h1
   have hl:=h.length;simp at h1;rw [h1]at hl
   match xs,hl with
   |[x],_ =>exact hne x rfl
theorem run_results(hR:Rp C σ H w G){fn:Func}{env:Env T}{a:Act}(he:RepE C σ H w env a){xs:List (AV T)}(h:resA C P G env H fn.results.toList=some xs):
  ∃v,(results fn a.tmps).run P w= .ok v w∧RepA C σ H w (oneOf xs) v:=by
 obtain⟨vs,h1,h2⟩:=resA_ok (P:=P) hR he _ _ h;refine⟨_, ?_,oneOf_rep h2⟩;rw [results_eq,Array.mapM_eq_mapM_toList];simp only [Sem.run_bind,Sem.run_map,h1,Result.andThen_ok];rfl
theorem envOf_rep{args:List (AV T)}{vs:List Value}(h:RepL C σ H w args vs)(k:Nat):RepE C σ H w (envOf args) {tmps:=vs.toArray++Array.replicate k undef,defers:=[]}:=by
 intro t;unfold envOf;rw [List.getD_eq_getElem?_getD];cases ht:args[t]? with
 |none=>trivial
 |some x=>
  obtain⟨y,h1,h2⟩:=h.get t x ht;have hlt:=(List.getElem?_eq_some_iff.1 h1).1;have:(vs.toArray++Array.replicate k undef).getD t undef=y:=by
   rw [Array.getD_eq_getD_getElem?,Array.getElem?_append_left (by simpa using hlt)];simp [h1]
  rw [this];exact h2
theorem funA_ok(hC:CdcOk C){Γ:Gam T}(hΓ:GOk P C G Γ)(hm:P.follows .mixedOrders=true){cut:Key→Option (Cut T)}{NR NP:NormT T}{f:FuncId}{fn:Func}(hf:P.funcs[f]? =some fn)
  {args:List (AV T)} {H:List (AObj T)} (hNR:NormOk C G H.length NR) (hNP:NormOk C G H.length NP) (hcut:∀c,fn.body=some c→CutsOk P C G fn.ntmps H.length cut c) {K:Out T→Option R} {r:R} (h:funA C P G Γ cut NR NP fn args H K=some r):
  ∀(σ:Lk) (w:World) (vs:List Value),Rp C σ H w G→RepL C σ H w args vs→Calls P f vs.toArray w fun e w'=>∃out,K out=some r∧Ends C G σ H w out e w':=by
 intro σ w vs hR ha;unfold funA at h;split at h
 ·rename_i c hb
  cases hle:Nat.ble args.length fn.ntmps
  ·rw [hle]at h;cases h
  ·rw [hle]at h
   simp only [cond_true]at h;have hle':=Nat.le_of_ble_eq_true hle;have hlen:=ha.length;refine calls_of_wp hf hb ?_;have st:St C G fn.ntmps ⟨σ,H,w⟩ σ (envOf args) H [] {tmps:=vs.toArray++Array.replicate (fn.ntmps-vs.toArray.size) undef,defers:=[]} w:=
    ⟨hR,Anc.refl C σ H w,by simp;omega,envOf_rep ha _,rfl⟩
   refine wp_mono (codeA_ok hC hΓ hm (B:=⟨σ,H,w⟩) rfl c (hcut c hb) _ σ _ H [] _ w st h) fun e a' w' hpost=> ?_
   obtain⟨σ',ex,env',H',ds',h1,h2,h3⟩:=hpost;have fin:(resA C P G env' H' fn.results.toList).bind (fun xs=>oneN NR (oneOf xs) H' fun x H=>K (.ret x H))=some r→ds'=[]→
     a'.defers=[]∧∃v,(results fn a'.tmps).run P w'= .ok v w'∧∃out,K out=some r∧Ends C G σ H w out (.returned v) w':=by
    intro hh hds;subst hds;obtain⟨xs,hxs,hh⟩:=Option.bind_eq_some_iff.1 hh;obtain⟨v,k1,k2⟩:=run_results (P:=P) h3.rp h3.env hxs;obtain⟨x',H'',σ'',q1,q2,q3,q4⟩:=oneN_ok hNR (B:=⟨σ,H,w⟩) rfl h3.rp h3.anc k2 hh;exact⟨h3.ds,v,k1,_,q1,v,σ'',rfl,q2,q3,q4⟩
   cases ex with
   |normal=>
    cases(show e=_ from h2);cases ds' with
    |nil=>exact fin h1 rfl
    |cons=>cases h1
   |ret=>
    cases(show e=_ from h2);cases ds' with
    |nil=>exact fin h1 rfl
    |cons=>cases h1
   |exit i=>cases ds'<;>cases h1
   |pan p=>
    obtain⟨v,rfl,hv⟩:=h2;cases ds' with
    |nil=>
     obtain⟨x',H'',σ'',q1,q2,q3,q4⟩:=oneN_ok hNP (B:=⟨σ,H,w⟩) rfl h3.rp h3.anc hv h1;exact⟨h3.ds,_,q1,v,σ'',rfl,q2,q3,q4⟩
    |cons=>cases h1
 ·cases h
end Go.Proofs.YtdoifigogbdodaaGreatDoor.Ev

namespace Go.Proofs.YtdoifigogbdodaaGreatDoor.Ev
open Go
variable {T:Nat→Type} {C:Cdc T} {P:Program} {σ:Lk} {H:List (AObj T)} {w:World} {G:Nat→Option (List (V T))} {R:Type}
theorem callable{g:FuncId}{fn:Func}{c:Code}(hf:P.funcs[g]? =some fn)(hb:fn.body=some c)(hn:(fn.name=="runtime.NumGoroutine")=false)(vs:Array Value)(w:World):
  (callFunc g vs).run P w= .ok (.enter g vs) w:=by
 unfold callFunc;have hp:(program).run P w= .ok P w:=rfl;simp only [Sem.run_bind,hp,Result.andThen_ok,hf];rw [hn];simp [hb]
structure Spec(T:Nat→Type)(I X:Type) where
 dcI:List (AV T)→List (AObj T)→Option I
 ecA:I→List (AV T)
 ecH:I→List (AObj T)
 dcO:Out T→Option X
 ecO:X→Out T
 goO:(R:Type)→X→(Out T→Option R)→Option R
structure SpecOk{I X:Type}(s:Spec T I X):Prop where
 hI:∀a H i,s.dcI a H=some i→a=s.ecA i∧H=s.ecH i
 hO:∀o x,s.dcO o=some x→o=s.ecO x
 hG:∀R x k,s.goO R x k=k (s.ecO x)
def Spec.entry{I X:Type}(s:Spec T I X)(f:I→Option X):Entry T:=
 fun R args H k=>(s.dcI args H).bind fun i=>(f i).bind fun x=>s.goO R x k
theorem Spec.ok{I X:Type}{s:Spec T I X}(hs:SpecOk s)(hC:CdcOk C)(hm:P.follows .mixedOrders=true){Γ:Gam T}(hΓ:GOk P C G Γ){cut:Key→Option (Cut T)}{g:FuncId}{fn:Func}{c:Code}{NR NP:NormT T}{nB:Nat}
  (hf:P.funcs[g]? =some fn) (hb:fn.body=some c) (hn:(fn.name=="runtime.NumGoroutine")=false) (hnB:∀i,(s.ecH i).length=nB) (hNR:NormOk C G nB NR) (hNP:NormOk C G nB NP) (hcut:CutsOk P C G fn.ntmps nB cut c)
  {f:I→Option X} (hev:∀i,funA C P G Γ cut NR NP fn (s.ecA i) (s.ecH i) s.dcO=f i):EOk P C G g (s.entry f):=by
 intro R args H k r h;intro σ w vs hR ha;unfold Spec.entry at h;obtain⟨i,hi,h'⟩:=Option.bind_eq_some_iff.1 h;obtain⟨x,hx,hk⟩:=Option.bind_eq_some_iff.1 h';rw [hs.hG]at hk;obtain⟨rfl,rfl⟩:=hs.hI _ _ _ hi;rw [←hev]at hx;refine .inl ⟨callable hf hb hn _ w,(funA_ok hC hΓ hm hf (by rw [hnB];exact hNR) (by rw [hnB];exact hNP) (fun c' hc=>by rw [hb]at hc;cases hc;rw [hnB];exact hcut) hx σ w vs hR ha).mono fun e w' ⟨out,ho,he⟩=> ?_⟩;rw [hs.hO _ _ ho]at he;exact⟨_,hk,he⟩
def gam0:Gam T:=⟨fun _ _ _ _ _ =>none,fun _ =>false⟩
theorem gam0_ok:GOk P C G (gam0 (T:=T)):=fun f R args H k r h=>by cases h
def Gam.addS(Γ:Gam T)(g:Nat){I X:Type}(s:Spec T I X)(f:I→Option X):Gam T:=
 ⟨fun h R args H k=>bif Nat.beq h g then(match s.dcI args H with
  |some i=>(f i).bind fun x=>s.goO R x k
  |none=>Γ h R args H k)else Γ h R args H k,Γ.own⟩
theorem GOk.give{Γ:Gam T}{l:List Nat}(hΓ:GOk P C G Γ):GOk P C G (Γ.give l):=hΓ
theorem GOk.addS{Γ:Gam T}(hΓ:GOk P C G Γ){g:Nat}{I X:Type}{s:Spec T I X}{f:I→Option X}(he:EOk P C G g (s.entry f)):GOk P C G (Γ.addS g s f):=by
 intro h R args H k r hr;simp only [Gam.addS]at hr;cases hb:Nat.beq h g
 ·rw [hb]at hr;exact hΓ h R args H k r hr
 ·rw [hb]at hr
  simp only [cond_true]at hr;split at hr
  ·rename_i i hi
   have:=Nat.eq_of_beq_eq_true hb;subst this;refine he R args H k r ?_;unfold Spec.entry;rw [hi];exact hr
  ·exact hΓ h R args H k r hr
def envL:List (Nat×AV T)→Env T
 |[]=>anyEnv
 |(t,x)::l=>upd (envL l) t x
theorem envL_sub{env:Env T}:∀{l:List (Nat×AV T)},(∀p∈l,p.2=env p.1)→∀t,envL l t=env t∨envL l t= .any
 |[],_,t=> .inr rfl
 |(u,x)::l,h,t=>by
  unfold envL upd;cases hb:Nat.beq t u
  ·exact envL_sub (fun p hp=>h p (List.mem_cons_of_mem _ hp)) t
  ·have:=Nat.eq_of_beq_eq_true hb
   subst this;exact .inl (h (t,x) (by simp))
structure Piece(T:Nat→Type)(S E:Type) where
 dcS:Env T→List (AObj T)→Ds T→Option S
 slS:S→List (Nat×AV T)
 obS:S→List (AObj T)
 dsS:S→Ds T
 dcE:KC T E
 exE:E→Ex T
 slE:E→List (Nat×AV T)
 obE:E→List (AObj T)
 dsE:E→Ds T
 goE:(R:Type)→E→(Ex T→List (Nat×AV T)→List (AObj T)→Ds T→Option R)→Option R
structure PieceOk{S E:Type}(p:Piece T S E):Prop where
 hS:∀env H ds s,p.dcS env H ds=some s→(∀q∈p.slS s,q.2=env q.1)∧H=p.obS s∧ds=p.dsS s
 hE:∀x env H ds e,p.dcE x env H ds=some e→x=p.exE e∧(∀q∈p.slE e,q.2=env q.1)∧H=p.obE e∧ds=p.dsE e
 hG:∀R e k,p.goE R e k=k (p.exE e) (p.slE e) (p.obE e) (p.dsE e)
def Piece.cut{S E:Type}(p:Piece T S E)(N:NormT T)(f:S→Option E):Cut T:=
 fun R env H ds K=>(fun r=>(p.dcS r.1 r.2.1 r.2.2).bind fun s=>(f s).bind fun e=>p.goE R e fun x sl ob ds=>K x (envL sl) ob ds) (N env H ds)
def Piece.cutOr{S E:Type}(p:Piece T S E)(N:NormT T)(f:S→Option E)(c:Cut T):Cut T:=
 fun R env H ds K=>(fun r=>match p.dcS r.1 r.2.1 r.2.2 with
  |some s=>(f s).bind fun e=>p.goE R e fun x sl ob ds=>K x (envL sl) ob ds
  |none=>c R env H ds K) (N env H ds)
theorem Piece.or_ok{S E:Type}{p:Piece T S E}{N:NormT T}{f:S→Option E}{n nB:Nat}{c:Code}{e:Cut T}(h1:CutOk P C G n nB c (p.cut N f))(h2:CutOk P C G n nB c e):CutOk P C G n nB c (p.cutOr N f e):=by
 intro R env H ds K r hr;unfold Piece.cutOr at hr;simp only at hr;split at hr
 ·rename_i s hs
  refine h1 R env H ds K r ?_;unfold Piece.cut;simp only [hs];exact hr
 ·exact h2 R env H ds K r hr
def pS:Nat:=1000000
def normX{E:Type}(X:Ex T→NormT T)(D:KC T E):KC T E:=fun x env H ds=>match x with
 | .pan p=>(fun r=>D (.pan (r.1 pS)) (upd r.1 pS .any) r.2.1 r.2.2) (X (.pan p) (upd env pS p) H ds)
 | .normal=>(fun r=>D .normal r.1 r.2.1 r.2.2) (X .normal env H ds)
 | .exit i=>(fun r=>D (.exit i) r.1 r.2.1 r.2.2) (X (.exit i) env H ds)
 | .ret=>(fun r=>D .ret r.1 r.2.1 r.2.2) (X .ret env H ds)
theorem normX_post{E:Type}{X:Ex T→NormT T}{n nB:Nat}(hX:∀x,NormOk C G nB (X x)){D:KC T E}{B:Base T}(hB:B.H.length=nB){res:E}{e:Exit}{a:Act}{w:World}
  (h:PostC C G n B (normX X D) res e a w):PostC C G n B D res e a w:=by
 obtain⟨σ,x,env,H,ds,h1,h2,h3⟩:=h;cases x with
 |normal=>
  obtain⟨σ',k⟩:=hX .normal B σ env H ds _ _ w hB h3.sv;exact⟨σ',.normal,_,_,_,h1,h2,k.st h3.size⟩
 |exit i=>
  obtain⟨σ',k⟩:=hX (.exit i) B σ env H ds _ _ w hB h3.sv;exact⟨σ',.exit i,_,_,_,h1,h2,k.st h3.size⟩
 |ret=>
  obtain⟨σ',k⟩:=hX .ret B σ env H ds _ _ w hB h3.sv;exact⟨σ',.ret,_,_,_,h1,h2,k.st h3.size⟩
 |pan p=>
  obtain⟨v,h2,hv⟩:=h2;obtain⟨σ',k⟩:=hX (.pan p) B σ (upd env pS p) H ds (fun t=>bif Nat.beq t pS then v else a.tmps.getD t undef) _ w hB ⟨h3.rp,h3.anc,fun t=>by
   unfold upd;cases Nat.beq t pS
   ·exact h3.env t
   ·exact hv,h3.ds⟩
  refine⟨σ',.pan _,_,_,_,h1,⟨v,h2, ?_⟩,k.rp,k.anc,h3.size,fun t=> ?_,k.ds⟩
  ·have:=k.env pS
   rwa [show Nat.beq pS pS=true from by simp]at this
  ·unfold upd
   cases hb:Nat.beq t pS
   ·have:=k.env t
    rwa [hb]at this
   ·trivial
theorem Piece.ok{S E:Type}{p:Piece T S E}(hp:PieceOk p){n nB:Nat}{N:NormT T}(hN:NormOk C G nB N){c:Code}{f:S→Option E}
  (h:∀s e,f s=some e→∀(B:Base T) (σ:Lk) (a:Act) (w:World),B.H.length=nB→St C G n B σ (envL (p.slS s)) (p.obS s) (p.dsS s) a w→c.wp P (PostC C G n B p.dcE e) a w):CutOk P C G n nB c (p.cut N f):=by
 intro R env H ds K r hr B σ a w hB st;unfold Piece.cut at hr;obtain⟨s,hs,hr'⟩:=Option.bind_eq_some_iff.1 hr;obtain⟨e,he,hk⟩:=Option.bind_eq_some_iff.1 hr';rw [hp.hG]at hk;obtain⟨σ1,k1⟩:=hN B σ env H ds _ _ w hB st.sv;have st1:=k1.st st.size;obtain⟨h1,h2,h3⟩:=hp.hS _ _ _ _ hs;rw [h2,h3]at st1;refine wp_mono (h s e he B σ1 a w hB (st1.weaken (envL_sub h1))) fun e' a' w' ⟨σ',x,env',H',ds',q1,q2,q3⟩=> ?_
 obtain⟨r1,r2,r3,r4⟩:=hp.hE _ _ _ _ _ q1;subst r1;subst r3;subst r4;exact⟨σ',_,_,_,_,hk,q2,q3.weaken (envL_sub r2)⟩
theorem Piece.join{S E:Type}{p:Piece T S E}(hp:PieceOk p)(hC:CdcOk C)(hm:P.follows .mixedOrders=true){Γ:Gam T}(hΓ:GOk P C G Γ){n nB:Nat}{N:NormT T}(hN:NormOk C G nB N){X:Ex T→NormT T}(hX:∀x,NormOk C G nB (X x)){c:Code}{cut:Key→Option (Cut T)}(hcut:CutsOk P C G n nB cut c){f:S→Option E}
  (hev:∀s,codeA C P G Γ n cut c (envL (p.slS s)) (p.obS s) (p.dsS s) (normX X p.dcE)=f s):CutOk P C G n nB c (p.cut N f):=
 Piece.ok hp hN fun s e he B σ a w hB st=>wp_mono (codeA_ok hC hΓ hm hB c hcut _ σ _ _ _ a w st (by rw [hev];exact he)) fun _ _ _ h=>normX_post hX hB h
def Piece.round{S E:Type}(p:Piece T S E)(N:NormT T)(X:Ex T→NormT T)(id:Nat)(rec:S→Option E):KC T E
 | .normal,env,H,ds=>(fun r=>(p.dcS r.1 r.2.1 r.2.2).bind rec) (N env H ds)
 | .exit i,env,H,ds=>bif Nat.beq i id then normX X p.dcE .normal env H ds else normX X p.dcE (.exit i) env H ds
 | .ret,env,H,ds=>normX X p.dcE .ret env H ds
 | .pan x,env,H,ds=>normX X p.dcE (.pan x) env H ds
theorem Piece.loop{S E:Type}{p:Piece T S E}(hp:PieceOk p)(hC:CdcOk C)(hm:P.follows .mixedOrders=true){Γ:Gam T}(hΓ:GOk P C G Γ){n nB id:Nat}{N:NormT T}(hN:NormOk C G nB N){X:Ex T→NormT T}(hX:∀x,NormOk C G nB (X x)){body:Code}{cut:Key→Option (Cut T)}(hcut:CutsOk P C G n nB cut body)
  {f:Nat→S→Option E} (hz:∀s,f 0 s=none)
  (hsucc:∀k s,codeA C P G Γ n cut body (envL (p.slS s)) (p.obS s) (p.dsS s) (p.round N X id (f k))=f (k+1) s) (κ:Nat):CutOk P C G n nB (.block id (.loop body)) (p.cut N (f κ)):=by
 refine Piece.ok hp hN fun s e he B σ a w hB st=> ?_
 refine wp_block (wp_loop_rounds κ ?_)
 induction κ generalizing s σ a w with
 |zero=>rw [hz]at he;cases he
 |succ k ih=>
  rw [rounds_succ];rw [←hsucc]at he;refine wp_mono (codeA_ok hC hΓ hm hB body hcut _ σ _ _ _ a w st he) fun e' a' w' ⟨σ',ex,env',H',ds',h1,h2,h3⟩=> ?_
  cases ex with
  |normal=>
   cases(show e'=_ from h2);simp only [Piece.round]at h1;obtain⟨s',hs',h1⟩:=Option.bind_eq_some_iff.1 h1;obtain⟨σ2,k1⟩:=hN B σ' env' H' ds' _ _ w' hB h3.sv;have st1:=k1.st h3.size;obtain⟨q1,q2,q3⟩:=hp.hS _ _ _ _ hs';rw [q2,q3]at st1;exact ih s' h1 σ2 a' w' (st1.weaken (envL_sub q1))
  |exit i=>
   cases(show e'=_ from h2);simp only [Piece.round]at h1
   show Exit.inBlock id _ (.exit i) a' w';cases hi:Nat.beq i id
   ·rw [hi]at h1
    have hne:¬i=id:=fun e=>by subst e;simp at hi
    simp only [Exit.inBlock,hne,if_false];exact normX_post hX hB ⟨σ',.exit i,env',H',ds',h1,rfl,h3⟩
   ·rw [hi]at h1
    have:=Nat.eq_of_beq_eq_true hi;simp only [Exit.inBlock,this,if_true];exact normX_post hX hB ⟨σ',.normal,env',H',ds',h1,rfl,h3⟩
  |ret=>cases(show e'=_ from h2);exact normX_post hX hB ⟨σ',.ret,env',H',ds',h1,rfl,h3⟩
  |pan x=>obtain⟨v,rfl,hv⟩:=h2;exact normX_post hX hB ⟨σ',.pan x,env',H',ds',h1,⟨v,rfl,hv⟩,h3⟩
def need(cut:Key→Option (Cut T)):Code→List (Code×Cut T)
 | .region id ops d=>match cut (.reg id)with|some e=>[(.region id ops d,e)]|none=>[]
 | .seq a b=>need cut a++need cut b
 | .cond c a b=>match cutAt cut c a b with|some e=>[(.cond c a b,e)]|none=>need cut a++need cut b
 | .block id b=>match cut (.blk id)with|some e=>[(.block id b,e)]|none=>need cut b
 | .scope b=>need cut b
 |_ =>[]
theorem cuts_of_need{n nB:Nat}{cut:Key→Option (Cut T)}:∀(c:Code),(∀p∈need cut c,CutOk P C G n nB p.1 p.2)→CutsOk P C G n nB cut c:=by
 intro c
 induction c with
 |region id ops d=>
  intro h e he;refine h (.region id ops d,e) ?_;unfold need;rw [he];simp
 |seq a b iha ihb=>exact fun h=>⟨iha fun p hp=>h p (List.mem_append_left _ hp),ihb fun p hp=>h p (List.mem_append_right _ hp)⟩
 |cond c a b iha ihb=>
  intro h;refine⟨fun e he=>h (.cond c a b,e) (by unfold need;rw [he];simp),fun hn=> ?_⟩;have hh:∀p∈need cut a++need cut b,CutOk P C G n nB p.1 p.2:=fun p hp=>h p (by unfold need;rw [hn];exact hp)
  exact⟨iha fun p hp=>hh p (List.mem_append_left _ hp),ihb fun p hp=>hh p (List.mem_append_right _ hp)⟩
 |block id b ih=>
  intro h;refine⟨fun e he=>h (.block id b,e) (by unfold need;rw [he];simp),fun hn=>ih fun p hp=>h p (by unfold need;rw [hn];exact hp)⟩
 |scope b ih=>exact fun h=>ih fun p hp=>h p (by unfold need;exact hp)
 |_ =>intro _;trivial
def noCut:Key→Option (Cut T):=fun _ =>none
def keyB:Key→Key→Bool
 | .blk a,.blk b=>Nat.beq a b
 | .cnd a n,.cnd b m=>Nat.beq a b&&Nat.beq n m
 | .reg a,.reg b=>Nat.beq a b
 |_,_ =>false
def addCut(cut:Key→Option (Cut T))(k:Key)(e:Cut T):Key→Option (Cut T):=fun k'=>bif keyB k' k then some e else cut k'
def pieceAt(k:Key):Code→Option Code
 | .region id ops d=>bif keyB k (.reg id)then some (.region id ops d)else none
 | .seq a b=>match pieceAt k a with|some c=>some c|none=>pieceAt k b
 | .cond c a b=>bif (match c with| .tmp t=>keyB k (.cnd t (rid (.seq a b)))|_ =>false)then some (.cond c a b)else match pieceAt k a with|some c=>some c|none=>pieceAt k b
 | .block id b=>bif keyB k (.blk id)then some (.block id b)else pieceAt k b
 | .loop b=>pieceAt k b
 | .scope b=>pieceAt k b
 |_ =>none
def pieceOf(k:Key)(c:Code):Code:=match pieceAt k c with|some c=>c|none=> .skip
def getBody(fn:Func):Code:=match fn.body with|some c=>c|none=> .skip
def bodyOf:Code→Code
 | .block _ (.loop b)=>b
 |c=>c
theorem all_nil{n nB:Nat}:∀p∈([]:List (Code×Cut T)),CutOk P C G n nB p.1 p.2:=fun p hp=>by cases hp
theorem all_cons{n nB:Nat}{c:Code}{e:Cut T}{l:List (Code×Cut T)}(h:CutOk P C G n nB c e)(hl:∀p∈l,CutOk P C G n nB p.1 p.2):∀p∈(c,e)::l,CutOk P C G n nB p.1 p.2:=fun p hp=>by
 rcases List.mem_cons.1 hp with rfl|hp
 ·exact h
 ·exact hl p hp
theorem cuts_by{n nB:Nat}{cut:Key→Option (Cut T)}{c:Code}{l:List (Code×Cut T)}(h:need cut c=l)(hl:∀p∈l,CutOk P C G n nB p.1 p.2):CutsOk P C G n nB cut c:=cuts_of_need c (h▸hl)
end Go.Proofs.YtdoifigogbdodaaGreatDoor.Ev

namespace Go.Proofs.YtdoifigogbdodaaGreatDoor.Ev
open Go
variable {T:Nat→Type} {C:Cdc T} {P:Program} {σ:Lk} {H:List (AObj T)} {w:World} {G:Nat→Option (List (V T))} {R:Type}
def loopV(e:Cut T)(id:Nat):Nat→Cut T
 |0=>fun _ _ _ _ _ =>none
 |k+1=>fun R env H ds K=>e R env H ds fun
  | .normal,env,H,ds=>loopV e id k R env H ds K
  | .exit i,env,H,ds=>bif Nat.beq i id then K .normal env H ds else K (.exit i) env H ds
  | .ret,env,H,ds=>K .ret env H ds
  | .pan p,env,H,ds=>K (.pan p) env H ds
theorem loopV_ok{n nB:Nat}{e:Cut T}{id:Nat}{body:Code}(he:CutOk P C G n nB body e)(k:Nat):
  CutOk P C G n nB (.block id (.loop body)) (loopV e id k):=by
 intro R env H ds K r h B σ a w hB st;refine wp_block (wp_loop_rounds k ?_)
 induction k generalizing env H ds σ a w with
 |zero=>cases h
 |succ k ih=>
  simp only [loopV]at h;rw [rounds_succ];refine wp_mono (he R env H ds _ r h B σ a w hB st) fun e a' w' hpost=> ?_
  obtain⟨σ',ex,env',H',ds',h1,h2,h3⟩:=hpost;cases ex with
  |normal=>cases(show e=_ from h2);exact ih env' H' ds' h1 σ' a' w' h3
  |exit i=>
   cases(show e=_ from h2);simp only at h1
   show Exit.inBlock id _ (.exit i) a' w';cases hi:Nat.beq i id
   ·rw [hi]at h1
    have hne:¬i=id:=fun e=>by subst e;simp at hi
    simp only [Exit.inBlock,hne,if_false];exact⟨σ',.exit i,env',H',ds',h1,rfl,h3⟩
   ·rw [hi]at h1
    have:=Nat.eq_of_beq_eq_true hi;simp only [Exit.inBlock,this,if_true];exact⟨σ',.normal,env',H',ds',h1,rfl,h3⟩
  |ret=>cases(show e=_ from h2);exact⟨σ',.ret,env',H',ds',h1,rfl,h3⟩
  |pan p=>obtain⟨v,rfl,hv⟩:=h2;exact⟨σ',.pan p,env',H',ds',h1,⟨v,rfl,hv⟩,h3⟩
end Go.Proofs.YtdoifigogbdodaaGreatDoor.Ev

set_option linter.constructorNameAsVariable false
namespace Go.Proofs.YtdoifigogbdodaaGreatDoor.Ev
open Go
variable {T:Nat→Type}
inductive Tg
 |i|s|b|l (t:Nat)|e (t:Nat)|n
def Tg.Ty(T:Nat→Type):Tg→Type
 | .i=>Int
 | .s=>ByteArray
 | .b=>Bool
 | .l t=>List (T t)
 | .e t=>T t
 | .n=>Nat
def tupT(T:Nat→Type):List Tg→Type
 |[]=>Unit
 |[a]=>a.Ty T
 |a::b::l=>a.Ty T×tupT T (b::l)
def consT{a:Tg}:{l:List Tg}→a.Ty T→tupT T l→tupT T (a::l)
 |[],x,_ =>x
 |_ ::_,x,r=>(x,r)
def hdT{a:Tg}:{l:List Tg}→tupT T (a::l)→a.Ty T
 |[],x=>x
 |_ ::_,x=>x.1
def tlT{a:Tg}:{l:List Tg}→tupT T (a::l)→tupT T l
 |[],_ =>()
 |_ ::_,x=>x.2
theorem hd_cons{a:Tg}:{l:List Tg}→(x:a.Ty T)→(r:tupT T l)→hdT (consT x r)=x
 |[],_,_ =>rfl
 |_ ::_,_,_ =>rfl
theorem tl_cons{a:Tg}:{l:List Tg}→(x:a.Ty T)→(r:tupT T l)→tlT (consT x r)=r
 |[],_,_ =>rfl
 |_ ::_,_,_ =>rfl
inductive Sh
 |i (k:IntKind)|lit (k:IntKind) (n:Nat)|s|b|sl (t:Nat)|pn|fn0|if0|ifx|nl
 |any|agg (l:List Sh)|tup (l:List Sh)|ptr (o k:Nat)|rptr (o i k:Nat)|cptr (t k:Nat)|gptr (g k:Nat)
 |own (o:Nat)|sp (o:Nat)|slc (o a m c:Nat)|cap0|z0|fn (f:Nat) (x y:List Sh)|ifc (t:Nat) (x:Sh)
mutual
def Sh.tys:Sh→List Tg→List Tg
 | .i _,r=> .i::r
 | .s,r=> .s::r
 | .b,r=> .b::r
 | .sl t,r=> .l t::r
 | .cptr t _,r=> .e t::r
 | .agg l,r=>Sh.tysL l r
 | .tup l,r=>Sh.tysL l r
 | .fn _ p q,r=>Sh.tysL p (Sh.tysL q r)
 | .ifc _ x,r=>Sh.tys x r
 | .lit _ _,r=>r
 | .pn,r=>r
 | .fn0,r=>r
 | .if0,r=>r
 | .ifx,r=>r
 | .nl,r=>r
 | .any,r=>r
 | .ptr _ _,r=>r
 | .rptr _ _ _,r=>r
 | .gptr _ _,r=>r
 | .own _,r=>r
 | .sp _,r=>r
 | .slc _ _ _ _,r=>r
 | .cap0,r=>r
 | .z0,r=>r
def Sh.tysL:List Sh→List Tg→List Tg
 |[],r=>r
 |a::l,r=>Sh.tys a (Sh.tysL l r)
end
def eqK(a b:IntKind):Bool:=decide (a=b)
mutual
def Sh.enc:(h:Sh)→{r:List Tg}→tupT T (h.tys r)→AV T×tupT T r
 | .i k,_,x=>(.v (.i k (hdT x)),tlT x)
 | .s,_,x=>(.v (.s (hdT x)),tlT x)
 | .b,_,x=>(.v (.b (hdT x)),tlT x)
 | .sl t,_,x=>(.v (.sl t (hdT x)),tlT x)
 | .cptr t k,_,x=>(.cptr t (hdT x) k,tlT x)
 | .agg l,_,x=>(fun p=>(.agg p.1,p.2)) (Sh.encL l x)
 | .tup l,_,x=>(fun p=>(.tup p.1,p.2)) (Sh.encL l x)
 | .fn f y z,_,x=>(fun p=>(fun q=>(.fn (.func f) p.1 q.1,q.2)) (Sh.encL z p.2)) (Sh.encL y x)
 | .ifc t y,_,x=>(fun p=>(.ifc t p.1,p.2)) (Sh.enc y x)
 | .lit k n,_,x=>(.v (.i k (Int.ofNat n)),x)
 | .pn,_,x=>(.v .pn,x)
 | .fn0,_,x=>(.v .fn0,x)
 | .if0,_,x=>(.v .if0,x)
 | .ifx,_,x=>(.v .ifx,x)
 | .nl,_,x=>(.v .nl,x)
 | .any,_,x=>(.any,x)
 | .ptr o k,_,x=>(.ptr o k,x)
 | .rptr o j k,_,x=>(.rptr o j k,x)
 | .gptr g k,_,x=>(.gptr g k,x)
 | .own o,_,x=>(.own o,x)
 | .sp o,_,x=>(.sp o,x)
 | .slc o a n c,_,x=>(.slc o a n c,x)
 | .cap0,_,x=>(.cap0,x)
 | .z0,_,x=>(.z0,x)
def Sh.encL:(l:List Sh)→{r:List Tg}→tupT T (Sh.tysL l r)→List (AV T)×tupT T r
 |[],_,x=>([],x)
 |a::l,_,x=>(fun p=>(fun q=>(p.1::q.1,q.2)) (Sh.encL l p.2)) (Sh.enc a x)
end
def ok1{α:Type}(b:Bool)(x:α):Option α:=bif b then some x else none
theorem ok1_some{α:Type}{b:Bool}{x y:α}(h:ok1 b x=some y):b=true∧x=y:=by
 cases b
 ·cases h
 ·exact⟨rfl,Option.some.inj h⟩
def slD{t u:Nat}(h:Nat.beq u t=true)(l:List (T u)):List (T t):=Nat.eq_of_beq_eq_true h▸l
def elD{t u:Nat}(h:Nat.beq u t=true)(l:T u):T t:=Nat.eq_of_beq_eq_true h▸l
def ifB{α:Type}(b:Bool)(f:b=true→Option α):Option α:=match b,f with
 |true,f=>f rfl
 |false,_ =>none
theorem ifB_some{α:Type}{b:Bool}{f:b=true→Option α}{y:α}(h:ifB b f=some y):∃hb:b=true,f hb=some y:=by
 cases b
 ·cases h
 ·exact⟨rfl,h⟩
mutual
def Sh.dec(h:Sh)(x:AV T){r:List Tg}(q:tupT T r):Option (tupT T (h.tys r)):=
 match h with
 | .i k=>match x with| .v (.i k' n)=>ok1 (eqK k' k) (consT (a:= .i) n q)|_ =>none
 | .s=>match x with| .v (.s x)=>some (consT (a:= .s) x q)|_ =>none
 | .b=>match x with| .v (.b x)=>some (consT (a:= .b) x q)|_ =>none
 | .sl t=>match x with| .v (.sl u l)=>ifB (Nat.beq u t) fun h=>some (consT (a:= .l t) (slD h l) q)|_ =>none
 | .cptr t k=>match x with| .cptr u x k'=>ifB (Nat.beq u t) fun h=>ok1 (Nat.beq k' k) (consT (a:= .e t) (elD h x) q)|_ =>none
 | .agg l=>match x with| .agg xs=>Sh.decL l xs q|_ =>none
 | .tup l=>match x with| .tup xs=>Sh.decL l xs q|_ =>none
 | .fn f y z=>match x with| .fn (.func f1) xs ys=>bif Nat.beq f1 f then(Sh.decL z ys q).bind fun r=>Sh.decL y xs r else none|_ =>none
 | .ifc t y=>match x with| .ifc t' x=>bif Nat.beq t' t then Sh.dec y x q else none|_ =>none
 | .lit k n=>match x with| .v (.i k' n')=>ok1 (eqK k' k&&decide (n'=Int.ofNat n)) q|_ =>none
 | .pn=>match x with| .v .pn=>some q|_ =>none
 | .fn0=>match x with| .v .fn0=>some q|_ =>none
 | .if0=>match x with| .v .if0=>some q|_ =>none
 | .ifx=>match x with| .v .ifx=>some q|_ =>none
 | .nl=>match x with| .v .nl=>some q|_ =>none
 | .any=>match x with| .any=>some q|_ =>none
 | .ptr o k=>match x with| .ptr o' k'=>ok1 (Nat.beq o' o&&Nat.beq k' k) q|_ =>none
 | .rptr o j k=>match x with| .rptr o1 j1 k1=>ok1 (Nat.beq o1 o&&Nat.beq j1 j&&Nat.beq k1 k) q|_ =>none
 | .gptr g k=>match x with| .gptr g' k'=>ok1 (Nat.beq g' g&&Nat.beq k' k) q|_ =>none
 | .own o=>match x with| .own o'=>ok1 (Nat.beq o' o) q|_ =>none
 | .sp o=>match x with| .sp o'=>ok1 (Nat.beq o' o) q|_ =>none
 | .slc o a n c=>match x with| .slc o' a' n' c'=>ok1 (Nat.beq o' o&&Nat.beq a' a&&Nat.beq n' n&&Nat.beq c' c) q|_ =>none
 | .cap0=>match x with| .cap0=>some q|_ =>none
 | .z0=>match x with| .z0=>some q|_ =>none
def Sh.decL(l:List Sh)(xs:List (AV T)){r:List Tg}(q:tupT T r):Option (tupT T (Sh.tysL l r)):=
 match l with
 |[]=>match xs with|[]=>some q|_ =>none
 |a::l=>match xs with|x::xs=>(Sh.decL l xs q).bind fun r=>Sh.dec a x r|[]=>none
end
theorem eqK_eq{a b:IntKind}(h:eqK a b=true):a=b:=of_decide_eq_true h
theorem slD_sl{t u:Nat}(h:Nat.beq u t=true)(l:List (T u)):V.sl t (slD h l)= .sl u l:=by
 have e:=Nat.eq_of_beq_eq_true h;subst e;rfl
theorem elD_el{t u:Nat}(h:Nat.beq u t=true)(x:T u)(k:Nat):AV.cptr t (elD h x) k= .cptr u x k:=by
 have e:=Nat.eq_of_beq_eq_true h;subst e;rfl
theorem dec_enc_i(k:IntKind)(x:AV T){r:List Tg}(q:tupT T r)(w:tupT T ((Sh.i k).tys r))(e:Sh.dec (Sh.i k) x q=some w):Sh.enc (Sh.i k) w=(x,q):=by
 cases x with
 |v x=>
  cases x with
  |i k1 n1=>obtain⟨e1,e2⟩:=ok1_some (show ok1 (eqK k1 k) (consT (a:= .i) n1 q)=some w from e);subst e2;have:=eqK_eq e1;subst this;exact Prod.ext (congrArg (fun z=>AV.v (.i k1 z)) (hd_cons (a:= .i) n1 q)) (tl_cons (a:= .i) n1 q)
  |_ =>exact nomatch (show none=some w from e)
 |_ =>exact nomatch (show none=some w from e)
theorem dec_enc_lit(k:IntKind)(n:Nat)(x:AV T){r:List Tg}(q:tupT T r)(w:tupT T ((Sh.lit k n).tys r))(e:Sh.dec (Sh.lit k n) x q=some w):Sh.enc (Sh.lit k n) w=(x,q):=by
 cases x with
 |v x=>
  cases x with
  |i k1 n1=>obtain⟨e1,e2⟩:=ok1_some (show ok1 (eqK k1 k&&decide (n1=Int.ofNat n)) q=some w from e);subst e2;rw [Bool.and_eq_true]at e1;rw [eqK_eq e1.1,of_decide_eq_true e1.2];rfl
  |_ =>exact nomatch (show none=some w from e)
 |_ =>exact nomatch (show none=some w from e)
theorem dec_enc_s(x:AV T){r:List Tg}(q:tupT T r)(w:tupT T (Sh.s.tys r))(e:Sh.dec Sh.s x q=some w):Sh.enc Sh.s w=(x,q):=by
 cases x with
 |v x=>
  cases x with
  |s x1=>have e2:=Option.some.inj (show some (consT (a:= .s) x1 q)=some w from e);subst e2;exact Prod.ext (congrArg (fun z=>AV.v (.s z)) (hd_cons (a:= .s) x1 q)) (tl_cons (a:= .s) x1 q)
  |_ =>exact nomatch (show none=some w from e)
 |_ =>exact nomatch (show none=some w from e)
theorem dec_enc_b(x:AV T){r:List Tg}(q:tupT T r)(w:tupT T (Sh.b.tys r))(e:Sh.dec Sh.b x q=some w):Sh.enc Sh.b w=(x,q):=by
 cases x with
 |v x=>
  cases x with
  |b x1=>have e2:=Option.some.inj (show some (consT (a:= .b) x1 q)=some w from e);subst e2;exact Prod.ext (congrArg (fun z=>AV.v (.b z)) (hd_cons (a:= .b) x1 q)) (tl_cons (a:= .b) x1 q)
  |_ =>exact nomatch (show none=some w from e)
 |_ =>exact nomatch (show none=some w from e)
theorem dec_enc_sl(t:Nat)(x:AV T){r:List Tg}(q:tupT T r)(w:tupT T ((Sh.sl t).tys r))(e:Sh.dec (Sh.sl t) x q=some w):Sh.enc (Sh.sl t) w=(x,q):=by
 cases x with
 |v x=>
  cases x with
  |sl u l=>obtain⟨hb,e2⟩:=ifB_some (show ifB (Nat.beq u t) (fun h=>some (consT (a:= .l t) (slD h l) q))=some w from e);have e2:=Option.some.inj e2;subst e2;exact Prod.ext ((congrArg (fun z=>AV.v (.sl t z)) (hd_cons (a:= .l t) (slD hb l) q)).trans (congrArg AV.v (slD_sl hb l))) (tl_cons (a:= .l t) (slD hb l) q)
  |_ =>exact nomatch (show none=some w from e)
 |_ =>exact nomatch (show none=some w from e)
theorem dec_enc_pn(x:AV T){r:List Tg}(q:tupT T r)(w:tupT T (Sh.pn.tys r))(e:Sh.dec Sh.pn x q=some w):Sh.enc Sh.pn w=(x,q):=by
 cases x with
 |v x=>
  cases x with
  |pn=>cases(show some q=some w from e);rfl
  |_ =>exact nomatch (show none=some w from e)
 |_ =>exact nomatch (show none=some w from e)
theorem dec_enc_fn0(x:AV T){r:List Tg}(q:tupT T r)(w:tupT T (Sh.fn0.tys r))(e:Sh.dec Sh.fn0 x q=some w):Sh.enc Sh.fn0 w=(x,q):=by
 cases x with
 |v x=>
  cases x with
  |fn0=>cases(show some q=some w from e);rfl
  |_ =>exact nomatch (show none=some w from e)
 |_ =>exact nomatch (show none=some w from e)
theorem dec_enc_if0(x:AV T){r:List Tg}(q:tupT T r)(w:tupT T (Sh.if0.tys r))(e:Sh.dec Sh.if0 x q=some w):Sh.enc Sh.if0 w=(x,q):=by
 cases x with
 |v x=>
  cases x with
  |if0=>cases(show some q=some w from e);rfl
  |_ =>exact nomatch (show none=some w from e)
 |_ =>exact nomatch (show none=some w from e)
theorem dec_enc_ifx(x:AV T){r:List Tg}(q:tupT T r)(w:tupT T (Sh.ifx.tys r))(e:Sh.dec Sh.ifx x q=some w):Sh.enc Sh.ifx w=(x,q):=by
 cases x with
 |v x=>
  cases x with
  |ifx=>cases(show some q=some w from e);rfl
  |_ =>exact nomatch (show none=some w from e)
 |_ =>exact nomatch (show none=some w from e)
theorem dec_enc_nl(x:AV T){r:List Tg}(q:tupT T r)(w:tupT T (Sh.nl.tys r))(e:Sh.dec Sh.nl x q=some w):Sh.enc Sh.nl w=(x,q):=by
 cases x with
 |v x=>
  cases x with
  |nl=>cases(show some q=some w from e);rfl
  |_ =>exact nomatch (show none=some w from e)
 |_ =>exact nomatch (show none=some w from e)
theorem dec_enc_any(x:AV T){r:List Tg}(q:tupT T r)(w:tupT T (Sh.any.tys r))(e:Sh.dec Sh.any x q=some w):Sh.enc Sh.any w=(x,q):=by
 cases x with
 |any=>cases(show some q=some w from e);rfl
 |_ =>exact nomatch (show none=some w from e)
theorem dec_enc_agg(l:List Sh)(ihl:∀(xs:List (AV T)) {r:List Tg} (q:tupT T r) (w:tupT T (Sh.tysL l r)),Sh.decL l xs q=some w→Sh.encL l w=(xs,q))(x:AV T){r:List Tg}(q:tupT T r)(w:tupT T ((Sh.agg l).tys r))(e:Sh.dec (Sh.agg l) x q=some w):Sh.enc (Sh.agg l) w=(x,q):=by
 cases x with
 |agg xs=>exact congrArg (fun p=>(AV.agg p.1,p.2)) (ihl xs q w e)
 |_ =>exact nomatch (show none=some w from e)
theorem dec_enc_tup(l:List Sh)(ihl:∀(xs:List (AV T)) {r:List Tg} (q:tupT T r) (w:tupT T (Sh.tysL l r)),Sh.decL l xs q=some w→Sh.encL l w=(xs,q))(x:AV T){r:List Tg}(q:tupT T r)(w:tupT T ((Sh.tup l).tys r))(e:Sh.dec (Sh.tup l) x q=some w):Sh.enc (Sh.tup l) w=(x,q):=by
 cases x with
 |tup xs=>exact congrArg (fun p=>(AV.tup p.1,p.2)) (ihl xs q w e)
 |_ =>exact nomatch (show none=some w from e)
theorem dec_enc_ptr(o:Nat)(k:Nat)(x:AV T){r:List Tg}(q:tupT T r)(w:tupT T ((Sh.ptr o k).tys r))(e:Sh.dec (Sh.ptr o k) x q=some w):Sh.enc (Sh.ptr o k) w=(x,q):=by
 cases x with
 |ptr o1 k1=>obtain⟨e1,e2⟩:=ok1_some (show ok1 (Nat.beq o1 o&&Nat.beq k1 k) q=some w from e);subst e2;simp only [Bool.and_eq_true]at e1;obtain⟨h1,h2⟩:=e1;rw [Nat.eq_of_beq_eq_true h1,Nat.eq_of_beq_eq_true h2];rfl
 |_ =>exact nomatch (show none=some w from e)
theorem dec_enc_rptr(o:Nat)(j:Nat)(k:Nat)(x:AV T){r:List Tg}(q:tupT T r)(w:tupT T ((Sh.rptr o j k).tys r))(e:Sh.dec (Sh.rptr o j k) x q=some w):Sh.enc (Sh.rptr o j k) w=(x,q):=by
 cases x with
 |rptr o1 j1 k1=>obtain⟨e1,e2⟩:=ok1_some (show ok1 (Nat.beq o1 o&&Nat.beq j1 j&&Nat.beq k1 k) q=some w from e);subst e2;simp only [Bool.and_eq_true]at e1;obtain⟨⟨h1,h2⟩,h3⟩:=e1;rw [Nat.eq_of_beq_eq_true h1,Nat.eq_of_beq_eq_true h2,Nat.eq_of_beq_eq_true h3];rfl
 |_ =>exact nomatch (show none=some w from e)
theorem dec_enc_cptr(t:Nat)(k:Nat)(x:AV T){r:List Tg}(q:tupT T r)(w:tupT T ((Sh.cptr t k).tys r))(e:Sh.dec (Sh.cptr t k) x q=some w):Sh.enc (Sh.cptr t k) w=(x,q):=by
 cases x with
 |cptr u x1 k1=>obtain⟨hb,e2⟩:=ifB_some (show ifB (Nat.beq u t) (fun h=>ok1 (Nat.beq k1 k) (consT (a:= .e t) (elD h x1) q))=some w from e);obtain⟨e1,e2⟩:=ok1_some e2;subst e2;have:=Nat.eq_of_beq_eq_true e1;subst this;exact Prod.ext ((congrArg (fun z=>AV.cptr t z k1) (hd_cons (a:= .e t) (elD hb x1) q)).trans (elD_el hb x1 k1)) (tl_cons (a:= .e t) (elD hb x1) q)
 |_ =>exact nomatch (show none=some w from e)
theorem dec_enc_gptr(g:Nat)(k:Nat)(x:AV T){r:List Tg}(q:tupT T r)(w:tupT T ((Sh.gptr g k).tys r))(e:Sh.dec (Sh.gptr g k) x q=some w):Sh.enc (Sh.gptr g k) w=(x,q):=by
 cases x with
 |gptr g1 k1=>obtain⟨e1,e2⟩:=ok1_some (show ok1 (Nat.beq g1 g&&Nat.beq k1 k) q=some w from e);subst e2;simp only [Bool.and_eq_true]at e1;obtain⟨h1,h2⟩:=e1;rw [Nat.eq_of_beq_eq_true h1,Nat.eq_of_beq_eq_true h2];rfl
 |_ =>exact nomatch (show none=some w from e)
theorem dec_enc_own(o:Nat)(x:AV T){r:List Tg}(q:tupT T r)(w:tupT T ((Sh.own o).tys r))(e:Sh.dec (Sh.own o) x q=some w):Sh.enc (Sh.own o) w=(x,q):=by
 cases x with
 |own o1=>obtain⟨e1,e2⟩:=ok1_some (show ok1 (Nat.beq o1 o) q=some w from e);subst e2;have h1:=e1;rw [Nat.eq_of_beq_eq_true h1];rfl
 |_ =>exact nomatch (show none=some w from e)
theorem dec_enc_sp(o:Nat)(x:AV T){r:List Tg}(q:tupT T r)(w:tupT T ((Sh.sp o).tys r))(e:Sh.dec (Sh.sp o) x q=some w):Sh.enc (Sh.sp o) w=(x,q):=by
 cases x with
 |sp o1=>obtain⟨e1,e2⟩:=ok1_some (show ok1 (Nat.beq o1 o) q=some w from e);subst e2;have h1:=e1;rw [Nat.eq_of_beq_eq_true h1];rfl
 |_ =>exact nomatch (show none=some w from e)
theorem dec_enc_slc(o:Nat)(a:Nat)(n:Nat)(c:Nat)(x:AV T){r:List Tg}(q:tupT T r)(w:tupT T ((Sh.slc o a n c).tys r))(e:Sh.dec (Sh.slc o a n c) x q=some w):Sh.enc (Sh.slc o a n c) w=(x,q):=by
 cases x with
 |slc o1 a1 n1 c1=>obtain⟨e1,e2⟩:=ok1_some (show ok1 (Nat.beq o1 o&&Nat.beq a1 a&&Nat.beq n1 n&&Nat.beq c1 c) q=some w from e);subst e2;simp only [Bool.and_eq_true]at e1;obtain⟨⟨⟨h1,h2⟩,h3⟩,h4⟩:=e1;rw [Nat.eq_of_beq_eq_true h1,Nat.eq_of_beq_eq_true h2,Nat.eq_of_beq_eq_true h3,Nat.eq_of_beq_eq_true h4];rfl
 |_ =>exact nomatch (show none=some w from e)
theorem dec_enc_cap0(x:AV T){r:List Tg}(q:tupT T r)(w:tupT T (Sh.cap0.tys r))(e:Sh.dec Sh.cap0 x q=some w):Sh.enc Sh.cap0 w=(x,q):=by
 cases x with
 |cap0=>cases(show some q=some w from e);rfl
 |_ =>exact nomatch (show none=some w from e)
theorem dec_enc_z0(x:AV T){r:List Tg}(q:tupT T r)(w:tupT T (Sh.z0.tys r))(e:Sh.dec Sh.z0 x q=some w):Sh.enc Sh.z0 w=(x,q):=by
 cases x with
 |z0=>cases(show some q=some w from e);rfl
 |_ =>exact nomatch (show none=some w from e)
theorem dec_enc_fn(f:Nat)(y:List Sh)(z:List Sh)(ih1:∀(xs:List (AV T)) {r:List Tg} (q:tupT T r) (w:tupT T (Sh.tysL y r)),Sh.decL y xs q=some w→Sh.encL y w=(xs,q))(ih2:∀(xs:List (AV T)) {r:List Tg} (q:tupT T r) (w:tupT T (Sh.tysL z r)),Sh.decL z xs q=some w→Sh.encL z w=(xs,q))(x:AV T){r:List Tg}(q:tupT T r)(w:tupT T ((Sh.fn f y z).tys r))(e:Sh.dec (Sh.fn f y z) x q=some w):Sh.enc (Sh.fn f y z) w=(x,q):=by
 cases x with
 |fn f1 xs ys=>
  cases f1 with
  |func f1=>
   replace e:(bif Nat.beq f1 f then(Sh.decL z ys q).bind fun r=>Sh.decL y xs r else none)=some w:=e;cases hf:Nat.beq f1 f
   ·rw [hf]at e;cases e
   ·rw [hf]at e
    obtain⟨r1,e1,e2⟩:=Option.bind_eq_some_iff.1 e;have:=Nat.eq_of_beq_eq_true hf;subst this;refine(congrArg (fun p=>(fun q=>(AV.fn (.func f1) p.1 q.1,q.2)) (Sh.encL z p.2)) (ih1 xs r1 w e2)).trans ?_;exact congrArg (fun q=>(AV.fn (.func f1) xs q.1,q.2)) (ih2 ys q r1 e1)
  |_ =>exact nomatch (show none=some w from e)
 |_ =>exact nomatch (show none=some w from e)
theorem dec_enc_ifc(t:Nat)(y:Sh)(ih1:∀(x:AV T) {r:List Tg} (q:tupT T r) (w:tupT T (y.tys r)),Sh.dec y x q=some w→Sh.enc y w=(x,q))(x:AV T){r:List Tg}(q:tupT T r)(w:tupT T ((Sh.ifc t y).tys r))(e:Sh.dec (Sh.ifc t y) x q=some w):Sh.enc (Sh.ifc t y) w=(x,q):=by
 cases x with
 |ifc t1 x1=>
  replace e:(bif Nat.beq t1 t then Sh.dec y x1 q else none)=some w:=e;cases hf:Nat.beq t1 t
  ·rw [hf]at e;cases e
  ·rw [hf]at e
   have:=Nat.eq_of_beq_eq_true hf;subst this;exact congrArg (fun p=>(AV.ifc t1 p.1,p.2)) (ih1 x1 q w e)
 |_ =>exact nomatch (show none=some w from e)
theorem dec_enc_all:(∀(h:Sh) (x:AV T) {r:List Tg} (q:tupT T r) (y:tupT T (h.tys r)),Sh.dec h x q=some y→Sh.enc h y=(x,q))∧
  (∀(l:List Sh) (xs:List (AV T)) {r:List Tg} (q:tupT T r) (y:tupT T (Sh.tysL l r)),Sh.decL l xs q=some y→Sh.encL l y=(xs,q)):=by
 have key:=fun h=> @Sh.rec (motive_1:=fun h=>∀(x:AV T) {r:List Tg} (q:tupT T r) (y:tupT T (h.tys r)),Sh.dec h x q=some y→Sh.enc h y=(x,q))
  (motive_2:=fun l=>∀(xs:List (AV T)) {r:List Tg} (q:tupT T r) (y:tupT T (Sh.tysL l r)),Sh.decL l xs q=some y→Sh.encL l y=(xs,q))
  (fun k=>dec_enc_i k) (fun k n=>dec_enc_lit k n) dec_enc_s dec_enc_b (fun t=>dec_enc_sl t) dec_enc_pn dec_enc_fn0 dec_enc_if0 dec_enc_ifx dec_enc_nl dec_enc_any (fun l ih=>dec_enc_agg l ih) (fun l ih=>dec_enc_tup l ih) (fun o k=>dec_enc_ptr o k) (fun o j k=>dec_enc_rptr o j k) (fun t k=>dec_enc_cptr t k) (fun g k=>dec_enc_gptr g k) (fun o=>dec_enc_own o) (fun o=>dec_enc_sp o) (fun o a n c=>dec_enc_slc o a n c) dec_enc_cap0 dec_enc_z0 (fun f y z ih1 ih2=>dec_enc_fn f y z ih1 ih2) (fun t y ih=>dec_enc_ifc t y ih)
  (fun xs {r} q y e=>by
   cases xs with
   |nil=>cases e;rfl
   |cons=>cases e)
  (fun a l iha ihl xs {r} q y e=>by
   cases xs with
   |nil=>cases e
   |cons x xs=>
    obtain⟨r1,e1,e2⟩:=Option.bind_eq_some_iff.1 (show(Sh.decL l xs q).bind (fun r=>Sh.dec a x r)=some y from e);show((fun p=>(fun q=>(p.1::q.1,q.2)) (Sh.encL l p.2)) (Sh.enc a y):List (AV T)×tupT T r)=_;rw [iha x r1 y e2];show((fun q=>(x::q.1,q.2)) (Sh.encL l r1):List (AV T)×tupT T r)=_;rw [ihl xs q r1 e1]) h
 refine⟨fun h=>key h,fun l=> ?_⟩
 induction l with
 |nil=>
  intro xs r q y e;cases xs with
  |nil=>cases e;rfl
  |cons=>cases e
 |cons a l ihl=>
  intro xs r q y e;cases xs with
  |nil=>cases e
  |cons x xs=>
   obtain⟨r1,e1,e2⟩:=Option.bind_eq_some_iff.1 (show(Sh.decL l xs q).bind (fun r=>Sh.dec a x r)=some y from e);show((fun p=>(fun q=>(p.1::q.1,q.2)) (Sh.encL l p.2)) (Sh.enc a y):List (AV T)×tupT T r)=_;rw [key a x r1 y e2];show((fun q=>(x::q.1,q.2)) (Sh.encL l r1):List (AV T)×tupT T r)=_;rw [ihl xs q r1 e1]
theorem Sh.dec_enc{h:Sh}{x:AV T}{r:List Tg}{q:tupT T r}{y:tupT T (h.tys r)}(e:Sh.dec h x q=some y):Sh.enc h y=(x,q):=dec_enc_all.1 h x q y e
theorem Sh.decL_encL{l:List Sh}{xs:List (AV T)}{r:List Tg}{q:tupT T r}{y:tupT T (Sh.tysL l r)}(e:Sh.decL l xs q=some y):Sh.encL l y=(xs,q):=dec_enc_all.2 l xs q y e
inductive ShO
 |cells (e:Nat) (g:Option Nat) (l:List Sh)|row (t:Nat) (m:Bool)|siter|dead
def ShO.tys:ShO→List Tg→List Tg
 | .cells _ _ l,r=>Sh.tysL l r
 | .row t _,r=> .l t::r
 | .siter,r=> .s:: .n::r
 | .dead,r=>r
def optB:Option Nat→Option Nat→Bool
 |none,none=>true
 |some a,some b=>Nat.beq a b
 |_,_ =>false
theorem optB_eq{a b:Option Nat}(h:optB a b=true):a=b:=by
 cases a<;>cases b<;>first|rfl|(cases h;done)|exact congrArg some (Nat.eq_of_beq_eq_true h)
def boolB(a b:Bool):Bool:=bif a then b else !b
theorem boolB_eq{a b:Bool}(h:boolB a b=true):a=b:=by cases a<;>cases b<;>first|rfl|cases h
def ShO.enc:(h:ShO)→{r:List Tg}→tupT T (h.tys r)→AObj T×tupT T r
 | .cells e g l,_,x=>(fun p=>(.cells e g p.1,p.2)) (Sh.encL l x)
 | .row t m,_,x=>(.row t (hdT (a:= .l t) x) m,tlT (a:= .l t) x)
 | .siter,r,x=>(.siter (hdT (a:= .s) (l:= .n::r) x) (hdT (a:= .n) (tlT (a:= .s) (l:= .n::r) x)),tlT (a:= .n) (tlT (a:= .s) (l:= .n::r) x))
 | .dead,_,x=>(.dead,x)
def ShO.dec(h:ShO)(x:AObj T){r:List Tg}(q:tupT T r):Option (tupT T (h.tys r)):=
 match h with
 | .cells e g l=>match x with| .cells e1 g1 xs=>bif Nat.beq e1 e&&optB g1 g then Sh.decL l xs q else none|_ =>none
 | .row t m=>match x with| .row u l m1=>ifB (Nat.beq u t) fun h=>ok1 (boolB m1 m) (consT (a:= .l t) (slD h l) q)|_ =>none
 | .siter=>match x with| .siter s p=>some (consT (a:= .s) s (consT (a:= .n) p q))|_ =>none
 | .dead=>match x with| .dead=>some q|_ =>none
theorem slD_row{t u:Nat}(h:Nat.beq u t=true)(l:List (T u))(m:Bool):AObj.row t (slD h l) m= .row u l m:=by
 have e:=Nat.eq_of_beq_eq_true h;subst e;rfl
theorem ShO.dec_enc{h:ShO}{x:AObj T}{r:List Tg}{q:tupT T r}{w:tupT T (h.tys r)}(e:ShO.dec h x q=some w):ShO.enc h w=(x,q):=by
 cases h with
 |cells e1 g l=>
  cases x with
  |cells e2 g2 xs=>
   replace e:(bif Nat.beq e2 e1&&optB g2 g then Sh.decL l xs q else none)=some w:=e;cases hb:Nat.beq e2 e1&&optB g2 g
   ·rw [hb]at e;cases e
   ·rw [hb]at e
    rw [Bool.and_eq_true]at hb;have h1:=Nat.eq_of_beq_eq_true hb.1;have h2:=optB_eq hb.2;subst h1;subst h2;exact congrArg (fun p=>(AObj.cells e2 g2 p.1,p.2)) (Sh.decL_encL (show Sh.decL l xs q=some w from e))
  |_ =>exact nomatch (show none=some w from e)
 |row t m=>
  cases x with
  |row u l m1=>
   obtain⟨hb,e2⟩:=ifB_some (show ifB (Nat.beq u t) (fun h=>ok1 (boolB m1 m) (consT (a:= .l t) (slD h l) q))=some w from e);obtain⟨e1,e2⟩:=ok1_some e2;subst e2;have:=boolB_eq e1;subst this;exact Prod.ext ((congrArg (fun z=>AObj.row t z m1) (hd_cons (a:= .l t) (slD hb l) q)).trans (slD_row hb l m1)) (tl_cons (a:= .l t) (slD hb l) q)
  |_ =>exact nomatch (show none=some w from e)
 |siter=>
  cases x with
  |siter s p=>cases(show some (consT (a:= .s) s (consT (a:= .n) p q))=some w from e);cases r<;>rfl
  |_ =>exact nomatch (show none=some w from e)
 |dead=>
  cases x with
  |dead=>cases(show some q=some w from e);rfl
  |_ =>exact nomatch (show none=some w from e)
def tysH:List ShO→List Tg→List Tg
 |[],r=>r
 |h::l,r=>h.tys (tysH l r)
def encH:(l:List ShO)→{r:List Tg}→tupT T (tysH l r)→List (AObj T)×tupT T r
 |[],_,x=>([],x)
 |h::l,_,x=>(fun p=>(fun q=>(p.1::q.1,q.2)) (encH l p.2)) (ShO.enc h x)
def decH:(l:List ShO)→List (AObj T)→{r:List Tg}→tupT T r→Option (tupT T (tysH l r))
 |[],xs,_,q=>match xs with|[]=>some q|_ =>none
 |h::l,xs,_,q=>match xs with|x::xs=>(decH l xs q).bind fun r=>ShO.dec h x r|[]=>none
theorem decH_encH:∀{l:List ShO} {xs:List (AObj T)} {r:List Tg} {q:tupT T r} {w:tupT T (tysH l r)},decH l xs q=some w→encH l w=(xs,q)
 |[],[],_,_,_,e=>by cases e;rfl
 |[],_ ::_,_,_,_,e=>by cases e
 |_ ::_,[],_,_,_,e=>by cases e
 |h::l,x::xs,r,q,w,e=>by
  obtain⟨r1,e1,e2⟩:=Option.bind_eq_some_iff.1 (show(decH l xs q).bind (fun r=>ShO.dec h x r)=some w from e);refine(congrArg (fun p=>(fun q=>(p.1::q.1,q.2)) (encH l p.2)) (ShO.dec_enc e2)).trans ?_;exact congrArg (fun q=>(x::q.1,q.2)) (decH_encH e1)
def tysE:List (Nat×Sh)→List Tg→List Tg
 |[],r=>r
 |(_,h)::l,r=>h.tys (tysE l r)
def encE:(l:List (Nat×Sh))→{r:List Tg}→tupT T (tysE l r)→List (Nat×AV T)×tupT T r
 |[],_,x=>([],x)
 |(t,h)::l,_,x=>(fun p=>(fun q=>((t,p.1)::q.1,q.2)) (encE l p.2)) (Sh.enc h x)
def decE(env:Env T):(l:List (Nat×Sh))→{r:List Tg}→tupT T r→Option (tupT T (tysE l r))
 |[],_,q=>some q
 |(t,h)::l,_,q=>(decE env l q).bind fun r=>Sh.dec h (env t) r
theorem decE_encE{env:Env T}:∀{l:List (Nat×Sh)} {r:List Tg} {q:tupT T r} {w:tupT T (tysE l r)},decE env l q=some w→(∀p∈(encE l w).1,p.2=env p.1)∧(encE l w).2=q
 |[],_,_,_,e=>by cases e;exact⟨fun p hp=>(by cases hp),rfl⟩
 |(t,h)::l,r,q,w,e=>by
  obtain⟨r1,e1,e2⟩:=Option.bind_eq_some_iff.1 (show(decE env l q).bind (fun r=>Sh.dec h (env t) r)=some w from e);have k:=(congrArg (fun p=>(fun q:List (Nat×AV T)×tupT T r=>((t,p.1)::q.1,q.2)) (encE l p.2)) (Sh.dec_enc e2))
  have k':encE ((t,h)::l) w=((t,env t)::(encE l r1).1,(encE l r1).2):=k;rw [k'];obtain⟨h1,h2⟩:=decE_encE e1;refine⟨fun p hp=> ?_,h2⟩;rcases List.mem_cons.1 hp with rfl|hp
  ·rfl
  ·exact h1 p hp
def tysD:List (Nat×List Sh×List Sh)→List Tg→List Tg
 |[],r=>r
 |(_,a,b)::l,r=>Sh.tysL a (Sh.tysL b (tysD l r))
def encD:(l:List (Nat×List Sh×List Sh))→{r:List Tg}→tupT T (tysD l r)→Ds T×tupT T r
 |[],_,x=>([],x)
 |(f,a,b)::l,_,x=>(fun p=>(fun q=>(fun u=>((Fn.func f,p.1,q.1)::u.1,u.2)) (encD l q.2)) (Sh.encL b p.2)) (Sh.encL a x)
def decD:(l:List (Nat×List Sh×List Sh))→Ds T→{r:List Tg}→tupT T r→Option (tupT T (tysD l r))
 |[],xs,_,q=>match xs with|[]=>some q|_ =>none
 |(f,a,b)::l,xs,_,q=>match xs with
  |(.func g,x,y)::xs=>bif Nat.beq g f then(decD l xs q).bind fun r=>(Sh.decL b y r).bind fun r=>Sh.decL a x r else none
  |_ =>none
theorem decD_encD:∀{l:List (Nat×List Sh×List Sh)} {xs:Ds T} {r:List Tg} {q:tupT T r} {w:tupT T (tysD l r)},decD l xs q=some w→encD l w=(xs,q)
 |[],[],_,_,_,e=>by cases e;rfl
 |[],_ ::_,_,_,_,e=>by cases e
 |(_,_,_)::_,[],_,_,_,e=>by cases e
 |(f,a,b)::l,(g,x,y)::xs,r,q,w,e=>by
  cases g with
  |func g=>
   replace e:(bif Nat.beq g f then(decD l xs q).bind fun r=>(Sh.decL b y r).bind fun r=>Sh.decL a x r else none)=some w:=e;cases hb:Nat.beq g f
   ·rw [hb]at e;cases e
   ·rw [hb]at e
    have:=Nat.eq_of_beq_eq_true hb;subst this;obtain⟨r1,e1,e2⟩:=Option.bind_eq_some_iff.1 e;obtain⟨r2,e3,e4⟩:=Option.bind_eq_some_iff.1 e2;refine(congrArg (fun p=>(fun q=>(fun u=>((Fn.func g,p.1,q.1)::u.1,u.2)) (encD l q.2)) (Sh.encL b p.2)) (Sh.decL_encL e4)).trans ?_;refine(congrArg (fun q=>(fun u=>((Fn.func g,x,q.1)::u.1,u.2)) (encD l q.2)) (Sh.decL_encL e3)).trans ?_;exact congrArg (fun u=>((Fn.func g,x,y)::u.1,u.2)) (decD_encD e1)
  |_ =>exact nomatch (show none=some w from e)
structure SS where
 sl:List (Nat×Sh)
 ob:List ShO
 ds:List (Nat×List Sh×List Sh)
def SS.tys(s:SS):List Tg:=tysE s.sl (tysH s.ob (tysD s.ds []))
def SS.dec(s:SS)(env:Env T)(H:List (AObj T))(ds:Ds T):Option (tupT T s.tys):=
 (decD s.ds ds (r:=[]) ()).bind fun r=>(decH s.ob H r).bind fun r=>decE env s.sl r
def SS.slV(s:SS)(x:tupT T s.tys):List (Nat×AV T):=(encE s.sl x).1
def SS.obV(s:SS)(x:tupT T s.tys):List (AObj T):=(encH s.ob (encE s.sl x).2).1
def SS.dsV(s:SS)(x:tupT T s.tys):Ds T:=(encD s.ds (encH s.ob (encE s.sl x).2).2).1
theorem SS.dec_ok{s:SS}{env:Env T}{H:List (AObj T)}{ds:Ds T}{x:tupT T s.tys}(e:s.dec env H ds=some x):(∀q∈s.slV x,q.2=env q.1)∧H=s.obV x∧ds=s.dsV x:=by
 unfold SS.dec at e;obtain⟨r1,e1,e⟩:=Option.bind_eq_some_iff.1 e;obtain⟨r2,e2,e3⟩:=Option.bind_eq_some_iff.1 e;obtain⟨h1,h2⟩:=decE_encE e3;refine⟨h1, ?_, ?_⟩
 ·show H=(encH s.ob (encE s.sl x).2).1
  rw [h2,decH_encH e2]
 ·show ds=(encD s.ds (encH s.ob (encE s.sl x).2).2).1
  rw [h2,decH_encH e2,decD_encD e1]
def ssT(T:Nat→Type):List SS→Type
 |[]=>Empty
 |[a]=>tupT T a.tys
 |a::b::l=>tupT T a.tys⊕ssT T (b::l)
def ssD(env:Env T)(H:List (AObj T))(ds:Ds T):(l:List SS)→Option (ssT T l)
 |[]=>none
 |[a]=>a.dec env H ds
 |a::b::l=>match a.dec env H ds with
  |some x=>some (.inl x)
  |none=>(ssD env H ds (b::l)).map .inr
def ssF{α:Type}(f:(s:SS)→tupT T s.tys→α):(l:List SS)→ssT T l→α
 |[],x=>x.elim
 |[a],x=>f a x
 |a::b::l,x=>match x with
  | .inl x=>f a x
  | .inr x=>ssF f (b::l) x
theorem ssD_ok{env:Env T}{H:List (AObj T)}{ds:Ds T}:∀{l:List SS} {x:ssT T l},ssD env H ds l=some x→(∀q∈ssF SS.slV l x,q.2=env q.1)∧H=ssF SS.obV l x∧ds=ssF SS.dsV l x
 |[],_,e=>by cases e
 |[a],x,e=>SS.dec_ok e
 |a::b::l,x,e=>by
  simp only [ssD]at e;split at e
  ·rename_i y hy;cases e;exact SS.dec_ok hy
  ·obtain⟨y,hy,e⟩:=Option.map_eq_some_iff.1 e
   subst e;exact ssD_ok (l:=b::l) hy
inductive ShX
 |normal|exit (i:Nat)|ret|pan (h:Sh)
def ShX.tys:ShX→List Tg→List Tg
 | .pan h,r=>h.tys r
 | .normal,r=>r
 | .exit _,r=>r
 | .ret,r=>r
def ShX.enc:(h:ShX)→{r:List Tg}→tupT T (h.tys r)→Ex T×tupT T r
 | .normal,_,x=>(.normal,x)
 | .exit i,_,x=>(.exit i,x)
 | .ret,_,x=>(.ret,x)
 | .pan h,_,x=>(fun p=>(.pan p.1,p.2)) (Sh.enc h x)
def ShX.dec(h:ShX)(x:Ex T){r:List Tg}(q:tupT T r):Option (tupT T (h.tys r)):=
 match h with
 | .normal=>match x with| .normal=>some q|_ =>none
 | .exit i=>match x with| .exit j=>ok1 (Nat.beq j i) q|_ =>none
 | .ret=>match x with| .ret=>some q|_ =>none
 | .pan h=>match x with| .pan p=>Sh.dec h p q|_ =>none
theorem ShX.dec_enc{h:ShX}{x:Ex T}{r:List Tg}{q:tupT T r}{w:tupT T (h.tys r)}(e:ShX.dec h x q=some w):ShX.enc h w=(x,q):=by
 cases h with
 |normal=>cases x<;>first|(cases(show some q=some w from e);rfl)|exact nomatch (show none=some w from e)
 |ret=>cases x<;>first|(cases(show some q=some w from e);rfl)|exact nomatch (show none=some w from e)
 |exit i=>
  cases x with
  |exit j=>
   obtain⟨e1,e2⟩:=ok1_some (show ok1 (Nat.beq j i) q=some w from e);subst e2;have:=Nat.eq_of_beq_eq_true e1;subst this;rfl
  |_ =>exact nomatch (show none=some w from e)
 |pan h=>
  cases x with
  |pan p=>exact congrArg (fun p=>(Ex.pan p.1,p.2)) (Sh.dec_enc (show Sh.dec h p q=some w from e))
  |_ =>exact nomatch (show none=some w from e)
structure ES where
 ex:ShX
 st:SS
def ES.tys(s:ES):List Tg:=s.ex.tys s.st.tys
def ES.dec(s:ES)(x:Ex T)(env:Env T)(H:List (AObj T))(ds:Ds T):Option (tupT T s.tys):=(s.st.dec env H ds).bind fun r=>ShX.dec s.ex x r
def ES.exV(s:ES)(x:tupT T s.tys):Ex T:=(ShX.enc s.ex x).1
def ES.rest(s:ES)(x:tupT T s.tys):tupT T s.st.tys:=(ShX.enc s.ex x).2
def esT(T:Nat→Type):List ES→Type
 |[]=>Empty
 |[a]=>tupT T a.tys
 |a::b::l=>tupT T a.tys⊕esT T (b::l)
def esD(x:Ex T)(env:Env T)(H:List (AObj T))(ds:Ds T):(l:List ES)→Option (esT T l)
 |[]=>none
 |[a]=>a.dec x env H ds
 |a::b::l=>match a.dec x env H ds with
  |some x=>some (.inl x)
  |none=>(esD x env H ds (b::l)).map .inr
def esF{α:Type}(f:(s:ES)→tupT T s.tys→α):(l:List ES)→esT T l→α
 |[],x=>x.elim
 |[a],x=>f a x
 |a::b::l,x=>match x with
  | .inl x=>f a x
  | .inr x=>esF f (b::l) x
def esG{R:Type}(k:Ex T→List (Nat×AV T)→List (AObj T)→Ds T→Option R):(l:List ES)→esT T l→Option R
 |[],x=>x.elim
 |[a],x=>k (a.exV x) (a.st.slV (a.rest x)) (a.st.obV (a.rest x)) (a.st.dsV (a.rest x))
 |a::b::l,x=>match x with
  | .inl x=>k (a.exV x) (a.st.slV (a.rest x)) (a.st.obV (a.rest x)) (a.st.dsV (a.rest x))
  | .inr x=>esG k (b::l) x
theorem esG_eq{R:Type}(k:Ex T→List (Nat×AV T)→List (AObj T)→Ds T→Option R):∀(l:List ES) (e:esT T l),esG k l e=k (esF ES.exV l e) (esF (fun s x=>s.st.slV (s.rest x)) l e) (esF (fun s x=>s.st.obV (s.rest x)) l e) (esF (fun s x=>s.st.dsV (s.rest x)) l e)
 |[],e=>e.elim
 |[a],e=>rfl
 |a::b::l,.inl x=>rfl
 |a::b::l,.inr x=>esG_eq k (b::l) x
theorem ES.dec_ok{s:ES}{x:Ex T}{env:Env T}{H:List (AObj T)}{ds:Ds T}{y:tupT T s.tys}(e:s.dec x env H ds=some y):x=s.exV y∧(∀q∈s.st.slV (s.rest y),q.2=env q.1)∧H=s.st.obV (s.rest y)∧ds=s.st.dsV (s.rest y):=by
 unfold ES.dec at e;obtain⟨r,e1,e2⟩:=Option.bind_eq_some_iff.1 e;have k:=ShX.dec_enc e2;have k1:s.exV y=x:=congrArg Prod.fst k;have k2:s.rest y=r:=congrArg Prod.snd k;rw [k1,k2];exact⟨rfl,SS.dec_ok e1⟩
theorem esD_ok{x:Ex T}{env:Env T}{H:List (AObj T)}{ds:Ds T}:∀{l:List ES} {y:esT T l},esD x env H ds l=some y→
  x=esF ES.exV l y∧(∀q∈esF (fun s x=>s.st.slV (s.rest x)) l y,q.2=env q.1)∧H=esF (fun s x=>s.st.obV (s.rest x)) l y∧ds=esF (fun s x=>s.st.dsV (s.rest x)) l y
 |[],_,e=>by cases e
 |[a],y,e=>ES.dec_ok e
 |a::b::l,y,e=>by
  simp only [esD]at e;split at e
  ·rename_i z hz;cases e;exact ES.dec_ok hz
  ·obtain⟨z,hz,e⟩:=Option.map_eq_some_iff.1 e
   subst e;exact esD_ok (l:=b::l) hz
def mkP(ss:List SS)(es:List ES):Piece T (ssT T ss) (esT T es) where
 dcS env H ds:=ssD env H ds ss
 slS:=ssF SS.slV ss
 obS:=ssF SS.obV ss
 dsS:=ssF SS.dsV ss
 dcE x env H ds:=esD x env H ds es
 exE:=esF ES.exV es
 slE:=esF (fun s x=>s.st.slV (s.rest x)) es
 obE:=esF (fun s x=>s.st.obV (s.rest x)) es
 dsE:=esF (fun s x=>s.st.dsV (s.rest x)) es
 goE:=fun _ e k=>esG k es e
theorem mkP_ok(ss:List SS)(es:List ES):PieceOk (T:=T) (mkP ss es):=
 ⟨fun _ _ _ _ h=>ssD_ok h,fun _ _ _ _ _ h=>esD_ok h,fun _ e k=>esG_eq k es e⟩
structure OS where
 pan:Bool
 v:Sh
 ob:List ShO
def OS.tys(s:OS):List Tg:=s.v.tys (tysH s.ob [])
def outE(pan:Bool)(x:AV T)(H:List (AObj T)):Out T:=bif pan then .panic x H else .ret x H
def OS.dec(s:OS)(o:Out T):Option (tupT T s.tys):=
 match o with
 | .ret x H=>bif s.pan then none else(decH s.ob H (r:=[]) ()).bind fun r=>Sh.dec s.v x r
 | .panic x H=>bif s.pan then(decH s.ob H (r:=[]) ()).bind fun r=>Sh.dec s.v x r else none
def OS.out(s:OS)(x:tupT T s.tys):Out T:=outE s.pan (Sh.enc s.v x).1 (encH s.ob (Sh.enc s.v x).2).1
theorem OS.dec_ok{s:OS}{o:Out T}{y:tupT T s.tys}(e:s.dec o=some y):o=s.out y:=by
 have key:∀{x:AV T} {H:List (AObj T)},((decH s.ob H (r:=[]) ()).bind fun r=>Sh.dec s.v x r)=some y→(Sh.enc s.v y).1=x∧(encH s.ob (Sh.enc s.v y).2).1=H:=by
  intro x H h;obtain⟨r,e1,e2⟩:=Option.bind_eq_some_iff.1 h;have k:=Sh.dec_enc e2;rw [k];exact⟨rfl,congrArg Prod.fst (decH_encH e1)⟩
 unfold OS.dec at e;unfold OS.out outE;cases o with
 |ret x H=>
  simp only at e;cases hp:s.pan
  ·rw [hp]at e
   obtain⟨h1,h2⟩:=key e;rw [h1,h2];rfl
  ·rw [hp]at e;cases e
 |panic x H=>
  simp only at e;cases hp:s.pan
  ·rw [hp]at e;cases e
  ·rw [hp]at e
   obtain⟨h1,h2⟩:=key e;rw [h1,h2];rfl
def osT(T:Nat→Type):List OS→Type
 |[]=>Empty
 |[a]=>tupT T a.tys
 |a::b::l=>tupT T a.tys⊕osT T (b::l)
def osD(o:Out T):(l:List OS)→Option (osT T l)
 |[]=>none
 |[a]=>a.dec o
 |a::b::l=>match a.dec o with
  |some x=>some (.inl x)
  |none=>(osD o (b::l)).map .inr
def osF:(l:List OS)→osT T l→Out T
 |[],x=>x.elim
 |[a],x=>a.out x
 |a::b::l,x=>match x with
  | .inl x=>a.out x
  | .inr x=>osF (b::l) x
def osG{R:Type}(k:Out T→Option R):(l:List OS)→osT T l→Option R
 |[],x=>x.elim
 |[a],x=>k (a.out x)
 |a::b::l,x=>match x with
  | .inl x=>k (a.out x)
  | .inr x=>osG k (b::l) x
theorem osG_eq{R:Type}(k:Out T→Option R):∀(l:List OS) (e:osT T l),osG k l e=k (osF l e)
 |[],e=>e.elim
 |[a],e=>rfl
 |a::b::l,.inl x=>rfl
 |a::b::l,.inr x=>osG_eq k (b::l) x
theorem osD_ok{o:Out T}:∀{l:List OS} {y:osT T l},osD o l=some y→o=osF l y
 |[],_,e=>by cases e
 |[a],y,e=>OS.dec_ok e
 |a::b::l,y,e=>by
  simp only [osD]at e;split at e
  ·rename_i z hz;cases e;exact OS.dec_ok hz
  ·obtain⟨z,hz,e⟩:=Option.map_eq_some_iff.1 e
   subst e;exact osD_ok (l:=b::l) hz
def mkS(as:List Sh)(ob:List ShO)(os:List OS):Spec T (tupT T (Sh.tysL as (tysH ob []))) (osT T os) where
 dcI a H:=(decH ob H (r:=[]) ()).bind fun r=>Sh.decL as a r
 ecA i:=(Sh.encL as i).1
 ecH i:=(encH ob (Sh.encL as i).2).1
 dcO o:=osD o os
 ecO x:=osF os x
 goO:=fun _ x k=>osG k os x
theorem mkS_ok(as:List Sh)(ob:List ShO)(os:List OS):SpecOk (T:=T) (mkS as ob os):=
 ⟨fun a H i h=>by
  obtain⟨r,e1,e2⟩:=Option.bind_eq_some_iff.1 (show((decH ob H (r:=[]) ()).bind fun r=>Sh.decL as a r)=some i from h);have k:=Sh.decL_encL e2
  show a=(Sh.encL as i).1∧H=(encH ob (Sh.encL as i).2).1;rw [k];exact⟨rfl,(congrArg Prod.fst (decH_encH e1)).symm⟩,fun _ _ h=>osD_ok h,fun _ x k=>osG_eq k os x⟩
end Go.Proofs.YtdoifigogbdodaaGreatDoor.Ev
namespace Go.Proofs.YtdoifigogbdodaaGreatDoor.Ev
def curT(T:Nat→Type):List Tg→Type→Type
 |[],R=>R
 |a::l,R=>a.Ty T→curT T l R
def cur{T:Nat→Type}{R:Type}:(l:List Tg)→curT T l R→tupT T l→R
 |[],f,_ =>f
 |a::l,f,x=>cur l (f (hdT x)) (tlT x)
end Go.Proofs.YtdoifigogbdodaaGreatDoor.Ev

namespace Go.Proofs.YtdoifigogbdodaaGreatDoor.Ev
open Go
variable {T:Nat→Type} {C:Cdc T} {P:Program} {σ:Lk} {H:List (AObj T)} {w:World} {G:Nat→Option (List (V T))} {R:Type}
def slAV(e:Nat):List Nat→AV T→List (AObj T)→Option (AV T×List (AObj T))
 |[],.own o,H=>match H[o]? with
  |some (.row t l _)=>some (.v (.sl t l),lend o H)
  |_ =>none
 |[],.cap0,H=>some (.v (.sl e []),H)
 |[],.z0,H=>some (.v (.sl e []),H)
 |[],.v .nl,H=>some (.v (.sl e []),H)
 |i::p,.agg l,H=>match l[i]? with
  |some x=>match slAV e p x H with
   |some r=>some (.agg (l.set i r.1),r.2)
   |none=>none
  |none=>none
 |i::p,.tup l,H=>match l[i]? with
  |some x=>match slAV e p x H with
   |some r=>some (.tup (l.set i r.1),r.2)
   |none=>none
  |none=>none
 |_,_,_ =>none
theorem slAV_ok(hC:CdcOk C)(hR:Rp C σ H w G){e:Nat}:∀(p:List Nat) (x:AV T) (y:Value) (r:AV T×List (AObj T)),slAV e p x H=some r→RepA C σ H w x y→Step C G [] σ H w σ r.2 w∧RepA C σ r.2 w r.1 y∧r.2.length=H.length
 |[],.own o,y,r,h,hx=>by
  simp only [slAV]at h;split at h
  ·rename_i t c m ho
   cases h;rw [lend_eq ho];have hst:=step_lend hR ho;exact⟨hst,row_sl hC hst.rp (lend_get ho) (hst.move00 hx),by simp⟩
  ·cases h
 |[],.cap0,y,r,h,hA=>by
  cases h;exact⟨Step.refl hR,by rw [show y=_ from hA];exact .sl0 e none 0,rfl⟩
 |[],.z0,y,r,h,⟨A,hA⟩=>by
  cases h;exact⟨Step.refl hR,by rw [hA];exact .sl0 e A 0,rfl⟩
 |[],.v .nl,y,r,h,hx=>by
  cases h;refine⟨Step.refl hR, ?_,rfl⟩;have hx':RepV C (Cell C σ H w) .nl y:=hx;cases hx' with
  |nl A c=>exact .sl0 e A c
 |i::p,.agg l,y,r,h,⟨vs,h1,h2⟩=>by
  simp only [slAV]at h;split at h
  ·rename_i z hz
   split at h
   ·rename_i q hq
    cases h;obtain⟨y',k1,k2⟩:=h2.get i z hz;obtain⟨s1,s2,s3⟩:=slAV_ok hC hR p z y' q hq k2;exact⟨s1,⟨vs,h1,(h2.move0 s1.move).set fun y hy=>by rw [k1]at hy;cases hy;exact s2⟩,s3⟩
   ·cases h
  ·cases h
 |i::p,.tup l,y,r,h,⟨vs,h1,h2⟩=>by
  simp only [slAV]at h;split at h
  ·rename_i z hz
   split at h
   ·rename_i q hq
    cases h;obtain⟨y',k1,k2⟩:=h2.get i z hz;obtain⟨s1,s2,s3⟩:=slAV_ok hC hR p z y' q hq k2;exact⟨s1,⟨vs,h1,(h2.move0 s1.move).set fun y hy=>by rw [k1]at hy;cases hy;exact s2⟩,s3⟩
   ·cases h
  ·cases h
 |[],.v (.b _),_,_,h,_ |[],.v (.i _ _),_,_,h,_ |[],.v (.s _),_,_,h,_ |[],.v (.sl _ _),_,_,h,_ |[],.v .pn,_,_,h,_ |[],.v .fn0,_,_,h,_ |[],.v .if0,_,_,h,_ |[],.v .ifx,_,_,h,_ =>by cases h
 |[],.any,_,_,h,_ |[],.agg _,_,_,h,_ |[],.tup _,_,_,h,_ |[],.ptr _ _,_,_,h,_ |[],.rptr _ _ _,_,_,h,_ |[],.cptr _ _ _,_,_,h,_
 |[],.gptr _ _,_,_,h,_ |[],.sp _,_,_,h,_ |[],.slc _ _ _ _,_,_,h,_ |[],.fn _ _ _,_,_,h,_ |[],.ifc _ _,_,_,h,_ =>by cases h
 |_ ::_,.z0,_,_,h,_ |_ ::_,.any,_,_,h,_ |_ ::_,.v _,_,_,h,_ |_ ::_,.ptr _ _,_,_,h,_ |_ ::_,.rptr _ _ _,_,_,h,_ |_ ::_,.cptr _ _ _,_,_,h,_
 |_ ::_,.gptr _ _,_,_,h,_ |_ ::_,.sp _,_,_,h,_ |_ ::_,.own _,_,_,h,_ |_ ::_,.slc _ _ _ _,_,_,h,_ |_ ::_,.fn _ _ _,_,_,h,_ |_ ::_,.ifc _ _,_,_,h,_ |_ ::_,.cap0,_,_,h,_ =>by cases h
def slS(t:Nat)(p:List Nat)(e:Nat):NormT T:=fun env H ds=>
 match slAV e p (env t) H with
 |some r=>(upd env t r.1,r.2,ds)
 |none=>(env,H,ds)
theorem slS_ok(hC:CdcOk C){nB t:Nat}{p:List Nat}{e:Nat}:NormOk C G nB (slS t p e):=by
 intro B σ env H ds val dl w hB h;unfold slS;split
 ·rename_i r hr
  obtain⟨s1,s2,s3⟩:=slAV_ok hC h.rp p (env t) (val t) r hr (h.env t);have h':=h.step s1;refine⟨_,h'.rp,h'.anc,fun u=> ?_,h'.ds⟩
  show RepA C _ _ w (upd env t r.1 u) _;unfold upd;cases hu:Nat.beq u t
  ·exact h'.env u
  ·have:=Nat.eq_of_beq_eq_true hu
   subst this;exact s2
 ·exact⟨σ,h⟩
theorem Sv.cells{B:Base T}{env:Env T}{ds:Ds T}{val:Nat→Value}{dl:List Deferred}(h:Sv C G B σ env H ds val dl w){o:Nat}{l l':List (AV T)}{e:Nat}{g:Option Nat}(ho:H[o]? =some (.cells e g l))(hll:l'.length=l.length)
  (hl:∀cs,RepL C σ H w l cs→RepL C σ H w l' cs):∃σ',Sv C G B σ' env (H.set o (.cells e g l')) ds val dl w:=by
 refine⟨_,h.step (step_set h.rp w ho rfl (by cases g<;>rfl) rfl rfl rfl (Nat.le_refl _) (fun b _ _ =>rfl) (fun off hf=>hf) (fun b off _ _ =>rfl) (fun n2 s2 hx=> ?_) fun M=> ?_)⟩
 ·refine⟨?_,fun b _ cs e fz hc=>⟨cs,e,fz,hc,rfl⟩⟩
  cases hx
 ·obtain⟨b,cs,ys,rest,h1,h2,h3,h4,hmk⟩:=(h.rp.obj o _ ho).cellsD
  exact hmk _ _ _ cs ys l' h1 h2 h3 rfl hll ((hl _ h4).move0 M)
def promC(o j:Nat)(p:List Nat)(e:Nat):NormT T:=fun env H ds=>
 match H[o]? with
 |some (.cells te g l)=>match l[j]? with
  |some x=>match promAV H.length p x with
   |some y=>(env,(H++[AObj.row e [] true]).set o (.cells te g (l.set j y)),ds)
   |none=>(env,H,ds)
  |none=>(env,H,ds)
 |_ =>(env,H,ds)
theorem promC_ok{nB o j:Nat}{p:List Nat}{e:Nat}:NormOk C G nB (promC o j p e):=by
 intro B σ env H ds val dl w hB h;unfold promC;split
 ·rename_i te g l ho
  split
  ·rename_i x hx
   split
   ·rename_i y hy
    have h':=h.step (step_nil h.rp e);refine h'.cells (o:=o) (l:=l) ?_ (by simp) fun cs hcs=>hcs.set fun z hz=> ?_
    ·rw [List.getElem?_append_left (List.getElem?_eq_some_iff.1 ho).1];exact ho
    ·obtain⟨z',k1,k2⟩:=hcs.get j x hx
     rw [hz]at k1;cases k1;exact promAV_rep (by simp) (fun q s hr=>by simp [add]) p _ y _ hy k2
   ·exact⟨σ,h⟩
  ·exact⟨σ,h⟩
 ·exact⟨σ,h⟩
def slC(o j:Nat)(p:List Nat)(e:Nat):NormT T:=fun env H ds=>
 match H[o]? with
 |some (.cells te g l)=>match l[j]? with
  |some x=>match slAV e p x H with
   |some r=>(env,r.2.set o (.cells te g (l.set j r.1)),ds)
   |none=>(env,H,ds)
  |none=>(env,H,ds)
 |_ =>(env,H,ds)
theorem lend_cells{o q e:Nat}{g:Option Nat}{l:List (AV T)}(h:H[o]? =some (.cells e g l)):(lend q H)[o]? =some (.cells e g l):=by
 unfold lend;split
 ·rename_i t c m hq
  rw [List.getElem?_set];by_cases hqo:q=o
  ·subst hqo;rw [h]at hq;cases hq
  ·rw [if_neg hqo];exact h
 ·exact h
theorem slAV_cells{e te:Nat}{g:Option Nat}:∀(p:List Nat) (x:AV T) (r:AV T×List (AObj T)) (o:Nat) (l:List (AV T)),slAV e p x H=some r→H[o]? =some (.cells te g l)→r.2[o]? =some (.cells te g l)
 |[],.own q,r,o,l,h,ho=>by
  simp only [slAV]at h;split at h
  ·cases h;exact lend_cells ho
  ·cases h
 |[],.cap0,r,o,l,h,ho=>by cases h;exact ho
 |[],.z0,r,o,l,h,ho=>by cases h;exact ho
 |[],.v .nl,r,o,l,h,ho=>by cases h;exact ho
 |i::p,.agg m,r,o,l,h,ho=>by
  simp only [slAV]at h;split at h
  ·split at h
   ·rename_i q hq;cases h;exact slAV_cells p _ q o l hq ho
   ·cases h
  ·cases h
 |i::p,.tup m,r,o,l,h,ho=>by
  simp only [slAV]at h;split at h
  ·split at h
   ·rename_i q hq;cases h;exact slAV_cells p _ q o l hq ho
   ·cases h
  ·cases h
 |[],.v (.b _),_,_,_,h,_ |[],.v (.i _ _),_,_,_,h,_ |[],.v (.s _),_,_,_,h,_ |[],.v (.sl _ _),_,_,_,h,_ |[],.v .pn,_,_,_,h,_ |[],.v .fn0,_,_,_,h,_ |[],.v .if0,_,_,_,h,_ |[],.v .ifx,_,_,_,h,_ =>by cases h
 |[],.any,_,_,_,h,_ |[],.agg _,_,_,_,h,_ |[],.tup _,_,_,_,h,_ |[],.ptr _ _,_,_,_,h,_ |[],.rptr _ _ _,_,_,_,h,_ |[],.cptr _ _ _,_,_,_,h,_
 |[],.gptr _ _,_,_,_,h,_ |[],.sp _,_,_,_,h,_ |[],.slc _ _ _ _,_,_,_,h,_ |[],.fn _ _ _,_,_,_,h,_ |[],.ifc _ _,_,_,_,h,_ =>by cases h
 |_ ::_,.z0,_,_,_,h,_ |_ ::_,.any,_,_,_,h,_ |_ ::_,.v _,_,_,_,h,_ |_ ::_,.ptr _ _,_,_,_,h,_ |_ ::_,.rptr _ _ _,_,_,_,h,_ |_ ::_,.cptr _ _ _,_,_,_,h,_
 |_ ::_,.gptr _ _,_,_,_,h,_ |_ ::_,.sp _,_,_,_,h,_ |_ ::_,.own _,_,_,_,h,_ |_ ::_,.slc _ _ _ _,_,_,_,h,_ |_ ::_,.fn _ _ _,_,_,_,h,_ |_ ::_,.ifc _ _,_,_,_,h,_ |_ ::_,.cap0,_,_,_,h,_ =>by cases h
theorem slC_ok(hC:CdcOk C){nB o j:Nat}{p:List Nat}{e:Nat}:NormOk C G nB (slC o j p e):=by
 intro B σ env H ds val dl w hB h;unfold slC;split
 ·rename_i te g l ho
  split
  ·rename_i x hx
   split
   ·rename_i r hr
    obtain⟨b,cs,ys,rest,h1,h2,h3,h4,_⟩:=(h.rp.obj o _ ho).cellsD;obtain⟨z',k1,k2⟩:=h4.get j x hx;obtain⟨s1,s2,s3⟩:=slAV_ok hC h.rp p x z' r hr k2;have h':=h.step s1;have hrc:=slAV_cells p x r o l hr ho;refine⟨_,h'.step (step_set h'.rp w hrc rfl (by cases g<;>rfl) rfl rfl rfl (Nat.le_refl _) (fun b _ _ =>rfl) (fun off hf=>hf) (fun b off _ _ =>rfl) (fun n2 s2 hx=> ?_) fun M=> ?_)⟩
    ·refine⟨?_,fun b _ cs e fz hc=>⟨cs,e,fz,hc,rfl⟩⟩
     cases hx
    ·obtain⟨b',cs',ys',rest',q1,q2,q3,q4,hmk⟩:=(h'.rp.obj o _ hrc).cellsD
     rw [h1]at q1;cases q1;rw [h2]at q2;cases q2;have hlen:ys'.length=ys.length:=by rw [q4.length,h4.length]
     have hys:ys'=ys:=by
      have:=h3.symm.trans q3;exact(List.append_inj this hlen.symm).1.symm
     subst hys;exact hmk _ _ _ cs ys' _ h1 h2 q3 rfl (by simp) ((q4.set fun z hz=>by rw [k1]at hz;cases hz;exact s2).move0 M)
   ·exact⟨σ,h⟩
  ·exact⟨σ,h⟩
 ·exact⟨σ,h⟩
def exN:List (Nat×NormT T)→Nat→NormT T
 |[],_ =>idN
 |(j,N)::l,i=>bif Nat.beq i j then N else exN l i
def xN(N:NormT T)(es:List (Nat×NormT T))(R Pn:NormT T):Ex T→NormT T
 | .normal=>N
 | .exit i=>exN es i
 | .ret=>R
 | .pan _ =>Pn
theorem exN_ok{nB:Nat}:∀{es:List (Nat×NormT T)},(∀p∈es,NormOk C G nB p.2)→∀i,NormOk C G nB (exN es i)
 |[],_,i=>idN_ok
 |(j,N)::l,h,i=>by
  unfold exN;cases Nat.beq i j
  ·exact exN_ok (fun p hp=>h p (List.mem_cons_of_mem _ hp)) i
  ·exact h (j,N) (by simp)
theorem ex_nil{nB:Nat}:∀p∈([]:List (Nat×NormT T)),NormOk C G nB p.2:=fun p hp=>by cases hp
theorem ex_cons{nB j:Nat}{N:NormT T}{l:List (Nat×NormT T)}(h:NormOk C G nB N)(hl:∀p∈l,NormOk C G nB p.2):∀p∈(j,N)::l,NormOk C G nB p.2:=fun p hp=>by
 rcases List.mem_cons.1 hp with rfl|hp
 ·exact h
 ·exact hl p hp
theorem xN_ok{nB:Nat}{N R Pn:NormT T}{es:List (Nat×NormT T)}(hN:NormOk C G nB N)(hes:∀p∈es,NormOk C G nB p.2)(hR:NormOk C G nB R)(hP:NormOk C G nB Pn):∀x,NormOk C G nB (xN N es R Pn x)
 | .normal=>hN
 | .exit i=>exN_ok hes i
 | .ret=>hR
 | .pan _ =>hP
end Go.Proofs.YtdoifigogbdodaaGreatDoor.Ev
namespace Go.Proofs.YtdoifigogbdodaaGreatDoor.Ev
open Go
variable {T:Nat→Type} {C:Cdc T} {G:Nat→Option (List (V T))}
def Gam.addE(Γ:Gam T)(g:Nat)(e:Entry T):Gam T:=⟨fun h R args H k=>bif Nat.beq h g then e R args H k else Γ h R args H k,Γ.own⟩
theorem GOk.addE{P:Program}{Γ:Gam T}(hΓ:GOk P C G Γ){g:Nat}{e:Entry T}(he:EOk P C G g e):GOk P C G (Γ.addE g e):=by
 intro h R args H k r hr;simp only [Gam.addE]at hr;cases hb:Nat.beq h g
 ·rw [hb]at hr;exact hΓ h R args H k r hr
 ·rw [hb]at hr
  have:=Nat.eq_of_beq_eq_true hb;subst this;exact he R args H k r hr
def noEsc:Entry T:=fun _ args H k=>match args with
 |[x]=>k (.ret x H)
 |_ =>none
theorem noEsc_ok{P:Program}{g:FuncId}{fn:Func}(hf:P.funcs[g]? =some fn)(hname:(fn.name=="runtime.NumGoroutine")=false)(hb:fn.body.isNone=true)(hn:Extern.findNext fn=none)(he:Extern.find fn=some Extern.AbiNoEscape.same):EOk P C G g noEsc:=by
 intro R args H k r hr σ w vs hR ha;unfold noEsc at hr;split at hr
 ·rename_i x
  obtain⟨y,ys,h1,h2,h3⟩:=ha;have h3':ys=[]:=h3;subst h3';subst h1;refine .inr ⟨y,w, ?_,_,hr,y,σ,rfl,hR,Anc.refl C σ H w,h2⟩;rw [run_callFunc_extern hf hname hb hn he];rfl
 ·cases hr
end Go.Proofs.YtdoifigogbdodaaGreatDoor.Ev

namespace Go.Proofs.YtdoifigogbdodaaGreatDoor.Ev
open Go
variable {T:Nat→Type} {C:Cdc T} {P:Program} {σ:Lk} {H:List (AObj T)} {w:World} {G:Nat→Option (List (V T))} {R:Type}
end Go.Proofs.YtdoifigogbdodaaGreatDoor.Ev
