import Derived.Test.YtdoifigogbdodaaGreatDoorEvTwo
import Derived.Scope
import Derived.LoopN
import Derived.Laws.Externs
set_option linter.unusedVariables false
set_option linter.unusedSimpArgs false
set_option maxHeartbeats 1000000
namespace Go.Proofs.YtdoifigogbdodaaGreatDoor.Ev
open Go
variable {T:Nat→Type} {C:wB T} {P:Program} {σ:Lk} {H H':List (zT T)} {w:World} {G:Nat→Option (List (V T))} {R:Type}
abbrev KX(T:Nat→Type)(R:Type):=AV T→List (zT T)→List Nat→Ds T→Option R
def zWT(C:wB T)(P:Program)(G:Nat→Option (List (V T)))(Γ:qK T)(o:Oper)(env:Env T)(H:List (zT T))(ds:Ds T)(K:KX T R)(Kp:KP T R):Option R:=
 match o.op with
 | .call {callee:= .value f,args,.. }=>match w8 env f with
  | .fn (.func g) first cap=>zM9 Γ g (first++args.toList.map (w8 env)++cap) H (fun x H S=>K x H S (wR S ds)) (fun p H S=>Kp (zDw S env) p H (wR S ds))
  |_ =>none
 | .call {callee:= .invoke f name,args,.. }=>match w8 env f with
  | .q9 t x=>match zbA P t name with
   |some g=>zM9 Γ g (x::args.toList.map (w8 env)) H (fun x H S=>K x H S (wR S ds)) (fun p H S=>Kp (zDw S env) p H (wR S ds))
   |none=>none
  |_ =>none
 | .defer {callee:= .value f,args,.. }=>match w8 env f with
  | .fn g first cap=>K .any H [] ((g,first++args.toList.map (w8 env),cap)::ds)
  |_ =>none
 |_ =>vV C P G o env H (fun x H S=>K x H S (wR S ds)) (fun p H=>Kp env p H ds)
theorem zQf(ds:Ds T):wR [] ds=ds:=by
 unfold wR;rw [List.map_congr_left (g:=id) (fun d _ =>by obtain⟨a,b,c⟩:=d;simp [vI])];simp
theorem zaw(hC:yj C){Γ:qK T}(hΓ:ql P C G Γ){n:Nat}{B:jS T}{env:Env T}{ds:Ds T}{a:Act}(st:St C G n B σ env H ds a w){o:Oper}{K:KX T R}{Kp:KP T R}{r:R}
  (h:zWT C P G Γ o env H ds K Kp=some r) {next:Act→World→Prop} {Q:Exit→Act→World→Prop}
  (hK:∀σ' x v H' S ds' dd w',K x H' S ds'=some r→Step C G S σ H w σ' H' w'→zr C σ' H' w' x v→zCp C σ' H' w' ds' dd→next ({a with defers:=dd}.put o.dst v) w')
  (hP:∀σ' env' p H' ds' v w',Kp env' p H' ds'=some r→PSt C G n B σ' env' p H' ds' a v w'→Q (.panic [{v,recovered:=false}]) a w'):
  o.wp P a w next Q:=by
 have plain:vV C P G o env H (fun x H S=>K x H S (wR S ds)) (fun p H=>Kp env p H ds)=some r→o.wp P a w next Q:=by
  intro h;unfold Oper.wp;rcases zVs hC st.rp st.env h with⟨x,H',S,v,σ',w',h1,h2,h3,h4⟩|⟨p,H',v,σ',w',h1,h2,h3,h4⟩
  ·have:=hK σ' x v H' S _ a.defers w' h1 h3 h4 (st.ds.move h3.move)
   rcases h2 with h2|⟨h2,rfl⟩<;>rw [h2]<;>exact this
  ·rw [h2]
   have hst:=st.step h3;rw [zQf]at hst;exact hP _ _ _ _ _ _ _ h1 ⟨hst,h4⟩
 unfold zWT at h;split at h
 ·rename_i f args at_ hop
  split at h
  ·rename_i g first cap hf
   have hfv:=z7 st.env f;rw [hf]at hfv;obtain⟨a1,a2,h1,h2,h3⟩:=hfv;have hargs:=(h2.append (vN st.env args.toList)).append h3;have hdo:=zNh hC st.rp (hΓ g) hargs h;have harr:(a1++args.map a.eval++a2)=(a1.toList++args.toList.map a.eval++a2.toList).toArray:=by
    apply Array.ext';simp
   have hrun:(execOp a.eval o).run P w=(callFunc g (a1.toList++args.toList.map a.eval++a2.toList).toArray).run P w:=by
    unfold execOp;rw [hop];simp only [resolve,h1,Deferred.ofValue,Sem.run_bind,Sem.run_pure,Result.andThen_ok,invoke];rw [←harr]
   unfold Oper.wp;rw [hrun];rcases hdo with⟨k1,k2⟩|⟨v0,w0,k1,k2⟩
   ·rw [k1]
    simp only [Oper.upon];refine k2.mono fun e w' he=> ?_
    rcases he with⟨x,H',S,v,σ',q1,rfl,q3,q4⟩|⟨p,H',S,v,σ',q1,rfl,q3,q4⟩
    ·exact hK σ' x v H' S _ a.defers w' q1 q3 q4 (st.ds.move q3.move)
    ·exact hP _ _ _ _ _ _ _ q1 ⟨st.step q3,q4⟩
   ·rw [k1]
    simp only [Oper.upon];rcases k2 with⟨x,H',S,v,σ',q1,e2,q3,q4⟩|⟨p,H',S,v,σ',q1,e2,q3,q4⟩
    ·cases e2
     exact hK σ' x _ H' S _ a.defers _ q1 q3 q4 (st.ds.move q3.move)
    ·cases e2
  ·cases h
 ·rename_i f name args at_ hop
  split at h
  ·rename_i t x hf
   split at h
   ·rename_i g hg
    have hfv:=z7 st.env f;rw [hf]at hfv;obtain⟨z,h1,h2⟩:=hfv;have hargs:yW C σ H w (x::args.toList.map (w8 env)) (z::args.toList.map a.eval):=⟨z,_,rfl,h2,vN st.env args.toList⟩
    have hdo:=zNh hC st.rp (hΓ g) hargs h;have hrun:(execOp a.eval o).run P w=(callFunc g (z::args.toList.map a.eval).toArray).run P w:=by
     unfold execOp;rw [hop];simp only [resolve,Sem.run_bind,Sem.run_pure,Result.andThen_ok,invoke];have h0:(#[a.eval f]++args.map a.eval)[0]? =some (.iface t z):=by
      have h1':a.eval f= .iface t z:=h1;rw [h1',←Array.getElem?_toList,Array.toList_append];rfl
     rw [h0];show(callMethod (.iface t z) name _).run P w=_;rw [zZG hg];congr 2;apply Array.ext';simp only [Array.toList_append,Array.toList_extract,Array.toList_map,List.extract_eq_take_drop,Array.size_append,List.size_toArray,Array.size_map,List.cons_append,List.nil_append];simp [List.take_of_length_le]
    unfold Oper.wp;rw [hrun];rcases hdo with⟨k1,k2⟩|⟨v0,w0,k1,k2⟩
    ·rw [k1]
     simp only [Oper.upon];refine k2.mono fun e w' he=> ?_
     rcases he with⟨x,H',S,v,σ',q1,rfl,q3,q4⟩|⟨p,H',S,v,σ',q1,rfl,q3,q4⟩
     ·exact hK σ' x v H' S _ a.defers w' q1 q3 q4 (st.ds.move q3.move)
     ·exact hP _ _ _ _ _ _ _ q1 ⟨st.step q3,q4⟩
    ·rw [k1]
     simp only [Oper.upon];rcases k2 with⟨x,H',S,v,σ',q1,e2,q3,q4⟩|⟨p,H',S,v,σ',q1,e2,q3,q4⟩
     ·cases e2
      exact hK σ' x _ H' S _ a.defers _ q1 q3 q4 (st.ds.move q3.move)
     ·cases e2
   ·cases h
  ·cases h
 ·rename_i f args at_ hop
  split at h
  ·rename_i g first cap hf
   have hfv:=z7 st.env f;rw [hf]at hfv;obtain⟨a1,a2,h1,h2,h3⟩:=hfv;have hrun:(execOp a.eval o).run P w= .ok (.defer {target:= .fn g a2,args:=a1++args.map a.eval}) w:=by
    unfold execOp;rw [hop];simp only [resolve,h1,Deferred.ofValue,Sem.run_bind,Sem.run_pure,Result.andThen_ok]
   unfold Oper.wp;rw [hrun];simp only [Oper.upon];refine hK σ .any undef H [] _ _ w h (Step.refl st.rp) trivial ⟨_,_,_,rfl, ?_,h3,st.ds⟩;rw [Array.toList_append,Array.toList_map];exact h2.append (vN st.env args.toList)
  ·cases h
 ·exact plain h
def vE(H H':List (zT T)):Prop:=∀(o e:Nat) (g:Option Nat) (l:List (AV T)),H'[o]? =some (.cells e g l)→H[o]? =some (.cells e g l)
theorem vE.refl:vE H H:=fun _ _ _ _ h=>h
theorem vE.trans{H2:List (zT T)}(h:vE H H')(k:vE H' H2):vE H H2:=fun o e g l hx=>h o e g l (k o e g l hx)
theorem vE.zDN{o:Nat}:vE H (Ev.zDN o H):=by
 intro p e g l h;unfold Ev.zDN at h;split at h
 ·rw [List.getElem?_set]at h
  split at h
  ·split at h<;>cases h
  ·exact h
 ·exact h
mutual
theorem zcq:∀(x:AV T) (H:List (zT T)) (K K':AV T→List (zT T)→Option R),(∀x' H',Fr (refs x) H H'→(∀o∈refs x',o∈refs x)→vE H H'→K x' H'=K' x' H')→zFg x H K=zFg x H K'
 | .own o,H,K,K',h=>by
  simp only [zFg];split
  ·exact h _ _ (Fr.zDN (by simp [refs])) (fun o ho=>by cases ho) vE.zDN
  ·rfl
 | .agg l,H,K,K',h=>by
  simp only [zFg];exact zNt l H _ _ fun l' H' h1 h2 h3=>h _ _ h1 h2 h3
 | .qu l,H,K,K',h=>by
  simp only [zFg];exact zNt l H _ _ fun l' H' h1 h2 h3=>h _ _ h1 h2 h3
 | .fn f a b,H,K,K',h=>h _ _ Fr.refl (fun _ h=>h) vE.refl
 | .q9 t x,H,K,K',h=>h _ _ Fr.refl (fun _ h=>h) vE.refl
 | .any,H,K,K',h=>h _ _ Fr.refl (fun _ h=>h) vE.refl
 | .v x,H,K,K',h=>h _ _ Fr.refl (fun _ h=>h) vE.refl
 | .ptr o k,H,K,K',h=>h _ _ Fr.refl (fun _ h=>h) vE.refl
 | .wu o i k,H,K,K',h=>h _ _ Fr.refl (fun _ h=>h) vE.refl
 | .wU t x k,H,K,K',h=>h _ _ Fr.refl (fun _ h=>h) vE.refl
 | .vA g k,H,K,K',h=>h _ _ Fr.refl (fun _ h=>h) vE.refl
 | .sp o,H,K,K',h=>h _ _ Fr.refl (fun _ h=>h) vE.refl
 | .yB o k n c,H,K,K',h=>h _ _ Fr.refl (fun _ h=>h) vE.refl
 | .qG,H,K,K',h=>h _ _ Fr.refl (fun _ h=>h) vE.refl
 | .z0,H,K,K',h=>h _ _ Fr.refl (fun _ h=>h) vE.refl
theorem zNt:∀(l:List (AV T)) (H:List (zT T)) (K K':List (AV T)→List (zT T)→Option R),(∀l' H',Fr (qH l) H H'→(∀o∈qH l',o∈qH l)→vE H H'→K l' H'=K' l' H')→zQh l H K=zQh l H K'
 |[],H,K,K',h=>h _ _ Fr.refl (fun _ h=>h) vE.refl
 |x::l,H,K,K',h=>by
  simp only [zQh];refine zcq x H _ _ fun x' H1 h1 h2 h3=>zNt l H1 _ _ fun l' H2 k1 k2 k3=>h _ _ ((h1.mono fun o ho=>by simp [qH,ho]).trans (k1.mono fun o ho=>by simp [qH,ho])) (fun o ho=> ?_) (h3.trans k3)
  simp only [qH,List.mem_append]at ho⊢;exact ho.imp (h2 o) (k2 o)
end
theorem gZ:∀(xs acc:List Nat) (o:Nat),o∈jf acc xs↔o∈acc∨o∈xs
 |[],acc,o=>by simp [jf]
 |x::xs,acc,o=>by
  have:jf acc (x::xs)=jf (bif acc.elem x then acc else acc++[x]) xs:=rfl;rw [this,gZ xs];cases he:acc.elem x
  ·simp only [cond_false,List.mem_append,List.mem_cons,List.not_mem_nil,or_false]
   constructor
   ·rintro((h|h)|h)
    ·exact .inl h
    ·exact .inr (.inl h)
    ·exact .inr (.inr h)
   ·rintro(h|h|h)
    ·exact .inl (.inl h)
    ·exact .inl (.inr h)
    ·exact .inr h
  ·simp only [cond_true,List.mem_cons]
   have hx:x∈acc:=by simpa using he
   constructor
   ·rintro(h|h)
    ·exact .inl h
    ·exact .inr (.inr h)
   ·rintro(h|h|h)
    ·exact .inl h
    ·subst h;exact .inl hx
    ·exact .inr h
def zPU(H:List (zT T))(p o:Nat):Prop:=∃e g l,H[p]? =some (zT.cells e g l)∧o∈qH l
theorem zMs(o:Nat):∀(l acc:List Nat),o∈l.foldl (fun(acc:List Nat) (p:Nat)=>match H[p]? with|some (zT.cells _ _ l)=>jf acc (qH l)|_ =>acc) acc↔o∈acc∨∃p∈l,zPU H p o
 |[],acc=>by simp
 |p::l,acc=>by
  rw [List.foldl_cons,zMs o l];cases hp:H[p]? with
  |none=>simp [zPU,hp]
  |some x=>
   cases x with
   |cells e g c=>
    simp only [gZ,List.mem_cons,exists_eq_or_imp];have:zPU H p o↔o∈qH c:=⟨fun⟨_,_,_,h1,h2⟩=>by rw [hp]at h1;cases h1;exact h2,fun h=>⟨e,g,c,hp,h⟩⟩
    rw [this];constructor
    ·rintro((h|h)|h)
     ·exact .inl h
     ·exact .inr (.inl h)
     ·exact .inr (.inr h)
    ·rintro(h|h|h)
     ·exact .inl (.inl h)
     ·exact .inl (.inr h)
     ·exact .inr h
   |row t l m=>simp [zPU,hp]
   |j6 s q=>simp [zPU,hp]
   |dead=>simp [zPU,hp]
theorem zDx(hs:vE H H'):∀(k:Nat) (A B:List Nat),(∀o∈A,o∈B)→∀o∈reach H' k A,o∈reach H k B
 |0,A,B,h=>h
 |k+1,A,B,h=>by
  unfold reach;refine zDx hs k _ _ fun o ho=> ?_
  refine(zMs (H:=H) o B B).2 ?_;rcases(zMs (H:=H') o A A).1 ho with ho|⟨p,hp,e,g,l,h1,h2⟩
  ·exact .inl (h o ho)
  ·exact .inr ⟨p,h p hp,e,g,l,hs p e g l h1,h2⟩
theorem zUr:∀(k:Nat) (A:List Nat),∀o∈A,o∈reach H k A
 |0,A,o,h=>h
 |k+1,A,o,h=>by
  unfold reach;exact zUr k _ o ((zMs o A A).2 (.inl h))
theorem zYa{Γ:qK T}{g:FuncId}{args:List (AV T)}{S0:List Nat}(ha:∀o∈reach H 3 (jf [] (qH args)),o∈S0){K K' Kp:yZ T R}(h:∀x H' S,wx S0 H H' S→K x H' S=K' x H' S):zM9 Γ g args H K Kp=zM9 Γ g args H K' Kp:=by
 have hself:∀o∈qH args,o∈S0:=fun o ho=>ha o (zUr 3 _ o ((gZ _ _ _).2 (.inr ho)))
 have inner:∀(args':List (AV T)) (H1:List (zT T)),Fr (qH args) H H1→(∀o∈qH args',o∈qH args)→vE H H1→
   (fun(S:List Nat)=>bif zD8 S&&jU S H1&&wS S args' then
    Γ g R (zSG S.idxOf args') (zCq S H1) fun
     | .ret x H2=>bif jX S&&jX H2 then K (ren (back S H1.length) x) H1 []else K (ren (back S H1.length) x) (merge S (rowsOf S H1) H1 H2) (rowsOf S H1)
     | .panic p H2=>Kp (ren (back S H1.length) p) (merge S (rowsOf S H1) H1 H2) (rowsOf S H1)
    else none) (reach H1 3 (jf [] (qH args')))=
   (fun(S:List Nat)=>bif zD8 S&&jU S H1&&wS S args' then
    Γ g R (zSG S.idxOf args') (zCq S H1) fun
     | .ret x H2=>bif jX S&&jX H2 then K' (ren (back S H1.length) x) H1 []else K' (ren (back S H1.length) x) (merge S (rowsOf S H1) H1 H2) (rowsOf S H1)
     | .panic p H2=>Kp (ren (back S H1.length) p) (merge S (rowsOf S H1) H1 H2) (rowsOf S H1)
    else none) (reach H1 3 (jf [] (qH args'))):=by
  intro args' H1 h1 h2 h3;have hsub:∀o∈reach H1 3 (jf [] (qH args')),o∈S0:=fun o ho=>ha o (zDx h3 3 _ _ (fun p hp=>by
   rw [gZ]at hp⊢;exact hp.imp id (h2 p)) o ho)
  generalize reach H1 3 (jf [] (qH args'))=S at hsub;simp only;have hf:∀H2,rowsOf S H1=[]→Fr S0 H (merge S [] H1 H2):=fun H2 _ =>by
   refine⟨by unfold merge;simp only [List.length_append,List.length_map,List.length_range];have:=h1.len;omega,fun o ho hn=> ?_⟩;have ho1:o<H1.length:=Nat.lt_of_lt_of_le ho h1.len;have hS:S.elem o=false:=by
    cases he:S.elem o
    ·rfl
    ·exact(hn (hsub o (by simpa using he))).elim
   unfold merge;rw [List.getElem?_append_left (by simpa using ho1),List.getElem?_map,List.getElem?_range ho1,Option.map_some,hS,if_neg (by simp),List.getD_eq_getElem?_getD,List.getElem?_eq_getElem ho1,Option.getD_some,vd,←List.getElem?_eq_getElem ho1];exact h1.get o ho fun hm=>hn (hself o hm)
  congr 2;funext out;cases out with
  |ret x H2=>
   simp only;cases jX S&&jX H2
   ·refine h _ _ _ fun hr=> ?_
    rw [hr];exact hf H2 hr
   ·exact h _ _ _ fun _ =>h1.mono hself
  |panic p H2=>rfl
 unfold zM9 zdh;cases Γ.own g
 ·exact zNt args H _ _ fun args' H1 h1 h2 h3=>inner args' H1 h1 h2 h3
 ·exact inner args H Fr.refl (fun _ h=>h) vE.refl
def xu(H:List (zT T))(env:Env T)(o:Oper):Option (List Nat):=
 match o.op with
 | .call {callee:= .value _,.. }=>some (reach H 3 (jf [] (jB env o)))
 | .call {callee:= .invoke _ _,.. }=>some (reach H 3 (jf [] (jB env o)))
 | .call {callee:= .builtin .unsafeSliceData,.. }=>some []
 |_ =>some (jB env o)
theorem zhW{Γ:qK T}{o:Oper}{env:Env T}{ds:Ds T}{S0:List Nat}(ht:xu H env o=some S0){K K':KX T R}{Kp:KP T R}(h:∀x H' S ds',wx S0 H H' S→K x H' S ds'=K' x H' S ds'):
  zWT C P G Γ o env H ds K Kp=zWT C P G Γ o env H ds K' Kp:=by
 have plain:xu H env o=some (jB env o)→vV C P G o env H (fun x H S=>K x H S (wR S ds)) (fun p H=>Kp env p H ds)=vV C P G o env H (fun x H S=>K' x H S (wR S ds)) (fun p H=>Kp env p H ds):=fun e=>by
  rw [e]at ht;cases ht;exact zgh fun x H' S hf=>h _ _ _ _ hf
 unfold zWT;split
 ·rename_i f args at_ hop
  unfold xu at ht;rw [hop]at ht;simp only at ht;cases ht;have hsub:∀x∈f::args.toList,∀i∈refs (w8 env x),i∈jB env o:=fun x hx i hi=>by
   unfold jB;rw [hop];exact List.mem_flatMap.2 ⟨x,by simpa [Op.operands,Call.operands] using hx,hi⟩
  split
  ·rename_i g first cap hf
   have h1:=hsub f (by simp);rw [hf]at h1;refine zYa (fun i hi=> ?_) fun x H' S hfr=>h _ _ _ _ hfr
   refine zDx vE.refl 3 _ _ (fun p hp=> ?_) i hi;rw [gZ]at hp⊢;refine hp.imp id fun hp=> ?_
   obtain⟨y,hy,hi'⟩:=wq.1 hp;simp only [List.mem_append,List.mem_map]at hy;rcases hy with(hy|⟨z,hz,rfl⟩)|hy
   ·exact h1 p (List.mem_append_left _ (wq.2 ⟨y,hy,hi'⟩))
   ·exact hsub z (by simp [hz]) p hi'
   ·exact h1 p (List.mem_append_right _ (wq.2 ⟨y,hy,hi'⟩))
  ·rfl
 ·rename_i f name args at_ hop
  unfold xu at ht;rw [hop]at ht;simp only at ht;cases ht;have hsub:∀x∈f::args.toList,∀i∈refs (w8 env x),i∈jB env o:=fun x hx i hi=>by
   unfold jB;rw [hop];exact List.mem_flatMap.2 ⟨x,by simpa [Op.operands,Call.operands] using hx,hi⟩
  split
  ·rename_i t x hf
   split
   ·rename_i g hg
    have h1:=hsub f (by simp);rw [hf]at h1;refine zYa (fun i hi=> ?_) fun x H' S hfr=>h _ _ _ _ hfr
    refine zDx vE.refl 3 _ _ (fun p hp=> ?_) i hi;rw [gZ]at hp⊢;refine hp.imp id fun hp=> ?_
    obtain⟨y,hy,hi'⟩:=wq.1 hp;rcases List.mem_cons.1 hy with rfl|hy
    ·exact h1 p hi'
    ·obtain⟨z,hz,rfl⟩:=List.mem_map.1 hy
     exact hsub z (by simp [hz]) p hi'
   ·rfl
  ·rfl
 ·split
  ·exact h _ _ _ _ fun _ =>Fr.refl
  ·rfl
 ·rename_i h1 h1b h2
  by_cases hsd:∃args at_,o.op= .call {callee:= .builtin .unsafeSliceData,args:=args,argTypes:=at_ }
  ·obtain⟨args,at_,hop⟩:=hsd
   unfold xu at ht;rw [hop]at ht;cases ht;unfold vV;rw [hop];simp only;unfold vT;split
   all_goals first|rfl|(rename_i heq _ _;cases heq;done)|skip
   all_goals first|exact zH8 fun x H' S hf=>h _ _ _ _ hf|(rename_i heq;cases heq;done)|(rename_i heq _ _ _;cases heq;done)|(rename_i heq _;cases heq;done)
  ·refine plain ?_
   unfold xu;split
   ·rename_i hop;exact(h1 _ _ _ hop).elim
   ·rename_i hop;exact(h1b _ _ _ _ hop).elim
   ·rename_i hop;exact(hsd ⟨_,_,hop⟩).elim
   ·rfl
def zXz(C:wB T)(P:Program)(G:Nat→Option (List (V T)))(Γ:qK T)(dsts:Nat→Option Nat)(o:Oper)(env:Env T)(H:List (zT T))(ds:Ds T)(K:Env T→KX T R)(Kp:KP T R):Option R:=
 match o.guard with
 |none=>zWT C P G Γ o env H ds (K env) Kp
 |some (j,want)=>match dsts j with
  |some t=>match env t with
   | .v (.b b)=>
    bif b then bif want then zWT C P G Γ o (kT env t (.v (.b true))) H ds (K (kT env t (.v (.b true)))) Kp else K (kT env t (.v (.b true))) (.qu []) H [] ds
    else bif want then K (kT env t (.v (.b false))) (.qu []) H [] ds else zWT C P G Γ o (kT env t (.v (.b false))) H ds (K (kT env t (.v (.b false)))) Kp
   | .qu []=>K env (.qu []) H [] ds
   |_ =>none
  |none=>none
theorem zTf{env:Env T}{t:Nat}{x:AV T}(h:env t=x):kT env t x=env:=by
 funext u;unfold kT;cases hu:Nat.beq u t
 ·rfl
 ·have:=Nat.eq_of_beq_eq_true hu
  subst this;exact h.symm
theorem zQe{ops:Array Oper}{dsts:Nat→Option Nat}(hd:∀j,dsts j=(ops[j]?).bind (·.dst)){a:Act}{j t:Nat}{b:Bool}(ht:dsts j=some t)(hv:a.tmps.getD t undef= .bool b):yielded ops a.tmps j=some b:=by
 have hlt:t<a.tmps.size:=by
  rcases Nat.lt_or_ge t a.tmps.size with h|h
  ·exact h
  ·rw [Array.getD_eq_getD_getElem?,Array.getElem?_eq_none h]at hv;cases hv
 have hget:a.tmps[t]? =some (.bool b):=by
  rw [Array.getD_eq_getD_getElem?,Array.getElem?_eq_getElem hlt]at hv;rw [Array.getElem?_eq_getElem hlt]
  simpa using hv
 unfold yielded;rw [←hd,ht];simp only [Option.bind_some,hget]
theorem zNd{o:Oper}{j:Nat}{want b:Bool}(hg:o.guard=some (j,want)){f:Nat→Option Bool}(hy:f j=some b):Region.wanted o f=(b==want):=by
 simp only [Region.wanted,hg,hy];cases b<;>cases want<;>rfl
theorem zYk{Γ:qK T}{n:Nat}{B:jS T}{env:Env T}{ds:Ds T}{a:Act}(st:St C G n B σ env H ds a w){ops:Array Oper}{dsts:Nat→Option Nat}(hd:∀j,dsts j=(ops[j]?).bind (·.dst)){o:Oper}{K:Env T→KX T R}{Kp:KP T R}{r:R}
  (h:zXz C P G Γ dsts o env H ds K Kp=some r):
  (Region.wanted o (yielded ops a.tmps)=true∧zWT C P G Γ o env H ds (K env) Kp=some r)∨(Region.wanted o (yielded ops a.tmps)=false∧K env (.qu []) H [] ds=some r):=by
 unfold zXz at h;split at h
 ·rename_i hg
  exact .inl ⟨by simp [Region.wanted,hg],h⟩
 ·rename_i j want hg
  split at h
  ·rename_i t ht
   split at h
   ·rename_i b hb
    have hv:=st.env t;rw [hb]at hv;have hw:=zNd hg (zQe hd ht (zEt hv));rw [hw];cases b<;>cases want<;>simp only [cond_true,cond_false]at h<;>rw [zTf hb]at h
    ·exact .inl ⟨rfl,h⟩
    ·exact .inr ⟨rfl,h⟩
    ·exact .inr ⟨rfl,h⟩
    ·exact .inl ⟨rfl,h⟩
   ·rename_i hb
    have hv:=st.env t;rw [hb]at hv;exact .inr ⟨zDb hg (zBu hd ht (zO7 hv)),h⟩
   ·cases h
  ·cases h
end Go.Proofs.YtdoifigogbdodaaGreatDoor.Ev

namespace Go.Proofs.YtdoifigogbdodaaGreatDoor.Ev
open Go
variable {T:Nat→Type} {C:wB T} {P:Program} {σ:Lk} {H H':List (zT T)} {w:World} {G:Nat→Option (List (V T))} {R:Type}
def zXP(e:Edge):Bool:=Region.binds .any e
def direct(o:Oper)(j:Nat):Bool:=o.after.toList.any fun e=>zXP e&&Nat.beq e.on j
def clo(ops:List Oper):Nat→Oper→Nat→Bool
 |0,o,j=>direct o j
 |k+1,o,j=>direct o j||o.after.toList.any fun e=>zXP e&&match ops[e.on]? with|some o'=>clo ops k o' j|none=>false
def looks(dsts:Nat→Option Nat)(o:Oper):List Nat:=
 (o.op.operands.toList.filterMap fun| .tmp t=>some t|_ =>none)++(match o.guard with|some (g,_)=>(dsts g).toList|none=>[])
def zCy(d:Option Nat)(l:List Nat):Bool:=match d with|some d=> !l.elem d|none=>true
def zLk(a b:Option Nat):Bool:=match a,b with|some a,some b=>Nat.beq a b|_,_ =>false
def zEe(dsts:Nat→Option Nat)(x y:Oper)(i:Nat)(q:Bool):Bool:=
 (direct y i||(zCy x.dst (looks dsts y)&&zCy y.dst (looks dsts x)&& !zLk x.dst y.dst))&&(!q||(zCy y.dst (looks dsts x)&& !zLk x.dst y.dst))
def ziE(o:Oper):Bool:=match o.op with| .select _ _ =>true|_ =>false
def chk(ops:List Oper)(dsts:Nat→Option Nat):List (Nat×Bool)→List (Nat×Bool)→Bool
 |_,[]=>true
 |taken,(i,q)::rest=>match ops[i]? with
  |none=>false
  |some o=> !ziE o&& !taken.any (fun p=>Nat.beq p.1 i)&&o.after.toList.all (fun e=> !zXP e||taken.any fun p=>Nat.beq p.1 e.on)&&
   taken.all (fun p=>match ops[p.1]? with|some x=>zEe dsts x o p.1 q|none=>false)&&
   (!q||zCy o.dst (looks dsts o))&&
   (q||rest.all fun p=>match ops[p.1]? with|some o'=>o'.after.toList.any (fun e=>zXP e&& !taken.any fun p=>Nat.beq p.1 e.on)|none=>false)&&
   chk ops dsts ((i,q)::taken) rest
structure ziY(ops:Array Oper)(dsts:Nat→Option Nat)(taken:List (Nat×Bool))(i:Nat)(q:Bool)(rest:List (Nat×Bool))(o:Oper):Prop where
 at_ :ops[i]? =some o
 sel:∀cs b,o.op≠.select cs b
 new:∀p∈taken,p.1≠i
 zbL:∀e∈o.after,Region.binds .any e=true→∃p∈taken,p.1=e.on
 pair:∀p∈taken,∃x,ops[p.1]? =some x∧zEe dsts x o p.1 q=true
 self:q=true→zCy o.dst (looks dsts o)=true
 lone:q=false→∀p∈rest,∃o',ops[p.1]? =some o'∧∃e∈o'.after,Region.binds .any e=true∧∀p∈taken,p.1≠e.on
theorem any_beq{taken:List (Nat×Bool)}{i:Nat}:(taken.any fun p=>Nat.beq p.1 i)=true↔∃p∈taken,p.1=i:=by
 rw [List.any_eq_true];constructor
 ·rintro⟨p,hp,h⟩;exact⟨p,hp,Nat.eq_of_beq_eq_true h⟩
 ·rintro⟨p,hp,rfl⟩;exact⟨p,hp,by simp⟩
theorem zNU{ops:Array Oper}{dsts:Nat→Option Nat}{taken:List (Nat×Bool)}{i:Nat}{q:Bool}{rest:List (Nat×Bool)}(h:chk ops.toList dsts taken ((i,q)::rest)=true):
  (∃o,ziY ops dsts taken i q rest o)∧chk ops.toList dsts ((i,q)::taken) rest=true:=by
 unfold chk at h;split at h
 ·cases h
 ·rename_i o ho
  simp only [Bool.and_eq_true]at h;obtain⟨⟨⟨⟨⟨⟨h1,h2⟩,h3⟩,h4⟩,h7⟩,h5⟩,h6⟩:=h;refine⟨⟨o,by simpa using ho,fun cs b e=>by simp [ziE,e]at h1,fun p hp e=> ?_,fun e he hb=> ?_,fun p hp=> ?_,fun hq=>by rw [hq]at h7;simpa using h7,fun hq p hp=> ?_⟩,h6⟩
  ·have:(taken.any fun p=>Nat.beq p.1 i)=true:=any_beq.2 ⟨p,hp,e⟩
   rw [this]at h2;cases h2
  ·have:=List.all_eq_true.1 h3 e (Array.mem_toList_iff.2 he)
   rw [show zXP e=true from hb]at this;exact any_beq.1 (by simpa using this)
  ·have:=List.all_eq_true.1 h4 p hp
   split at this
   ·rename_i x hx;exact⟨x,by simpa using hx,this⟩
   ·cases this
  ·rw [hq,Bool.false_or]at h5
   have:=List.all_eq_true.1 h5 p hp;split at this
   ·rename_i o' ho'
    obtain⟨e,he,h7⟩:=List.any_eq_true.1 this;rw [Bool.and_eq_true]at h7;refine⟨o',by simpa using ho',e,Array.mem_toList_iff.1 he,h7.1,fun p' hp' e'=> ?_⟩;have h8:(taken.any fun p=>Nat.beq p.1 e.on)=true:=any_beq.2 ⟨p',hp',e'⟩;rw [h8]at h7;cases h7.2
   ·cases this
theorem zZB{ops:Array Oper}{dsts:Nat→Option Nat}(hd:∀j,dsts j=(ops[j]?).bind (·.dst))(o:Oper):looks dsts o=o.looksAt ops:=by
 unfold looks Oper.looksAt;congr 1;cases o.guard with
 |none=>rfl
 |some g=>simp only;rw [hd]
theorem jF{d:Option Nat}{l:List Nat}(h:zCy d l=true):∀t,d=some t→t∉l:=by
 rintro t rfl hm;simp [zCy,hm]at h
theorem zKx{a b:Option Nat}(h:zLk a b=false):∀t,a=some t→b≠some t:=by
 rintro t rfl rfl;simp [zLk]at h
theorem zEv{o:Oper}{j:Nat}(h:direct o j=true):∃e∈o.after,Region.binds .any e=true∧e.on=j:=by
 obtain⟨e,he,h1⟩:=List.any_eq_true.1 h;rw [Bool.and_eq_true]at h1;exact⟨e,Array.mem_toList_iff.1 he,h1.1,Nat.eq_of_beq_eq_true h1.2⟩
def zW8(C:wB T)(P:Program)(G:Nat→Option (List (V T)))(dsts:Nat→Option Nat)(o:Oper)(env:Env T)(H:List (zT T))(K:Env T→AV T→List Nat→Option R):Option R:=
 match o.guard with
 |none=>bif vR P env o then vV C P G o env H (fun x _ _ =>K env x (jB env o)) (fun _ _ =>none)else none
 |some (j,want)=>match dsts j with
  |some t=>match env t with
   | .v (.b b)=>
    bif b then bif want then(bif vR P (kT env t (.v (.b true))) o then vV C P G o (kT env t (.v (.b true))) H (fun x _ _ =>K (kT env t (.v (.b true))) x (jB (kT env t (.v (.b true))) o)) (fun _ _ =>none)else none)else K (kT env t (.v (.b true))) (.qu []) []
    else bif want then K (kT env t (.v (.b false))) (.qu []) []else(bif vR P (kT env t (.v (.b false))) o then vV C P G o (kT env t (.v (.b false))) H (fun x _ _ =>K (kT env t (.v (.b false))) x (jB (kT env t (.v (.b false))) o)) (fun _ _ =>none)else none)
   | .qu []=>K env (.qu []) []
   |_ =>none
  |none=>none
abbrev zRm:=List (Nat×List Nat×List Nat)
def zFs(t:Option (List Nat))(D:List Nat):Bool:=match t with|some S=>D.all fun o=> !S.elem o|none=>jX D
def zcK(dst:Option Nat)(n:Nat)(env:Env T)(x:AV T)(S:List Nat)(K:Env T→Option R):Option R:=
 match dst with
 |some d=>bif Nat.blt d n then K (kT (zDw S env) d x)else none
 |none=>K (zDw S env)
def zXI(ops:List Oper)(env:Env T):Env T:=fun t=>bif ops.any (fun o=>match o.dst with|some d=>Nat.beq d t|none=>false)then .any else env t
def zS7(C:wB T)(P:Program)(G:Nat→Option (List (V T)))(Γ:qK T)(n:Nat)(ops:List Oper)(dsts:Nat→Option Nat):List (Nat×Bool)→zRm→Env T→List (zT T)→Ds T→KS T R→KP T R→Option R
 |[],_,env,H,ds,K,_ =>K env H ds
 |(i,q)::rest,pend,env,H,ds,K,Kp=>match ops[i]? with
  |none=>none
  |some o=>bif q then match o.dst with
    |some d=>bif Nat.blt d n then zW8 C P G dsts o env H fun env x D=>zS7 C P G Γ n ops dsts rest ((i,(bif zIG o then D else []),refs x++D)::pend) (kT env d x) H ds K Kp else none
    |none=>none
   else bif pend.all (fun p=>clo ops 40 o p.1||zFs (xu H env o) p.2.1)then
    zXz C P G Γ dsts o env H ds (fun env x H S ds=>bif jX S||pend.all (fun p=>clo ops 40 o p.1||(jX p.2.1&&jX p.2.2))then
     zcK o.dst n env x S fun env=>zS7 C P G Γ n ops dsts rest pend env H ds K Kp else none) (fun env=>Kp (zXI ops env))
   else none
def zFh(ops:Array Oper)(i:Nat):Option Nat:=(ops[i]?).bind (·.dst)
structure Agr(ops:Array Oper)(Pd:Nat→Prop)(a b:Act):Prop where
 size:b.tmps.size=a.tmps.size
 defers:b.defers=a.defers
 slot:∀t,(∀i,Pd i→zFh ops i≠some t)→b.tmps.getD t undef=a.tmps.getD t undef
theorem Agr.refl{ops:Array Oper}{Pd:Nat→Prop}{a:Act}:Agr ops Pd a a:=⟨rfl,rfl,fun _ _ =>rfl⟩
theorem zC7(a:Act)(d:Option Nat)(v:Value)(t:Nat):(a.put d v).tmps.getD t undef=if d=some t∧t<a.tmps.size then v else a.tmps.getD t undef:=by
 cases d with
 |none=>simp [Act.put]
 |some d=>
  by_cases h:d=t
  ·subst h
   by_cases hl:d<a.tmps.size
   ·simp [Act.put,hl]
   ·simp [Act.put,hl]
  ·simp [Act.put,Array.getElem?_setIfInBounds_ne h,h]
theorem zCe(a:Act)(d:Option Nat)(v:Value):(a.put d v).tmps.size=a.tmps.size:=by cases d<;>simp [Act.put]
theorem put_defers(a:Act)(d:Option Nat)(v:Value):(a.put d v).defers=a.defers:=by cases d<;>rfl
theorem Agr.put{ops:Array Oper}{Pd:Nat→Prop}{a b:Act}(h:Agr ops Pd a b)(d:Option Nat)(v:Value)(dd:List Deferred):Agr ops Pd ({a with defers:=dd}.put d v) ({b with defers:=dd}.put d v):=
 ⟨by rw [zCe,zCe];exact h.size,by rw [put_defers,put_defers],fun t ht=>by rw [zC7,zC7];simp only [h.size,h.slot t ht]⟩
theorem Agr.eval{ops:Array Oper}{Pd:Nat→Prop}{a b:Act}(h:Agr ops Pd a b){o:Oper}(hl:∀t∈o.looksAt ops,∀i,Pd i→zFh ops i≠some t):(∀x∈o.op.operands,b.eval x=a.eval x)∧Region.wanted o (yielded ops b.tmps)=Region.wanted o (yielded ops a.tmps):=by
 constructor
 ·intro x hx
  cases x with
  |tmp t=>exact h.slot t (hl t (List.mem_append_left _ (List.mem_filterMap.2 ⟨.tmp t,by simpa using hx,rfl⟩)))
  |_ =>rfl
 ·unfold Region.wanted
  cases hg:o.guard with
  |none=>rfl
  |some gw=>
   obtain⟨g,want⟩:=gw;have hy:yielded ops b.tmps g=yielded ops a.tmps g:=by
    unfold yielded;cases ht:(ops[g]?).bind (·.dst)with
    |none=>rfl
    |some t=>
     have hs:=h.slot t (hl t (by simp [Oper.looksAt,hg,ht]));have hz:=h.size;simp only [Option.bind_some];rcases Nat.lt_or_ge t a.tmps.size with hlt|hge
     ·have hlt':t<b.tmps.size:=by rw [hz];exact hlt
      rw [Array.getD_eq_getD_getElem?,Array.getD_eq_getD_getElem?,Array.getElem?_eq_getElem hlt,Array.getElem?_eq_getElem hlt']at hs;rw [Array.getElem?_eq_getElem hlt,Array.getElem?_eq_getElem hlt'];simp only [Option.getD_some]at hs;rw [hs]
     ·rw [Array.getElem?_eq_none hge,Array.getElem?_eq_none (by rw [hz];exact hge)]
   simp only [hy]
theorem zjs{ops:Array Oper}{Pd:Nat→Prop}{a b:Act}(h:Agr ops Pd a b){o:Oper}(hsel:∀cs b,o.op≠.select cs b)(hl:∀t∈o.looksAt ops,∀i,Pd i→zFh ops i≠some t)
  {next next':Act→World→Prop} {Q:Exit→Act→World→Prop} (hn:∀a' b' w',Agr ops Pd a' b'→next' a' w'→next b' w')
  (hw:o.wp P a w next' (fun e a' w'=>∀b',Agr ops Pd a' b'→Q e b' w')):o.wp P b w next Q:=by
 have he:execOp b.eval o=execOp a.eval o:=execOp_congr o hsel (h.eval hl).1;have hput:∀d v,Agr ops Pd (a.put d v) (b.put d v):=fun d v=>by
  have:=h.put d v a.defers;have e1:({a with defers:=a.defers}:Act)=a:=rfl;have e2:({b with defers:=a.defers}:Act)=b:=by rw [←h.defers]
  rwa [e1,e2]at this
 unfold Oper.wp at*;rw [he];generalize (execOp a.eval o).run P w=r at*;cases r with
 |ok n w'=>
  cases n<;>simp only [Oper.upon]at hw⊢
  case value u=>exact hn _ _ _ (hput _ _) hw
  case skip=>exact hn _ _ _ (hput _ _) hw
  case defer d=>exact hn _ _ _ (by rw [h.defers];exact h.put _ _ _) hw
  case enter f args=>
   refine Calls.mono hw fun e w'' he=> ?_
   cases e with
   |returned u=>exact hn _ _ _ (hput _ _) he
   |panicked c=>exact he _ h
   |outgrown=>obtain⟨a',w3,h3⟩:=he;exact⟨a',w3,h3 _ Agr.refl⟩
  case row row args=>exact Go.Rows.mono hw fun u w'' he=>hn _ _ _ (hput _ _) he
 |halt x w'=>
  cases x<;>simp only [Oper.upon]at hw⊢
  case panic u=>exact hw _ h
end Go.Proofs.YtdoifigogbdodaaGreatDoor.Ev

namespace Go.Proofs.YtdoifigogbdodaaGreatDoor.Ev
open Go
variable {T:Nat→Type} {C:wB T} {P:Program} {σ:Lk} {H H':List (zT T)} {w:World} {G:Nat→Option (List (V T))} {R:Type}
def gw(dsts:Nat→Option Nat)(o:Oper)(env:Env T)(b:Bool):Prop:=
 match o.guard with
 |none=>b=true
 |some (j,want)=>∃t,dsts j=some t∧((∃c,env t= .v (.b c)∧(c==want)=b)∨(env t= .qu []∧b=false))
theorem zV6{ops:Array Oper}{dsts:Nat→Option Nat}(hd:∀j,dsts j=(ops[j]?).bind (·.dst)){o:Oper}{env:Env T}{b:Bool}{a:Act}(h:gw dsts o env b)(he:zHf C σ H w env a):
  Region.wanted o (yielded ops a.tmps)=b:=by
 unfold gw at h;split at h
 ·rename_i hg;subst h;simp [Region.wanted,hg]
 ·rename_i j want hg
  obtain⟨t,h1,⟨c,h2,h3⟩|⟨h2,h3⟩⟩:=h
  ·have hv:=he t
   rw [h2]at hv;rw [zNd hg (zQe hd h1 (zEt hv)),h3]
  ·have hv:=he t
   rw [h2]at hv;rw [zDb hg (zBu hd h1 (zO7 hv)),h3]
structure QR(C:wB T)(P:Program)(G:Nat→Option (List (V T)))(dsts:Nat→Option Nat)(o:Oper)(env:Env T)(H:List (zT T))(x:AV T)(D:List Nat):Prop where
 run:(gw dsts o env true∧jB env o=D∧vR P env o=true∧vV C P G o env H qO (fun _ _ =>none)=some (x,H,[]))∨(gw dsts o env false∧x= .qu []∧D=[])
theorem zQu{dsts:Nat→Option Nat}{o:Oper}{j t:Nat}{want:Bool}(hg:o.guard=some (j,want))(ht:dsts j=some t):t∈looks dsts o:=by
 simp [looks,hg,ht]
theorem zU6{dsts:Nat→Option Nat}{o:Oper}{t:Nat}(h:Operand.tmp t∈o.op.operands):t∈looks dsts o:=
 List.mem_append_left _ (List.mem_filterMap.2 ⟨.tmp t,by simpa using h,rfl⟩)
theorem zYd{dsts:Nat→Option Nat}{o:Oper}{env env':Env T}{b:Bool}(h:∀t,t∈looks dsts o→refs (env t)=[]→env' t=env t)(hg:gw dsts o env b):gw dsts o env' b:=by
 unfold gw at*;split at hg
 ·exact hg
 ·rename_i j want hj
  obtain⟨t,h1,⟨c,h2,h3⟩|⟨h2,h3⟩⟩:=hg
  ·exact⟨t,h1,.inl ⟨c,(h t (zQu hj h1) (by rw [h2];rfl)).trans h2,h3⟩⟩
  ·exact⟨t,h1,.inr ⟨(h t (zQu hj h1) (by rw [h2];rfl)).trans h2,h3⟩⟩
theorem zYb{o:Oper}{env env':Env T}(h:∀x∈o.op.operands,w8 env x=w8 env' x):jB env o=jB env' o:=by
 unfold jB;rw [List.flatMap_def,List.flatMap_def];congr 1;exact List.map_congr_left fun x hx=>by rw [h x (Array.mem_toList_iff.1 hx)]
theorem QR.congr{dsts:Nat→Option Nat}{o:Oper}{env env':Env T}{x:AV T}{D:List Nat}(h:QR C P G dsts o env H x D)
  (h1:∀t,t∈looks dsts o→refs (env t)=[]→env' t=env t) (h2:jB env o=D→∀x∈o.op.operands,w8 env x=w8 env' x):QR C P G dsts o env' H x D:=by
 rcases h.run with⟨k1,k2,k3,k4⟩|⟨k1,k2,k3⟩
 ·have h2:=h2 k2
  exact⟨.inl ⟨zYd h1 k1,(zYb h2).symm.trans k2,by rw [←zWF h2];exact k3,by rw [←zaB h2];exact k4⟩⟩
 ·exact⟨.inr ⟨zYd h1 k1,k2,k3⟩⟩
theorem QR.heap{dsts:Nat→Option Nat}{o:Oper}{env:Env T}{x:AV T}{D:List Nat}(h:QR C P G dsts o env H x D)(hs:zIG o=true→zF6 D H H'):QR C P G dsts o env H' x D:=by
 rcases h.run with⟨k1,k2,k3,k4⟩|h
 ·refine⟨.inl ⟨k1,k2,k3, ?_⟩⟩
  rw [zdk k3 (fun hb=>by rw [k2];exact hs hb),k4];rfl
 ·exact⟨.inr h⟩
theorem QR.kT{dsts:Nat→Option Nat}{o:Oper}{env:Env T}{x y:AV T}{D:List Nat}{u:Nat}(h:QR C P G dsts o env H x D)(hu:u∉looks dsts o):QR C P G dsts o (Ev.kT env u y) H x D:=by
 have hne:∀t,t∈looks dsts o→Ev.kT env u y t=env t:=fun t ht=>by
  unfold Ev.kT;cases hb:Nat.beq t u
  ·rfl
  ·have:=Nat.eq_of_beq_eq_true hb
   subst this;exact(hu ht).elim
 refine h.congr (fun t ht _ =>hne t ht) fun _ x hx=> ?_
 cases x with
 |tmp t=>exact(hne t (zU6 hx)).symm
 |_ =>rfl
mutual
theorem zDB(S:List Nat):∀(x:AV T),refs x=[]→zH3 S x=x
 | .any,_ | .v _,_ | .wU _ _ _,_ | .vA _ _,_ | .qG,_ | .z0,_ =>rfl
 | .agg l,h=>congrArg AV.agg (kG S l h)
 | .qu l,h=>congrArg AV.qu (kG S l h)
 | .ptr o off,h| .wu o i off,h| .own o,h| .sp o,h| .yB o a b c,h=>by cases h
 | .fn f a b,h=>by
  have h':=List.append_eq_nil_iff.1 (show qH a++qH b=[]from h)
  show AV.fn f (jQ S a) (jQ S b)=_;rw [kG S a h'.1,kG S b h'.2]
 | .q9 t x,h=>congrArg (AV.q9 t) (zDB S x h)
theorem kG(S:List Nat):∀(l:List (AV T)),qH l=[]→jQ S l=l
 |[],_ =>rfl
 |x::l,h=>by
  have h':=List.append_eq_nil_iff.1 (show refs x++qH l=[]from h)
  show zH3 S x::jQ S l=_;rw [zDB S x h'.1,kG S l h'.2]
end
theorem zPi{S:List Nat}{env:Env T}{t:Nat}(h:refs (env t)=[]):zDw S env t=env t:=by
 cases S with
 |nil=>rfl
 |cons a l=>exact zDB _ _ h
theorem QR.zH3{dsts:Nat→Option Nat}{o:Oper}{env:Env T}{x:AV T}{D S:List Nat}(h:QR C P G dsts o env H x D)(hs:S=[]∨D=[]):QR C P G dsts o (zDw S env) H x D:=by
 rcases hs with rfl|rfl
 ·exact h
 ·refine h.congr (fun t ht hb=>zPi hb) fun hD x hx=> ?_
  cases x with
  |tmp t=>
   refine(zPi (S:=S) (env:=env) ?_).symm;refine List.eq_nil_iff_forall_not_mem.2 fun i hi=> ?_
   have:i∈jB env o:=List.mem_flatMap.2 ⟨.tmp t,Array.mem_toList_iff.2 hx,hi⟩;rw [hD]at this;cases this
  |_ =>rfl
mutual
theorem zJY{n:Nat}:∀(x:AV T),below n x=true→∀o∈refs x,o<n
 | .any,_,o,h| .v _,_,o,h| .wU _ _ _,_,o,h| .vA _ _,_,o,h| .qG,_,o,h| .z0,_,o,h=>by cases h
 | .agg l,hb,o,h=>uh l hb o h
 | .qu l,hb,o,h=>uh l hb o h
 | .ptr p off,hb,o,h| .wu p i off,hb,o,h| .own p,hb,o,h| .sp p,hb,o,h| .yB p a b c,hb,o,h=>by
  have:o=p:=by simpa [refs] using h
  subst this;exact Nat.le_of_ble_eq_true hb
 | .fn f a b,hb,o,h=>by
  have h':(xE n a&&xE n b)=true:=hb;rw [Bool.and_eq_true]at h';rcases List.mem_append.1 (show o∈qH a++qH b from h)with h|h
  ·exact uh a h'.1 o h
  ·exact uh b h'.2 o h
 | .q9 t x,hb,o,h=>zJY x hb o h
theorem uh{n:Nat}:∀(l:List (AV T)),xE n l=true→∀o∈qH l,o<n
 |[],_,o,h=>by cases h
 |x::l,hb,o,h=>by
  have h':(below n x&&xE n l)=true:=hb;rw [Bool.and_eq_true]at h';rcases List.mem_append.1 (show o∈refs x++qH l from h)with h|h
  ·exact zJY x h'.1 o h
  ·exact uh l h'.2 o h
end
theorem QR.lt{dsts:Nat→Option Nat}{o:Oper}{env:Env T}{x:AV T}{D:List Nat}(h:QR C P G dsts o env H x D){a:Act}(he:zHf C σ H w env a):∀i∈D,i<H.length:=by
 rcases h.run with⟨_,k2,_⟩|⟨_,_,k3⟩
 ·subst k2
  intro i hi;obtain⟨y,hy,hi'⟩:=List.mem_flatMap.1 hi;exact zJY _ (zD1 _ _ (z7 he y)) i hi'
 ·subst k3;intro i hi;cases hi
theorem zVY(hC:yj C){dsts:Nat→Option Nat}{ops:Array Oper}(hd:∀j,dsts j=(ops[j]?).bind (·.dst)){o:Oper}{env:Env T}{a:Act}(hR:Rp C σ H w G)(he:zHf C σ H w env a){K:Env T→AV T→List Nat→Option R}{r:R}
  (h:zW8 C P G dsts o env H K=some r):∃x D v,K env x D=some r∧QR C P G dsts o env H x D∧zr C σ H w x v:=by
 have run:gw dsts o env true→(bif vR P env o then vV C P G o env H (fun x _ _ =>K env x (jB env o)) (fun _ _ =>none)else none)=some r→∃x D v,K env x D=some r∧QR C P G dsts o env H x D∧zr C σ H w x v:=by
  intro hg h;cases hq:vR P env o
  ·rw [hq]at h;cases h
  ·rw [hq,cond_true]at h
   obtain⟨z,h1,h2⟩:=zYy hq h;obtain⟨x,v,h3,h4,h5⟩:=zc6 hC hR he h1 hq;cases h3;exact⟨x,_,v,h2,⟨.inl ⟨hg,rfl,hq,h1⟩⟩,h5⟩
 have skip:gw dsts o env false→K env (.qu []) []=some r→∃x D v,K env x D=some r∧QR C P G dsts o env H x D∧zr C σ H w x v:=
  fun hg h=>⟨.qu [],[],undef,h,⟨.inr ⟨hg,rfl,rfl⟩⟩,zFt⟩
 unfold zW8 at h;split at h
 ·rename_i hg
  exact run (by unfold gw;rw [hg]) h
 ·rename_i j want hg
  split at h
  ·rename_i t ht
   split at h
   ·rename_i b hb
    have hgw:gw dsts o env (b==want):=by unfold gw;rw [hg];exact⟨t,ht,.inl ⟨b,hb,rfl⟩⟩
    cases b<;>cases want<;>simp only [cond_true,cond_false,zTf hb]at h
    ·exact run hgw h
    ·exact skip hgw h
    ·exact skip hgw h
    ·exact run hgw h
   ·rename_i hb
    exact skip (by unfold gw;rw [hg];exact⟨t,ht,.inr ⟨hb,rfl⟩⟩) h
   ·cases h
  ·cases h
theorem QR.exec(hC:yj C){dsts:Nat→Option Nat}{ops:Array Oper}(hd:∀j,dsts j=(ops[j]?).bind (·.dst)){o:Oper}{env:Env T}{a:Act}(hR:Rp C σ H w G)(he:zHf C σ H w env a){x:AV T}{D:List Nat}
  (h:QR C P G dsts o env H x D):(Region.wanted o (yielded ops a.tmps)=true∧∃v,(execOp a.eval o).run P w= .ok (.value v) w∧zr C σ H w x v)∨(Region.wanted o (yielded ops a.tmps)=false∧zr C σ H w x undef):=by
 rcases h.run with⟨k1,k2,k3,k4⟩|⟨k1,k2,k3⟩
 ·obtain⟨y,v,h3,h4,h5⟩:=zc6 hC hR he k4 k3
  cases h3;exact .inl ⟨zV6 hd k1 he,v,h4,h5⟩
 ·subst k2;exact .inr ⟨zV6 hd k1 he,zFt⟩
end Go.Proofs.YtdoifigogbdodaaGreatDoor.Ev

namespace Go.Proofs.YtdoifigogbdodaaGreatDoor.Ev
open Go
variable {T:Nat→Type} {C:wB T} {P:Program} {σ:Lk} {H H':List (zT T)} {w:World} {G:Nat→Option (List (V T))} {R:Type}
def zao(ops:Array Oper)(dsts:Nat→Option Nat)(later earlier:Nat×Bool):Prop:=
 earlier.1≠later.1∧∃x y,ops[earlier.1]? =some x∧ops[later.1]? =some y∧zEe dsts x y earlier.1 later.2=true
def zS0(ops:Array Oper):List (Nat×Bool)→Prop
 |[]=>True
 |p::rest=>(∃o,ops[p.1]? =some o∧(∀cs b,o.op≠.select cs b)∧∀e∈o.after,Region.binds .any e=true→∃q∈rest,q.1=e.on)∧zS0 ops rest
theorem zS0.get{ops:Array Oper}:∀{l:List (Nat×Bool)},zS0 ops l→∀p∈l,∃o,ops[p.1]? =some o∧(∀cs b,o.op≠.select cs b)∧∀e∈o.after,Region.binds .any e=true→∃q∈l,q.1=e.on
 |[],_,p,hp=>by cases hp
 |a::l,⟨⟨o,h1,h2,h3⟩,ht⟩,p,hp=>by
  rcases List.mem_cons.1 hp with rfl|hp
  ·exact⟨o,h1,h2,fun e he hb=>by obtain⟨q,hq,e'⟩:=h3 e he hb;exact⟨q,List.mem_cons_of_mem _ hq,e'⟩⟩
  ·obtain⟨o',k1,k2,k3⟩:=zS0.get ht p hp
   exact⟨o',k1,k2,fun e he hb=>by obtain⟨q,hq,e'⟩:=k3 e he hb;exact⟨q,List.mem_cons_of_mem _ hq,e'⟩⟩
theorem zS0.first{ops:Array Oper}{Pd:List Nat}:∀{l:List (Nat×Bool)},zS0 ops l→(∃p∈l,p.1∈Pd)→∃p∈l,p.1∈Pd∧∃o,ops[p.1]? =some o∧∀e∈o.after,Region.binds .any e=true→e.on∉Pd∧∃q∈l,q.1=e.on
 |[],_,⟨p,hp,_⟩=>by cases hp
 |a::l,⟨⟨o,h1,h2,h3⟩,ht⟩,⟨p,hp,hpd⟩=>by
  by_cases hl:∃p∈l,p.1∈Pd
  ·obtain⟨q,hq,k1,o',k2,k3⟩:=zS0.first ht hl
   exact⟨q,List.mem_cons_of_mem _ hq,k1,o',k2,fun e he hb=>by
    obtain⟨q1,q2,q3,q4⟩:=k3 e he hb;exact⟨q1,q2,List.mem_cons_of_mem _ q3,q4⟩⟩
  ·rcases List.mem_cons.1 hp with rfl|hp
   ·exact⟨p,by simp,hpd,o,h1,fun e he hb=>by
     obtain⟨q,hq,e'⟩:=h3 e he hb;exact⟨fun hm=>hl ⟨q,hq,e'▸hm⟩,q,List.mem_cons_of_mem _ hq,e'⟩⟩
   ·exact(hl ⟨p,hp,hpd⟩).elim
structure DI(C:wB T)(P:Program)(G:Nat→Option (List (V T)))(n:Nat)(B:jS T)(ops:Array Oper)(dsts:Nat→Option Nat)(σ:Lk)(as:Act)(taken:List (Nat×Bool))(pend:zRm)(Pd:List Nat)(listed:Array Bool)
  (env:Env T) (H:List (zT T)) (ds:Ds T) (a:Act) (w:World):Prop where
 st:St C G n B σ env H ds as w
 agr:Agr ops (· ∈Pd) as a
 pd:∀i∈Pd,(i,true)∈taken∧∃o d D,ops[i]? =some o∧o.dst=some d∧d<n∧(i,(bif zIG o then D else []),refs (env d)++D)∈pend∧QR C P G dsts o env H (env d) D∧zCy o.dst (looks dsts o)=true
 nd:Pd.Nodup
 sz:listed.size=ops.size
 li:∀i,i<ops.size→(listed.getD i true=true↔(∃p∈taken,p.1=i)∧i∉Pd)
 cl:∀i o,ops[i]? =some o→listed.getD i false=true→∀e∈o.after,Region.binds .any e=true→listed.getD e.on false=true
 pw:taken.Pairwise (zao ops dsts)
 tp:zS0 ops taken
theorem zSc{l:Array Bool}{i:Nat}(h:i<l.size):l.getD i true=l.getD i false:=by
 simp [h]
section
variable {n:Nat} {B:jS T} {ops:Array Oper} {dsts:Nat→Option Nat} {as:Act} {taken:List (Nat×Bool)} {pend:zRm} {Pd:List Nat} {listed:Array Bool} {env:Env T} {ds:Ds T} {a:Act}
theorem yT{i:Nat}{o:Oper}(h:ops[i]? =some o):i<ops.size:=(Array.getElem?_eq_some_iff.1 h).1
theorem zQb{α:Type}{r:α→α→Prop}:∀{l:List α},l.Pairwise r→∀x∈l,∀y∈l,x≠y→r x y∨r y x
 |[],_,x,hx,_,_,_ =>by cases hx
 |a::l,h,x,hx,y,hy,hne=>by
  rw [List.pairwise_cons]at h;rcases List.mem_cons.1 hx with h1|h1<;>rcases List.mem_cons.1 hy with h2|h2
  ·exact(hne (h1.trans h2.symm)).elim
  ·subst h1;exact .inl (h.1 y h2)
  ·subst h2;exact .inr (h.1 x h1)
  ·exact zQb h.2 x h1 y h2 hne
theorem zaO{a b:Option Nat}(h:zLk a b=false):zLk b a=false:=by
 cases a<;>cases b<;>simp only [zLk]at* <;>first|rfl|skip
 rename_i x y;cases hb:Nat.beq y x
 ·rfl
 ·rw [Nat.eq_of_beq_eq_true hb]at h;simp at h
theorem DI.apart(hd:∀j,dsts j=(ops[j]?).bind (·.dst))(hI:DI C P G n B ops dsts σ as taken pend Pd listed env H ds a w){i j:Nat}{oi oj:Oper}(hi:ops[i]? =some oi)(hj:j∈Pd)(hoj:ops[j]? =some oj)
  (hq:(i,true)∈taken) (hne:j≠i) (hr:∀e∈oi.after,Region.binds .any e=true→listed.getD e.on false=true):
  zCy oj.dst (looks dsts oi)=true∧zLk oj.dst oi.dst=false:=by
 have hnd:direct oi j=false:=by
  cases hdir:direct oi j
  ·rfl
  ·obtain⟨e,he,hb,hon⟩:=zEv hdir
   have h1:=hr e he hb;rw [hon,←zSc (by rw [hI.sz];exact yT hoj)]at h1;exact((hI.li j (yT hoj)).1 h1).2 hj|>.elim
 rcases zQb hI.pw (j,true) (hI.pd j hj).1 (i,true) hq (fun e=>hne (congrArg (·.1) e))with⟨_,x,y,h1,h2,h3⟩|⟨_,x,y,h1,h2,h3⟩
 ·simp only at h1 h2 h3
  rw [hi]at h1;cases h1;rw [hoj]at h2;cases h2;simp only [zEe,Bool.and_eq_true,Bool.not_true,Bool.false_or,Bool.not_eq_true']at h3;refine⟨h3.2.1, ?_⟩;exact zaO h3.2.2
 ·simp only at h1 h2 h3
  rw [hoj]at h1;cases h1;rw [hi]at h2;cases h2;simp only [zEe,hnd,Bool.false_or,Bool.and_eq_true,Bool.not_eq_true']at h3;exact⟨h3.1.1.1,h3.1.2⟩
theorem DI.exec(hC:yj C)(hd:∀j,dsts j=(ops[j]?).bind (·.dst))(hI:DI C P G n B ops dsts σ as taken pend Pd listed env H ds a w){i:Nat}{o:Oper}(hi:ops[i]? =some o)(hp:i∈Pd)
  (hr:∀e∈o.after,Region.binds .any e=true→listed.getD e.on false=true) {Q:Exit→Act→World→Prop} {K:Act→World→Prop}
  (hK:∀as' a',DI C P G n B ops dsts σ as' taken pend (Pd.erase i) (listed.setIfInBounds i true) env H ds a' w→K a' w):wpOp P ops Q i K a w:=by
 obtain⟨hti,o',d,D,h1,h2,h3,h4,h5,h6⟩:=hI.pd i hp;rw [hi]at h1;cases h1;have hapart:∀t∈o.looksAt ops,∀j,j∈Pd→zFh ops j≠some t:=by
  intro t ht j hj hdj;obtain⟨_,oj,dj,Dj,k1,k2,k3,k4,k5,k6⟩:=hI.pd j hj;have hdj':oj.dst=some t:=by simpa [zFh,k1] using hdj
  rw [←zZB hd]at ht;by_cases hji:j=i
  ·subst hji
   rw [hi]at k1;cases k1;exact jF h6 t hdj' ht
  ·exact jF (hI.apart hd hi hj k1 hti hji hr).1 t hdj' ht
 obtain⟨he,hwt⟩:=hI.agr.eval hapart;obtain⟨o2,k1,hsel,_⟩:=hI.tp.get _ hti;rw [hi]at k1;cases k1;have hexec:execOp a.eval o=execOp as.eval o:=execOp_congr o hsel he;have w9:i<ops.size:=yT hi;have hun:listed.getD i true=false:=by
  cases hl:listed.getD i true
  ·rfl
  ·exact(((hI.li i w9).1 hl).2 hp).elim
 have fin:∀v,zr C σ H w (env d) v→K (a.put o.dst v) w:=by
  intro v hv;rw [h2];have hst:=hI.st.put h3 hv;rw [zTf rfl]at hst;refine hK (as.put (some d) v) (a.put (some d) v) ⟨hst,⟨by rw [zCe,zCe];exact hI.agr.size,by rw [put_defers,put_defers];exact hI.agr.defers,fun t ht=> ?_⟩,fun j hj=>hI.pd j (List.mem_of_mem_erase hj),hI.nd.erase i,by simp [hI.sz],fun k hk=> ?_,fun k ok hok hlk e he hb=> ?_,hI.pw,hI.tp⟩
  ·rw [zC7,zC7,hI.agr.size]
   split
   ·rfl
   ·rename_i hne
    by_cases htd:d=t
    ·
     have hge:¬t<as.tmps.size:=fun h=>hne ⟨by rw [htd],h⟩
     have hge':¬t<a.tmps.size:=by rw [hI.agr.size];exact hge
     rw [Array.getD_eq_getD_getElem?,Array.getD_eq_getD_getElem?,Array.getElem?_eq_none (by omega),Array.getElem?_eq_none (by omega)]
    ·refine hI.agr.slot t fun j hj=> ?_
     by_cases hji:j=i
     ·subst hji
      simp only [zFh,hi,Option.bind_some,h2];intro e;exact htd (Option.some.inj e)
     ·exact ht j ((List.mem_erase_of_ne hji).2 hj)
  ·by_cases hki:i=k
   ·subst hki
    have:(listed.setIfInBounds i true).getD i true=true:=by simp
    refine⟨fun _ =>⟨⟨_,hti,rfl⟩,hI.nd.not_mem_erase⟩,fun _ =>this⟩
   ·rw [getD_set_ne true hki,hI.li k hk]
    have hki':k≠i:=fun e=>hki e.symm
    rw [List.mem_erase_of_ne hki']
  ·by_cases hki:i=k
   ·subst hki
    rw [hi]at hok;cases hok;exact getD_set_true (hr e he hb)
   ·rw [getD_set_ne false hki]at hlk
    exact getD_set_true (hI.cl k ok hok hlk e he hb)
 unfold wpOp;simp only [hi];rcases h5.exec hC hd hI.st.rp hI.st.env with⟨hw,v,hv1,hv2⟩|⟨hw,hv⟩
 ·rw [hwt,hw,if_pos rfl]
  refine .inl ?_;unfold Oper.wp;rw [hexec,hv1];exact fin v hv2
 ·rw [hwt,hw,if_neg (by simp)]
  exact fin undef hv
end
end Go.Proofs.YtdoifigogbdodaaGreatDoor.Ev

namespace Go.Proofs.YtdoifigogbdodaaGreatDoor.Ev
open Go
variable {T:Nat→Type} {C:wB T} {P:Program} {σ:Lk} {H H':List (zT T)} {w:World} {G:Nat→Option (List (V T))} {R:Type}
variable {n:Nat} {B:jS T} {ops:Array Oper} {dsts:Nat→Option Nat} {as:Act} {taken:List (Nat×Bool)} {pend:zRm} {Pd:List Nat} {listed:Array Bool} {env:Env T} {ds:Ds T} {a:Act}
theorem zZr(hcl:∀i o,ops[i]? =some o→listed.getD i false=true→∀e∈o.after,Region.binds .any e=true→listed.getD e.on false=true):
  ∀(k:Nat) (o:Oper) (j:Nat),(∀e∈o.after,Region.binds .any e=true→listed.getD e.on false=true)→clo ops.toList k o j=true→listed.getD j false=true:=by
 have dir:∀(o:Oper) (j:Nat),(∀e∈o.after,Region.binds .any e=true→listed.getD e.on false=true)→direct o j=true→listed.getD j false=true:=by
  intro o j h hd;obtain⟨e,he,hb,rfl⟩:=zEv hd;exact h e he hb
 intro k
 induction k with
 |zero=>exact fun o j h hd=>dir o j h hd
 |succ k ih=>
  intro o j h hd;unfold clo at hd;rw [Bool.or_eq_true]at hd;rcases hd with hd|hd
  ·exact dir o j h hd
  ·obtain⟨e,he,h1⟩:=List.any_eq_true.1 hd
   rw [Bool.and_eq_true]at h1;obtain⟨h2,h3⟩:=h1;have hl:=h e (Array.mem_toList_iff.1 he) h2;split at h3
   ·rename_i o' ho'
    exact ih o' j (hcl e.on o' (by simpa using ho') hl) h3
   ·cases h3
theorem zFA{α:Type}{l:List α}(h:jX l=true):l=[]:=by cases l with|nil=>rfl|cons=>cases h
structure Nx(C:wB T)(P:Program)(G:Nat→Option (List (V T)))(n:Nat)(B:jS T)(ops:Array Oper)(dsts:Nat→Option Nat)(pend:zRm)(Pd:List Nat)(σ:Lk)(env:Env T)(H:List (zT T))(ds:Ds T)(as:Act)(w:World):Prop where
 st:St C G n B σ env H ds as w
 pd:∀i∈Pd,∃o d D,ops[i]? =some o∧o.dst=some d∧d<n∧(i,(bif zIG o then D else []),refs (env d)++D)∈pend∧QR C P G dsts o env H (env d) D∧zCy o.dst (looks dsts o)=true
theorem DI.effect(hC:yj C){Γ:qK T}(hΓ:ql P C G Γ)(hd:∀j,dsts j=(ops[j]?).bind (·.dst))(hI:DI C P G n B ops dsts σ as taken pend Pd listed env H ds a w)
  {i:Nat} {o:Oper} {rest:List (Nat×Bool)} (hck:ziY ops dsts taken i false rest o) (hr:∀e∈o.after,Region.binds .any e=true→listed.getD e.on false=true)
  {K:Env T→List (zT T)→Ds T→Option R} {Kp:KP T R} {r:R}
  (h1:pend.all (fun p=>clo ops.toList 40 o p.1||zFs (xu H env o) p.2.1)=true)
  (h:zXz C P G Γ dsts o env H ds (fun env x H S ds=>bif jX S||pend.all (fun p=>clo ops.toList 40 o p.1||(jX p.2.1&&jX p.2.2))then zcK o.dst n env x S fun env=>K env H ds else none) (fun env=>Kp (zXI ops.toList env))=some r)
  {Q:Exit→Act→World→Prop} {nx:Act→World→Prop}
  (hK:∀σ' as' a' env' H' ds' w',K env' H' ds'=some r→Nx C P G n B ops dsts pend Pd σ' env' H' ds' as' w'→Agr ops (· ∈Pd) as' a'→nx a' w')
  (hP:∀σ' env' p H' ds' a' v w',Kp env' p H' ds'=some r→PSt C G n B σ' env' p H' ds' a' v w'→Q (.panic [{v,recovered:=false}]) a' w'):wpOp P ops Q i nx a w:=by
 have hpend:∀j∈Pd,∀oj D X,ops[j]? =some oj→(j,D,X)∈pend→(∀t∈looks dsts oj,o.dst≠some t)∧(∀t,oj.dst=some t→o.dst≠some t∧t∉looks dsts o)∧clo ops.toList 40 o j=false:=by
  intro j hj oj D X hoj hjp;have hnl:listed.getD j false=false:=by
   cases hl:listed.getD j false
   ·rfl
   ·rw [←zSc (by rw [hI.sz];exact yT hoj)]at hl
    exact(((hI.li j (yT hoj)).1 hl).2 hj).elim
  have hclo:clo ops.toList 40 o j=false:=by
   cases hc:clo ops.toList 40 o j
   ·rfl
   ·rw [zZr hI.cl 40 o j hr hc]at hnl;cases hnl
  have hnd:direct o j=false:=by
   cases hdir:direct o j
   ·rfl
   ·obtain⟨e,he,hb,hon⟩:=zEv hdir
    have h1:=hr e he hb;rw [hon,hnl]at h1;cases h1
  obtain⟨x,k1,k2⟩:=hck.pair (j,true) (hI.pd j hj).1;simp only at k1 k2;rw [hoj]at k1;cases k1;simp only [zEe,hnd,Bool.false_or,Bool.and_eq_true,Bool.not_eq_true',Bool.not_false,Bool.true_or,and_true]at k2;obtain⟨⟨k3,k4⟩,k5⟩:=k2;refine⟨fun t ht e=>jF k4 t e ht,fun t ht=>⟨zKx k5 t ht,jF k3 t ht⟩,hclo⟩
 have hl:∀t∈o.looksAt ops,∀j,j∈Pd→zFh ops j≠some t:=by
  intro t ht j hj hdj;obtain⟨_,oj,dj,D,k1,k2,k3,k4,_⟩:=hI.pd j hj;have hdj':oj.dst=some t:=by simpa [zFh,k1] using hdj
  rw [←zZB hd]at ht;exact((hpend j hj oj _ _ k1 k4).2.1 t hdj').2 ht
 obtain⟨he,hwt⟩:=hI.agr.eval hl;have step:∀{σ':Lk} {x:AV T} {v:Value} {H':List (zT T)} {S:List Nat} {ds':Ds T} {dd:List Deferred} {w':World},
   (bif jX S||pend.all (fun p=>clo ops.toList 40 o p.1||(jX p.2.1&&jX p.2.2))then zcK o.dst n env x S fun env=>K env H' ds' else none)=some r→
   (∀S0,xu H env o=some S0→wx S0 H H' S)→Step C G S σ H w σ' H' w'→zr C σ' H' w' x v→zCp C σ' H' w' ds' dd→
   ∃env',K env' H' ds'=some r∧Nx C P G n B ops dsts pend Pd σ' env' H' ds' ({as with defers:=dd}.put o.dst v) w':=by
  intro σ' x v H' S ds' dd w' hk hfr hs hx hds;cases hb:jX S||pend.all (fun p=>clo ops.toList 40 o p.1||(jX p.2.1&&jX p.2.2))
  ·rw [hb]at hk;cases hk
  ·rw [hb,cond_true]at hk
   have hst:St C G n B σ' (zDw S env) H' ds' {as with defers:=dd} w':=⟨hs.rp,hI.st.anc.trans hs.anc,hI.st.size,zXr hs.move hI.st.env,hds⟩
   have hpd:∀j∈Pd,∃oj d D,ops[j]? =some oj∧oj.dst=some d∧d<n∧(j,(bif zIG oj then D else []),refs (zDw S env d)++D)∈pend∧QR C P G dsts oj (zDw S env) H' (zDw S env d) D∧zCy oj.dst (looks dsts oj)=true∧o.dst≠some d∧∀t∈looks dsts oj,o.dst≠some t:=by
    intro j hj;obtain⟨_,oj,d,D,k1,k2,k3,k4,k5,k6⟩:=hI.pd j hj;obtain⟨q1,q2,q3⟩:=hpend j hj oj _ _ k1 k4;have hS:S=[]∨(D=[]∧refs (env d)=[]):=by
     rw [Bool.or_eq_true]at hb;rcases hb with hb|hb
     ·exact .inl (zFA hb)
     ·have:=List.all_eq_true.1 hb _ k4
      simp only [q3,Bool.false_or,Bool.and_eq_true]at this;have h2:=List.append_eq_nil_iff.1 (zFA this.2);exact .inr ⟨h2.2,h2.1⟩
    have hx:zDw S env d=env d:=by
     rcases hS with rfl|⟨_,h⟩
     ·rfl
     ·exact zPi h
    have hsame:zIG oj=true→zF6 D H H':=by
     intro hhb;have ht:=List.all_eq_true.1 h1 _ k4;simp only [q3,Bool.false_or,hhb,cond_true]at ht;rcases hS with rfl|⟨rfl,_⟩
     ·unfold zFs at ht
      split at ht
      ·rename_i S0 hS0
       have hf:=hfr S0 hS0 rfl;intro i hi;refine(hf.get i (k5.lt hI.st.env i hi) fun hm=> ?_).symm;have:=List.all_eq_true.1 ht i hi;simp [hm]at this
      ·rw [zFA ht];intro i hi;cases hi
     ·intro i hi;cases hi
    refine⟨oj,d,D,k1,k2,k3,by rw [hx];exact k4, ?_,k6,(q2 d k2).1,q1⟩;rw [hx];exact(k5.heap hsame).zH3 (hS.imp id (·.1))
   unfold zcK at hk;cases hdst:o.dst with
   |none=>
    rw [hdst]at hk;exact⟨_,hk,hst,fun j hj=>by
     obtain⟨oj,d,D,k1,k2,k3,k4,k5,k6,_⟩:=hpd j hj;exact⟨oj,d,D,k1,k2,k3,k4,k5,k6⟩⟩
   |some u=>
    rw [hdst]at hk;simp only at hk;cases hu:Nat.blt u n
    ·rw [hu]at hk;cases hk
    ·rw [hu,cond_true]at hk
     refine⟨_,hk,hst.put (Nat.le_of_ble_eq_true hu) hx,fun j hj=> ?_⟩;obtain⟨oj,d,D,k1,k2,k3,k4,k5,k6,k7,k8⟩:=hpd j hj;rw [hdst]at k7 k8;have hne:Ev.kT (zDw S env) u x d=zDw S env d:=by
      unfold Ev.kT;cases hb:Nat.beq d u
      ·rfl
      ·exact(k7 (by rw [Nat.eq_of_beq_eq_true hb])).elim
     refine⟨oj,d,D,k1,k2,k3,by rw [hne];exact k4, ?_,k6⟩;rw [hne];exact k5.kT fun hm=>k8 u hm rfl
 have panic:∀{σ':Lk} {env':Env T} {p:AV T} {H':List (zT T)} {ds':Ds T} {v:Value} {w':World},Kp (zXI ops.toList env') p H' ds'=some r→PSt C G n B σ' env' p H' ds' as v w'→∀b,Agr ops (· ∈Pd) as b→Q (.panic [{v,recovered:=false}]) b w':=by
  intro σ' env' p H' ds' v w' hk hp b hb;refine hP _ _ _ _ _ b _ _ hk ⟨⟨hp.1.rp,hp.1.anc,by rw [hb.size];exact hp.1.size,fun t=> ?_,by rw [hb.defers];exact hp.1.ds⟩,hp.2⟩;unfold zXI;cases hm:ops.toList.any (fun o=>match o.dst with|some d=>Nat.beq d t|none=>false)
  ·rw [hb.slot t fun i _ hi=> ?_]
   ·exact hp.1.env t
   ·unfold zFh at hi
    cases ho:ops[i]? with
    |none=>rw [ho]at hi;cases hi
    |some o=>
     rw [ho]at hi;have hi':o.dst=some t:=hi;have hmem:o∈ops.toList:=by
      have h1:ops.toList[i]? =some o:=by simpa using ho
      exact List.mem_of_getElem? h1
     have:=List.any_eq_false.1 hm o hmem;rw [hi']at this;simp at this
  ·trivial
 unfold wpOp;simp only [hck.at_];rcases zYk hI.st hd h with⟨hw,hx⟩|⟨hw,hx⟩
 ·rw [hwt,hw,if_pos rfl]
  refine .inl (zjs hI.agr hck.sel hl (next':=fun a' w'=>∃σ' env' H' ds',K env' H' ds'=some r∧Nx C P G n B ops dsts pend Pd σ' env' H' ds' a' w') ?_ ?_)
  ·rintro a' b' w' hag ⟨σ',env',H',ds',k1,k2⟩
   exact hK σ' a' b' env' H' ds' w' k1 k2 hag
  ·
   cases ht:xu H env o with
   |none=>
    refine zaw hC hΓ hI.st hx (fun σ' x v H' S ds' dd w' k1 k2 k3 k4=> ?_) (fun σ' env' p H' ds' v w' k1 k2=>panic k1 k2);obtain⟨env',q1,q2⟩:=step k1 (fun S0 h0=>by rw [ht]at h0;cases h0) k2 k3 k4;exact⟨σ',env',H',ds',q1,q2⟩
   |some S0=>
    classical
    have hx':=(zhW ht (K':=fun x H' S ds'=>if wx S0 H H' S then(bif jX S||pend.all (fun p=>clo ops.toList 40 o p.1||(jX p.2.1&&jX p.2.2))then zcK o.dst n env x S fun env=>K env H' ds' else none)else none)
     (fun x H' S ds' hf=>by rw [if_pos hf])).symm.trans hx
    refine zaw hC hΓ hI.st hx' (fun σ' x v H' S ds' dd w' k1 k2 k3 k4=> ?_) (fun σ' env' p H' ds' v w' k1 k2=>panic k1 k2);split at k1
    ·rename_i hf
     obtain⟨env',q1,q2⟩:=step k1 (fun S1 h1=>by rw [ht]at h1;cases h1;exact hf) k2 k3 k4;exact⟨σ',env',H',ds',q1,q2⟩
    ·cases k1
 ·rw [hwt,hw,if_neg (by simp)]
  obtain⟨env',q1,q2⟩:=step hx (fun S0 _ _ =>Fr.refl) (Step.refl hI.st.rp) (x:= .qu []) (v:=undef) zFt hI.st.ds;refine hK σ _ _ env' H ds w q1 q2 ?_;have:=hI.agr.put o.dst undef as.defers
  rwa [show({a with defers:=as.defers}:Act)=a from by rw [←hI.agr.defers]]at this
end Go.Proofs.YtdoifigogbdodaaGreatDoor.Ev

namespace Go.Proofs.YtdoifigogbdodaaGreatDoor.Ev
open Go
variable {T:Nat→Type} {C:wB T} {P:Program} {σ:Lk} {H H':List (zT T)} {w:World} {G:Nat→Option (List (V T))} {R:Type}
theorem zhp(hC:yj C){Γ:qK T}(hΓ:ql P C G Γ){n:Nat}{B:jS T}{ops:Array Oper}{dsts:Nat→Option Nat}(hd:∀j,dsts j=(ops[j]?).bind (·.dst)){K:KS T R}{Kp:KP T R}{r:R}{Q:Exit→Act→World→Prop}
  (hK:∀σ' env' H' ds' a' w',K env' H' ds'=some r→St C G n B σ' env' H' ds' a' w'→Q .normal a' w')
  (hP:∀σ' env' p H' ds' a' v w',Kp env' p H' ds'=some r→PSt C G n B σ' env' p H' ds' a' v w'→Q (.panic [{v,recovered:=false}]) a' w'):
  ∀(fuel:Nat) (todo taken:List (Nat×Bool)) (pend:zRm) (Pd:List Nat) (listed:Array Bool) (σ:Lk) (as:Act) (env:Env T) (H:List (zT T)) (ds:Ds T) (a:Act) (w:World),
   DI C P G n B ops dsts σ as taken pend Pd listed env H ds a w→chk ops.toList dsts taken todo=true→(∀i,i<ops.size→(∃p∈taken,p.1=i)∨∃p∈todo,p.1=i)→fuel=todo.length+Pd.length→
   zS7 C P G Γ n ops.toList dsts todo pend env H ds K Kp=some r→wpAny P .any ops Q fuel listed a w:=by
 have done:∀{taken:List (Nat×Bool)} {pend:zRm} {listed:Array Bool} {σ:Lk} {as:Act} {env:Env T} {H:List (zT T)} {ds:Ds T} {a:Act} {w:World},
   DI C P G n B ops dsts σ as taken pend [] listed env H ds a w→K env H ds=some r→Q .normal a w:=by
  intro taken pend listed σ as env H ds a w hI hk;refine hK σ env H ds a w hk ⟨hI.st.rp,hI.st.anc,by rw [hI.agr.size];exact hI.st.size,fun t=> ?_,by rw [hI.agr.defers];exact hI.st.ds⟩;rw [hI.agr.slot t (fun i hi=>by cases hi)];exact hI.st.env t
 have hlisted:∀{taken:List (Nat×Bool)} {pend:zRm} {Pd:List Nat} {listed:Array Bool} {σ:Lk} {as:Act} {env:Env T} {H:List (zT T)} {ds:Ds T} {a:Act} {w:World},
   DI C P G n B ops dsts σ as taken pend Pd listed env H ds a w→∀i,i<ops.size→listed.getD i false=listed.getD i true:=fun hI i hi=>(zSc (by rw [hI.sz];exact hi)).symm
 intro fuel
 induction fuel with
 |zero=>
  intro todo taken pend Pd listed σ as env H ds a w hI hck hall hf h;have h1:todo=[]:=List.length_eq_zero_iff.1 (by omega);have h2:Pd=[]:=List.length_eq_zero_iff.1 (by omega);subst h1;subst h2;refine⟨?_,done hI h⟩;refine List.eq_nil_iff_forall_not_mem.2 fun i hi=> ?_
  obtain⟨h0,o,ho,_⟩:=mem_ready.1 hi;have hlt:=yT ho;rcases hall i hlt with hp|⟨p,hp,_⟩
  ·rw [(hI.li i hlt).2 ⟨hp,by simp⟩]at h0;cases h0
  ·cases hp
 |succ f ihf=>
  intro todo
  induction todo with
  |nil=>
   intro taken pend Pd listed σ as env H ds a w hI hck hall hf h;refine⟨fun hr=> ?_,fun i hi=> ?_⟩
   ·
    have hPd:Pd=[]:=by
     refine Classical.byContradiction fun hne=> ?_
     ·obtain⟨j,hj⟩:=List.exists_mem_of_ne_nil Pd hne
      obtain⟨p,hp,h1,o,ho,h2⟩:=hI.tp.first ⟨(j,true),(hI.pd j hj).1,hj⟩
      have:p.1∈Region.ready .any ops listed:=by
       refine mem_ready.2 ⟨?_,o,ho,fun e he hb=> ?_⟩
       ·cases hl:listed.getD p.1 true
        ·rfl
        ·exact(((hI.li p.1 (yT ho)).1 hl).2 h1).elim
       ·obtain⟨h3,q,hq,h4⟩:=h2 e he hb
        obtain⟨oq,hoq,_⟩:=hI.tp.get q hq;rw [h4]at hoq;rw [hlisted hI _ (yT hoq)];exact(hI.li e.on (yT hoq)).2 ⟨⟨q,hq,h4⟩,h3⟩
      rw [hr]at this;cases this
    subst hPd;exact done hI h
   ·obtain⟨h0,o,ho,h1⟩:=mem_ready.1 hi
    have hlt:=yT ho;have hp:i∈Pd:=by
     rcases hall i hlt with hp|⟨p,hp,_⟩
     ·by_cases hm:i∈Pd
      ·exact hm
      ·rw [(hI.li i hlt).2 ⟨hp,hm⟩]at h0;cases h0
     ·cases hp
    refine hI.exec hC hd ho hp h1 fun as' a' hI'=>ihf [] taken pend _ _ σ as' env H ds a' w hI' hck hall ?_ h
    rw [List.length_erase_of_mem hp];have:=List.length_pos_of_mem hp;simp at hf⊢;omega
  |cons p rest ih=>
   intro taken pend Pd listed σ as env H ds a w hI hck hall hf h;obtain⟨i,q⟩:=p;obtain⟨⟨o,hc⟩,hck'⟩:=zNU hck;have hlt:=yT hc.at_;have hnot:¬∃p∈taken,p.1=i:=fun⟨p,hp,e⟩=>hc.new p hp e
   have hall':∀k,k<ops.size→(∃p∈(i,q)::taken,p.1=k)∨∃p∈rest,p.1=k:=by
    intro k hk;rcases hall k hk with⟨p,hp,e⟩|⟨p,hp,e⟩
    ·exact .inl ⟨p,List.mem_cons_of_mem _ hp,e⟩
    ·rcases List.mem_cons.1 hp with rfl|hp
     ·exact .inl ⟨_,by simp,e⟩
     ·exact .inr ⟨p,hp,e⟩
   have hpw:((i,q)::taken).Pairwise (zao ops dsts):=by
    rw [List.pairwise_cons];refine⟨fun p hp=>⟨hc.new p hp, ?_⟩,hI.pw⟩;obtain⟨x,h1,h2⟩:=hc.pair p hp;exact⟨x,o,h1,hc.at_,h2⟩
   have htp:zS0 ops ((i,q)::taken):=⟨⟨o,hc.at_,hc.sel,hc.zbL⟩,hI.tp⟩
   unfold zS7 at h;have hget:ops.toList[i]? =some o:=by simpa using hc.at_
   rw [hget]at h;simp only at h;cases q with
   |true=>
    rw [cond_true]at h;split at h
    ·rename_i d hdst
     cases hdn:Nat.blt d n
     ·rw [hdn]at h;cases h
     ·rw [hdn,cond_true]at h
      obtain⟨x,D,v,k1,k2,k3⟩:=zVY hC hd hI.st.rp hI.st.env h;have hlt':=Nat.le_of_ble_eq_true hdn;have hself:=hc.self rfl;rw [hdst]at hself;have hupd:Ev.kT env d x d=x:=by simp [Ev.kT]
      refine ih ((i,true)::taken) _ (i::Pd) listed σ (as.put (some d) v) _ H ds a w ⟨hI.st.put hlt' k3,⟨by rw [zCe];exact hI.agr.size,by rw [put_defers];exact hI.agr.defers,fun t ht=> ?_⟩,fun j hj=> ?_, ?_,hI.sz,fun k hk=> ?_,hI.cl,hpw,htp⟩ hck' hall' (by simp at hf⊢;omega) k1
      ·have h1:d≠t:=fun e=>ht i (by simp) (by simp [zFh,hc.at_,hdst,e])
       rw [zC7,if_neg (fun h=>h1 (Option.some.inj h.1))];exact hI.agr.slot t fun j hj=>ht j (List.mem_cons_of_mem _ hj)
      ·rcases List.mem_cons.1 hj with rfl|hj
       ·refine⟨by simp,o,d,D,hc.at_,hdst,hlt',by rw [hupd];simp, ?_,by rw [hdst];exact hself⟩
        rw [hupd];exact k2.kT (jF hself d rfl)
       ·obtain⟨h0,oj,dj,Dj,h1,h2,h3,h4,h5,h6⟩:=hI.pd j hj
        obtain⟨y,h7,h8⟩:=hc.pair _ h0;simp only at h7 h8;rw [h1]at h7;cases h7;simp only [zEe,Bool.and_eq_true,Bool.not_true,Bool.false_or,Bool.not_eq_true']at h8;have hne:Ev.kT env d x dj=env dj:=by
         unfold Ev.kT;cases hb:Nat.beq dj d
         ·rfl
         ·exact(zKx h8.2.2 dj h2 (by rw [hdst,Nat.eq_of_beq_eq_true hb])).elim
        refine⟨List.mem_cons_of_mem _ h0,oj,dj,Dj,h1,h2,h3,by rw [hne];exact List.mem_cons_of_mem _ h4, ?_,h6⟩;rw [hne];exact h5.kT (jF h8.2.1 d hdst)
      ·exact List.nodup_cons.2 ⟨fun hm=>hnot ⟨_,(hI.pd i hm).1,rfl⟩,hI.nd⟩
      ·rw [hI.li k hk]
       constructor
       ·rintro⟨⟨p,hp,e⟩,h2⟩
        refine⟨⟨p,List.mem_cons_of_mem _ hp,e⟩,fun hm=> ?_⟩;rcases List.mem_cons.1 hm with rfl|hm
        ·exact hnot ⟨p,hp,e⟩
        ·exact h2 hm
       ·rintro⟨⟨p,hp,e⟩,h2⟩
        rw [List.mem_cons,not_or]at h2;rcases List.mem_cons.1 hp with rfl|hp
        ·exact(h2.1 e.symm).elim
        ·exact⟨⟨p,hp,e⟩,h2.2⟩
    ·cases h
   |false=>
    rw [cond_false]at h;cases hb:pend.all (fun p=>clo ops.toList 40 o p.1||zFs (xu H env o) p.2.1)
    ·rw [hb]at h;cases h
    ·rw [hb,cond_true]at h
     refine⟨fun hr=> ?_,fun j hj=> ?_⟩
     ·
      exfalso;by_cases hPd:∃p∈taken,p.1∈Pd
      ·obtain⟨p,hp,h1,o',ho',h2⟩:=hI.tp.first hPd
       have:p.1∈Region.ready .any ops listed:=by
        refine mem_ready.2 ⟨?_,o',ho',fun e he hb=> ?_⟩
        ·cases hl:listed.getD p.1 true
         ·rfl
         ·exact(((hI.li p.1 (yT ho')).1 hl).2 h1).elim
        ·obtain⟨h3,q,hq,h4⟩:=h2 e he hb
         obtain⟨oq,hoq,_⟩:=hI.tp.get q hq;rw [h4]at hoq;rw [hlisted hI _ (yT hoq)];exact(hI.li e.on (yT hoq)).2 ⟨⟨q,hq,h4⟩,h3⟩
       rw [hr]at this;cases this
      ·have:i∈Region.ready .any ops listed:=by
        refine mem_ready.2 ⟨?_,o,hc.at_,fun e he hb=> ?_⟩
        ·cases hl:listed.getD i true
         ·rfl
         ·exact(hnot ((hI.li i hlt).1 hl).1).elim
        ·obtain⟨q,hq,h4⟩:=hc.zbL e he hb
         obtain⟨oq,hoq,_⟩:=hI.tp.get q hq;rw [h4]at hoq;rw [hlisted hI _ (yT hoq)];exact(hI.li e.on (yT hoq)).2 ⟨⟨q,hq,h4⟩,fun hm=>hPd ⟨q,hq,h4▸hm⟩⟩
       rw [hr]at this;cases this
     ·obtain⟨h0,oj,hoj,hre⟩:=mem_ready.1 hj
      have hjlt:=yT hoj;rcases hall j hjlt with hp|⟨p,hp,e⟩
      ·
       have hm:j∈Pd:=by
        by_cases hm:j∈Pd
        ·exact hm
        ·rw [(hI.li j hjlt).2 ⟨hp,hm⟩]at h0;cases h0
       refine hI.exec hC hd hoj hm hre fun as' a' hI'=>ihf ((i,false)::rest) taken pend _ _ σ as' env H ds a' w hI' hck hall ?_ ?_
       ·rw [List.length_erase_of_mem hm]
        have:=List.length_pos_of_mem hm;simp at hf⊢;omega
       ·unfold zS7
        rw [hget];simp only [cond_false];rw [hb,cond_true];exact h
      ·rcases List.mem_cons.1 hp with rfl|hp
       ·
        simp only at e;subst e;rw [hc.at_]at hoj;cases hoj;refine hI.effect hC hΓ hd hc hre (K:=fun env H ds=>zS7 C P G Γ n ops.toList dsts rest pend env H ds K Kp) hb h (fun σ' as' a' env' H' ds' w' k1 k2 hag=> ?_) hP;refine ihf rest ((i,false)::taken) pend Pd _ σ' as' env' H' ds' a' w' ⟨k2.st,hag,fun k hk=> ?_,hI.nd,by simp [hI.sz],fun k hk=> ?_,fun k ok hok hlk e he hb=> ?_,hpw,htp⟩ hck' hall' (by simp at hf⊢;omega) k1
        ·obtain⟨h1,_⟩:=hI.pd k hk
         exact⟨List.mem_cons_of_mem _ h1,k2.pd k hk⟩
        ·by_cases hki:i=k
         ·subst hki
          have h1:(listed.setIfInBounds i true).getD i true=true:=by simp
          exact⟨fun _ =>⟨⟨_,List.mem_cons_self ..,rfl⟩,fun hm=>hnot ⟨_,(hI.pd i hm).1,rfl⟩⟩,fun _ =>h1⟩
         ·rw [getD_set_ne true hki,hI.li k hk]
          constructor
          ·rintro⟨⟨p,hp,e⟩,h2⟩
           exact⟨⟨p,List.mem_cons_of_mem _ hp,e⟩,h2⟩
          ·rintro⟨⟨p,hp,e⟩,h2⟩
           rcases List.mem_cons.1 hp with rfl|hp
           ·exact(hki e).elim
           ·exact⟨⟨p,hp,e⟩,h2⟩
        ·by_cases hki:i=k
         ·subst hki
          rw [hc.at_]at hok;cases hok;exact getD_set_true (hre e he hb)
         ·rw [getD_set_ne false hki]at hlk
          exact getD_set_true (hI.cl k ok hok hlk e he hb)
       ·
        obtain⟨o',h1,e',he',hb',hn⟩:=hc.lone rfl p hp;rw [e,hoj]at h1;cases h1;have hl:=hre e' he' hb';have hlt2:e'.on<ops.size:=by
         rcases Nat.lt_or_ge e'.on ops.size with h|h
         ·exact h
         ·rw [Array.getD_eq_getD_getElem?,Array.getElem?_eq_none (by rw [hI.sz];exact h)]at hl;cases hl
        rw [hlisted hI _ hlt2]at hl;obtain⟨q,hq,h4⟩:=((hI.li _ hlt2).1 hl).1;exact(hn q hq h4).elim
theorem zbu{w':World}(hh:w'.heap=w.heap):(∀x y,zr C σ H w x y→zr C σ H w' x y)∧(Rp C σ H w G→Rp C σ H w' G):=by
 have hM:Move C [] σ H w σ H w':=by
  refine⟨fun b off x ⟨h1,h2⟩=>⟨h1,by unfold World.cell? at*;rw [hh];exact h2⟩,Nat.le_refl _,fun _ _ _ =>rfl,fun o _ _ n s h=>⟨h,fun b _ cs e fz hcs=>⟨cs,e,fz,by rw [hh];exact hcs,rfl⟩⟩⟩
 refine⟨fun x y h=>zr.gV hM h,fun hR=>⟨hR.inj,fun i o b h1 h2 h3=>by rw [hh];exact hR.lt i o b h1 h2 h3,fun i o hi=> ?_,fun g l hg=>(hR.zDJ g l hg).mono hM.cell,hR.free,fun b off hF=>by rw [hh];exact hR.fb b off hF⟩⟩;have:=dq.move hM rfl (fun b _ =>by rw [hh]) (hR.obj i o hi)
 rwa [vd]at this
theorem zYr{n:Nat}{B:jS T}{env:Env T}{ds:Ds T}{a:Act}(st:St C G n B σ env H ds a w):St C G n B σ env H ds a {w with drawn:=w.drawn+1}:=by
 obtain⟨h1,h2⟩:=zbu (C:=C) (σ:=σ) (H:=H) (w:=w) (w':={w with drawn:=w.drawn+1}) (G:=G) rfl;have hA:=st.anc;refine⟨h2 st.rp,⟨hA.F,hA.os,hA.tape,hA.output,hA.size,hA.len,hA.wP,hA.same,hA.block,hA.sig,hA.fresh,hA.kind⟩,st.size,fun t=>h1 _ _ (st.env t), ?_⟩;have hM:Move C [] σ H w σ H {w with drawn:=w.drawn+1}:=
  ⟨fun b off x h=>h,Nat.le_refl _,fun _ _ _ =>rfl,fun o _ _ n s h=>⟨h,fun b _ cs e fz hcs=>⟨cs,e,fz,hcs,rfl⟩⟩⟩
 have:=st.ds.move hM
 rwa [zQf]at this
def ziF(P:Program)(o:Oper):Bool:=
 match o.op with
 | .move _ | .pick _ _ _ | .build _ _ | .load _ _ | .nilCheck _ | .binOp _ _ _ _ _ | .unOp _ _ _ | .makeInterface _ _ | .makeFunc _ _ _
 | .fieldAddr _ _ _ | .field _ _ _ | .indexAddr _ _ _ | .index _ _ _ | .typeAssert _ _ _ _ | .extract _ _ | .assign _ =>true
 | .convert _ d _ => !zCz P d
 | .slice t _ _ _ _ => !zCz P t
 | .call {callee:= .builtin b,.. }=>match b with
  | .len| .min| .max=>true
  |_ =>false
 |_ =>false
def zXA(taken:List (Nat×Bool))(o:Oper):Bool:=o.after.toList.all fun e=> !zXP e||taken.any fun p=>Nat.beq p.1 e.on
def zfW(ops:List Oper)(dsts:Nat→Option Nat)(taken:List (Nat×Bool))(o:Oper):Bool:=
 (match o.dst with|some _ =>true|none=>false)&&zCy o.dst (looks dsts o)&&taken.all fun p=>match ops[p.1]? with|some x=>zCy o.dst (looks dsts x)&& !zLk x.dst o.dst|none=>false
def zd3(P:Program)(ops:List Oper)(dsts:Nat→Option Nat):Nat→List (Nat×Bool)→List (Nat×Oper)→List (Nat×Bool)
 |0,taken,_ =>taken.reverse
 |k+1,taken,todo=>
  match todo.find? fun p=>ziF P p.2&&zXA taken p.2&&zfW ops dsts taken p.2 with
  |some p=>zd3 P ops dsts k ((p.1,true)::taken) (todo.filter fun x=> !Nat.beq x.1 p.1)
  |none=>match todo.find? fun p=>zXA taken p.2 with
   |some p=>zd3 P ops dsts k ((p.1,false)::taken) (todo.filter fun x=> !Nat.beq x.1 p.1)
   |none=>taken.reverse
def zi6{α:Type}:Nat→List α→List (Nat×α)
 |_,[]=>[]
 |k,x::l=>(k,x)::zi6 (k+1) l
def zjO(P:Program)(ops:List Oper)(dsts:Nat→Option Nat):List (Nat×Bool):=zd3 P ops dsts ops.length [] (zi6 0 ops)
def zbV(plan:List (Nat×Bool)):Nat→Bool
 |0=>true
 |k+1=>(plan.any fun p=>Nat.beq p.1 k)&&zbV plan k
theorem zYo{plan:List (Nat×Bool)}:∀{k:Nat},zbV plan k=true→∀i,i<k→∃p∈plan,p.1=i
 |0,_,i,hi=>by omega
 |k+1,h,i,hi=>by
  unfold zbV at h;rw [Bool.and_eq_true]at h;by_cases hik:i=k
  ·subst hik;exact any_beq.1 h.1
  ·exact zYo h.2 i (by omega)
def zZs(ops:List Oper)(dsts:Nat→Option Nat)(plan:List (Nat×Bool)):Bool:=Nat.beq plan.length ops.length&&zbV plan ops.length&&chk ops dsts [] plan
def ze6(C:wB T)(P:Program)(G:Nat→Option (List (V T)))(Γ:qK T)(n:Nat)(ops:Array Oper)(env:Env T)(H:List (zT T))(ds:Ds T)(K:KS T R)(Kp:KP T R):Option R:=
 (fun(l:List Oper)=>(fun(dsts:Nat→Option Nat)=>(fun(plan:List (Nat×Bool))=>
  bif zZs l dsts plan then zS7 C P G Γ n l dsts plan [] env H ds K Kp else none) (zjO P l dsts)) (fun j=>(l[j]?).bind (·.dst))) ops.toList
theorem zef(hC:yj C){Γ:qK T}(hΓ:ql P C G Γ)(hm:P.follows .mixedOrders=true){n:Nat}{B:jS T}{id:Nat}{ops:Array Oper}{K:KS T R}{Kp:KP T R}{r:R}{Q:Exit→Act→World→Prop}{env:Env T}{ds:Ds T}{a:Act}
  (st:St C G n B σ env H ds a w) (h:ze6 C P G Γ n ops env H ds K Kp=some r)
  (hK:∀σ' env' H' ds' a' w',K env' H' ds'=some r→St C G n B σ' env' H' ds' a' w'→Q .normal a' w')
  (hP:∀σ' env' p H' ds' a' v w',Kp env' p H' ds'=some r→PSt C G n B σ' env' p H' ds' a' v w'→Q (.panic [{v,recovered:=false}]) a' w'):(Code.region id ops true).wp P Q a w:=by
 refine wp_region_any hm ?_;unfold ze6 at h;simp only at h;generalize zjO P ops.toList (fun j=>(ops.toList[j]?).bind (·.dst))=plan at h;cases hb:zZs ops.toList (fun j=>(ops.toList[j]?).bind (·.dst)) plan
 ·rw [hb]at h;cases h
 ·rw [hb,cond_true]at h
  unfold zZs at hb;simp only [Bool.and_eq_true]at hb;obtain⟨⟨h1,h2⟩,h3⟩:=hb;have hlen:plan.length=ops.size:=by have:=Nat.eq_of_beq_eq_true h1;simpa using this
  refine zhp hC hΓ (dsts:=fun j=>(ops.toList[j]?).bind (·.dst)) (fun j=>by simp) hK hP ops.size plan [] [] [] _ σ a env H ds a _ ⟨?_,Agr.refl,fun i hi=>(by cases hi),List.nodup_nil,by simp,fun i hi=> ?_,fun i o ho hl=> ?_,List.Pairwise.nil,trivial⟩ h3 (fun i hi=> .inr (zYo h2 i (by simpa using hi))) (by simp [hlen]) h
  ·exact zYr st
  ·simp [hi]
  ·have:=yT ho
   simp [this]at hl
end Go.Proofs.YtdoifigogbdodaaGreatDoor.Ev

namespace Go.Proofs.YtdoifigogbdodaaGreatDoor.Ev
open Go
variable {T:Nat→Type} {C:wB T} {P:Program} {σ:Lk} {H:List (zT T)} {w:World} {G:Nat→Option (List (V T))} {R:Type}
def zdH(C:wB T)(P:Program)(G:Nat→Option (List (V T)))(Γ:qK T)(n:Nat)(dsts:Nat→Option Nat):List Oper→Env T→List (zT T)→Ds T→KS T R→KP T R→Option R
 |[],env,H,ds,K,_ =>K env H ds
 |o::l,env,H,ds,K,Kp=>zdj C P G Γ n dsts o env H ds (fun env H ds=>zdH C P G Γ n dsts l env H ds K Kp) Kp
theorem zhV(hC:yj C){Γ:qK T}(hΓ:ql P C G Γ){n:Nat}{B:jS T}{ops:Array Oper}{dsts:Nat→Option Nat}(hd:∀j,dsts j=(ops[j]?).bind (·.dst)){K:KS T R}{Kp:KP T R}{r:R}{Q:Exit→Act→World→Prop}
  (hK:∀σ' env' H' ds' a' w',K env' H' ds'=some r→St C G n B σ' env' H' ds' a' w'→Q .normal a' w')
  (hP:∀σ' env' p H' ds' a' v w',Kp env' p H' ds'=some r→PSt C G n B σ' env' p H' ds' a' v w'→Q (.panic [{v,recovered:=false}]) a' w'):
  ∀(l:List Oper) (σ:Lk) (env:Env T) (H:List (zT T)) (ds:Ds T) (a:Act) (w:World),St C G n B σ env H ds a w→zdH C P G Γ n dsts l env H ds K Kp=some r→wpList P ops Q l a w:=by
 intro l
 induction l with
 |nil=>intro σ env H ds a w st h;exact hK _ _ _ _ _ _ h st
 |cons o l ih=>
  intro σ env H ds a w st h;have:=zXU hC hΓ st hd h (next:=wpList P ops Q l) (Q:=Q) (fun σ' env' H' ds' a' w' h' st'=>ih σ' env' H' ds' a' w' st' h') (fun σ' env' p H' ds' v w' h' st'=>hP σ' env' p H' ds' a v w' h' st');unfold wpList;split
  ·rename_i hw;rw [if_pos hw]at this;exact .inl this
  ·rename_i hw;rw [if_neg hw]at this;exact this
inductive Ex(T:Nat→Type):Type
 |normal
 |exit (i:Nat)
 |ret
 |vU (p:AV T)
abbrev KC(T:Nat→Type)(R:Type):=Ex T→Env T→List (zT T)→Ds T→Option R
abbrev Cut(T:Nat→Type):=(R:Type)→Env T→List (zT T)→Ds T→KC T R→Option R
inductive Key|blk(id:Nat)|cnd(slot n:Nat)|reg(id:Nat)
def rid:Code→Nat
 | .region id _ _ =>id+1
 | .seq a b=>match rid a with|0=>rid b|n+1=>n+1
 | .cond _ a b=>match rid a with|0=>rid b|n+1=>n+1
 | .block _ b=>rid b
 | .loop b=>rid b
 | .scope b=>rid b
 |_ =>0
def cutAt(cut:Key→Option (Cut T))(c:Operand)(a b:Code):Option (Cut T):=
 match c with
 | .tmp t=>cut (.cnd t (rid (.seq a b)))
 |_ =>none
def pX(C:wB T)(P:Program)(G:Nat→Option (List (V T)))(Γ:qK T)(n:Nat)(cut:Key→Option (Cut T)):Code→Env T→List (zT T)→Ds T→KC T R→Option R
 | .skip,env,H,ds,K=>K .normal env H ds
 | .region id ops draw,env,H,ds,K=>match cut (.reg id)with
  |some e=>e R env H ds K
  |none=>bif draw then ze6 C P G Γ n ops env H ds (fun env H ds=>K .normal env H ds) (fun env p H ds=>K (.vU p) env H ds)else
   zdH C P G Γ n (fun j=>(ops[j]?).bind (·.dst)) ops.toList env H ds (fun env H ds=>K .normal env H ds) (fun env p H ds=>K (.vU p) env H ds)
 | .seq a b,env,H,ds,K=>pX C P G Γ n cut a env H ds fun
   | .normal,env,H,ds=>pX C P G Γ n cut b env H ds K
   | .exit i,env,H,ds=>K (.exit i) env H ds
   | .ret,env,H,ds=>K .ret env H ds
   | .vU p,env,H,ds=>K (.vU p) env H ds
 | .cond c a b,env,H,ds,K=>match cutAt cut c a b with
  |some e=>e R env H ds K
  |none=>match w8 env c with
   | .v (.b x)=>bif x then pX C P G Γ n cut a env H ds K else pX C P G Γ n cut b env H ds K
   |_ =>none
 | .block id b,env,H,ds,K=>match cut (.blk id)with
  |some e=>e R env H ds K
  |none=>pX C P G Γ n cut b env H ds fun
   | .exit i,env,H,ds=>bif Nat.beq i id then K .normal env H ds else K (.exit i) env H ds
   | .normal,env,H,ds=>K .normal env H ds
   | .ret,env,H,ds=>K .ret env H ds
   | .vU p,env,H,ds=>K (.vU p) env H ds
 | .exit id,env,H,ds,K=>K (.exit id) env H ds
 | .ret,env,H,ds,K=>K .ret env H ds
 | .label _,env,H,ds,K=>K .normal env H ds
 | .scope b,env,H,ds,K=>pX C P G Γ n cut b env H ds K
 |_,_,_,_,_ =>none
def ExM(C:wB T)(σ:Lk)(H:List (zT T))(w:World):Ex T→Exit→Prop
 | .normal,e=>e= .normal
 | .exit i,e=>e= .exit i
 | .ret,e=>e= .ret
 | .vU p,e=>∃v,e= .panic [{v,recovered:=false}]∧zr C σ H w p v
def zV0(C:wB T)(G:Nat→Option (List (V T)))(n:Nat)(B:jS T)(K:KC T R)(r:R)(e:Exit)(a:Act)(w:World):Prop:=
 ∃σ x env H ds,K x env H ds=some r∧ExM C σ H w x e∧St C G n B σ env H ds a w
def zP(P:Program)(C:wB T)(G:Nat→Option (List (V T)))(n nB:Nat)(c:Code)(e:Cut T):Prop:=
 ∀(R:Type) (env:Env T) (H:List (zT T)) (ds:Ds T) (K:KC T R) (r:R),e R env H ds K=some r→∀(B:jS T) (σ:Lk) (a:Act) (w:World),B.H.length=nB→St C G n B σ env H ds a w→c.wp P (zV0 C G n B K r) a w
def kQ(P:Program)(C:wB T)(G:Nat→Option (List (V T)))(n nB:Nat)(cut:Key→Option (Cut T)):Code→Prop
 | .region id ops d=>∀e,cut (.reg id)=some e→zP P C G n nB (.region id ops d) e
 | .seq a b=>kQ P C G n nB cut a∧kQ P C G n nB cut b
 | .cond c a b=>(∀e,cutAt cut c a b=some e→zP P C G n nB (.cond c a b) e)∧(cutAt cut c a b=none→kQ P C G n nB cut a∧kQ P C G n nB cut b)
 | .block id b=>(∀e,cut (.blk id)=some e→zP P C G n nB (.block id b) e)∧(cut (.blk id)=none→kQ P C G n nB cut b)
 | .scope b=>kQ P C G n nB cut b
 |_ =>True
theorem zNq(hC:yj C){Γ:qK T}(hΓ:ql P C G Γ)(hm:P.follows .mixedOrders=true){n nB:Nat}{cut:Key→Option (Cut T)}{B:jS T}(hB:B.H.length=nB){r:R}:∀(c:Code),kQ P C G n nB cut c→∀(K:KC T R) (σ:Lk) (env:Env T) (H:List (zT T)) (ds:Ds T) (a:Act) (w:World),
  St C G n B σ env H ds a w→pX C P G Γ n cut c env H ds K=some r→c.wp P (zV0 C G n B K r) a w:=by
 intro c
 induction c with
 |skip=>intro _ K σ env H ds a w st h;exact wp_skip ⟨σ,.normal,env,H,ds,h,rfl,st⟩
 |region id ops draw=>
  intro hcut K σ env H ds a w st h;simp only [pX]at h;split at h
  ·rename_i e he
   exact hcut e he R env H ds K r h B σ a w hB st
  ·cases draw
   ·simp only [cond_false]at h
    refine wp_region_list ?_;exact zhV hC hΓ (ops:=ops) (fun j=>rfl) (fun σ' env' H' ds' a' w' h' st'=>⟨σ',.normal,env',H',ds',h',rfl,st'⟩) (fun σ' env' p H' ds' a' v w' h' st'=>⟨σ',.vU p,env',H',ds',h',⟨v,rfl,st'.2⟩,st'.1⟩) ops.toList σ env H ds a w st h
   ·simp only [cond_true]at h
    exact zef hC hΓ hm st h (fun σ' env' H' ds' a' w' h' st'=>⟨σ',.normal,env',H',ds',h',rfl,st'⟩) (fun σ' env' p H' ds' a' v w' h' st'=>⟨σ',.vU p,env',H',ds',h',⟨v,rfl,st'.2⟩,st'.1⟩)
 |seq x y ihx ihy=>
  intro hcut K σ env H ds a w st h;simp only [pX]at h;refine wp_seq ?_;refine wp_mono (ihx hcut.1 _ σ env H ds a w st h) fun e a' w' hpost=> ?_
  obtain⟨σ',ex,env',H',ds',h1,h2,h3⟩:=hpost;cases ex with
  |normal=>cases(show e=_ from h2);exact ihy hcut.2 K σ' env' H' ds' a' w' h3 h1
  |exit i=>cases(show e=_ from h2);exact⟨σ',.exit i,env',H',ds',h1,rfl,h3⟩
  |ret=>cases(show e=_ from h2);exact⟨σ',.ret,env',H',ds',h1,rfl,h3⟩
  |vU p=>obtain⟨v,rfl,hv⟩:=h2;exact⟨σ',.vU p,env',H',ds',h1,⟨v,rfl,hv⟩,h3⟩
 |cond c x y ihx ihy=>
  intro hcut K σ env H ds a w st h;simp only [pX]at h;split at h
  ·rename_i e he
   exact hcut.1 e he R env H ds K r h B σ a w hB st
  ·rename_i he
   have hc:=hcut.2 he;split at h
   ·rename_i b hb
    have hv:=z7 st.env c;rw [hb]at hv;have hvb:=zEt hv;cases b
    ·exact wp_cond_false hvb (ihy hc.2 K σ env H ds a w st h)
    ·exact wp_cond_true hvb (ihx hc.1 K σ env H ds a w st h)
   ·cases h
 |block id b ih=>
  intro hcut K σ env H ds a w st h;simp only [pX]at h;split at h
  ·rename_i e he
   exact hcut.1 e he R env H ds K r h B σ a w hB st
  ·rename_i he
   refine wp_block (wp_mono (ih (hcut.2 he) _ σ env H ds a w st h) fun e a' w' hpost=> ?_);obtain⟨σ',ex,env',H',ds',h1,h2,h3⟩:=hpost;cases ex with
   |normal=>cases(show e=_ from h2);exact⟨σ',.normal,env',H',ds',h1,rfl,h3⟩
   |exit i=>
    cases(show e=_ from h2);simp only at h1;cases hi:Nat.beq i id
    ·rw [hi]at h1
     have hne:¬i=id:=fun e=>by subst e;simp at hi
     simp only [Exit.inBlock,hne,if_false];exact⟨σ',.exit i,env',H',ds',h1,rfl,h3⟩
    ·rw [hi]at h1
     have:=Nat.eq_of_beq_eq_true hi;simp only [Exit.inBlock,this,if_true];exact⟨σ',.normal,env',H',ds',h1,rfl,h3⟩
   |ret=>cases(show e=_ from h2);exact⟨σ',.ret,env',H',ds',h1,rfl,h3⟩
   |vU p=>obtain⟨v,rfl,hv⟩:=h2;exact⟨σ',.vU p,env',H',ds',h1,⟨v,rfl,hv⟩,h3⟩
 |exit id=>intro _ K σ env H ds a w st h;exact wp_exit ⟨σ,.exit id,env,H,ds,h,rfl,st⟩
 |ret=>intro _ K σ env H ds a w st h;exact wp_ret ⟨σ,.ret,env,H,ds,h,rfl,st⟩
 |scope b ih=>
  intro hcut K σ env H ds a w st h;simp only [pX]at h;refine wp_scope_straight (wp_mono (ih hcut K σ env H ds a w st h) fun e a' w' hpost=> ?_);obtain⟨σ',ex,env',H',ds',h1,h2,h3⟩:=hpost;cases ex with
  |normal=>cases(show e=_ from h2);exact⟨σ',.normal,env',H',ds',h1,rfl,h3⟩
  |exit i=>cases(show e=_ from h2);exact⟨σ',.exit i,env',H',ds',h1,rfl,h3⟩
  |ret=>cases(show e=_ from h2);exact⟨σ',.ret,env',H',ds',h1,rfl,h3⟩
  |vU p=>obtain⟨v,rfl,hv⟩:=h2;exact⟨σ',.vU p,env',H',ds',h1,⟨v,rfl,hv⟩,h3⟩
 |label l=>intro _ K σ env H ds a w st h;exact wp_label ⟨σ,.normal,env,H,ds,h,rfl,st⟩
 |_ =>intro _ K σ env H ds a w st h;cases h
end Go.Proofs.YtdoifigogbdodaaGreatDoor.Ev

namespace Go.Proofs.YtdoifigogbdodaaGreatDoor.Ev
open Go
variable {T:Nat→Type} {C:wB T} {P:Program} {σ:Lk} {H:List (zT T)} {w:World} {G:Nat→Option (List (V T))} {R:Type}
def gcσ(S:List Nat)(σ:Lk):Lk:={f:=fun i=>(S[i]?).bind σ.f,F:=σ.F}
section
variable {S:List Nat}
theorem zep(hn:S.Nodup):Rn C S.idxOf (· ∈S) σ H w (gcσ S σ) (zCq S H) w:=by
 refine⟨fun b off x ⟨h1,h2⟩=>⟨⟨h1.1,fun i o hi hs=> ?_⟩,h2⟩,fun o ho _ => ?_,fun o ho _ => ?_,fun o ho hlt n s h=> ?_,fun o _ b _ cs e fz h=>⟨cs,e,fz,h,rfl⟩⟩
 ·obtain⟨q,hq,rfl⟩:=zAM hi
  rw [po];have hs':σ q=some b:=by simpa [gcσ,hq] using hs
  cases hx:H[q]? with
  |none=>rw [List.getD_eq_getElem?_getD,hx];exact fun h=>h
  |some x=>rw [getD_some hx];exact h1.2 q x hx hs'
 ·show S.idxOf o<(S.map _).length
  rw [List.length_map];exact List.idxOf_lt_length_of_mem ho
 ·simp [gcσ,zDY ho]
 ·obtain⟨x,hx0,hxs⟩:=zMO h
  obtain⟨q,hq,hx⟩:=zAM hx0;rw [zDY ho]at hq;cases hq;subst hx;have hr:=zWy _ n s hxs;rw [List.getD_eq_getElem?_getD,List.getElem?_eq_getElem hlt]at hr;exact zWp (List.getElem?_eq_getElem hlt) (by simpa using hr)
theorem zEs(hc:jU S H=true){i:Nat}{x:zT T}(h:(zCq S H)[i]? =some x):
  ∃o z,S[i]? =some o∧H[o]? =some z∧x=zJ7 S.idxOf z∧zSd S z=true∧gcσ S σ i=σ o:=by
 obtain⟨o,ho,rfl⟩:=zAM h;obtain⟨z,hz,hw⟩:=zAE hc (List.mem_of_getElem? ho);exact⟨o,z,ho,hz,by rw [getD_some hz],hw,by simp [gcσ,ho]⟩
theorem zl2(hn:S.Nodup)(hc:jU S H=true)(hR:Rp C σ H w G):Rp C (gcσ S σ) (zCq S H) w G:=by
 have hM:=zep (C:=C) (σ:=σ) (H:=H) (w:=w) hn;refine⟨fun i j oi oj b hi hj hli hlj hsi hsj=> ?_,fun i o b hi hl hs=> ?_,fun i o hi=> ?_,fun g l hg=>(hR.zDJ g l hg).mono hM.cell,fun i o b hi hl hs off hF=> ?_,fun b off hF=>hR.fb b off hF⟩
 ·obtain⟨p,z,h1,h2,rfl,_,h3⟩:=zEs (σ:=σ) hc hi
  obtain⟨q,z',k1,k2,rfl,_,k3⟩:=zEs (σ:=σ) hc hj;rw [qk]at hli hlj;have:=hR.inj p q z z' b h2 k2 hli hlj (h3▸hsi) (k3▸hsj);subst this;rw [←gC hn h1,←gC hn k1]
 ·obtain⟨p,z,h1,h2,rfl,_,h3⟩:=zEs (σ:=σ) hc hi
  rw [qk]at hl;exact hR.lt p z b h2 hl (h3▸hs)
 ·obtain⟨p,z,h1,h2,rfl,hw,h3⟩:=zEs (σ:=σ) hc hi
  have:=dq.ren hM (j:=p) (o:=z) (by cases z<;>first|trivial|exact qq S _ hw) (by rw [gC hn h1];exact h3) (fun _ _ =>rfl) (hR.obj p z h2)
  rwa [gC hn h1]at this
 ·obtain⟨p,z,h1,h2,rfl,hw,h3⟩:=zEs (σ:=σ) hc hi
  rw [qk]at hl;exact hR.free p z b h2 hl (h3▸hs) off hF
theorem zk4(hn:S.Nodup)(hc:jU S H=true){σ0:Lk}{H0:List (zT T)}{w0:World}(hid:∀i,i<H0.length→S[i]? =some i)(hA:Anc C σ0 H0 w0 σ H w):Anc C σ0 H0 w0 (gcσ S σ) (zCq S H) w:=by
 have hM:=zep (C:=C) (σ:=σ) (H:=H) (w:=w) hn;have hlen:H0.length≤S.length:=by
  rcases Nat.eq_zero_or_pos H0.length with h|h
  ·omega
  ·have:=(List.getElem?_eq_some_iff.1 (hid (H0.length-1) (by omega))).1
   omega
 refine⟨hA.F,hA.os,hA.tape,hA.output,hA.size,by simpa [zCq] using hlen,fun b off hb ho=> ?_,hA.same,hA.block,fun i o hi hr=> ?_,fun i o b hi hl hs=> ?_,fun i o o' hi hi' hr=> ?_⟩
 ·have h:=hA.wP b off hb ho
  refine⟨h.1,fun i o hi hs=> ?_⟩;obtain⟨p,z,h1,h2,rfl,_,h3⟩:=zEs (σ:=σ) hc hi;rw [po];exact h.2 p z h2 (h3▸hs)
 ·have hlt:=(List.getElem?_eq_some_iff.1 hi).1
  have:gcσ S σ i=σ i:=by simp [gcσ,hid i hlt]
  rw [this];exact hA.sig i o hi hr
 ·obtain⟨p,z,h1,h2,rfl,_,h3⟩:=zEs (σ:=σ) hc hi
  rw [qk]at hl;rcases hA.fresh p z b h2 hl (h3▸hs)with⟨o',k1,k2,k3⟩|k
  ·have hlt:=(List.getElem?_eq_some_iff.1 k1).1
   have:=hid p hlt;have hip:p=i:=(gC hn this).symm.trans (gC hn h1);subst hip;exact .inl ⟨o',k1,k2,k3⟩
  ·exact .inr k
 ·have hlt:=(List.getElem?_eq_some_iff.1 hi).1
  obtain⟨p,z,h1,h2,rfl,_,_⟩:=zEs (σ:=σ) hc hi';rw [hid i hlt]at h1;cases h1;rw [xJ];exact hA.kind i o z hi h2 hr
end
structure Sv(C:wB T)(G:Nat→Option (List (V T)))(B:jS T)(σ:Lk)(env:Env T)(H:List (zT T))(ds:Ds T)(val:Nat→Value)(dl:List Deferred)(w:World):Prop where
 rp:Rp C σ H w G
 anc:Anc C B.σ B.H B.w σ H w
 env:∀t,zr C σ H w (env t) (val t)
 ds:zCp C σ H w ds dl
theorem St.sv{n:Nat}{B:jS T}{env:Env T}{ds:Ds T}{a:Act}(st:St C G n B σ env H ds a w):Sv C G B σ env H ds (fun t=>a.tmps.getD t undef) a.defers w:=⟨st.rp,st.anc,st.env,st.ds⟩
theorem Sv.st{n:Nat}{B:jS T}{env:Env T}{ds:Ds T}{a:Act}(h:Sv C G B σ env H ds (fun t=>a.tmps.getD t undef) a.defers w)(hn:a.tmps.size=n):St C G n B σ env H ds a w:=⟨h.rp,h.anc,hn,h.env,h.ds⟩
abbrev zp(T:Nat→Type):=Env T→List (zT T)→Ds T→Env T×List (zT T)×Ds T
def ze(C:wB T)(G:Nat→Option (List (V T)))(nB:Nat)(N:zp T):Prop:=
 ∀(B:jS T) (σ:Lk) (env:Env T) (H:List (zT T)) (ds:Ds T) (val:Nat→Value) (dl:List Deferred) (w:World),B.H.length=nB→Sv C G B σ env H ds val dl w→
  ∃σ',Sv C G B σ' (N env H ds).1 (N env H ds).2.1 (N env H ds).2.2 val dl w
def idN:zp T:=fun env H ds=>(env,H,ds)
theorem zji{nB:Nat}:ze C G nB idN:=fun B σ env H ds val dl w _ h=>⟨σ,h⟩
def jO(N M:zp T):zp T:=fun env H ds=>(fun r=>M r.1 r.2.1 r.2.2) (N env H ds)
theorem y7{nB:Nat}{N M:zp T}(hN:ze C G nB N)(hM:ze C G nB M):ze C G nB (jO N M):=fun B σ env H ds val dl w hB h=>by
 obtain⟨σ1,h1⟩:=hN B σ env H ds val dl w hB h;exact hM B σ1 _ _ _ val dl w hB h1
def zkc(ds:Ds T):List Nat:=ds.foldr (fun d acc=>qH d.2.1++qH d.2.2++acc) []
def zia(f:Nat→Nat)(ds:Ds T):Ds T:=ds.map fun d=>(d.1,zSG f d.2.1,zSG f d.2.2)
def zYE(S:List Nat)(ds:Ds T):Bool:=ds.all fun d=>wS S d.2.1&&wS S d.2.2
def idB(n:Nat)(S:List Nat):Bool:=(List.range n).all fun i=>match S[i]? with|some j=>Nat.beq i j|none=>false
theorem zCp.ren{f:Nat→Nat}{D:Nat→Prop}{σ':Lk}{H':List (zT T)}{w':World}(M:Rn C f D σ H w σ' H' w'):∀{ds:Ds T} {l:List Deferred},(∀d∈ds,p8 D d.2.1∧p8 D d.2.2)→zCp C σ H w ds l→zCp C σ' H' w' (zia f ds) l
 |[],_,_,h=>h
 |d::ds,_,hn,⟨args,cap,l',h1,h2,h3,h4⟩=>
  ⟨args,cap,l',h1,yW.ren M _ _ (hn d (by simp)).1 h2,yW.ren M _ _ (hn d (by simp)).2 h3,zCp.ren M (fun d hd=>hn d (List.mem_cons_of_mem _ hd)) h4⟩
def zdD(nB:Nat)(live:List Nat)(S:List Nat):zp T:=fun env H ds=>
 bif zD8 S&&jU S H&&idB nB S&&wS S (live.map env)&&zYE S ds then
  (fun t=>bif live.elem t then ren S.idxOf (env t)else .any,zCq S H,zia S.idxOf ds)
 else(env,H,ds)
def zW(nB:Nat)(live:List Nat):zp T:=fun env H ds=>zdD nB live (reach H 5 (jf (List.range nB) (qH (live.map env)++zkc ds))) env H ds
theorem zQp{S:List Nat}:∀{l:List (AV T)} {x:AV T},wS S l=true→x∈l→within S x=true
 |y::l,x,h,hx=>by
  have h':(within S y&&wS S l)=true:=h;rw [Bool.and_eq_true]at h';rcases List.mem_cons.1 hx with rfl|hx
  ·exact h'.1
  ·exact zQp h'.2 hx
theorem zez{nB:Nat}{live S:List Nat}:ze C G nB (zdD nB live S):=by
 intro B σ env H ds val dl w hB h;unfold zdD;cases hb:zD8 S&&jU S H&&idB nB S&&wS S (live.map env)&&zYE S ds
 ·exact⟨σ,h⟩
 ·simp only [Bool.and_eq_true]at hb
  obtain⟨⟨⟨⟨h1,h2⟩,h3⟩,h4⟩,h5⟩:=hb;have hn:=zYA h1;have hM:=zep (C:=C) (σ:=σ) (H:=H) (w:=w) hn;have hid:∀i,i<B.H.length→S[i]? =some i:=by
   intro i hi;have:=List.all_eq_true.1 h3 i (List.mem_range.2 (by omega));cases hs:S[i]? with
   |none=>rw [hs]at this;cases this
   |some j=>rw [hs]at this;rw [Nat.eq_of_beq_eq_true this]
  refine⟨gcσ S σ,zl2 hn h2 h.rp,zk4 hn h2 hid h.anc,fun t=> ?_,h.ds.ren hM fun d hd=> ?_⟩
  ·show zr C _ _ w (bif live.elem t then ren S.idxOf (env t)else .any) _
   cases ht:live.elem t
   ·trivial
   ·have hm:t∈live:=by simpa using ht
    exact zr.ren hM _ _ (zDS S _ (zQp h4 (List.mem_map.2 ⟨t,hm,rfl⟩))) (h.env t)
  ·have:=List.all_eq_true.1 h5 d hd
   rw [Bool.and_eq_true]at this;exact⟨qq S _ this.1,qq S _ this.2⟩
theorem zF{nB:Nat}{live:List Nat}:ze C G nB (zW nB live):=fun B σ env H ds val dl w hB h=>zez B σ env H ds val dl w hB h
def zLb(n:Nat):List Nat→AV T→Option (AV T)
 |[],.qG=>some (.own n)
 |i::p,.agg l=>match l[i]? with
  |some x=>match zLb n p x with
   |some y=>some (.agg (l.set i y))
   |none=>none
  |none=>none
 |i::p,.qu l=>match l[i]? with
  |some x=>match zLb n p x with
   |some y=>some (.qu (l.set i y))
   |none=>none
  |none=>none
 |_,_ =>none
theorem yW.set{l:List (AV T)}{ys:List Value}(h:yW C σ H w l ys){i:Nat}{x:AV T}(hx:∀y,ys[i]? =some y→zr C σ H w x y):yW C σ H w (l.set i x) ys:=by
 refine yW.zW7 (by simp [h.length]) fun j a y hj hy=> ?_
 rw [List.getElem?_set]at hj;by_cases hij:i=j
 ·subst hij
  rw [if_pos rfl]at hj;by_cases hl:i<l.length
  ·rw [if_pos hl]at hj;cases hj;exact hx y hy
  ·rw [if_neg hl]at hj;cases hj
 ·rw [if_neg hij]at hj
  obtain⟨y',k1,k2⟩:=h.get j a hj;rw [hy]at k1;cases k1;exact k2
theorem zDM{n:Nat}(hn:n<H.length)(hrow:∀q s,svH C H n=some (q,s)→σ n=none):∀(p:List Nat) (x x':AV T) (y:Value),zLb n p x=some x'→zr C σ H w x y→zr C σ H w x' y
 |[],.qG,x',y,h,hx=>by
  cases h;have hA:y= .slice none 0 0:=hx;exact⟨hn,⟨none,0,0,hA⟩,fun q s hr=> .inl ⟨hrow q s hr,hA⟩⟩
 |i::p,.agg l,x',y,h,⟨vs,h1,h2⟩=>by
  simp only [zLb]at h;split at h
  ·rename_i z hz
   split at h
   ·rename_i z' hz'
    cases h;refine⟨vs,h1,h2.set fun y hy=> ?_⟩;obtain⟨y',k1,k2⟩:=h2.get i z hz;rw [hy]at k1;cases k1;exact zDM hn hrow p z z' _ hz' k2
   ·cases h
  ·cases h
 |i::p,.qu l,x',y,h,⟨vs,h1,h2⟩=>by
  simp only [zLb]at h;split at h
  ·rename_i z hz
   split at h
   ·rename_i z' hz'
    cases h;refine⟨vs,h1,h2.set fun y hy=> ?_⟩;obtain⟨y',k1,k2⟩:=h2.get i z hz;rw [hy]at k1;cases k1;exact zDM hn hrow p z z' _ hz' k2
   ·cases h
  ·cases h
 |[],.z0,_,_,h,_ |[],.any,_,_,h,_ |[],.v _,_,_,h,_ |[],.agg _,_,_,h,_ |[],.qu _,_,_,h,_ |[],.ptr _ _,_,_,h,_ |[],.wu _ _ _,_,_,h,_ |[],.wU _ _ _,_,_,h,_
 |[],.vA _ _,_,_,h,_ |[],.sp _,_,_,h,_ |[],.own _,_,_,h,_ |[],.yB _ _ _ _,_,_,h,_ |[],.fn _ _ _,_,_,h,_ |[],.q9 _ _,_,_,h,_ =>by cases h
 |_ ::_,.z0,_,_,h,_ |_ ::_,.any,_,_,h,_ |_ ::_,.v _,_,_,h,_ |_ ::_,.ptr _ _,_,_,h,_ |_ ::_,.wu _ _ _,_,_,h,_ |_ ::_,.wU _ _ _,_,_,h,_
 |_ ::_,.vA _ _,_,_,h,_ |_ ::_,.sp _,_,_,h,_ |_ ::_,.own _,_,_,h,_ |_ ::_,.yB _ _ _ _,_,_,h,_ |_ ::_,.fn _ _ _,_,_,h,_ |_ ::_,.q9 _ _,_,_,h,_ |_ ::_,.qG,_,_,h,_ =>by cases h
theorem zXN(hR:Rp C σ H w G)(e:Nat):Step C G [] σ H w (add σ H.length none) (H++[.row e [] true]) w:=
 zLj hR _ none w rfl rfl rfl (Nat.le_refl _) (fun b _ =>rfl) (fun b hb=>by cases hb) fun _ => .inl ⟨rfl,by simp [add]⟩
theorem zWE(ds:Ds T):wR [] ds=ds:=by
 unfold wR;rw [List.map_congr_left (g:=id) (fun d _ =>by obtain⟨a,b,c⟩:=d;simp [vI])];simp
theorem Sv.step{B:jS T}{env:Env T}{ds:Ds T}{val:Nat→Value}{dl:List Deferred}(h:Sv C G B σ env H ds val dl w){σ':Lk}{H':List (zT T)}{w':World}(hs:Step C G [] σ H w σ' H' w'):Sv C G B σ' env H' ds val dl w':=
 ⟨hs.rp,h.anc.trans hs.anc,fun t=>zr.gV hs.move (h.env t),by have:=h.ds.move hs.move;rwa [zWE]at this⟩
def zSn(t:Nat)(p:List Nat)(e:Nat):zp T:=fun env H ds=>
 match zLb H.length p (env t)with
 |some y=>(kT env t y,H++[.row e [] true],ds)
 |none=>(env,H,ds)
theorem zFb{nB t:Nat}{p:List Nat}{e:Nat}:ze C G nB (zSn t p e):=by
 intro B σ env H ds val dl w hB h;unfold zSn;split
 ·rename_i y hy
  have h':=h.step (zXN h.rp e);refine⟨_,h'.rp,h'.anc,fun u=> ?_,h'.ds⟩
  show zr C _ _ w (kT env t y u) _;unfold kT;cases hu:Nat.beq u t
  ·exact h'.env u
  ·have:=Nat.eq_of_beq_eq_true hu
   subst this;exact zDM (by simp) (fun q s hr=>by simp [add]) p _ y _ hy (h'.env u)
 ·exact⟨σ,h⟩
end Go.Proofs.YtdoifigogbdodaaGreatDoor.Ev

namespace Go.Proofs.YtdoifigogbdodaaGreatDoor.Ev
open Go
variable {T:Nat→Type} {C:wB T} {P:Program} {σ:Lk} {H:List (zT T)} {w:World} {G:Nat→Option (List (V T))} {R:Type}
def zVl(args:List (AV T)):Env T:=fun t=>args.getD t .any
def zJA(C:wB T)(P:Program)(G:Nat→Option (List (V T)))(env:Env T)(H:List (zT T)):List ResultVar→Option (List (AV T))
 |[]=>some []
 | .tmp t::l=>(zJA C P G env H l).map (env t:: ·)
 | .cell a t::l=>zCk C P G t (env a) H fun x _ _ =>(zJA C P G env H l).map (x:: ·)
def oneOf:List (AV T)→AV T
 |[x]=>x
 |l=> .qu l
def zYh(N:zp T)(x:AV T)(H:List (zT T))(K:AV T→List (zT T)→Option R):Option R:=
 (fun r=>K (r.1 0) r.2.1) (N (fun _ =>x) H [])
def zkJ(C:wB T)(P:Program)(G:Nat→Option (List (V T)))(Γ:qK T)(cut:Key→Option (Cut T))(NR NP:zp T)(fn:Func)(args:List (AV T))(H:List (zT T))(K:Out T→Option R):Option R:=
 match fn.body with
 |some c=>bif Nat.ble args.length fn.ntmps then pX C P G Γ fn.ntmps cut c (zVl args) H [] fun
   | .normal,env,H',[]=>(zJA C P G env H' fn.results.toList).bind fun xs=>zYh NR (oneOf xs) H' fun x H=>K (.ret x H)
   | .ret,env,H',[]=>(zJA C P G env H' fn.results.toList).bind fun xs=>zYh NR (oneOf xs) H' fun x H=>K (.ret x H)
   | .vU p,_,H',[]=>zYh NP p H' fun p H=>K (.panic p H)
   |_,_,_,_ =>none
  else none
 |none=>none
theorem zWx{nB:Nat}{N:zp T}(hN:ze C G nB N){B:jS T}(hB:B.H.length=nB)(hR:Rp C σ H w G)(hA:Anc C B.σ B.H B.w σ H w){x:AV T}{y:Value}(hx:zr C σ H w x y){K:AV T→List (zT T)→Option R}{r:R}
  (h:zYh N x H K=some r):∃x' H' σ',K x' H'=some r∧Rp C σ' H' w G∧Anc C B.σ B.H B.w σ' H' w∧zr C σ' H' w x' y:=by
 obtain⟨σ',h'⟩:=hN B σ (fun _ =>x) H [] (fun _ =>y) [] w hB ⟨hR,hA,fun _ =>hx,rfl⟩;exact⟨_,_,σ',h,h'.rp,h'.anc,h'.env 0⟩
def zWe(tmps:Array Value):ResultVar→Sem Value
 | .tmp t=>pure (tmps.getD t undef)
 | .cell c t=>do loadVar t (←asAddr (tmps.getD c undef))
theorem zZb(fn:Func)(tmps:Array Value):results fn tmps=(do
  let vs←fn.results.mapM (zWe tmps)
  pure (if h:vs.size=1 then vs[0]else .tuple vs)):=by
 unfold results;congr 1
theorem zWK(hR:Rp C σ H w G){env:Env T}{a:Act}(he:zHf C σ H w env a):∀(l:List ResultVar) (xs:List (AV T)),zJA C P G env H l=some xs→
  ∃vs,(l.mapM (zWe a.tmps)).run P w= .ok vs w∧yW C σ H w xs vs
 |[],xs,h=>by cases h;exact⟨[],rfl,rfl⟩
 | .tmp t::l,xs,h=>by
  simp only [zJA]at h;cases hr:zJA C P G env H l with
  |none=>rw [hr]at h;cases h
  |some ys=>
   rw [hr]at h;cases h;obtain⟨vs,h1,h2⟩:=zWK hR he l ys hr;refine⟨a.tmps.getD t undef::vs, ?_,_,_,rfl,he t,h2⟩;rw [List.mapM_cons];simp only [zWe,Sem.run_bind,Sem.run_pure,Result.andThen_ok,h1]
 | .cell c t::l,xs,h=>by
  simp only [zJA]at h;unfold zCk at h;split at h
  ·rename_i n ag hn ha
   split at h
   ·rename_i cs hcs
    obtain⟨ad,ys,hy,h1,h2⟩:=zUQ hR (he c) hcs;have key:∃x v,(zJA C P G env H l).map (x:: ·)=some xs∧(loadVar t ad).run P w= .ok v w∧zr C σ H w x v:=by
     rcases zJX h with⟨rfl,hl,hK⟩|⟨rfl,z,hz,hK⟩
     ·refine⟨_,.agg ys.toArray,hK, ?_,_,rfl,by simpa using h1⟩
      have h3:ys.length=n:=by rw [h1.length,hl]
      have:=run_loadCells_list (P:=P) w ad ys h2;rw [h3]at this;simp only [loadVar,Sem.run_bind,Sem.run_pure,Result.andThen_ok,gq ha,if_true,yg hn,this]
     ·subst hz
      obtain⟨v,ys',rfl,h3,h4⟩:=h1;have hc:=h2 0 v rfl;have h0:ad.add 0=ad:=by simp [Addr.add]
      rw [h0]at hc;refine⟨_,v,hK, ?_,h3⟩;simp only [loadVar,Sem.run_bind,Sem.run_pure,Result.andThen_ok,gq ha,Bool.false_eq_true,if_false,run_load,hc]
    obtain⟨x,v,k1,k2,k3⟩:=key;cases hr:zJA C P G env H l with
    |none=>rw [hr]at k1;cases k1
    |some zs=>
     rw [hr]at k1;cases k1;obtain⟨vs,h3,h4⟩:=zWK hR he l zs hr;refine⟨v::vs, ?_,_,_,rfl,k3,h4⟩;rw [List.mapM_cons];simp only [zWe,hy,asAddr,Sem.run_bind,Sem.run_pure,Result.andThen_ok,k2,h3]
   ·cases h
  ·cases h
theorem zb9{xs:List (AV T)}{vs:List Value}(h:yW C σ H w xs vs):zr C σ H w (oneOf xs) (if h:vs.toArray.size=1 then vs.toArray[0]else .tuple vs.toArray):=by
 unfold oneOf;split
 ·rename_i x
  obtain⟨y,ys,rfl,h1,h2⟩:=h;have:ys=[]:=h2;subst this;exact h1
 ·rename_i hne
  rw [dif_neg]
  ·exact⟨_,rfl,by simpa using h⟩
  ·intro h1
   have hl:=h.length;simp at h1;rw [h1]at hl
   match xs,hl with
   |[x],_ =>exact hne x rfl
theorem zQj(hR:Rp C σ H w G){fn:Func}{env:Env T}{a:Act}(he:zHf C σ H w env a){xs:List (AV T)}(h:zJA C P G env H fn.results.toList=some xs):
  ∃v,(results fn a.tmps).run P w= .ok v w∧zr C σ H w (oneOf xs) v:=by
 obtain⟨vs,h1,h2⟩:=zWK (P:=P) hR he _ _ h;refine⟨_, ?_,zb9 h2⟩;rw [zZb,Array.mapM_eq_mapM_toList];simp only [Sem.run_bind,Sem.run_map,h1,Result.andThen_ok];rfl
theorem zVu{args:List (AV T)}{vs:List Value}(h:yW C σ H w args vs)(k:Nat):zHf C σ H w (zVl args) {tmps:=vs.toArray++Array.replicate k undef,defers:=[]}:=by
 intro t;unfold zVl;rw [List.getD_eq_getElem?_getD];cases ht:args[t]? with
 |none=>trivial
 |some x=>
  obtain⟨y,h1,h2⟩:=h.get t x ht;have hlt:=(List.getElem?_eq_some_iff.1 h1).1;have:(vs.toArray++Array.replicate k undef).getD t undef=y:=by
   rw [Array.getD_eq_getD_getElem?,Array.getElem?_append_left (by simpa using hlt)];simp [h1]
  rw [this];exact h2
theorem zg4(hC:yj C){Γ:qK T}(hΓ:ql P C G Γ)(hm:P.follows .mixedOrders=true){cut:Key→Option (Cut T)}{NR NP:zp T}{f:FuncId}{fn:Func}(hf:P.funcs[f]? =some fn)
  {args:List (AV T)} {H:List (zT T)} (hNR:ze C G H.length NR) (hNP:ze C G H.length NP) (hcut:∀c,fn.body=some c→kQ P C G fn.ntmps H.length cut c) {K:Out T→Option R} {r:R} (h:zkJ C P G Γ cut NR NP fn args H K=some r):
  ∀(σ:Lk) (w:World) (vs:List Value),Rp C σ H w G→yW C σ H w args vs→Calls P f vs.toArray w fun e w'=>∃out,K out=some r∧Ends C G σ H w out e w':=by
 intro σ w vs hR ha;unfold zkJ at h;split at h
 ·rename_i c hb
  cases hle:Nat.ble args.length fn.ntmps
  ·rw [hle]at h;cases h
  ·rw [hle]at h
   simp only [cond_true]at h;have hle':=Nat.le_of_ble_eq_true hle;have hlen:=ha.length;refine calls_of_wp hf hb ?_;have st:St C G fn.ntmps ⟨σ,H,w⟩ σ (zVl args) H [] {tmps:=vs.toArray++Array.replicate (fn.ntmps-vs.toArray.size) undef,defers:=[]} w:=
    ⟨hR,Anc.refl C σ H w,by simp;omega,zVu ha _,rfl⟩
   refine wp_mono (zNq hC hΓ hm (B:=⟨σ,H,w⟩) rfl c (hcut c hb) _ σ _ H [] _ w st h) fun e a' w' hpost=> ?_
   obtain⟨σ',ex,env',H',ds',h1,h2,h3⟩:=hpost;have fin:(zJA C P G env' H' fn.results.toList).bind (fun xs=>zYh NR (oneOf xs) H' fun x H=>K (.ret x H))=some r→ds'=[]→
     a'.defers=[]∧∃v,(results fn a'.tmps).run P w'= .ok v w'∧∃out,K out=some r∧Ends C G σ H w out (.returned v) w':=by
    intro hh hds;subst hds;obtain⟨xs,hxs,hh⟩:=Option.bind_eq_some_iff.1 hh;obtain⟨v,k1,k2⟩:=zQj (P:=P) h3.rp h3.env hxs;obtain⟨x',H'',σ'',q1,q2,q3,q4⟩:=zWx hNR (B:=⟨σ,H,w⟩) rfl h3.rp h3.anc k2 hh;exact⟨h3.ds,v,k1,_,q1,v,σ'',rfl,q2,q3,q4⟩
   cases ex with
   |normal=>
    cases(show e=_ from h2);cases ds' with
    |nil=>exact fin h1 rfl
    |cons=>cases h1
   |ret=>
    cases(show e=_ from h2);cases ds' with
    |nil=>exact fin h1 rfl
    |cons=>cases h1
   |exit i=>cases ds'<;>cases h1
   |vU p=>
    obtain⟨v,rfl,hv⟩:=h2;cases ds' with
    |nil=>
     obtain⟨x',H'',σ'',q1,q2,q3,q4⟩:=zWx hNP (B:=⟨σ,H,w⟩) rfl h3.rp h3.anc hv h1;exact⟨h3.ds,_,q1,v,σ'',rfl,q2,q3,q4⟩
    |cons=>cases h1
 ·cases h
end Go.Proofs.YtdoifigogbdodaaGreatDoor.Ev

namespace Go.Proofs.YtdoifigogbdodaaGreatDoor.Ev
open Go
variable {T:Nat→Type} {C:wB T} {P:Program} {σ:Lk} {H:List (zT T)} {w:World} {G:Nat→Option (List (V T))} {R:Type}
theorem vF{g:FuncId}{fn:Func}{c:Code}(hf:P.funcs[g]? =some fn)(hb:fn.body=some c)(hn:(fn.name=="runtime.NumGoroutine")=false)(vs:Array Value)(w:World):
  (callFunc g vs).run P w= .ok (.enter g vs) w:=by
 unfold callFunc;have hp:(program).run P w= .ok P w:=rfl;simp only [Sem.run_bind,hp,Result.andThen_ok,hf];rw [hn];simp [hb]
structure Spec(T:Nat→Type)(I X:Type) where
 dcI:List (AV T)→List (zT T)→Option I
 ecA:I→List (AV T)
 ecH:I→List (zT T)
 dcO:Out T→Option X
 ecO:X→Out T
 goO:(R:Type)→X→(Out T→Option R)→Option R
structure zo{I X:Type}(s:Spec T I X):Prop where
 hI:∀a H i,s.dcI a H=some i→a=s.ecA i∧H=s.ecH i
 hO:∀o x,s.dcO o=some x→o=s.ecO x
 hG:∀R x k,s.goO R x k=k (s.ecO x)
def Spec.entry{I X:Type}(s:Spec T I X)(f:I→Option X):Entry T:=
 fun R args H k=>(s.dcI args H).bind fun i=>(f i).bind fun x=>s.goO R x k
theorem Spec.ok{I X:Type}{s:Spec T I X}(hs:zo s)(hC:yj C)(hm:P.follows .mixedOrders=true){Γ:qK T}(hΓ:ql P C G Γ){cut:Key→Option (Cut T)}{g:FuncId}{fn:Func}{c:Code}{NR NP:zp T}{nB:Nat}
  (hf:P.funcs[g]? =some fn) (hb:fn.body=some c) (hn:(fn.name=="runtime.NumGoroutine")=false) (hnB:∀i,(s.ecH i).length=nB) (hNR:ze C G nB NR) (hNP:ze C G nB NP) (hcut:kQ P C G fn.ntmps nB cut c)
  {f:I→Option X} (hev:∀i,zkJ C P G Γ cut NR NP fn (s.ecA i) (s.ecH i) s.dcO=f i):wM P C G g (s.entry f):=by
 intro R args H k r h;intro σ w vs hR ha;unfold Spec.entry at h;obtain⟨i,hi,h'⟩:=Option.bind_eq_some_iff.1 h;obtain⟨x,hx,hk⟩:=Option.bind_eq_some_iff.1 h';rw [hs.hG]at hk;obtain⟨rfl,rfl⟩:=hs.hI _ _ _ hi;rw [←hev]at hx;refine .inl ⟨vF hf hb hn _ w,(zg4 hC hΓ hm hf (by rw [hnB];exact hNR) (by rw [hnB];exact hNP) (fun c' hc=>by rw [hb]at hc;cases hc;rw [hnB];exact hcut) hx σ w vs hR ha).mono fun e w' ⟨out,ho,he⟩=> ?_⟩;rw [hs.hO _ _ ho]at he;exact⟨_,hk,he⟩
def zmH:qK T:=⟨fun _ _ _ _ _ =>none,fun _ =>false⟩
theorem zgr:ql P C G (zmH (T:=T)):=fun f R args H k r h=>by cases h
def qK.zj(Γ:qK T)(g:Nat){I X:Type}(s:Spec T I X)(f:I→Option X):qK T:=
 ⟨fun h R args H k=>bif Nat.beq h g then(match s.dcI args H with
  |some i=>(f i).bind fun x=>s.goO R x k
  |none=>Γ h R args H k)else Γ h R args H k,Γ.own⟩
theorem ql.zct{Γ:qK T}{l:List Nat}(hΓ:ql P C G Γ):ql P C G (Γ.zct l):=hΓ
theorem ql.zj{Γ:qK T}(hΓ:ql P C G Γ){g:Nat}{I X:Type}{s:Spec T I X}{f:I→Option X}(he:wM P C G g (s.entry f)):ql P C G (Γ.zj g s f):=by
 intro h R args H k r hr;simp only [qK.zj]at hr;cases hb:Nat.beq h g
 ·rw [hb]at hr;exact hΓ h R args H k r hr
 ·rw [hb]at hr
  simp only [cond_true]at hr;split at hr
  ·rename_i i hi
   have:=Nat.eq_of_beq_eq_true hb;subst this;refine he R args H k r ?_;unfold Spec.entry;rw [hi];exact hr
  ·exact hΓ h R args H k r hr
def zVG:List (Nat×AV T)→Env T
 |[]=>zj9
 |(t,x)::l=>kT (zVG l) t x
theorem zOA{env:Env T}:∀{l:List (Nat×AV T)},(∀p∈l,p.2=env p.1)→∀t,zVG l t=env t∨zVG l t= .any
 |[],_,t=> .inr rfl
 |(u,x)::l,h,t=>by
  unfold zVG kT;cases hb:Nat.beq t u
  ·exact zOA (fun p hp=>h p (List.mem_cons_of_mem _ hp)) t
  ·have:=Nat.eq_of_beq_eq_true hb
   subst this;exact .inl (h (t,x) (by simp))
structure Piece(T:Nat→Type)(S E:Type) where
 dcS:Env T→List (zT T)→Ds T→Option S
 slS:S→List (Nat×AV T)
 obS:S→List (zT T)
 dsS:S→Ds T
 dcE:KC T E
 exE:E→Ex T
 slE:E→List (Nat×AV T)
 obE:E→List (zT T)
 dsE:E→Ds T
 goE:(R:Type)→E→(Ex T→List (Nat×AV T)→List (zT T)→Ds T→Option R)→Option R
structure zN{S E:Type}(p:Piece T S E):Prop where
 hS:∀env H ds s,p.dcS env H ds=some s→(∀q∈p.slS s,q.2=env q.1)∧H=p.obS s∧ds=p.dsS s
 hE:∀x env H ds e,p.dcE x env H ds=some e→x=p.exE e∧(∀q∈p.slE e,q.2=env q.1)∧H=p.obE e∧ds=p.dsE e
 hG:∀R e k,p.goE R e k=k (p.exE e) (p.slE e) (p.obE e) (p.dsE e)
def Piece.cut{S E:Type}(p:Piece T S E)(N:zp T)(f:S→Option E):Cut T:=
 fun R env H ds K=>(fun r=>(p.dcS r.1 r.2.1 r.2.2).bind fun s=>(f s).bind fun e=>p.goE R e fun x sl ob ds=>K x (zVG sl) ob ds) (N env H ds)
def Piece.yG{S E:Type}(p:Piece T S E)(N:zp T)(f:S→Option E)(c:Cut T):Cut T:=
 fun R env H ds K=>(fun r=>match p.dcS r.1 r.2.1 r.2.2 with
  |some s=>(f s).bind fun e=>p.goE R e fun x sl ob ds=>K x (zVG sl) ob ds
  |none=>c R env H ds K) (N env H ds)
theorem Piece.yI{S E:Type}{p:Piece T S E}{N:zp T}{f:S→Option E}{n nB:Nat}{c:Code}{e:Cut T}(h1:zP P C G n nB c (p.cut N f))(h2:zP P C G n nB c e):zP P C G n nB c (p.yG N f e):=by
 intro R env H ds K r hr;unfold Piece.yG at hr;simp only at hr;split at hr
 ·rename_i s hs
  refine h1 R env H ds K r ?_;unfold Piece.cut;simp only [hs];exact hr
 ·exact h2 R env H ds K r hr
def pS:Nat:=1000000
def zT5{E:Type}(X:Ex T→zp T)(D:KC T E):KC T E:=fun x env H ds=>match x with
 | .vU p=>(fun r=>D (.vU (r.1 pS)) (kT r.1 pS .any) r.2.1 r.2.2) (X (.vU p) (kT env pS p) H ds)
 | .normal=>(fun r=>D .normal r.1 r.2.1 r.2.2) (X .normal env H ds)
 | .exit i=>(fun r=>D (.exit i) r.1 r.2.1 r.2.2) (X (.exit i) env H ds)
 | .ret=>(fun r=>D .ret r.1 r.2.1 r.2.2) (X .ret env H ds)
theorem xd{E:Type}{X:Ex T→zp T}{n nB:Nat}(hX:∀x,ze C G nB (X x)){D:KC T E}{B:jS T}(hB:B.H.length=nB){res:E}{e:Exit}{a:Act}{w:World}
  (h:zV0 C G n B (zT5 X D) res e a w):zV0 C G n B D res e a w:=by
 obtain⟨σ,x,env,H,ds,h1,h2,h3⟩:=h;cases x with
 |normal=>
  obtain⟨σ',k⟩:=hX .normal B σ env H ds _ _ w hB h3.sv;exact⟨σ',.normal,_,_,_,h1,h2,k.st h3.size⟩
 |exit i=>
  obtain⟨σ',k⟩:=hX (.exit i) B σ env H ds _ _ w hB h3.sv;exact⟨σ',.exit i,_,_,_,h1,h2,k.st h3.size⟩
 |ret=>
  obtain⟨σ',k⟩:=hX .ret B σ env H ds _ _ w hB h3.sv;exact⟨σ',.ret,_,_,_,h1,h2,k.st h3.size⟩
 |vU p=>
  obtain⟨v,h2,hv⟩:=h2;obtain⟨σ',k⟩:=hX (.vU p) B σ (kT env pS p) H ds (fun t=>bif Nat.beq t pS then v else a.tmps.getD t undef) _ w hB ⟨h3.rp,h3.anc,fun t=>by
   unfold kT;cases Nat.beq t pS
   ·exact h3.env t
   ·exact hv,h3.ds⟩
  refine⟨σ',.vU _,_,_,_,h1,⟨v,h2, ?_⟩,k.rp,k.anc,h3.size,fun t=> ?_,k.ds⟩
  ·have:=k.env pS
   rwa [show Nat.beq pS pS=true from by simp]at this
  ·unfold kT
   cases hb:Nat.beq t pS
   ·have:=k.env t
    rwa [hb]at this
   ·trivial
theorem Piece.ok{S E:Type}{p:Piece T S E}(hp:zN p){n nB:Nat}{N:zp T}(hN:ze C G nB N){c:Code}{f:S→Option E}
  (h:∀s e,f s=some e→∀(B:jS T) (σ:Lk) (a:Act) (w:World),B.H.length=nB→St C G n B σ (zVG (p.slS s)) (p.obS s) (p.dsS s) a w→c.wp P (zV0 C G n B p.dcE e) a w):zP P C G n nB c (p.cut N f):=by
 intro R env H ds K r hr B σ a w hB st;unfold Piece.cut at hr;obtain⟨s,hs,hr'⟩:=Option.bind_eq_some_iff.1 hr;obtain⟨e,he,hk⟩:=Option.bind_eq_some_iff.1 hr';rw [hp.hG]at hk;obtain⟨σ1,k1⟩:=hN B σ env H ds _ _ w hB st.sv;have st1:=k1.st st.size;obtain⟨h1,h2,h3⟩:=hp.hS _ _ _ _ hs;rw [h2,h3]at st1;refine wp_mono (h s e he B σ1 a w hB (st1.weaken (zOA h1))) fun e' a' w' ⟨σ',x,env',H',ds',q1,q2,q3⟩=> ?_
 obtain⟨r1,r2,r3,r4⟩:=hp.hE _ _ _ _ _ q1;subst r1;subst r3;subst r4;exact⟨σ',_,_,_,_,hk,q2,q3.weaken (zOA r2)⟩
theorem Piece.join{S E:Type}{p:Piece T S E}(hp:zN p)(hC:yj C)(hm:P.follows .mixedOrders=true){Γ:qK T}(hΓ:ql P C G Γ){n nB:Nat}{N:zp T}(hN:ze C G nB N){X:Ex T→zp T}(hX:∀x,ze C G nB (X x)){c:Code}{cut:Key→Option (Cut T)}(hcut:kQ P C G n nB cut c){f:S→Option E}
  (hev:∀s,pX C P G Γ n cut c (zVG (p.slS s)) (p.obS s) (p.dsS s) (zT5 X p.dcE)=f s):zP P C G n nB c (p.cut N f):=
 Piece.ok hp hN fun s e he B σ a w hB st=>wp_mono (zNq hC hΓ hm hB c hcut _ σ _ _ _ a w st (by rw [hev];exact he)) fun _ _ _ h=>xd hX hB h
def Piece.round{S E:Type}(p:Piece T S E)(N:zp T)(X:Ex T→zp T)(id:Nat)(rec:S→Option E):KC T E
 | .normal,env,H,ds=>(fun r=>(p.dcS r.1 r.2.1 r.2.2).bind rec) (N env H ds)
 | .exit i,env,H,ds=>bif Nat.beq i id then zT5 X p.dcE .normal env H ds else zT5 X p.dcE (.exit i) env H ds
 | .ret,env,H,ds=>zT5 X p.dcE .ret env H ds
 | .vU x,env,H,ds=>zT5 X p.dcE (.vU x) env H ds
theorem Piece.loop{S E:Type}{p:Piece T S E}(hp:zN p)(hC:yj C)(hm:P.follows .mixedOrders=true){Γ:qK T}(hΓ:ql P C G Γ){n nB id:Nat}{N:zp T}(hN:ze C G nB N){X:Ex T→zp T}(hX:∀x,ze C G nB (X x)){body:Code}{cut:Key→Option (Cut T)}(hcut:kQ P C G n nB cut body)
  {f:Nat→S→Option E} (hz:∀s,f 0 s=none)
  (hsucc:∀k s,pX C P G Γ n cut body (zVG (p.slS s)) (p.obS s) (p.dsS s) (p.round N X id (f k))=f (k+1) s) (κ:Nat):zP P C G n nB (.block id (.loop body)) (p.cut N (f κ)):=by
 refine Piece.ok hp hN fun s e he B σ a w hB st=> ?_
 refine wp_block (wp_loop_rounds κ ?_)
 induction κ generalizing s σ a w with
 |zero=>rw [hz]at he;cases he
 |succ k ih=>
  rw [rounds_succ];rw [←hsucc]at he;refine wp_mono (zNq hC hΓ hm hB body hcut _ σ _ _ _ a w st he) fun e' a' w' ⟨σ',ex,env',H',ds',h1,h2,h3⟩=> ?_
  cases ex with
  |normal=>
   cases(show e'=_ from h2);simp only [Piece.round]at h1;obtain⟨s',hs',h1⟩:=Option.bind_eq_some_iff.1 h1;obtain⟨σ2,k1⟩:=hN B σ' env' H' ds' _ _ w' hB h3.sv;have st1:=k1.st h3.size;obtain⟨q1,q2,q3⟩:=hp.hS _ _ _ _ hs';rw [q2,q3]at st1;exact ih s' h1 σ2 a' w' (st1.weaken (zOA q1))
  |exit i=>
   cases(show e'=_ from h2);simp only [Piece.round]at h1
   show Exit.inBlock id _ (.exit i) a' w';cases hi:Nat.beq i id
   ·rw [hi]at h1
    have hne:¬i=id:=fun e=>by subst e;simp at hi
    simp only [Exit.inBlock,hne,if_false];exact xd hX hB ⟨σ',.exit i,env',H',ds',h1,rfl,h3⟩
   ·rw [hi]at h1
    have:=Nat.eq_of_beq_eq_true hi;simp only [Exit.inBlock,this,if_true];exact xd hX hB ⟨σ',.normal,env',H',ds',h1,rfl,h3⟩
  |ret=>cases(show e'=_ from h2);exact xd hX hB ⟨σ',.ret,env',H',ds',h1,rfl,h3⟩
  |vU x=>obtain⟨v,rfl,hv⟩:=h2;exact xd hX hB ⟨σ',.vU x,env',H',ds',h1,⟨v,rfl,hv⟩,h3⟩
def zBM(cut:Key→Option (Cut T)):Code→List (Code×Cut T)
 | .region id ops d=>match cut (.reg id)with|some e=>[(.region id ops d,e)]|none=>[]
 | .seq a b=>zBM cut a++zBM cut b
 | .cond c a b=>match cutAt cut c a b with|some e=>[(.cond c a b,e)]|none=>zBM cut a++zBM cut b
 | .block id b=>match cut (.blk id)with|some e=>[(.block id b,e)]|none=>zBM cut b
 | .scope b=>zBM cut b
 |_ =>[]
theorem zW9{n nB:Nat}{cut:Key→Option (Cut T)}:∀(c:Code),(∀p∈zBM cut c,zP P C G n nB p.1 p.2)→kQ P C G n nB cut c:=by
 intro c
 induction c with
 |region id ops d=>
  intro h e he;refine h (.region id ops d,e) ?_;unfold zBM;rw [he];simp
 |seq a b iha ihb=>exact fun h=>⟨iha fun p hp=>h p (List.mem_append_left _ hp),ihb fun p hp=>h p (List.mem_append_right _ hp)⟩
 |cond c a b iha ihb=>
  intro h;refine⟨fun e he=>h (.cond c a b,e) (by unfold zBM;rw [he];simp),fun hn=> ?_⟩;have hh:∀p∈zBM cut a++zBM cut b,zP P C G n nB p.1 p.2:=fun p hp=>h p (by unfold zBM;rw [hn];exact hp)
  exact⟨iha fun p hp=>hh p (List.mem_append_left _ hp),ihb fun p hp=>hh p (List.mem_append_right _ hp)⟩
 |block id b ih=>
  intro h;refine⟨fun e he=>h (.block id b,e) (by unfold zBM;rw [he];simp),fun hn=>ih fun p hp=>h p (by unfold zBM;rw [hn];exact hp)⟩
 |scope b ih=>exact fun h=>ih fun p hp=>h p (by unfold zBM;exact hp)
 |_ =>intro _;trivial
def zS:Key→Option (Cut T):=fun _ =>none
def zf9:Key→Key→Bool
 | .blk a,.blk b=>Nat.beq a b
 | .cnd a n,.cnd b m=>Nat.beq a b&&Nat.beq n m
 | .reg a,.reg b=>Nat.beq a b
 |_,_ =>false
def zh(cut:Key→Option (Cut T))(k:Key)(e:Cut T):Key→Option (Cut T):=fun k'=>bif zf9 k' k then some e else cut k'
def zBS(k:Key):Code→Option Code
 | .region id ops d=>bif zf9 k (.reg id)then some (.region id ops d)else none
 | .seq a b=>match zBS k a with|some c=>some c|none=>zBS k b
 | .cond c a b=>bif (match c with| .tmp t=>zf9 k (.cnd t (rid (.seq a b)))|_ =>false)then some (.cond c a b)else match zBS k a with|some c=>some c|none=>zBS k b
 | .block id b=>bif zf9 k (.blk id)then some (.block id b)else zBS k b
 | .loop b=>zBS k b
 | .scope b=>zBS k b
 |_ =>none
def zG(k:Key)(c:Code):Code:=match zBS k c with|some c=>c|none=> .skip
def zC(fn:Func):Code:=match fn.body with|some c=>c|none=> .skip
def zf:Code→Code
 | .block _ (.loop b)=>b
 |c=>c
theorem all_nil{n nB:Nat}:∀p∈([]:List (Code×Cut T)),zP P C G n nB p.1 p.2:=fun p hp=>by cases hp
theorem all_cons{n nB:Nat}{c:Code}{e:Cut T}{l:List (Code×Cut T)}(h:zP P C G n nB c e)(hl:∀p∈l,zP P C G n nB p.1 p.2):∀p∈(c,e)::l,zP P C G n nB p.1 p.2:=fun p hp=>by
 rcases List.mem_cons.1 hp with rfl|hp
 ·exact h
 ·exact hl p hp
theorem zI{n nB:Nat}{cut:Key→Option (Cut T)}{c:Code}{l:List (Code×Cut T)}(h:zBM cut c=l)(hl:∀p∈l,zP P C G n nB p.1 p.2):kQ P C G n nB cut c:=zW9 c (h▸hl)
end Go.Proofs.YtdoifigogbdodaaGreatDoor.Ev

namespace Go.Proofs.YtdoifigogbdodaaGreatDoor.Ev
open Go
variable {T:Nat→Type} {C:wB T} {P:Program} {σ:Lk} {H:List (zT T)} {w:World} {G:Nat→Option (List (V T))} {R:Type}
def zYi(e:Cut T)(id:Nat):Nat→Cut T
 |0=>fun _ _ _ _ _ =>none
 |k+1=>fun R env H ds K=>e R env H ds fun
  | .normal,env,H,ds=>zYi e id k R env H ds K
  | .exit i,env,H,ds=>bif Nat.beq i id then K .normal env H ds else K (.exit i) env H ds
  | .ret,env,H,ds=>K .ret env H ds
  | .vU p,env,H,ds=>K (.vU p) env H ds
theorem zYH{n nB:Nat}{e:Cut T}{id:Nat}{body:Code}(he:zP P C G n nB body e)(k:Nat):
  zP P C G n nB (.block id (.loop body)) (zYi e id k):=by
 intro R env H ds K r h B σ a w hB st;refine wp_block (wp_loop_rounds k ?_)
 induction k generalizing env H ds σ a w with
 |zero=>cases h
 |succ k ih=>
  simp only [zYi]at h;rw [rounds_succ];refine wp_mono (he R env H ds _ r h B σ a w hB st) fun e a' w' hpost=> ?_
  obtain⟨σ',ex,env',H',ds',h1,h2,h3⟩:=hpost;cases ex with
  |normal=>cases(show e=_ from h2);exact ih env' H' ds' h1 σ' a' w' h3
  |exit i=>
   cases(show e=_ from h2);simp only at h1
   show Exit.inBlock id _ (.exit i) a' w';cases hi:Nat.beq i id
   ·rw [hi]at h1
    have hne:¬i=id:=fun e=>by subst e;simp at hi
    simp only [Exit.inBlock,hne,if_false];exact⟨σ',.exit i,env',H',ds',h1,rfl,h3⟩
   ·rw [hi]at h1
    have:=Nat.eq_of_beq_eq_true hi;simp only [Exit.inBlock,this,if_true];exact⟨σ',.normal,env',H',ds',h1,rfl,h3⟩
  |ret=>cases(show e=_ from h2);exact⟨σ',.ret,env',H',ds',h1,rfl,h3⟩
  |vU p=>obtain⟨v,rfl,hv⟩:=h2;exact⟨σ',.vU p,env',H',ds',h1,⟨v,rfl,hv⟩,h3⟩
end Go.Proofs.YtdoifigogbdodaaGreatDoor.Ev

set_option linter.constructorNameAsVariable false
namespace Go.Proofs.YtdoifigogbdodaaGreatDoor.Ev
open Go
variable {T:Nat→Type}
inductive Tg
 |i|s|b|l (t:Nat)|e (t:Nat)|n
def Tg.Ty(T:Nat→Type):Tg→Type
 | .i=>Int
 | .s=>ByteArray
 | .b=>Bool
 | .l t=>List (T t)
 | .e t=>T t
 | .n=>Nat
def yH(T:Nat→Type):List Tg→Type
 |[]=>Unit
 |[a]=>a.Ty T
 |a::b::l=>a.Ty T×yH T (b::l)
def gT{a:Tg}:{l:List Tg}→a.Ty T→yH T l→yH T (a::l)
 |[],x,_ =>x
 |_ ::_,x,r=>(x,r)
def hdT{a:Tg}:{l:List Tg}→yH T (a::l)→a.Ty T
 |[],x=>x
 |_ ::_,x=>x.1
def tlT{a:Tg}:{l:List Tg}→yH T (a::l)→yH T l
 |[],_ =>()
 |_ ::_,x=>x.2
theorem zFu{a:Tg}:{l:List Tg}→(x:a.Ty T)→(r:yH T l)→hdT (gT x r)=x
 |[],_,_ =>rfl
 |_ ::_,_,_ =>rfl
theorem zFj{a:Tg}:{l:List Tg}→(x:a.Ty T)→(r:yH T l)→tlT (gT x r)=r
 |[],_,_ =>rfl
 |_ ::_,_,_ =>rfl
inductive Sh
 |i (k:IntKind)|lit (k:IntKind) (n:Nat)|s|b|sl (t:Nat)|pn|fn0|if0|ifx|nl
 |any|agg (l:List Sh)|qu (l:List Sh)|ptr (o k:Nat)|wu (o i k:Nat)|wU (t k:Nat)|vA (g k:Nat)
 |own (o:Nat)|sp (o:Nat)|yB (o a m c:Nat)|qG|z0|fn (f:Nat) (x y:List Sh)|q9 (t:Nat) (x:Sh)
mutual
def Sh.jI:Sh→List Tg→List Tg
 | .i _,r=> .i::r
 | .s,r=> .s::r
 | .b,r=> .b::r
 | .sl t,r=> .l t::r
 | .wU t _,r=> .e t::r
 | .agg l,r=>Sh.zET l r
 | .qu l,r=>Sh.zET l r
 | .fn _ p q,r=>Sh.zET p (Sh.zET q r)
 | .q9 _ x,r=>Sh.jI x r
 | .lit _ _,r=>r
 | .pn,r=>r
 | .fn0,r=>r
 | .if0,r=>r
 | .ifx,r=>r
 | .nl,r=>r
 | .any,r=>r
 | .ptr _ _,r=>r
 | .wu _ _ _,r=>r
 | .vA _ _,r=>r
 | .own _,r=>r
 | .sp _,r=>r
 | .yB _ _ _ _,r=>r
 | .qG,r=>r
 | .z0,r=>r
def Sh.zET:List Sh→List Tg→List Tg
 |[],r=>r
 |a::l,r=>Sh.jI a (Sh.zET l r)
end
def eqK(a b:IntKind):Bool:=decide (a=b)
mutual
def Sh.enc:(h:Sh)→{r:List Tg}→yH T (h.jI r)→AV T×yH T r
 | .i k,_,x=>(.v (.i k (hdT x)),tlT x)
 | .s,_,x=>(.v (.s (hdT x)),tlT x)
 | .b,_,x=>(.v (.b (hdT x)),tlT x)
 | .sl t,_,x=>(.v (.sl t (hdT x)),tlT x)
 | .wU t k,_,x=>(.wU t (hdT x) k,tlT x)
 | .agg l,_,x=>(fun p=>(.agg p.1,p.2)) (Sh.pJ l x)
 | .qu l,_,x=>(fun p=>(.qu p.1,p.2)) (Sh.pJ l x)
 | .fn f y z,_,x=>(fun p=>(fun q=>(.fn (.func f) p.1 q.1,q.2)) (Sh.pJ z p.2)) (Sh.pJ y x)
 | .q9 t y,_,x=>(fun p=>(.q9 t p.1,p.2)) (Sh.enc y x)
 | .lit k n,_,x=>(.v (.i k (Int.ofNat n)),x)
 | .pn,_,x=>(.v .pn,x)
 | .fn0,_,x=>(.v .fn0,x)
 | .if0,_,x=>(.v .if0,x)
 | .ifx,_,x=>(.v .ifx,x)
 | .nl,_,x=>(.v .nl,x)
 | .any,_,x=>(.any,x)
 | .ptr o k,_,x=>(.ptr o k,x)
 | .wu o j k,_,x=>(.wu o j k,x)
 | .vA g k,_,x=>(.vA g k,x)
 | .own o,_,x=>(.own o,x)
 | .sp o,_,x=>(.sp o,x)
 | .yB o a n c,_,x=>(.yB o a n c,x)
 | .qG,_,x=>(.qG,x)
 | .z0,_,x=>(.z0,x)
def Sh.pJ:(l:List Sh)→{r:List Tg}→yH T (Sh.zET l r)→List (AV T)×yH T r
 |[],_,x=>([],x)
 |a::l,_,x=>(fun p=>(fun q=>(p.1::q.1,q.2)) (Sh.pJ l p.2)) (Sh.enc a x)
end
def ok1{α:Type}(b:Bool)(x:α):Option α:=bif b then some x else none
theorem jG{α:Type}{b:Bool}{x y:α}(h:ok1 b x=some y):b=true∧x=y:=by
 cases b
 ·cases h
 ·exact⟨rfl,Option.some.inj h⟩
def slD{t u:Nat}(h:Nat.beq u t=true)(l:List (T u)):List (T t):=Nat.eq_of_beq_eq_true h▸l
def elD{t u:Nat}(h:Nat.beq u t=true)(l:T u):T t:=Nat.eq_of_beq_eq_true h▸l
def ifB{α:Type}(b:Bool)(f:b=true→Option α):Option α:=match b,f with
 |true,f=>f rfl
 |false,_ =>none
theorem zUc{α:Type}{b:Bool}{f:b=true→Option α}{y:α}(h:ifB b f=some y):∃hb:b=true,f hb=some y:=by
 cases b
 ·cases h
 ·exact⟨rfl,h⟩
mutual
def Sh.dec(h:Sh)(x:AV T){r:List Tg}(q:yH T r):Option (yH T (h.jI r)):=
 match h with
 | .i k=>match x with| .v (.i k' n)=>ok1 (eqK k' k) (gT (a:= .i) n q)|_ =>none
 | .s=>match x with| .v (.s x)=>some (gT (a:= .s) x q)|_ =>none
 | .b=>match x with| .v (.b x)=>some (gT (a:= .b) x q)|_ =>none
 | .sl t=>match x with| .v (.sl u l)=>ifB (Nat.beq u t) fun h=>some (gT (a:= .l t) (slD h l) q)|_ =>none
 | .wU t k=>match x with| .wU u x k'=>ifB (Nat.beq u t) fun h=>ok1 (Nat.beq k' k) (gT (a:= .e t) (elD h x) q)|_ =>none
 | .agg l=>match x with| .agg xs=>Sh.dp l xs q|_ =>none
 | .qu l=>match x with| .qu xs=>Sh.dp l xs q|_ =>none
 | .fn f y z=>match x with| .fn (.func f1) xs ys=>bif Nat.beq f1 f then(Sh.dp z ys q).bind fun r=>Sh.dp y xs r else none|_ =>none
 | .q9 t y=>match x with| .q9 t' x=>bif Nat.beq t' t then Sh.dec y x q else none|_ =>none
 | .lit k n=>match x with| .v (.i k' n')=>ok1 (eqK k' k&&decide (n'=Int.ofNat n)) q|_ =>none
 | .pn=>match x with| .v .pn=>some q|_ =>none
 | .fn0=>match x with| .v .fn0=>some q|_ =>none
 | .if0=>match x with| .v .if0=>some q|_ =>none
 | .ifx=>match x with| .v .ifx=>some q|_ =>none
 | .nl=>match x with| .v .nl=>some q|_ =>none
 | .any=>match x with| .any=>some q|_ =>none
 | .ptr o k=>match x with| .ptr o' k'=>ok1 (Nat.beq o' o&&Nat.beq k' k) q|_ =>none
 | .wu o j k=>match x with| .wu o1 j1 k1=>ok1 (Nat.beq o1 o&&Nat.beq j1 j&&Nat.beq k1 k) q|_ =>none
 | .vA g k=>match x with| .vA g' k'=>ok1 (Nat.beq g' g&&Nat.beq k' k) q|_ =>none
 | .own o=>match x with| .own o'=>ok1 (Nat.beq o' o) q|_ =>none
 | .sp o=>match x with| .sp o'=>ok1 (Nat.beq o' o) q|_ =>none
 | .yB o a n c=>match x with| .yB o' a' n' c'=>ok1 (Nat.beq o' o&&Nat.beq a' a&&Nat.beq n' n&&Nat.beq c' c) q|_ =>none
 | .qG=>match x with| .qG=>some q|_ =>none
 | .z0=>match x with| .z0=>some q|_ =>none
def Sh.dp(l:List Sh)(xs:List (AV T)){r:List Tg}(q:yH T r):Option (yH T (Sh.zET l r)):=
 match l with
 |[]=>match xs with|[]=>some q|_ =>none
 |a::l=>match xs with|x::xs=>(Sh.dp l xs q).bind fun r=>Sh.dec a x r|[]=>none
end
theorem zdn{a b:IntKind}(h:eqK a b=true):a=b:=of_decide_eq_true h
theorem zkh{t u:Nat}(h:Nat.beq u t=true)(l:List (T u)):V.sl t (slD h l)= .sl u l:=by
 have e:=Nat.eq_of_beq_eq_true h;subst e;rfl
theorem zku{t u:Nat}(h:Nat.beq u t=true)(x:T u)(k:Nat):AV.wU t (elD h x) k= .wU u x k:=by
 have e:=Nat.eq_of_beq_eq_true h;subst e;rfl
theorem zcR(k:IntKind)(x:AV T){r:List Tg}(q:yH T r)(w:yH T ((Sh.i k).jI r))(e:Sh.dec (Sh.i k) x q=some w):Sh.enc (Sh.i k) w=(x,q):=by
 cases x with
 |v x=>
  cases x with
  |i k1 n1=>obtain⟨e1,e2⟩:=jG (show ok1 (eqK k1 k) (gT (a:= .i) n1 q)=some w from e);subst e2;have:=zdn e1;subst this;exact Prod.ext (congrArg (fun z=>AV.v (.i k1 z)) (zFu (a:= .i) n1 q)) (zFj (a:= .i) n1 q)
  |_ =>exact nomatch (show none=some w from e)
 |_ =>exact nomatch (show none=some w from e)
theorem zX4(k:IntKind)(n:Nat)(x:AV T){r:List Tg}(q:yH T r)(w:yH T ((Sh.lit k n).jI r))(e:Sh.dec (Sh.lit k n) x q=some w):Sh.enc (Sh.lit k n) w=(x,q):=by
 cases x with
 |v x=>
  cases x with
  |i k1 n1=>obtain⟨e1,e2⟩:=jG (show ok1 (eqK k1 k&&decide (n1=Int.ofNat n)) q=some w from e);subst e2;rw [Bool.and_eq_true]at e1;rw [zdn e1.1,of_decide_eq_true e1.2];rfl
  |_ =>exact nomatch (show none=some w from e)
 |_ =>exact nomatch (show none=some w from e)
theorem zcA(x:AV T){r:List Tg}(q:yH T r)(w:yH T (Sh.s.jI r))(e:Sh.dec Sh.s x q=some w):Sh.enc Sh.s w=(x,q):=by
 cases x with
 |v x=>
  cases x with
  |s x1=>have e2:=Option.some.inj (show some (gT (a:= .s) x1 q)=some w from e);subst e2;exact Prod.ext (congrArg (fun z=>AV.v (.s z)) (zFu (a:= .s) x1 q)) (zFj (a:= .s) x1 q)
  |_ =>exact nomatch (show none=some w from e)
 |_ =>exact nomatch (show none=some w from e)
theorem zb1(x:AV T){r:List Tg}(q:yH T r)(w:yH T (Sh.b.jI r))(e:Sh.dec Sh.b x q=some w):Sh.enc Sh.b w=(x,q):=by
 cases x with
 |v x=>
  cases x with
  |b x1=>have e2:=Option.some.inj (show some (gT (a:= .b) x1 q)=some w from e);subst e2;exact Prod.ext (congrArg (fun z=>AV.v (.b z)) (zFu (a:= .b) x1 q)) (zFj (a:= .b) x1 q)
  |_ =>exact nomatch (show none=some w from e)
 |_ =>exact nomatch (show none=some w from e)
theorem zZY(t:Nat)(x:AV T){r:List Tg}(q:yH T r)(w:yH T ((Sh.sl t).jI r))(e:Sh.dec (Sh.sl t) x q=some w):Sh.enc (Sh.sl t) w=(x,q):=by
 cases x with
 |v x=>
  cases x with
  |sl u l=>obtain⟨hb,e2⟩:=zUc (show ifB (Nat.beq u t) (fun h=>some (gT (a:= .l t) (slD h l) q))=some w from e);have e2:=Option.some.inj e2;subst e2;exact Prod.ext ((congrArg (fun z=>AV.v (.sl t z)) (zFu (a:= .l t) (slD hb l) q)).trans (congrArg AV.v (zkh hb l))) (zFj (a:= .l t) (slD hb l) q)
  |_ =>exact nomatch (show none=some w from e)
 |_ =>exact nomatch (show none=some w from e)
theorem zZy(x:AV T){r:List Tg}(q:yH T r)(w:yH T (Sh.pn.jI r))(e:Sh.dec Sh.pn x q=some w):Sh.enc Sh.pn w=(x,q):=by
 cases x with
 |v x=>
  cases x with
  |pn=>cases(show some q=some w from e);rfl
  |_ =>exact nomatch (show none=some w from e)
 |_ =>exact nomatch (show none=some w from e)
theorem zY0(x:AV T){r:List Tg}(q:yH T r)(w:yH T (Sh.fn0.jI r))(e:Sh.dec Sh.fn0 x q=some w):Sh.enc Sh.fn0 w=(x,q):=by
 cases x with
 |v x=>
  cases x with
  |fn0=>cases(show some q=some w from e);rfl
  |_ =>exact nomatch (show none=some w from e)
 |_ =>exact nomatch (show none=some w from e)
theorem zYP(x:AV T){r:List Tg}(q:yH T r)(w:yH T (Sh.if0.jI r))(e:Sh.dec Sh.if0 x q=some w):Sh.enc Sh.if0 w=(x,q):=by
 cases x with
 |v x=>
  cases x with
  |if0=>cases(show some q=some w from e);rfl
  |_ =>exact nomatch (show none=some w from e)
 |_ =>exact nomatch (show none=some w from e)
theorem zXc(x:AV T){r:List Tg}(q:yH T r)(w:yH T (Sh.ifx.jI r))(e:Sh.dec Sh.ifx x q=some w):Sh.enc Sh.ifx w=(x,q):=by
 cases x with
 |v x=>
  cases x with
  |ifx=>cases(show some q=some w from e);rfl
  |_ =>exact nomatch (show none=some w from e)
 |_ =>exact nomatch (show none=some w from e)
theorem zZW(x:AV T){r:List Tg}(q:yH T r)(w:yH T (Sh.nl.jI r))(e:Sh.dec Sh.nl x q=some w):Sh.enc Sh.nl w=(x,q):=by
 cases x with
 |v x=>
  cases x with
  |nl=>cases(show some q=some w from e);rfl
  |_ =>exact nomatch (show none=some w from e)
 |_ =>exact nomatch (show none=some w from e)
theorem zYS(x:AV T){r:List Tg}(q:yH T r)(w:yH T (Sh.any.jI r))(e:Sh.dec Sh.any x q=some w):Sh.enc Sh.any w=(x,q):=by
 cases x with
 |any=>cases(show some q=some w from e);rfl
 |_ =>exact nomatch (show none=some w from e)
theorem zYz(l:List Sh)(ihl:∀(xs:List (AV T)) {r:List Tg} (q:yH T r) (w:yH T (Sh.zET l r)),Sh.dp l xs q=some w→Sh.pJ l w=(xs,q))(x:AV T){r:List Tg}(q:yH T r)(w:yH T ((Sh.agg l).jI r))(e:Sh.dec (Sh.agg l) x q=some w):Sh.enc (Sh.agg l) w=(x,q):=by
 cases x with
 |agg xs=>exact congrArg (fun p=>(AV.agg p.1,p.2)) (ihl xs q w e)
 |_ =>exact nomatch (show none=some w from e)
theorem zYj(l:List Sh)(ihl:∀(xs:List (AV T)) {r:List Tg} (q:yH T r) (w:yH T (Sh.zET l r)),Sh.dp l xs q=some w→Sh.pJ l w=(xs,q))(x:AV T){r:List Tg}(q:yH T r)(w:yH T ((Sh.qu l).jI r))(e:Sh.dec (Sh.qu l) x q=some w):Sh.enc (Sh.qu l) w=(x,q):=by
 cases x with
 |qu xs=>exact congrArg (fun p=>(AV.qu p.1,p.2)) (ihl xs q w e)
 |_ =>exact nomatch (show none=some w from e)
theorem zX5(o:Nat)(k:Nat)(x:AV T){r:List Tg}(q:yH T r)(w:yH T ((Sh.ptr o k).jI r))(e:Sh.dec (Sh.ptr o k) x q=some w):Sh.enc (Sh.ptr o k) w=(x,q):=by
 cases x with
 |ptr o1 k1=>obtain⟨e1,e2⟩:=jG (show ok1 (Nat.beq o1 o&&Nat.beq k1 k) q=some w from e);subst e2;simp only [Bool.and_eq_true]at e1;obtain⟨h1,h2⟩:=e1;rw [Nat.eq_of_beq_eq_true h1,Nat.eq_of_beq_eq_true h2];rfl
 |_ =>exact nomatch (show none=some w from e)
theorem zW1(o:Nat)(j:Nat)(k:Nat)(x:AV T){r:List Tg}(q:yH T r)(w:yH T ((Sh.wu o j k).jI r))(e:Sh.dec (Sh.wu o j k) x q=some w):Sh.enc (Sh.wu o j k) w=(x,q):=by
 cases x with
 |wu o1 j1 k1=>obtain⟨e1,e2⟩:=jG (show ok1 (Nat.beq o1 o&&Nat.beq j1 j&&Nat.beq k1 k) q=some w from e);subst e2;simp only [Bool.and_eq_true]at e1;obtain⟨⟨h1,h2⟩,h3⟩:=e1;rw [Nat.eq_of_beq_eq_true h1,Nat.eq_of_beq_eq_true h2,Nat.eq_of_beq_eq_true h3];rfl
 |_ =>exact nomatch (show none=some w from e)
theorem zWR(t:Nat)(k:Nat)(x:AV T){r:List Tg}(q:yH T r)(w:yH T ((Sh.wU t k).jI r))(e:Sh.dec (Sh.wU t k) x q=some w):Sh.enc (Sh.wU t k) w=(x,q):=by
 cases x with
 |wU u x1 k1=>obtain⟨hb,e2⟩:=zUc (show ifB (Nat.beq u t) (fun h=>ok1 (Nat.beq k1 k) (gT (a:= .e t) (elD h x1) q))=some w from e);obtain⟨e1,e2⟩:=jG e2;subst e2;have:=Nat.eq_of_beq_eq_true e1;subst this;exact Prod.ext ((congrArg (fun z=>AV.wU t z k1) (zFu (a:= .e t) (elD hb x1) q)).trans (zku hb x1 k1)) (zFj (a:= .e t) (elD hb x1) q)
 |_ =>exact nomatch (show none=some w from e)
theorem zWg(g:Nat)(k:Nat)(x:AV T){r:List Tg}(q:yH T r)(w:yH T ((Sh.vA g k).jI r))(e:Sh.dec (Sh.vA g k) x q=some w):Sh.enc (Sh.vA g k) w=(x,q):=by
 cases x with
 |vA g1 k1=>obtain⟨e1,e2⟩:=jG (show ok1 (Nat.beq g1 g&&Nat.beq k1 k) q=some w from e);subst e2;simp only [Bool.and_eq_true]at e1;obtain⟨h1,h2⟩:=e1;rw [Nat.eq_of_beq_eq_true h1,Nat.eq_of_beq_eq_true h2];rfl
 |_ =>exact nomatch (show none=some w from e)
theorem zYU(o:Nat)(x:AV T){r:List Tg}(q:yH T r)(w:yH T ((Sh.own o).jI r))(e:Sh.dec (Sh.own o) x q=some w):Sh.enc (Sh.own o) w=(x,q):=by
 cases x with
 |own o1=>obtain⟨e1,e2⟩:=jG (show ok1 (Nat.beq o1 o) q=some w from e);subst e2;have h1:=e1;rw [Nat.eq_of_beq_eq_true h1];rfl
 |_ =>exact nomatch (show none=some w from e)
theorem zZq(o:Nat)(x:AV T){r:List Tg}(q:yH T r)(w:yH T ((Sh.sp o).jI r))(e:Sh.dec (Sh.sp o) x q=some w):Sh.enc (Sh.sp o) w=(x,q):=by
 cases x with
 |sp o1=>obtain⟨e1,e2⟩:=jG (show ok1 (Nat.beq o1 o) q=some w from e);subst e2;have h1:=e1;rw [Nat.eq_of_beq_eq_true h1];rfl
 |_ =>exact nomatch (show none=some w from e)
theorem zYq(o:Nat)(a:Nat)(n:Nat)(c:Nat)(x:AV T){r:List Tg}(q:yH T r)(w:yH T ((Sh.yB o a n c).jI r))(e:Sh.dec (Sh.yB o a n c) x q=some w):Sh.enc (Sh.yB o a n c) w=(x,q):=by
 cases x with
 |yB o1 a1 n1 c1=>obtain⟨e1,e2⟩:=jG (show ok1 (Nat.beq o1 o&&Nat.beq a1 a&&Nat.beq n1 n&&Nat.beq c1 c) q=some w from e);subst e2;simp only [Bool.and_eq_true]at e1;obtain⟨⟨⟨h1,h2⟩,h3⟩,h4⟩:=e1;rw [Nat.eq_of_beq_eq_true h1,Nat.eq_of_beq_eq_true h2,Nat.eq_of_beq_eq_true h3,Nat.eq_of_beq_eq_true h4];rfl
 |_ =>exact nomatch (show none=some w from e)
theorem zWN(x:AV T){r:List Tg}(q:yH T r)(w:yH T (Sh.qG.jI r))(e:Sh.dec Sh.qG x q=some w):Sh.enc Sh.qG w=(x,q):=by
 cases x with
 |qG=>cases(show some q=some w from e);rfl
 |_ =>exact nomatch (show none=some w from e)
theorem zab(x:AV T){r:List Tg}(q:yH T r)(w:yH T (Sh.z0.jI r))(e:Sh.dec Sh.z0 x q=some w):Sh.enc Sh.z0 w=(x,q):=by
 cases x with
 |z0=>cases(show some q=some w from e);rfl
 |_ =>exact nomatch (show none=some w from e)
theorem zaA(f:Nat)(y:List Sh)(z:List Sh)(ih1:∀(xs:List (AV T)) {r:List Tg} (q:yH T r) (w:yH T (Sh.zET y r)),Sh.dp y xs q=some w→Sh.pJ y w=(xs,q))(ih2:∀(xs:List (AV T)) {r:List Tg} (q:yH T r) (w:yH T (Sh.zET z r)),Sh.dp z xs q=some w→Sh.pJ z w=(xs,q))(x:AV T){r:List Tg}(q:yH T r)(w:yH T ((Sh.fn f y z).jI r))(e:Sh.dec (Sh.fn f y z) x q=some w):Sh.enc (Sh.fn f y z) w=(x,q):=by
 cases x with
 |fn f1 xs ys=>
  cases f1 with
  |func f1=>
   replace e:(bif Nat.beq f1 f then(Sh.dp z ys q).bind fun r=>Sh.dp y xs r else none)=some w:=e;cases hf:Nat.beq f1 f
   ·rw [hf]at e;cases e
   ·rw [hf]at e
    obtain⟨r1,e1,e2⟩:=Option.bind_eq_some_iff.1 e;have:=Nat.eq_of_beq_eq_true hf;subst this;refine(congrArg (fun p=>(fun q=>(AV.fn (.func f1) p.1 q.1,q.2)) (Sh.pJ z p.2)) (ih1 xs r1 w e2)).trans ?_;exact congrArg (fun q=>(AV.fn (.func f1) xs q.1,q.2)) (ih2 ys q r1 e1)
  |_ =>exact nomatch (show none=some w from e)
 |_ =>exact nomatch (show none=some w from e)
theorem zY7(t:Nat)(y:Sh)(ih1:∀(x:AV T) {r:List Tg} (q:yH T r) (w:yH T (y.jI r)),Sh.dec y x q=some w→Sh.enc y w=(x,q))(x:AV T){r:List Tg}(q:yH T r)(w:yH T ((Sh.q9 t y).jI r))(e:Sh.dec (Sh.q9 t y) x q=some w):Sh.enc (Sh.q9 t y) w=(x,q):=by
 cases x with
 |q9 t1 x1=>
  replace e:(bif Nat.beq t1 t then Sh.dec y x1 q else none)=some w:=e;cases hf:Nat.beq t1 t
  ·rw [hf]at e;cases e
  ·rw [hf]at e
   have:=Nat.eq_of_beq_eq_true hf;subst this;exact congrArg (fun p=>(AV.q9 t1 p.1,p.2)) (ih1 x1 q w e)
 |_ =>exact nomatch (show none=some w from e)
theorem zQZ:(∀(h:Sh) (x:AV T) {r:List Tg} (q:yH T r) (y:yH T (h.jI r)),Sh.dec h x q=some y→Sh.enc h y=(x,q))∧
  (∀(l:List Sh) (xs:List (AV T)) {r:List Tg} (q:yH T r) (y:yH T (Sh.zET l r)),Sh.dp l xs q=some y→Sh.pJ l y=(xs,q)):=by
 have key:=fun h=> @Sh.rec (motive_1:=fun h=>∀(x:AV T) {r:List Tg} (q:yH T r) (y:yH T (h.jI r)),Sh.dec h x q=some y→Sh.enc h y=(x,q))
  (motive_2:=fun l=>∀(xs:List (AV T)) {r:List Tg} (q:yH T r) (y:yH T (Sh.zET l r)),Sh.dp l xs q=some y→Sh.pJ l y=(xs,q))
  (fun k=>zcR k) (fun k n=>zX4 k n) zcA zb1 (fun t=>zZY t) zZy zY0 zYP zXc zZW zYS (fun l ih=>zYz l ih) (fun l ih=>zYj l ih) (fun o k=>zX5 o k) (fun o j k=>zW1 o j k) (fun t k=>zWR t k) (fun g k=>zWg g k) (fun o=>zYU o) (fun o=>zZq o) (fun o a n c=>zYq o a n c) zWN zab (fun f y z ih1 ih2=>zaA f y z ih1 ih2) (fun t y ih=>zY7 t y ih)
  (fun xs {r} q y e=>by
   cases xs with
   |nil=>cases e;rfl
   |cons=>cases e)
  (fun a l iha ihl xs {r} q y e=>by
   cases xs with
   |nil=>cases e
   |cons x xs=>
    obtain⟨r1,e1,e2⟩:=Option.bind_eq_some_iff.1 (show(Sh.dp l xs q).bind (fun r=>Sh.dec a x r)=some y from e);show((fun p=>(fun q=>(p.1::q.1,q.2)) (Sh.pJ l p.2)) (Sh.enc a y):List (AV T)×yH T r)=_;rw [iha x r1 y e2];show((fun q=>(x::q.1,q.2)) (Sh.pJ l r1):List (AV T)×yH T r)=_;rw [ihl xs q r1 e1]) h
 refine⟨fun h=>key h,fun l=> ?_⟩
 induction l with
 |nil=>
  intro xs r q y e;cases xs with
  |nil=>cases e;rfl
  |cons=>cases e
 |cons a l ihl=>
  intro xs r q y e;cases xs with
  |nil=>cases e
  |cons x xs=>
   obtain⟨r1,e1,e2⟩:=Option.bind_eq_some_iff.1 (show(Sh.dp l xs q).bind (fun r=>Sh.dec a x r)=some y from e);show((fun p=>(fun q=>(p.1::q.1,q.2)) (Sh.pJ l p.2)) (Sh.enc a y):List (AV T)×yH T r)=_;rw [key a x r1 y e2];show((fun q=>(x::q.1,q.2)) (Sh.pJ l r1):List (AV T)×yH T r)=_;rw [ihl xs q r1 e1]
theorem Sh.zDD{h:Sh}{x:AV T}{r:List Tg}{q:yH T r}{y:yH T (h.jI r)}(e:Sh.dec h x q=some y):Sh.enc h y=(x,q):=zQZ.1 h x q y e
theorem Sh.zFn{l:List Sh}{xs:List (AV T)}{r:List Tg}{q:yH T r}{y:yH T (Sh.zET l r)}(e:Sh.dp l xs q=some y):Sh.pJ l y=(xs,q):=zQZ.2 l xs q y e
inductive kq
 |cells (e:Nat) (g:Option Nat) (l:List Sh)|row (t:Nat) (m:Bool)|j6|dead
def kq.jI:kq→List Tg→List Tg
 | .cells _ _ l,r=>Sh.zET l r
 | .row t _,r=> .l t::r
 | .j6,r=> .s:: .n::r
 | .dead,r=>r
def zgb:Option Nat→Option Nat→Bool
 |none,none=>true
 |some a,some b=>Nat.beq a b
 |_,_ =>false
theorem zf8{a b:Option Nat}(h:zgb a b=true):a=b:=by
 cases a<;>cases b<;>first|rfl|(cases h;done)|exact congrArg some (Nat.eq_of_beq_eq_true h)
def zes(a b:Bool):Bool:=bif a then b else !b
theorem zeB{a b:Bool}(h:zes a b=true):a=b:=by cases a<;>cases b<;>first|rfl|cases h
def kq.enc:(h:kq)→{r:List Tg}→yH T (h.jI r)→zT T×yH T r
 | .cells e g l,_,x=>(fun p=>(.cells e g p.1,p.2)) (Sh.pJ l x)
 | .row t m,_,x=>(.row t (hdT (a:= .l t) x) m,tlT (a:= .l t) x)
 | .j6,r,x=>(.j6 (hdT (a:= .s) (l:= .n::r) x) (hdT (a:= .n) (tlT (a:= .s) (l:= .n::r) x)),tlT (a:= .n) (tlT (a:= .s) (l:= .n::r) x))
 | .dead,_,x=>(.dead,x)
def kq.dec(h:kq)(x:zT T){r:List Tg}(q:yH T r):Option (yH T (h.jI r)):=
 match h with
 | .cells e g l=>match x with| .cells e1 g1 xs=>bif Nat.beq e1 e&&zgb g1 g then Sh.dp l xs q else none|_ =>none
 | .row t m=>match x with| .row u l m1=>ifB (Nat.beq u t) fun h=>ok1 (zes m1 m) (gT (a:= .l t) (slD h l) q)|_ =>none
 | .j6=>match x with| .j6 s p=>some (gT (a:= .s) s (gT (a:= .n) p q))|_ =>none
 | .dead=>match x with| .dead=>some q|_ =>none
theorem zhJ{t u:Nat}(h:Nat.beq u t=true)(l:List (T u))(m:Bool):zT.row t (slD h l) m= .row u l m:=by
 have e:=Nat.eq_of_beq_eq_true h;subst e;rfl
theorem kq.zDD{h:kq}{x:zT T}{r:List Tg}{q:yH T r}{w:yH T (h.jI r)}(e:kq.dec h x q=some w):kq.enc h w=(x,q):=by
 cases h with
 |cells e1 g l=>
  cases x with
  |cells e2 g2 xs=>
   replace e:(bif Nat.beq e2 e1&&zgb g2 g then Sh.dp l xs q else none)=some w:=e;cases hb:Nat.beq e2 e1&&zgb g2 g
   ·rw [hb]at e;cases e
   ·rw [hb]at e
    rw [Bool.and_eq_true]at hb;have h1:=Nat.eq_of_beq_eq_true hb.1;have h2:=zf8 hb.2;subst h1;subst h2;exact congrArg (fun p=>(zT.cells e2 g2 p.1,p.2)) (Sh.zFn (show Sh.dp l xs q=some w from e))
  |_ =>exact nomatch (show none=some w from e)
 |row t m=>
  cases x with
  |row u l m1=>
   obtain⟨hb,e2⟩:=zUc (show ifB (Nat.beq u t) (fun h=>ok1 (zes m1 m) (gT (a:= .l t) (slD h l) q))=some w from e);obtain⟨e1,e2⟩:=jG e2;subst e2;have:=zeB e1;subst this;exact Prod.ext ((congrArg (fun z=>zT.row t z m1) (zFu (a:= .l t) (slD hb l) q)).trans (zhJ hb l m1)) (zFj (a:= .l t) (slD hb l) q)
  |_ =>exact nomatch (show none=some w from e)
 |j6=>
  cases x with
  |j6 s p=>cases(show some (gT (a:= .s) s (gT (a:= .n) p q))=some w from e);cases r<;>rfl
  |_ =>exact nomatch (show none=some w from e)
 |dead=>
  cases x with
  |dead=>cases(show some q=some w from e);rfl
  |_ =>exact nomatch (show none=some w from e)
def zZf:List kq→List Tg→List Tg
 |[],r=>r
 |h::l,r=>h.jI (zZf l r)
def zUP:(l:List kq)→{r:List Tg}→yH T (zZf l r)→List (zT T)×yH T r
 |[],_,x=>([],x)
 |h::l,_,x=>(fun p=>(fun q=>(p.1::q.1,q.2)) (zUP l p.2)) (kq.enc h x)
def zWH:(l:List kq)→List (zT T)→{r:List Tg}→yH T r→Option (yH T (zZf l r))
 |[],xs,_,q=>match xs with|[]=>some q|_ =>none
 |h::l,xs,_,q=>match xs with|x::xs=>(zWH l xs q).bind fun r=>kq.dec h x r|[]=>none
theorem zCd:∀{l:List kq} {xs:List (zT T)} {r:List Tg} {q:yH T r} {w:yH T (zZf l r)},zWH l xs q=some w→zUP l w=(xs,q)
 |[],[],_,_,_,e=>by cases e;rfl
 |[],_ ::_,_,_,_,e=>by cases e
 |_ ::_,[],_,_,_,e=>by cases e
 |h::l,x::xs,r,q,w,e=>by
  obtain⟨r1,e1,e2⟩:=Option.bind_eq_some_iff.1 (show(zWH l xs q).bind (fun r=>kq.dec h x r)=some w from e);refine(congrArg (fun p=>(fun q=>(p.1::q.1,q.2)) (zUP l p.2)) (kq.zDD e2)).trans ?_;exact congrArg (fun q=>(x::q.1,q.2)) (zCd e1)
def zdU:List (Nat×Sh)→List Tg→List Tg
 |[],r=>r
 |(_,h)::l,r=>h.jI (zdU l r)
def zRi:(l:List (Nat×Sh))→{r:List Tg}→yH T (zdU l r)→List (Nat×AV T)×yH T r
 |[],_,x=>([],x)
 |(t,h)::l,_,x=>(fun p=>(fun q=>((t,p.1)::q.1,q.2)) (zRi l p.2)) (Sh.enc h x)
def zhm(env:Env T):(l:List (Nat×Sh))→{r:List Tg}→yH T r→Option (yH T (zdU l r))
 |[],_,q=>some q
 |(t,h)::l,_,q=>(zhm env l q).bind fun r=>Sh.dec h (env t) r
theorem zVa{env:Env T}:∀{l:List (Nat×Sh)} {r:List Tg} {q:yH T r} {w:yH T (zdU l r)},zhm env l q=some w→(∀p∈(zRi l w).1,p.2=env p.1)∧(zRi l w).2=q
 |[],_,_,_,e=>by cases e;exact⟨fun p hp=>(by cases hp),rfl⟩
 |(t,h)::l,r,q,w,e=>by
  obtain⟨r1,e1,e2⟩:=Option.bind_eq_some_iff.1 (show(zhm env l q).bind (fun r=>Sh.dec h (env t) r)=some w from e);have k:=(congrArg (fun p=>(fun q:List (Nat×AV T)×yH T r=>((t,p.1)::q.1,q.2)) (zRi l p.2)) (Sh.zDD e2))
  have k':zRi ((t,h)::l) w=((t,env t)::(zRi l r1).1,(zRi l r1).2):=k;rw [k'];obtain⟨h1,h2⟩:=zVa e1;refine⟨fun p hp=> ?_,h2⟩;rcases List.mem_cons.1 hp with rfl|hp
  ·rfl
  ·exact h1 p hp
def zfQ:List (Nat×List Sh×List Sh)→List Tg→List Tg
 |[],r=>r
 |(_,a,b)::l,r=>Sh.zET a (Sh.zET b (zfQ l r))
def zcF:(l:List (Nat×List Sh×List Sh))→{r:List Tg}→yH T (zfQ l r)→Ds T×yH T r
 |[],_,x=>([],x)
 |(f,a,b)::l,_,x=>(fun p=>(fun q=>(fun u=>((Fn.func f,p.1,q.1)::u.1,u.2)) (zcF l q.2)) (Sh.pJ b p.2)) (Sh.pJ a x)
def zhZ:(l:List (Nat×List Sh×List Sh))→Ds T→{r:List Tg}→yH T r→Option (yH T (zfQ l r))
 |[],xs,_,q=>match xs with|[]=>some q|_ =>none
 |(f,a,b)::l,xs,_,q=>match xs with
  |(.func g,x,y)::xs=>bif Nat.beq g f then(zhZ l xs q).bind fun r=>(Sh.dp b y r).bind fun r=>Sh.dp a x r else none
  |_ =>none
theorem zVy:∀{l:List (Nat×List Sh×List Sh)} {xs:Ds T} {r:List Tg} {q:yH T r} {w:yH T (zfQ l r)},zhZ l xs q=some w→zcF l w=(xs,q)
 |[],[],_,_,_,e=>by cases e;rfl
 |[],_ ::_,_,_,_,e=>by cases e
 |(_,_,_)::_,[],_,_,_,e=>by cases e
 |(f,a,b)::l,(g,x,y)::xs,r,q,w,e=>by
  cases g with
  |func g=>
   replace e:(bif Nat.beq g f then(zhZ l xs q).bind fun r=>(Sh.dp b y r).bind fun r=>Sh.dp a x r else none)=some w:=e;cases hb:Nat.beq g f
   ·rw [hb]at e;cases e
   ·rw [hb]at e
    have:=Nat.eq_of_beq_eq_true hb;subst this;obtain⟨r1,e1,e2⟩:=Option.bind_eq_some_iff.1 e;obtain⟨r2,e3,e4⟩:=Option.bind_eq_some_iff.1 e2;refine(congrArg (fun p=>(fun q=>(fun u=>((Fn.func g,p.1,q.1)::u.1,u.2)) (zcF l q.2)) (Sh.pJ b p.2)) (Sh.zFn e4)).trans ?_;refine(congrArg (fun q=>(fun u=>((Fn.func g,x,q.1)::u.1,u.2)) (zcF l q.2)) (Sh.zFn e3)).trans ?_;exact congrArg (fun u=>((Fn.func g,x,y)::u.1,u.2)) (zVy e1)
  |_ =>exact nomatch (show none=some w from e)
structure SS where
 sl:List (Nat×Sh)
 ob:List kq
 ds:List (Nat×List Sh×List Sh)
def SS.jI(s:SS):List Tg:=zdU s.sl (zZf s.ob (zfQ s.ds []))
def SS.dec(s:SS)(env:Env T)(H:List (zT T))(ds:Ds T):Option (yH T s.jI):=
 (zhZ s.ds ds (r:=[]) ()).bind fun r=>(zWH s.ob H r).bind fun r=>zhm env s.sl r
def SS.slV(s:SS)(x:yH T s.jI):List (Nat×AV T):=(zRi s.sl x).1
def SS.obV(s:SS)(x:yH T s.jI):List (zT T):=(zUP s.ob (zRi s.sl x).2).1
def SS.dsV(s:SS)(x:yH T s.jI):Ds T:=(zcF s.ds (zUP s.ob (zRi s.sl x).2).2).1
theorem SS.zDW{s:SS}{env:Env T}{H:List (zT T)}{ds:Ds T}{x:yH T s.jI}(e:s.dec env H ds=some x):(∀q∈s.slV x,q.2=env q.1)∧H=s.obV x∧ds=s.dsV x:=by
 unfold SS.dec at e;obtain⟨r1,e1,e⟩:=Option.bind_eq_some_iff.1 e;obtain⟨r2,e2,e3⟩:=Option.bind_eq_some_iff.1 e;obtain⟨h1,h2⟩:=zVa e3;refine⟨h1, ?_, ?_⟩
 ·show H=(zUP s.ob (zRi s.sl x).2).1
  rw [h2,zCd e2]
 ·show ds=(zcF s.ds (zUP s.ob (zRi s.sl x).2).2).1
  rw [h2,zCd e2,zVy e1]
def ssT(T:Nat→Type):List SS→Type
 |[]=>Empty
 |[a]=>yH T a.jI
 |a::b::l=>yH T a.jI⊕ssT T (b::l)
def ssD(env:Env T)(H:List (zT T))(ds:Ds T):(l:List SS)→Option (ssT T l)
 |[]=>none
 |[a]=>a.dec env H ds
 |a::b::l=>match a.dec env H ds with
  |some x=>some (.inl x)
  |none=>(ssD env H ds (b::l)).map .inr
def ssF{α:Type}(f:(s:SS)→yH T s.jI→α):(l:List SS)→ssT T l→α
 |[],x=>x.elim
 |[a],x=>f a x
 |a::b::l,x=>match x with
  | .inl x=>f a x
  | .inr x=>ssF f (b::l) x
theorem zdZ{env:Env T}{H:List (zT T)}{ds:Ds T}:∀{l:List SS} {x:ssT T l},ssD env H ds l=some x→(∀q∈ssF SS.slV l x,q.2=env q.1)∧H=ssF SS.obV l x∧ds=ssF SS.dsV l x
 |[],_,e=>by cases e
 |[a],x,e=>SS.zDW e
 |a::b::l,x,e=>by
  simp only [ssD]at e;split at e
  ·rename_i y hy;cases e;exact SS.zDW hy
  ·obtain⟨y,hy,e⟩:=Option.map_eq_some_iff.1 e
   subst e;exact zdZ (l:=b::l) hy
inductive ShX
 |normal|exit (i:Nat)|ret|vU (h:Sh)
def ShX.jI:ShX→List Tg→List Tg
 | .vU h,r=>h.jI r
 | .normal,r=>r
 | .exit _,r=>r
 | .ret,r=>r
def ShX.enc:(h:ShX)→{r:List Tg}→yH T (h.jI r)→Ex T×yH T r
 | .normal,_,x=>(.normal,x)
 | .exit i,_,x=>(.exit i,x)
 | .ret,_,x=>(.ret,x)
 | .vU h,_,x=>(fun p=>(.vU p.1,p.2)) (Sh.enc h x)
def ShX.dec(h:ShX)(x:Ex T){r:List Tg}(q:yH T r):Option (yH T (h.jI r)):=
 match h with
 | .normal=>match x with| .normal=>some q|_ =>none
 | .exit i=>match x with| .exit j=>ok1 (Nat.beq j i) q|_ =>none
 | .ret=>match x with| .ret=>some q|_ =>none
 | .vU h=>match x with| .vU p=>Sh.dec h p q|_ =>none
theorem ShX.zDD{h:ShX}{x:Ex T}{r:List Tg}{q:yH T r}{w:yH T (h.jI r)}(e:ShX.dec h x q=some w):ShX.enc h w=(x,q):=by
 cases h with
 |normal=>cases x<;>first|(cases(show some q=some w from e);rfl)|exact nomatch (show none=some w from e)
 |ret=>cases x<;>first|(cases(show some q=some w from e);rfl)|exact nomatch (show none=some w from e)
 |exit i=>
  cases x with
  |exit j=>
   obtain⟨e1,e2⟩:=jG (show ok1 (Nat.beq j i) q=some w from e);subst e2;have:=Nat.eq_of_beq_eq_true e1;subst this;rfl
  |_ =>exact nomatch (show none=some w from e)
 |vU h=>
  cases x with
  |vU p=>exact congrArg (fun p=>(Ex.vU p.1,p.2)) (Sh.zDD (show Sh.dec h p q=some w from e))
  |_ =>exact nomatch (show none=some w from e)
structure ES where
 ex:ShX
 st:SS
def ES.jI(s:ES):List Tg:=s.ex.jI s.st.jI
def ES.dec(s:ES)(x:Ex T)(env:Env T)(H:List (zT T))(ds:Ds T):Option (yH T s.jI):=(s.st.dec env H ds).bind fun r=>ShX.dec s.ex x r
def ES.exV(s:ES)(x:yH T s.jI):Ex T:=(ShX.enc s.ex x).1
def ES.rest(s:ES)(x:yH T s.jI):yH T s.st.jI:=(ShX.enc s.ex x).2
def esT(T:Nat→Type):List ES→Type
 |[]=>Empty
 |[a]=>yH T a.jI
 |a::b::l=>yH T a.jI⊕esT T (b::l)
def esD(x:Ex T)(env:Env T)(H:List (zT T))(ds:Ds T):(l:List ES)→Option (esT T l)
 |[]=>none
 |[a]=>a.dec x env H ds
 |a::b::l=>match a.dec x env H ds with
  |some x=>some (.inl x)
  |none=>(esD x env H ds (b::l)).map .inr
def esF{α:Type}(f:(s:ES)→yH T s.jI→α):(l:List ES)→esT T l→α
 |[],x=>x.elim
 |[a],x=>f a x
 |a::b::l,x=>match x with
  | .inl x=>f a x
  | .inr x=>esF f (b::l) x
def esG{R:Type}(k:Ex T→List (Nat×AV T)→List (zT T)→Ds T→Option R):(l:List ES)→esT T l→Option R
 |[],x=>x.elim
 |[a],x=>k (a.exV x) (a.st.slV (a.rest x)) (a.st.obV (a.rest x)) (a.st.dsV (a.rest x))
 |a::b::l,x=>match x with
  | .inl x=>k (a.exV x) (a.st.slV (a.rest x)) (a.st.obV (a.rest x)) (a.st.dsV (a.rest x))
  | .inr x=>esG k (b::l) x
theorem zd7{R:Type}(k:Ex T→List (Nat×AV T)→List (zT T)→Ds T→Option R):∀(l:List ES) (e:esT T l),esG k l e=k (esF ES.exV l e) (esF (fun s x=>s.st.slV (s.rest x)) l e) (esF (fun s x=>s.st.obV (s.rest x)) l e) (esF (fun s x=>s.st.dsV (s.rest x)) l e)
 |[],e=>e.elim
 |[a],e=>rfl
 |a::b::l,.inl x=>rfl
 |a::b::l,.inr x=>zd7 k (b::l) x
theorem ES.zDW{s:ES}{x:Ex T}{env:Env T}{H:List (zT T)}{ds:Ds T}{y:yH T s.jI}(e:s.dec x env H ds=some y):x=s.exV y∧(∀q∈s.st.slV (s.rest y),q.2=env q.1)∧H=s.st.obV (s.rest y)∧ds=s.st.dsV (s.rest y):=by
 unfold ES.dec at e;obtain⟨r,e1,e2⟩:=Option.bind_eq_some_iff.1 e;have k:=ShX.zDD e2;have k1:s.exV y=x:=congrArg Prod.fst k;have k2:s.rest y=r:=congrArg Prod.snd k;rw [k1,k2];exact⟨rfl,SS.zDW e1⟩
theorem zen{x:Ex T}{env:Env T}{H:List (zT T)}{ds:Ds T}:∀{l:List ES} {y:esT T l},esD x env H ds l=some y→
  x=esF ES.exV l y∧(∀q∈esF (fun s x=>s.st.slV (s.rest x)) l y,q.2=env q.1)∧H=esF (fun s x=>s.st.obV (s.rest x)) l y∧ds=esF (fun s x=>s.st.dsV (s.rest x)) l y
 |[],_,e=>by cases e
 |[a],y,e=>ES.zDW e
 |a::b::l,y,e=>by
  simp only [esD]at e;split at e
  ·rename_i z hz;cases e;exact ES.zDW hz
  ·obtain⟨z,hz,e⟩:=Option.map_eq_some_iff.1 e
   subst e;exact zen (l:=b::l) hz
def yi(ss:List SS)(es:List ES):Piece T (ssT T ss) (esT T es) where
 dcS env H ds:=ssD env H ds ss
 slS:=ssF SS.slV ss
 obS:=ssF SS.obV ss
 dsS:=ssF SS.dsV ss
 dcE x env H ds:=esD x env H ds es
 exE:=esF ES.exV es
 slE:=esF (fun s x=>s.st.slV (s.rest x)) es
 obE:=esF (fun s x=>s.st.obV (s.rest x)) es
 dsE:=esF (fun s x=>s.st.dsV (s.rest x)) es
 goE:=fun _ e k=>esG k es e
theorem zQ(ss:List SS)(es:List ES):zN (T:=T) (yi ss es):=
 ⟨fun _ _ _ _ h=>zdZ h,fun _ _ _ _ _ h=>zen h,fun _ e k=>zd7 k es e⟩
structure OS where
 vU:Bool
 v:Sh
 ob:List kq
def OS.jI(s:OS):List Tg:=s.v.jI (zZf s.ob [])
def znr(vU:Bool)(x:AV T)(H:List (zT T)):Out T:=bif vU then .panic x H else .ret x H
def OS.dec(s:OS)(o:Out T):Option (yH T s.jI):=
 match o with
 | .ret x H=>bif s.vU then none else(zWH s.ob H (r:=[]) ()).bind fun r=>Sh.dec s.v x r
 | .panic x H=>bif s.vU then(zWH s.ob H (r:=[]) ()).bind fun r=>Sh.dec s.v x r else none
def OS.out(s:OS)(x:yH T s.jI):Out T:=znr s.vU (Sh.enc s.v x).1 (zUP s.ob (Sh.enc s.v x).2).1
theorem OS.zDW{s:OS}{o:Out T}{y:yH T s.jI}(e:s.dec o=some y):o=s.out y:=by
 have key:∀{x:AV T} {H:List (zT T)},((zWH s.ob H (r:=[]) ()).bind fun r=>Sh.dec s.v x r)=some y→(Sh.enc s.v y).1=x∧(zUP s.ob (Sh.enc s.v y).2).1=H:=by
  intro x H h;obtain⟨r,e1,e2⟩:=Option.bind_eq_some_iff.1 h;have k:=Sh.zDD e2;rw [k];exact⟨rfl,congrArg Prod.fst (zCd e1)⟩
 unfold OS.dec at e;unfold OS.out znr;cases o with
 |ret x H=>
  simp only at e;cases hp:s.vU
  ·rw [hp]at e
   obtain⟨h1,h2⟩:=key e;rw [h1,h2];rfl
  ·rw [hp]at e;cases e
 |panic x H=>
  simp only at e;cases hp:s.vU
  ·rw [hp]at e;cases e
  ·rw [hp]at e
   obtain⟨h1,h2⟩:=key e;rw [h1,h2];rfl
def osT(T:Nat→Type):List OS→Type
 |[]=>Empty
 |[a]=>yH T a.jI
 |a::b::l=>yH T a.jI⊕osT T (b::l)
def osD(o:Out T):(l:List OS)→Option (osT T l)
 |[]=>none
 |[a]=>a.dec o
 |a::b::l=>match a.dec o with
  |some x=>some (.inl x)
  |none=>(osD o (b::l)).map .inr
def osF:(l:List OS)→osT T l→Out T
 |[],x=>x.elim
 |[a],x=>a.out x
 |a::b::l,x=>match x with
  | .inl x=>a.out x
  | .inr x=>osF (b::l) x
def osG{R:Type}(k:Out T→Option R):(l:List OS)→osT T l→Option R
 |[],x=>x.elim
 |[a],x=>k (a.out x)
 |a::b::l,x=>match x with
  | .inl x=>k (a.out x)
  | .inr x=>osG k (b::l) x
theorem zdC{R:Type}(k:Out T→Option R):∀(l:List OS) (e:osT T l),osG k l e=k (osF l e)
 |[],e=>e.elim
 |[a],e=>rfl
 |a::b::l,.inl x=>rfl
 |a::b::l,.inr x=>zdC k (b::l) x
theorem zfC{o:Out T}:∀{l:List OS} {y:osT T l},osD o l=some y→o=osF l y
 |[],_,e=>by cases e
 |[a],y,e=>OS.zDW e
 |a::b::l,y,e=>by
  simp only [osD]at e;split at e
  ·rename_i z hz;cases e;exact OS.zDW hz
  ·obtain⟨z,hz,e⟩:=Option.map_eq_some_iff.1 e
   subst e;exact zfC (l:=b::l) hz
def vB(as:List Sh)(ob:List kq)(os:List OS):Spec T (yH T (Sh.zET as (zZf ob []))) (osT T os) where
 dcI a H:=(zWH ob H (r:=[]) ()).bind fun r=>Sh.dp as a r
 ecA i:=(Sh.pJ as i).1
 ecH i:=(zUP ob (Sh.pJ as i).2).1
 dcO o:=osD o os
 ecO x:=osF os x
 goO:=fun _ x k=>osG k os x
theorem zw(as:List Sh)(ob:List kq)(os:List OS):zo (T:=T) (vB as ob os):=
 ⟨fun a H i h=>by
  obtain⟨r,e1,e2⟩:=Option.bind_eq_some_iff.1 (show((zWH ob H (r:=[]) ()).bind fun r=>Sh.dp as a r)=some i from h);have k:=Sh.zFn e2
  show a=(Sh.pJ as i).1∧H=(zUP ob (Sh.pJ as i).2).1;rw [k];exact⟨rfl,(congrArg Prod.fst (zCd e1)).symm⟩,fun _ _ h=>zfC h,fun _ x k=>zdC k os x⟩
end Go.Proofs.YtdoifigogbdodaaGreatDoor.Ev
namespace Go.Proofs.YtdoifigogbdodaaGreatDoor.Ev
def zmY(T:Nat→Type):List Tg→Type→Type
 |[],R=>R
 |a::l,R=>a.Ty T→zmY T l R
def cur{T:Nat→Type}{R:Type}:(l:List Tg)→zmY T l R→yH T l→R
 |[],f,_ =>f
 |a::l,f,x=>cur l (f (hdT x)) (tlT x)
end Go.Proofs.YtdoifigogbdodaaGreatDoor.Ev

namespace Go.Proofs.YtdoifigogbdodaaGreatDoor.Ev
open Go
variable {T:Nat→Type} {C:wB T} {P:Program} {σ:Lk} {H:List (zT T)} {w:World} {G:Nat→Option (List (V T))} {R:Type}
def zSO(e:Nat):List Nat→AV T→List (zT T)→Option (AV T×List (zT T))
 |[],.own o,H=>match H[o]? with
  |some (.row t l _)=>some (.v (.sl t l),zDN o H)
  |_ =>none
 |[],.qG,H=>some (.v (.sl e []),H)
 |[],.z0,H=>some (.v (.sl e []),H)
 |[],.v .nl,H=>some (.v (.sl e []),H)
 |i::p,.agg l,H=>match l[i]? with
  |some x=>match zSO e p x H with
   |some r=>some (.agg (l.set i r.1),r.2)
   |none=>none
  |none=>none
 |i::p,.qu l,H=>match l[i]? with
  |some x=>match zSO e p x H with
   |some r=>some (.qu (l.set i r.1),r.2)
   |none=>none
  |none=>none
 |_,_,_ =>none
theorem zSe(hC:yj C)(hR:Rp C σ H w G){e:Nat}:∀(p:List Nat) (x:AV T) (y:Value) (r:AV T×List (zT T)),zSO e p x H=some r→zr C σ H w x y→Step C G [] σ H w σ r.2 w∧zr C σ r.2 w r.1 y∧r.2.length=H.length
 |[],.own o,y,r,h,hx=>by
  simp only [zSO]at h;split at h
  ·rename_i t c m ho
   cases h;rw [zSi ho];have hst:=zFi hR ho;exact⟨hst,zWt hC hst.rp (zNX ho) (hst.zZx hx),by simp⟩
  ·cases h
 |[],.qG,y,r,h,hA=>by
  cases h;exact⟨Step.refl hR,by rw [show y=_ from hA];exact .sl0 e none 0,rfl⟩
 |[],.z0,y,r,h,⟨A,hA⟩=>by
  cases h;exact⟨Step.refl hR,by rw [hA];exact .sl0 e A 0,rfl⟩
 |[],.v .nl,y,r,h,hx=>by
  cases h;refine⟨Step.refl hR, ?_,rfl⟩;have hx':qI C (Cell C σ H w) .nl y:=hx;cases hx' with
  |nl A c=>exact .sl0 e A c
 |i::p,.agg l,y,r,h,⟨vs,h1,h2⟩=>by
  simp only [zSO]at h;split at h
  ·rename_i z hz
   split at h
   ·rename_i q hq
    cases h;obtain⟨y',k1,k2⟩:=h2.get i z hz;obtain⟨s1,s2,s3⟩:=zSe hC hR p z y' q hq k2;exact⟨s1,⟨vs,h1,(h2.gV s1.move).set fun y hy=>by rw [k1]at hy;cases hy;exact s2⟩,s3⟩
   ·cases h
  ·cases h
 |i::p,.qu l,y,r,h,⟨vs,h1,h2⟩=>by
  simp only [zSO]at h;split at h
  ·rename_i z hz
   split at h
   ·rename_i q hq
    cases h;obtain⟨y',k1,k2⟩:=h2.get i z hz;obtain⟨s1,s2,s3⟩:=zSe hC hR p z y' q hq k2;exact⟨s1,⟨vs,h1,(h2.gV s1.move).set fun y hy=>by rw [k1]at hy;cases hy;exact s2⟩,s3⟩
   ·cases h
  ·cases h
 |[],.v (.b _),_,_,h,_ |[],.v (.i _ _),_,_,h,_ |[],.v (.s _),_,_,h,_ |[],.v (.sl _ _),_,_,h,_ |[],.v .pn,_,_,h,_ |[],.v .fn0,_,_,h,_ |[],.v .if0,_,_,h,_ |[],.v .ifx,_,_,h,_ =>by cases h
 |[],.any,_,_,h,_ |[],.agg _,_,_,h,_ |[],.qu _,_,_,h,_ |[],.ptr _ _,_,_,h,_ |[],.wu _ _ _,_,_,h,_ |[],.wU _ _ _,_,_,h,_
 |[],.vA _ _,_,_,h,_ |[],.sp _,_,_,h,_ |[],.yB _ _ _ _,_,_,h,_ |[],.fn _ _ _,_,_,h,_ |[],.q9 _ _,_,_,h,_ =>by cases h
 |_ ::_,.z0,_,_,h,_ |_ ::_,.any,_,_,h,_ |_ ::_,.v _,_,_,h,_ |_ ::_,.ptr _ _,_,_,h,_ |_ ::_,.wu _ _ _,_,_,h,_ |_ ::_,.wU _ _ _,_,_,h,_
 |_ ::_,.vA _ _,_,_,h,_ |_ ::_,.sp _,_,_,h,_ |_ ::_,.own _,_,_,h,_ |_ ::_,.yB _ _ _ _,_,_,h,_ |_ ::_,.fn _ _ _,_,_,h,_ |_ ::_,.q9 _ _,_,_,h,_ |_ ::_,.qG,_,_,h,_ =>by cases h
def slS(t:Nat)(p:List Nat)(e:Nat):zp T:=fun env H ds=>
 match zSO e p (env t) H with
 |some r=>(kT env t r.1,r.2,ds)
 |none=>(env,H,ds)
theorem zTo(hC:yj C){nB t:Nat}{p:List Nat}{e:Nat}:ze C G nB (slS t p e):=by
 intro B σ env H ds val dl w hB h;unfold slS;split
 ·rename_i r hr
  obtain⟨s1,s2,s3⟩:=zSe hC h.rp p (env t) (val t) r hr (h.env t);have h':=h.step s1;refine⟨_,h'.rp,h'.anc,fun u=> ?_,h'.ds⟩
  show zr C _ _ w (kT env t r.1 u) _;unfold kT;cases hu:Nat.beq u t
  ·exact h'.env u
  ·have:=Nat.eq_of_beq_eq_true hu
   subst this;exact s2
 ·exact⟨σ,h⟩
theorem Sv.cells{B:jS T}{env:Env T}{ds:Ds T}{val:Nat→Value}{dl:List Deferred}(h:Sv C G B σ env H ds val dl w){o:Nat}{l l':List (AV T)}{e:Nat}{g:Option Nat}(ho:H[o]? =some (.cells e g l))(hll:l'.length=l.length)
  (hl:∀cs,yW C σ H w l cs→yW C σ H w l' cs):∃σ',Sv C G B σ' env (H.set o (.cells e g l')) ds val dl w:=by
 refine⟨_,h.step (ug h.rp w ho rfl (by cases g<;>rfl) rfl rfl rfl (Nat.le_refl _) (fun b _ _ =>rfl) (fun off hf=>hf) (fun b off _ _ =>rfl) (fun n2 s2 hx=> ?_) fun M=> ?_)⟩
 ·refine⟨?_,fun b _ cs e fz hc=>⟨cs,e,fz,hc,rfl⟩⟩
  cases hx
 ·obtain⟨b,cs,ys,rest,h1,h2,h3,h4,hmk⟩:=(h.rp.obj o _ ho).cellsD
  exact hmk _ _ _ cs ys l' h1 h2 h3 rfl hll ((hl _ h4).gV M)
def zYI(o j:Nat)(p:List Nat)(e:Nat):zp T:=fun env H ds=>
 match H[o]? with
 |some (.cells te g l)=>match l[j]? with
  |some x=>match zLb H.length p x with
   |some y=>(env,(H++[zT.row e [] true]).set o (.cells te g (l.set j y)),ds)
   |none=>(env,H,ds)
  |none=>(env,H,ds)
 |_ =>(env,H,ds)
theorem zTD{nB o j:Nat}{p:List Nat}{e:Nat}:ze C G nB (zYI o j p e):=by
 intro B σ env H ds val dl w hB h;unfold zYI;split
 ·rename_i te g l ho
  split
  ·rename_i x hx
   split
   ·rename_i y hy
    have h':=h.step (zXN h.rp e);refine h'.cells (o:=o) (l:=l) ?_ (by simp) fun cs hcs=>hcs.set fun z hz=> ?_
    ·rw [List.getElem?_append_left (List.getElem?_eq_some_iff.1 ho).1];exact ho
    ·obtain⟨z',k1,k2⟩:=hcs.get j x hx
     rw [hz]at k1;cases k1;exact zDM (by simp) (fun q s hr=>by simp [add]) p _ y _ hy k2
   ·exact⟨σ,h⟩
  ·exact⟨σ,h⟩
 ·exact⟨σ,h⟩
def slC(o j:Nat)(p:List Nat)(e:Nat):zp T:=fun env H ds=>
 match H[o]? with
 |some (.cells te g l)=>match l[j]? with
  |some x=>match zSO e p x H with
   |some r=>(env,r.2.set o (.cells te g (l.set j r.1)),ds)
   |none=>(env,H,ds)
  |none=>(env,H,ds)
 |_ =>(env,H,ds)
theorem zaF{o q e:Nat}{g:Option Nat}{l:List (AV T)}(h:H[o]? =some (.cells e g l)):(zDN q H)[o]? =some (.cells e g l):=by
 unfold zDN;split
 ·rename_i t c m hq
  rw [List.getElem?_set];by_cases hqo:q=o
  ·subst hqo;rw [h]at hq;cases hq
  ·rw [if_neg hqo];exact h
 ·exact h
theorem zKm{e te:Nat}{g:Option Nat}:∀(p:List Nat) (x:AV T) (r:AV T×List (zT T)) (o:Nat) (l:List (AV T)),zSO e p x H=some r→H[o]? =some (.cells te g l)→r.2[o]? =some (.cells te g l)
 |[],.own q,r,o,l,h,ho=>by
  simp only [zSO]at h;split at h
  ·cases h;exact zaF ho
  ·cases h
 |[],.qG,r,o,l,h,ho=>by cases h;exact ho
 |[],.z0,r,o,l,h,ho=>by cases h;exact ho
 |[],.v .nl,r,o,l,h,ho=>by cases h;exact ho
 |i::p,.agg m,r,o,l,h,ho=>by
  simp only [zSO]at h;split at h
  ·split at h
   ·rename_i q hq;cases h;exact zKm p _ q o l hq ho
   ·cases h
  ·cases h
 |i::p,.qu m,r,o,l,h,ho=>by
  simp only [zSO]at h;split at h
  ·split at h
   ·rename_i q hq;cases h;exact zKm p _ q o l hq ho
   ·cases h
  ·cases h
 |[],.v (.b _),_,_,_,h,_ |[],.v (.i _ _),_,_,_,h,_ |[],.v (.s _),_,_,_,h,_ |[],.v (.sl _ _),_,_,_,h,_ |[],.v .pn,_,_,_,h,_ |[],.v .fn0,_,_,_,h,_ |[],.v .if0,_,_,_,h,_ |[],.v .ifx,_,_,_,h,_ =>by cases h
 |[],.any,_,_,_,h,_ |[],.agg _,_,_,_,h,_ |[],.qu _,_,_,_,h,_ |[],.ptr _ _,_,_,_,h,_ |[],.wu _ _ _,_,_,_,h,_ |[],.wU _ _ _,_,_,_,h,_
 |[],.vA _ _,_,_,_,h,_ |[],.sp _,_,_,_,h,_ |[],.yB _ _ _ _,_,_,_,h,_ |[],.fn _ _ _,_,_,_,h,_ |[],.q9 _ _,_,_,_,h,_ =>by cases h
 |_ ::_,.z0,_,_,_,h,_ |_ ::_,.any,_,_,_,h,_ |_ ::_,.v _,_,_,_,h,_ |_ ::_,.ptr _ _,_,_,_,h,_ |_ ::_,.wu _ _ _,_,_,_,h,_ |_ ::_,.wU _ _ _,_,_,_,h,_
 |_ ::_,.vA _ _,_,_,_,h,_ |_ ::_,.sp _,_,_,_,h,_ |_ ::_,.own _,_,_,_,h,_ |_ ::_,.yB _ _ _ _,_,_,_,h,_ |_ ::_,.fn _ _ _,_,_,_,h,_ |_ ::_,.q9 _ _,_,_,_,h,_ |_ ::_,.qG,_,_,_,h,_ =>by cases h
theorem xV(hC:yj C){nB o j:Nat}{p:List Nat}{e:Nat}:ze C G nB (slC o j p e):=by
 intro B σ env H ds val dl w hB h;unfold slC;split
 ·rename_i te g l ho
  split
  ·rename_i x hx
   split
   ·rename_i r hr
    obtain⟨b,cs,ys,rest,h1,h2,h3,h4,_⟩:=(h.rp.obj o _ ho).cellsD;obtain⟨z',k1,k2⟩:=h4.get j x hx;obtain⟨s1,s2,s3⟩:=zSe hC h.rp p x z' r hr k2;have h':=h.step s1;have hrc:=zKm p x r o l hr ho;refine⟨_,h'.step (ug h'.rp w hrc rfl (by cases g<;>rfl) rfl rfl rfl (Nat.le_refl _) (fun b _ _ =>rfl) (fun off hf=>hf) (fun b off _ _ =>rfl) (fun n2 s2 hx=> ?_) fun M=> ?_)⟩
    ·refine⟨?_,fun b _ cs e fz hc=>⟨cs,e,fz,hc,rfl⟩⟩
     cases hx
    ·obtain⟨b',cs',ys',rest',q1,q2,q3,q4,hmk⟩:=(h'.rp.obj o _ hrc).cellsD
     rw [h1]at q1;cases q1;rw [h2]at q2;cases q2;have hlen:ys'.length=ys.length:=by rw [q4.length,h4.length]
     have hys:ys'=ys:=by
      have:=h3.symm.trans q3;exact(List.append_inj this hlen.symm).1.symm
     subst hys;exact hmk _ _ _ cs ys' _ h1 h2 q3 rfl (by simp) ((q4.set fun z hz=>by rw [k1]at hz;cases hz;exact s2).gV M)
   ·exact⟨σ,h⟩
  ·exact⟨σ,h⟩
 ·exact⟨σ,h⟩
def exN:List (Nat×zp T)→Nat→zp T
 |[],_ =>idN
 |(j,N)::l,i=>bif Nat.beq i j then N else exN l i
def xN(N:zp T)(es:List (Nat×zp T))(R Pn:zp T):Ex T→zp T
 | .normal=>N
 | .exit i=>exN es i
 | .ret=>R
 | .vU _ =>Pn
theorem zeb{nB:Nat}:∀{es:List (Nat×zp T)},(∀p∈es,ze C G nB p.2)→∀i,ze C G nB (exN es i)
 |[],_,i=>zji
 |(j,N)::l,h,i=>by
  unfold exN;cases Nat.beq i j
  ·exact zeb (fun p hp=>h p (List.mem_cons_of_mem _ hp)) i
  ·exact h (j,N) (by simp)
theorem yK{nB:Nat}:∀p∈([]:List (Nat×zp T)),ze C G nB p.2:=fun p hp=>by cases hp
theorem yC{nB j:Nat}{N:zp T}{l:List (Nat×zp T)}(h:ze C G nB N)(hl:∀p∈l,ze C G nB p.2):∀p∈(j,N)::l,ze C G nB p.2:=fun p hp=>by
 rcases List.mem_cons.1 hp with rfl|hp
 ·exact h
 ·exact hl p hp
theorem ye{nB:Nat}{N R Pn:zp T}{es:List (Nat×zp T)}(hN:ze C G nB N)(hes:∀p∈es,ze C G nB p.2)(hR:ze C G nB R)(hP:ze C G nB Pn):∀x,ze C G nB (xN N es R Pn x)
 | .normal=>hN
 | .exit i=>zeb hes i
 | .ret=>hR
 | .vU _ =>hP
end Go.Proofs.YtdoifigogbdodaaGreatDoor.Ev
namespace Go.Proofs.YtdoifigogbdodaaGreatDoor.Ev
open Go
variable {T:Nat→Type} {C:wB T} {G:Nat→Option (List (V T))}
def qK.zeC(Γ:qK T)(g:Nat)(e:Entry T):qK T:=⟨fun h R args H k=>bif Nat.beq h g then e R args H k else Γ h R args H k,Γ.own⟩
theorem ql.zeC{P:Program}{Γ:qK T}(hΓ:ql P C G Γ){g:Nat}{e:Entry T}(he:wM P C G g e):ql P C G (Γ.zeC g e):=by
 intro h R args H k r hr;simp only [qK.zeC]at hr;cases hb:Nat.beq h g
 ·rw [hb]at hr;exact hΓ h R args H k r hr
 ·rw [hb]at hr
  have:=Nat.eq_of_beq_eq_true hb;subst this;exact he R args H k r hr
def zds:Entry T:=fun _ args H k=>match args with
 |[x]=>k (.ret x H)
 |_ =>none
theorem zeM{P:Program}{g:FuncId}{fn:Func}(hf:P.funcs[g]? =some fn)(hname:(fn.name=="runtime.NumGoroutine")=false)(hb:fn.body.isNone=true)(hn:Extern.findNext fn=none)(he:Extern.find fn=some Extern.AbiNoEscape.same):wM P C G g zds:=by
 intro R args H k r hr σ w vs hR ha;unfold zds at hr;split at hr
 ·rename_i x
  obtain⟨y,ys,h1,h2,h3⟩:=ha;have h3':ys=[]:=h3;subst h3';subst h1;refine .inr ⟨y,w, ?_,_,hr,y,σ,rfl,hR,Anc.refl C σ H w,h2⟩;rw [run_callFunc_extern hf hname hb hn he];rfl
 ·cases hr
end Go.Proofs.YtdoifigogbdodaaGreatDoor.Ev

namespace Go.Proofs.YtdoifigogbdodaaGreatDoor.Ev
open Go
variable {T:Nat→Type} {C:wB T} {P:Program} {σ:Lk} {H:List (zT T)} {w:World} {G:Nat→Option (List (V T))} {R:Type}
end Go.Proofs.YtdoifigogbdodaaGreatDoor.Ev
