import Derived.Test.YtdoifigogbdodaaGreatDoorEvOne
import Derived.Deep.Upon
import Derived.Laws.BytesString
import Derived.Lib.Builder
import Derived.Lib.UnsafeStr
import Derived.Laws.IdiomStrings
import Derived.ChangeKeysEq
set_option linter.unusedVariables false
set_option linter.unusedSimpArgs false
set_option maxHeartbeats 1000000
namespace Go.Proofs.YtdoifigogbdodaaGreatDoor.Ev
open Go
variable {T:Nat→Type} {C:Cdc T} {P:Program} {σ:Lk} {H:List (AObj T)} {w:World} {G:Nat→Option (List (V T))} {R:Type}
theorem lenA_good(hR:Rp C σ H w G){t:Nat}{ts:List Nat}{x:AV T}{y:Value}(hx:RepA C σ H w x y){ty:Nat}{args:Array Value}{at_ :Array Nat}(ha:args[0]? =some y)(hat:at_[0]? =some t)
  {K:Kont T R} {r:R} (h:lenA P t x H K=some r):
  GoodQ C σ H w (((do pure (.value (←Builtin.len_ at_ ty args)):Sem Next)).run P w) K r:=by
 unfold lenA at h;split at h
 ·rename_i s hu
  have:=rep_s hx;subst this;exact good_q h (by simp only [Builtin.len_,ha,hat,Sem.run_bind,run_underlying hu,Result.andThen_ok,Sem.run_pure];rfl) (mk_i _ _)
 ·rename_i e t' l hu
  obtain⟨A,c,rfl,_⟩:=repV_sl (show RepV C (Cell C σ H w) _ _ from hx);exact good_q h (by simp only [Builtin.len_,ha,hat,Sem.run_bind,run_underlying hu,Result.andThen_ok,Sem.run_pure];rfl) (mk_i _ _)
 ·rename_i e o hu
  split at h
  ·rename_i t' l m ho
   obtain⟨_,⟨A,n,c,rfl⟩,h1⟩:=hx;have hn:n=l.length:=by
    rcases h1 _ _ (svH_row ho)with⟨h2,h3⟩|⟨b,c',cs,ee,fz,h2,h3,h4,h5⟩
    ·cases h3
     rcases hR.obj o _ ho with⟨rfl,_⟩|⟨b,_,_,_,hb2,_⟩
     ·rfl
     ·rw [h2]at hb2;cases hb2
    ·cases h3;rfl
   subst hn;exact good_q h (by simp only [Builtin.len_,ha,hat,Sem.run_bind,run_underlying hu,Result.andThen_ok,Sem.run_pure];rfl) (mk_i _ _)
  ·cases h
 ·rename_i e o off n c hu
  obtain⟨_,b,_,_,rfl,_⟩:=hx;exact good_q h (by simp only [Builtin.len_,ha,hat,Sem.run_bind,run_underlying hu,Result.andThen_ok,Sem.run_pure];rfl) (mk_i _ _)
 ·rename_i e hu
  cases(show y=_ from hx);exact good_q h (by simp only [Builtin.len_,ha,hat,Sem.run_bind,run_underlying hu,Result.andThen_ok,Sem.run_pure];rfl) (mk_i _ _)
 ·rename_i e hu
  obtain⟨A,rfl⟩:=hx;exact good_q h (by simp only [Builtin.len_,ha,hat,Sem.run_bind,run_underlying hu,Result.andThen_ok,Sem.run_pure];rfl) (mk_i _ _)
 ·rename_i e hu
  cases(show RepV C (Cell C σ H w) _ _ from hx);exact good_q h (by simp only [Builtin.len_,ha,hat,Sem.run_bind,run_underlying hu,Result.andThen_ok,Sem.run_pure];rfl) (mk_i _ _)
 ·rename_i n e hu
  refine good_q h ?_ (mk_i _ _);simp only [Builtin.len_,ha,hat,Sem.run_bind,run_underlying hu,Result.andThen_ok];cases y<;>rfl
 ·cases h
theorem loadCells_rows{A:Addr}{ys:List Value}{n:Nat}(hn:ys.length=n)(h:∀(j:Nat) (v:Value),ys[j]? =some v→w.cell? (A.add j)=some v):(loadCells A n).run P w= .ok ys.toArray w:=by
 subst hn;exact run_loadCells_list w A ys h
theorem sl_rows(hC:CdcOk C){e:Nat}{c:List (T e)}{y:Value}(h:RepV C (Cell C σ H w) (.sl e c) y):
  ∃A cap ys,y= .slice A c.length cap∧Rows C (Cell C σ H w) e c ys∧(c=[]∨∃b off,A=some ⟨b,off,none⟩∧∀(j:Nat) (v:Value),ys[j]? =some v→w.cell? ⟨b,off+j,none⟩=some v):=by
 obtain⟨A,cap,rfl,h1,h2⟩:=repV_sl h;rcases h2 with rfl|⟨b,off,rfl,h3⟩
 ·exact⟨A,cap,[],rfl,Rows.nil _ _,.inl rfl⟩
 ·refine⟨_,cap,(List.range (c.length*C.size e)).map fun j=>(w.cell? ⟨b,off+j,none⟩).getD undef,rfl,⟨by simp,fun i hi k v hv=> ?_⟩,.inr ⟨b,off,rfl,fun j v hj=> ?_⟩⟩
  ·have hk:=enc_lt hC hv
   obtain⟨u,h4,h5⟩:=h3 i hi k v hv;refine⟨u, ?_,h5⟩;rw [List.getElem?_map,List.getElem?_range (idx_lt hi hk)];simp only [Option.map_some,←Nat.add_assoc,h4.2,Option.getD_some]
  ·rw [List.getElem?_map]at hj
   have hlt:j<c.length*C.size e:=by
    rcases Nat.lt_or_ge j (c.length*C.size e)with h|h
    ·exact h
    ·rw [List.getElem?_eq_none (by simpa using h)]at hj;cases hj
   rw [List.getElem?_range hlt]at hj;simp only [Option.map_some,Option.some.injEq]at hj;have hs:=hC.pos e;have hi:j/C.size e<c.length:=(Nat.div_lt_iff_lt_mul hs).2 hlt;have hk:j%C.size e<C.size e:=Nat.mod_lt _ hs;obtain⟨u,h4,h5⟩:=h3 (j/C.size e) hi (j%C.size e) _ (List.getElem?_eq_getElem (by rw [hC.len];exact hk));have hj2:off+j/C.size e*C.size e+j%C.size e=off+j:=by have:=Nat.div_add_mod j (C.size e);rw [Nat.mul_comm]at this;omega
   rw [hj2]at h4;rw [h4.2]at hj⊢
   simpa using hj
theorem cont_rows(hC:CdcOk C)(hR:Rp C σ H w G){e:Nat}{x:AV T}{y:Value}{c:List (T e)}(hx:RepA C σ H w x y)(h:contentA H e x=some c):
  ∃A cap ys,y= .slice A c.length cap∧Rows C (Cell C σ H w) e c ys∧(c=[]∨∃b off,A=some ⟨b,off,none⟩∧∀(j:Nat) (v:Value),ys[j]? =some v→w.cell? ⟨b,off+j,none⟩=some v):=by
 unfold contentA at h;split at h
 ·split at h
  ·rename_i he;subst he;cases h;exact sl_rows hC hx
  ·cases h
 ·rename_i o
  split at h
  ·rename_i t l m ho
   split at h
   ·rename_i he;subst he;cases h
    obtain⟨_,_,h1⟩:=hx;rcases h1 _ _ (svH_row ho)with⟨h2,h3⟩|⟨b,c',cs,ee,fz,h2,h3,h4,h5⟩
    ·subst h3
     rcases hR.obj o _ ho with⟨rfl,_⟩|⟨b,_,_,_,hb2,_⟩
     ·exact⟨none,0,[],rfl,Rows.nil _ _,.inl rfl⟩
     ·rw [h2]at hb2;cases hb2
    ·subst h3
     rcases hR.obj o _ ho with⟨rfl,hn⟩|⟨b',cs',fz',cap,hb2,h6,h7,h8,h9,h10⟩
     ·rw [h2]at hn;cases hn
     ·rw [h2]at hb2;cases hb2
      rw [h4]at h6;cases h6;refine⟨_,c',_,rfl,repO_rows hC h8 h9 h10,.inr ⟨b,0,rfl,fun j v hj=> ?_⟩⟩;rw [List.getElem?_take]at hj;split at hj
      ·rw [Nat.zero_add,cell_blk h4];simpa using hj
      ·cases hj
   ·cases h
  ·cases h
 ·cases h;cases(show RepV C (Cell C σ H w) _ _ from hx);exact⟨_,_,[],rfl,Rows.nil _ _,.inl rfl⟩
 ·cases h;cases(show y=_ from hx);exact⟨_,_,[],rfl,Rows.nil _ _,.inl rfl⟩
 ·cases h;obtain⟨A,rfl⟩:=hx;exact⟨_,_,[],rfl,Rows.nil _ _,.inl rfl⟩
 ·cases h
theorem bytes_rows(hC:CdcOk C)(cell:Nat→Nat→Value→Prop):∀(l:List UInt8),Rows C cell C.bt (l.map fun b=>C.ofB b.toNat) (l.map fun b=>Value.int .u8 b.toNat):=by
 have hs:C.size C.bt=1:=by have:=hC.len C.bt (C.ofB 0);rw [hC.encB]at this;simpa using this.symm
 intro l;refine⟨by simp [hs],fun i hi k v hv=> ?_⟩;rw [hC.encB]at hv;cases k with
 |succ k=>simp at hv
 |zero=>
  simp only [List.getElem?_cons_zero,Option.some.injEq,List.getElem_map,hC.ofB]at hv;subst hv;simp at hi;refine⟨.int .u8 l[i].toNat, ?_,.i _ _⟩;rw [hs,Nat.mul_one,Nat.add_zero,List.getElem?_map,List.getElem?_eq_getElem hi];rfl
theorem appended_ok(hC:CdcOk C)(hR:Rp C σ H w G){e:Nat}{x:AV T}{y:Value}{c:List (T e)}(hx:RepA C σ H w x y)(h:appended C H e x=some c):
  ∃ys,(∀w',(Builtin.lenOf y).run P w'= .ok c.length w')∧(∀w',w'.heap=w.heap→∀m,m≤c.length→(Builtin.firstCells (C.size e) m y).run P w'= .ok (ys.take (m*C.size e)).toArray w')∧
   Rows C (Cell C σ H w) e c ys:=by
 unfold appended at h;split at h
 ·rename_i s
  split at h
  ·rename_i he;subst he;cases h
   have:=rep_s hx;subst this;have hs:C.size C.bt=1:=by have:=hC.len C.bt (C.ofB 0);rw [hC.encB]at this;simpa using this.symm
   refine⟨s.data.toList.map fun b=>Value.int .u8 b.toNat,fun w'=> ?_,fun w' _ m hm=> ?_,bytes_rows hC _ _⟩
   ·simp only [Builtin.lenOf,Sem.run_pure,List.length_map];rfl
   ·simp only [Builtin.firstCells,Sem.run_pure,hs,Nat.mul_one]
    congr 1;apply Array.ext';rw [Array.toList_map];simp only [List.toList_toArray,←List.map_take];congr 1;have:(s.extract 0 m).data.toList=s.data.toList.take m:=by
     simp [ByteArray.data_extract]
    exact this
  ·cases h
 ·obtain⟨A,cap,ys,rfl,h1,h2⟩:=cont_rows hC hR hx h
  refine⟨ys,fun _ =>rfl,fun w' hw m hm=> ?_,h1⟩;rcases h2 with rfl|⟨b,off,rfl,h3⟩
  ·have:m=0:=by simpa using hm
   subst this;have hy:ys=[]:=by have:=h1.1;simpa using this
   subst hy;cases A with
   |none=>simp [Builtin.firstCells]
   |some a=>simp [Builtin.firstCells,loadCells,loadCellsFrom]
  ·simp only [Builtin.firstCells]
   have hle:m*C.size e≤c.length*C.size e:=Nat.mul_le_mul_right _ hm;refine loadCells_rows (by rw [List.length_take,h1.1];omega) (fun j v hj=> ?_);rw [List.getElem?_take]at hj;split at hj
   ·rw [add_none,cell_heap hw];exact h3 j v hj
   ·cases hj
theorem repV_one{cell:Nat→Nat→Value→Prop}{v:V T}{y:Value}(h:RepV C cell v y):y.oneCell'=true:=by
 cases h with
 |ifx _ h=>rcases h with rfl|⟨_,_,rfl⟩<;>rfl
 |_ =>rfl
theorem rows_one(hC:CdcOk C){cell:Nat→Nat→Value→Prop}{e:Nat}{c:List (T e)}{ys:List Value}(h:Rows C cell e c ys):∀u∈ys,u.oneCell'=true:=by
 intro u hu;obtain⟨j,hj⟩:=List.getElem?_of_mem hu;have hs:=hC.pos e;have hlt:j<c.length*C.size e:=by rw [←h.1];exact(List.getElem?_eq_some_iff.1 hj).1
 have hi:j/C.size e<c.length:=(Nat.div_lt_iff_lt_mul hs).2 hlt;have hk:j%C.size e<C.size e:=Nat.mod_lt _ hs;obtain⟨y,h4,h5⟩:=h.2 (j/C.size e) hi (j%C.size e) _ (List.getElem?_eq_getElem (by rw [hC.len];exact hk));have hj2:j/C.size e*C.size e+j%C.size e=j:=by have:=Nat.div_add_mod j (C.size e);rw [Nat.mul_comm]at this;omega
 rw [hj2,hj]at h4;cases h4;exact repV_one h5
theorem src_ok(hC:CdcOk C)(hR:Rp C σ H w G){e xt:Nat}{x:AV T}{y:Value}{c:List (T e)}(hx:RepA C σ H w x y)(h:appended C H e x=some c)(hs:isSrc P xt=true):
  ∃ys,Src P (C.size e) xt y c.length ys w∧Rows C (Cell C σ H w) e c ys:=by
 obtain⟨ys,h1,h2,h3⟩:=appended_ok (P:=P) hC hR hx h;have hall:ys.take (c.length*C.size e)=ys:=List.take_of_length_le (by rw [h3.1];exact Nat.le_refl _);refine⟨ys,⟨?_,h1, ?_, ?_,h3.1,rows_one hC h3⟩,h3⟩
 ·unfold isSrc at hs
  split at hs
  ·rename_i e' hu;exact .inl ⟨e',hu⟩
  ·rename_i hu;exact .inr hu
  ·cases hs
 ·have:=h2 w rfl c.length (Nat.le_refl _);rwa [hall]at this
 ·have:=h2 w.drew rfl c.length (Nat.le_refl _);rwa [hall]at this
theorem bytesT_ok{t n:Nat}(h:bytesT P t=some n):∃i,P.info? t=some i∧i.bytes=n:=by
 unfold bytesT at h;cases hi:P.info? t with
 |none=>rw [hi]at h;cases h
 |some i=>rw [hi]at h;cases h;exact⟨i,rfl,rfl⟩
theorem repL_add{α:Type}(l:List α)(a b:Nat):repL l (a+b)=repL l a++repL l b:=by
 induction a with
 |zero=>simp [repL]
 |succ a ih=>rw [Nat.succ_add];simp [repL,ih]
theorem zeroCells_list(z:Array Value)(n:Nat)(hz:0<z.size):(Builtin.zeroCells z n).toList=repL z.toList n:=zeros_eq z n (n*z.size) hz rfl
theorem room_le{n bytes:Nat}(h:n≤room (bytes+1)):n*(bytes+1)≤140737488355328:=by
 unfold room at h;exact Nat.le_trans (Nat.mul_le_mul_right _ h) (Nat.div_mul_le_self _ _)
theorem room_max{n bytes:Nat}(h:n≤room (bytes+1)):n≤140737488355328:=by
 have:=room_le h;exact Nat.le_trans (Nat.le_mul_of_pos_right n (Nat.succ_pos bytes)) this
theorem step_drew(hR:Rp C σ H w G):Step C G [] σ H w σ H w.drew:=Step.heap hR rfl rfl rfl rfl
theorem grown_rows(hC:CdcOk C){e:Nat}{l:List (T e)}{ys:List Value}{cell:Nat→Nat→Value→Prop}(h:Rows C cell e l ys){z:Array Value}(hz:z.size=C.size e){c:Nat}(hc:l.length≤c):
  (ys.toArray++Builtin.zeroCells z (c-l.length)).toList=ys++repL z.toList (c-l.length)∧(ys.toArray++Builtin.zeroCells z (c-l.length)).size=c*C.size e:=by
 have hzl:=zeroCells_list z (c-l.length) (by rw [hz];exact hC.pos e);refine⟨by rw [Array.toList_append,hzl], ?_⟩;rw [←Array.length_toList,Array.toList_append,hzl];simp only [List.length_append,repL_length,Array.length_toList,List.size_toArray,hz,h.1,←Nat.add_mul];congr 1;omega
theorem appendA_good(hC:CdcOk C)(hR:Rp C σ H w G){st xt ty:Nat}{x z:AV T}{y u:Value}(hx:RepA C σ H w x y)(hz:RepA C σ H w z u)
  {K:Kont T R} {Kp:AV T→List (AObj T)→Option R} {r:R} (h:appendA C P st xt x z H K=some r):
  Good P C G σ H w (((do pure (.value (←Builtin.append_ #[st,xt] ty #[y,u])):Sem Next)).run P w) K Kp r:=by
 unfold appendA at h;split at h
 ·rename_i e he
  have hu:=elemT_ok he;split at h
  ·rename_i n bytes l2 zz hn hb hsrc hap hzz
   cases hbb:Nat.beq n (C.size e)&&Nat.beq zz.length n
   ·rw [hbb]at h;cases h
   ·rw [hbb]at h
    simp only [cond_true]at h;simp only [Bool.and_eq_true]at hbb;have hns:n=C.size e:=Nat.eq_of_beq_eq_true hbb.1;have hzl:zz.length=n:=Nat.eq_of_beq_eq_true hbb.2;obtain⟨zv,hz1,hz2⟩:=zeroT_ok (C:=C) hzz;have hzs:zv.cells.size=C.size e:=by rw [←Array.length_toList,(hz2 (σ:=σ) (H:=H) (w:=w)).length,hzl,hns]
    obtain⟨i,hi,hib⟩:=bytesT_ok hb;have hisz:i.size=C.size e:=by have:=hn;unfold sizeT at this;rw [hi]at this;simp at this;rw [this,hns]
    have hiz:i.zero=some zv:=by rw [hi]at hz1;simpa using hz1
    obtain⟨news,hs,hrows⟩:=src_ok (P:=P) hC hR hz hap hsrc;rw [←hisz]at hs;have grow:∀(A:Option Addr) (l:List (T e)) (cap:Nat) (olds:List Value),y= .slice A l.length cap→cap<l.length+l2.length→Nat.ble (l.length+l2.length) (room (bytes+1))=true→
      Rows C (Cell C σ H w) e l olds→(Builtin.firstCells i.size l.length (.slice A l.length cap)).run P w.drew= .ok olds.toArray w.drew→
      ∃c,l.length+l2.length≤c∧((do pure (.value (←Builtin.append_ #[st,xt] ty #[y,u])):Sem Next)).run P w= .ok (.value (.slice (some ⟨w.heap.size,0,none⟩) (l++l2).length c))
       (w.drew.alloc (.cells ((olds++news).toArray++Builtin.zeroCells zv.cells (c-(l++l2).length)) e)):=by
     intro A l cap olds hy hlt hble hro hold;subst hy;have hrm:=Nat.le_of_ble_eq_true hble;have:=run_append_grow_src (P:=P) w st xt ty e i zv hu hi hiz A l.length cap olds hold u l2.length news hs hlt (by have:=room_max hrm;omega) (growslice_fits hlt (by rw [hib];exact room_le hrm));refine⟨grownCap w (l.length+l2.length) cap e, ?_, ?_⟩
     ·have hmx:=room_max hrm
      show l.length+l2.length≤(Question.appendCap (l.length+l2.length) cap e).cut _;simp only [Question.cut];omega
     ·simp only [Sem.run_bind,this,Result.andThen_ok,Sem.run_pure,List.length_append]
    have hlen0:∀A,(Builtin.firstCells i.size 0 (.slice A 0 0)).run P w.drew= .ok ([]:List Value).toArray w.drew:=fun A=>by
     cases A with
     |none=>simp [Builtin.firstCells]
     |some a=>simp [Builtin.firstCells,loadCells,loadCellsFrom]
    have nothing:∀(A:Option Addr) (cap:Nat) (k:Nat),y= .slice A k cap→k≤cap→l2=[]→((do pure (.value (←Builtin.append_ #[st,xt] ty #[y,u])):Sem Next)).run P w= .ok (.value y) w:=by
     intro A cap k hy hk hl2;subst hy;subst hl2;have hnn:news=[]:=by have:=hrows.1;simpa using this
     subst hnn;simp only [Sem.run_bind,run_append_nothing w st xt ty e i hu hi A k cap hk u hs,Result.andThen_ok,Sem.run_pure]
    split at h
    ·cases hble:Nat.ble l2.length (room (bytes+1))
     ·rw [hble]at h;cases h
     ·rw [hble]at h
      simp only [cond_true]at h;cases(show y=_ from hx);cases hl2:l2 with
      |nil=>
       refine .inl ⟨_,_,[],.slice none 0 0,_,w,h,.inl (nothing none 0 0 rfl (Nat.le_refl _) hl2),step_add hR (.row e l2 true) none w rfl rfl rfl (Nat.le_refl _) (fun _ _ =>rfl) (fun b hb=>by cases hb) (fun M=> .inl ⟨hl2,add_self _ _ _⟩), ?_⟩;refine⟨by simp,⟨_,_,_,rfl⟩,fun t l hr=> .inl ⟨add_self _ _ _,rfl⟩⟩
      |cons q qs=>
       obtain⟨c,hc,hrun⟩:=grow none [] 0 [] rfl (by simp [hl2]) (by simpa using hble) (Rows.nil _ _) (hlen0 none);simp only [List.nil_append,List.length_nil,Nat.zero_add]at hrun hc;obtain⟨g1,g2⟩:=grown_rows hC hrows hzs hc;have hst:=(step_drew hR).trans0 (step_row_new hC (step_drew hR).rp (0,0) g1 (hrows.mono (step_drew hR).move.cell) g2 (fz0 _) true);refine .inl ⟨_,_,[],_,_,_,h,.inl hrun,hst, ?_⟩;exact own_new (alloc_new _ _) g2
    ·cases hnl:isNilL l2
     ·rw [hnl]at h
      simp only [cond_false]at h;cases hble:Nat.ble l2.length (room (bytes+1))
      ·rw [hble]at h;cases h
      ·rw [hble]at h
       simp only [cond_true]at h;obtain⟨A,rfl⟩:=hx;have hpos:0<l2.length:=by cases l2 with|nil=>cases hnl|cons=>simp
       obtain⟨c,hc,hrun⟩:=grow A [] 0 [] rfl (by simpa using hpos) (by simpa using hble) (Rows.nil _ _) (hlen0 A);simp only [List.nil_append,List.length_nil,Nat.zero_add]at hrun hc;obtain⟨g1,g2⟩:=grown_rows hC hrows hzs hc;have hst:=(step_drew hR).trans0 (step_row_new hC (step_drew hR).rp (0,0) g1 (hrows.mono (step_drew hR).move.cell) g2 (fz0 _) true);refine .inl ⟨_,_,[],_,_,_,h,.inl hrun,hst, ?_⟩;exact own_new (alloc_new _ _) g2
     ·rw [hnl]at h
      obtain⟨A,rfl⟩:=hx;have hl2:l2=[]:=by cases l2 with|nil=>rfl|cons=>cases hnl
      exact .inl ⟨_,_,[],.slice A 0 0,_,w,h,.inl (nothing A 0 0 rfl (Nat.le_refl _) hl2),Step.refl hR,⟨A,rfl⟩⟩
    ·rename_i o
     split at h
     ·rename_i t l m ho
      split at h
      ·rename_i hte
       subst hte;cases hble:Nat.ble (l.length+l2.length) (room (bytes+1))
       ·rw [hble]at h;cases h
       ·rw [hble]at h
        simp only [cond_true]at h;have holen:=(List.getElem?_eq_some_iff.1 ho).1;have hget:((H.set o (.row t (l++l2) m)).map (purgeO [o]))[o]? =some (.row t (l++l2) m):=by simp [holen,purgeO]
        have hkind:isRow (AObj.row t l m)=isRow (AObj.row t (l++l2) m):=rfl;have sub:∀off,foot C (.row t (l++l2) m) off→foot C (.row t l m) off:=fun off hf=>hf.imp id (fun hf=>by
         rw [List.length_append,Nat.add_mul]at hf;omega)
        have moved:∀(olds:List Value) (c:Nat),Rows C (Cell C σ H w) t l olds→l.length+l2.length≤c→
          ((do pure (.value (←Builtin.append_ #[st,xt] ty #[y,u])):Sem Next)).run P w= .ok (.value (.slice (some ⟨w.heap.size,0,none⟩) (l++l2).length c))
           (w.drew.alloc (.cells ((olds++news).toArray++Builtin.zeroCells zv.cells (c-(l++l2).length)) t))→Good P C G σ H w (((do pure (.value (←Builtin.append_ #[st,xt] ty #[y,u])):Sem Next)).run P w) K Kp r:=by
         intro olds c hro hc hrun;have hr2:=Rows.append hC hro hrows;obtain⟨g1,g2⟩:=grown_rows hC hr2 hzs (by rw [List.length_append];exact hc);have hst:=(step_drew hR).rp;refine .inl ⟨_,_,[o],_,add σ o (some w.heap.size),_,h,.inl hrun, ?_, ?_⟩
         ·refine step_mod (S:=[o]) hR (some w.heap.size) _ ho rfl hkind rfl rfl rfl (by simp) (fun b hb _ => ?_) (fun b _ hb=> .inr (by cases hb;simp)) (fun b off hb _ => ?_) (.inl (by simp)) (fun hf=>by cases hf) (.inl (by simp)) (fun M=> ?_)
          ·exact alloc_old w.drew _ b hb
          ·exact cell_of_block (alloc_old w.drew _ b (hR.lt o _ b ho rfl hb))
          ·refine .inr ⟨w.heap.size,_,(0,0),c,add_self _ _ _,alloc_new w.drew _,fz0 _,g2,by rw [List.length_append];exact hc,rows_repO g1 (hr2.mono M.cell)⟩
         ·refine⟨by simpa using holen,⟨_,_,_,rfl⟩,fun t' l' hr=> ?_⟩
          rw [svH_row hget]at hr;cases hr;exact .inr ⟨w.heap.size,c,_,t,(0,0),add_self _ _ _,rfl,alloc_new w.drew _,g2⟩
        obtain⟨h0,_,hy⟩:=hx;rcases hy _ _ (svH_row ho)with⟨h2,rfl⟩|⟨b,c,cs,ee,fz,h2,rfl,h4,h5⟩
        ·
         rcases hR.obj o _ ho with⟨rfl,_⟩|⟨b,_,_,_,hb2,_⟩
         ·cases hl2:l2 with
          |nil=>
           refine .inl ⟨_,_,[o],.slice none 0 0,add σ o none,w,h,.inl (nothing none 0 0 rfl (Nat.le_refl _) hl2), ?_, ?_⟩
           ·refine step_mod (S:=[o]) hR none w ho rfl hkind rfl rfl rfl (Nat.le_refl _) (fun _ _ _ =>rfl) (fun b _ hb=>by cases hb) (fun _ _ _ _ =>rfl) (.inl (by simp)) (fun hf=>by cases hf) (.inl (by simp)) (fun M=> ?_)
            exact .inl ⟨by simp [hl2],add_self _ _ _⟩
           ·refine⟨by simpa using holen,⟨_,_,_,rfl⟩,fun t' l' hr=> .inl ⟨add_self _ _ _,rfl⟩⟩
          |cons q qs=>
           obtain⟨c,hc,hrun⟩:=grow none [] 0 [] rfl (by simp [hl2]) hble (Rows.nil _ _) (hlen0 none);exact moved [] c (Rows.nil _ _) hc hrun
         ·rw [h2]at hb2;cases hb2
        ·rcases hR.obj o _ ho with⟨_,hn2⟩|⟨b',cs',fz',cap,hb2,h6,h7,h8,h9,h10⟩
         ·rw [h2]at hn2;cases hn2
         ·rw [h2]at hb2;cases hb2
          rw [h4]at h6;cases h6;have hcc:cap=c:=Nat.eq_of_mul_eq_mul_right (hC.pos t) (h8.symm.trans h5);subst hcc;have hro:=repO_rows hC h8 h9 h10;by_cases hfit:l.length+l2.length≤cap
          ·
           have hmul:(l.length+l2.length)*C.size t≤cap*C.size t:=Nat.mul_le_mul_right _ hfit;rw [Nat.add_mul]at hmul;have hst:=run_storeCells_fz P b (l.length*C.size t) t fz news 0 cs w h4 h7 (by rw [hrows.1];omega) hs.one;rw [Nat.add_zero]at hst;have hrun:((do pure (.value (←Builtin.append_ #[st,xt] ty #[.slice (some ⟨b,0,none⟩) l.length cap,u])):Sem Next)).run P w=
             .ok (.value (.slice (some ⟨b,0,none⟩) (l++l2).length cap)) (w.setRow b (setRange cs.toList (l.length*C.size t) news).toArray):=by
            have hadd:(⟨b,0,none⟩:Addr).add (l.length*i.size)=⟨b,l.length*C.size t,none⟩:=by rw [add_none,hisz,Nat.zero_add]
            have hcells:=hs.cells;rw [hisz]at hcells;have:(Builtin.append_ #[st,xt] ty #[.slice (some ⟨b,0,none⟩) l.length cap,u]).run P w= .ok (.slice (some ⟨b,0,none⟩) (l.length+l2.length) cap) (w.setRow b (setRange cs.toList (l.length*C.size t) news).toArray):=by
             rcases hs.kind with⟨e',hk⟩|hk<;>simp [Builtin.append_,run_underlying hu,run_underlying hk,sizeOf,typeInfo,hi,hs.len,hfit,hcells,hisz,add_none,hst]
            simp only [Sem.run_bind,this,Result.andThen_ok,Sem.run_pure,List.length_append]
           have hsr:=setRange_length (l:=cs.toList) (vs:=news) (off:=l.length*C.size t) (by rw [hrows.1];simp;omega);have hsz2:(setRange cs.toList (l.length*C.size t) news).toArray.size=cs.size:=by simpa using hsr
           refine .inl ⟨_,_,[o],_,add σ o (σ o),_,h,.inl hrun, ?_, ?_⟩
           ·refine step_mod (S:=[o]) hR (σ o) _ ho rfl hkind rfl rfl rfl (by simp) (fun k hk hne=> ?_) (fun k _ hk=> .inl ⟨hk,sub⟩) (fun k off hk hnf=> ?_) (.inl (by simp)) (fun _ =>rfl) (.inl (by simp)) (fun M=> ?_)
            ·exact setRow_other w b k _ (fun hkb=>hne (by rw [hkb];exact h2))
            ·rw [h2]at hk;cases hk
             rw [cell_blk (setRow_blk h4),cell_blk h4];have:¬l.length*C.size t≤off:=fun hle=>hnf (.inr hle)
             have hg:=setRange_get cs.toList news (l.length*C.size t) off (by rw [hrows.1];simp;omega);rw [if_neg (by omega)]at hg
             simpa using hg
            ·refine .inr ⟨b,_,fz,cap,(add_self _ _ _).trans h2,setRow_blk h4,fun k hk=>h7 k (by rw [hsz2]at hk;exact hk),by rw [hsz2];exact h8,by rw [List.length_append];exact hfit, ?_⟩
             have hr2:=Rows.append hC hro hrows;refine rows_repO (ys:=cs.toList.take (l.length*C.size t)++news) (zs:=cs.toList.drop (l.length*C.size t+news.length)) ?_ (hr2.mono M.cell);simp [setRange]
           ·refine⟨by simpa using holen,⟨_,_,_,rfl⟩,fun t' l' hr=> ?_⟩
            rw [svH_row hget]at hr;cases hr;exact .inr ⟨b,cap,_,t,fz,(add_self _ _ _).trans h2,rfl,setRow_blk h4,by rw [hsz2];exact h8⟩
          ·obtain⟨c2,hc2,hrun⟩:=grow (some ⟨b,0,none⟩) l cap (cs.toList.take (l.length*C.size t)) rfl (by omega) hble hro (by
            rw [hisz];simp only [Builtin.firstCells];refine loadCells_rows (by rw [hro.1]) (fun j v hj=> ?_);rw [List.getElem?_take]at hj;split at hj
            ·rw [add_none,Nat.zero_add]
             show w.cell? _ =_;rw [cell_blk h4];simpa using hj
            ·cases hj)
           exact moved _ c2 hro hc2 hrun
      ·cases h
     ·cases h
    ·cases h
  ·cases h
 ·cases h
end Go.Proofs.YtdoifigogbdodaaGreatDoor.Ev

namespace Go.Proofs.YtdoifigogbdodaaGreatDoor.Ev
open Go
variable {T:Nat→Type} {C:Cdc T} {P:Program} {σ:Lk} {H:List (AObj T)} {w:World} {G:Nat→Option (List (V T))} {R:Type}
theorem lenX_good(hR:Rp C σ H w G){t:Nat}{ts:List Nat}{x:AV T}{y:Value}(hx:RepA C σ H w x y){ty:Nat}{args:Array Value}{at_ :Array Nat}(ha:args[0]? =some y)(hat:at_[0]? =some t)
  {K:Kont T R} {r:R} (h:lenX P t x H K=some r):
  GoodQ C σ H w (((do pure (.value (←Builtin.len_ at_ ty args)):Sem Next)).run P w) K r:=by
 exact lenA_good (ts:=ts) hR hx ha hat h
theorem indexAddrX_good(hR:Rp C σ H w G){t:Nat}{x i:AV T}{y u:Value}(hx:RepA C σ H w x y)(hi:RepA C σ H w i u)
  {K:Kont T R} {r:R} (h:indexAddrX C P t x i H K=some r):
  GoodQ C σ H w (((do pure (.value (←Instr.indexAt t y u)):Sem Next)).run P w) K r:=by
 exact indexAddrA_good hR hx hi h
theorem sliceC_q{t:Nat}{o off n c:Nat}{y:Value}{lo hi:Option (AV T)}{lo' hi':Option Value}(hx:RepA C σ H w (.slc o off n c) y)
  (hlo:∀a,lo=some a→∃v,lo'=some v∧RepA C σ H w a v) (hlon:lo=none→lo'=none) (hhi:∀a,hi=some a→∃v,hi'=some v∧RepA C σ H w a v) (hhin:hi=none→hi'=none)
  {K:Kont T R} {r:R} (h:sliceX C P t (.slc o off n c) lo hi none H K=some r):
  GoodQ C σ H w (((do pure (.value (←Instr.sliceAt t y lo' hi' none)):Sem Next)).run P w) K r:=by
 simp only [sliceX]at h;split at h
 ·rename_i e hu
  split at h
  ·rename_i k l hh hk hbl hbh
   cases hb:decide (0≤hh)&&decide (hh≤(n:Int))&&decide (0≤l)&&decide (l≤hh)&&Nat.blt l.toNat c&&Nat.ble n c
   ·rw [hb]at h;cases h
   ·rw [hb]at h
    simp only [cond_true]at h;simp only [Bool.and_eq_true,decide_eq_true_eq]at hb;obtain⟨⟨⟨⟨⟨h1,h2⟩,h3⟩,h4⟩,h5⟩,h6⟩:=hb;have h5':l.toNat<c:=by have:=Nat.le_of_ble_eq_true h5;omega
    have h6':n≤c:=Nat.le_of_ble_eq_true h6;obtain⟨q0,b,q1,d,rfl,q2,q3⟩:=hx;obtain rfl:=q2 h6';refine good_q h (v:= .slice (some ⟨b,off+l.toNat*k,none⟩) (hh.toNat-l.toNat) (d-l.toNat)) ?_ ⟨q0,b,q1,_,rfl,fun _ =>rfl,by omega⟩;simp only [Instr.sliceAt,Sem.run_bind,run_underlying hu,Result.andThen_ok,Instr.slice,
     run_sliceBounds true n d (boundA_ok hbl hlo hlon) (boundA_ok hbh hhi hhin) h3 h4 h2 h6',run_sizeOf' hk,Sem.run_pure]
    rw [if_neg (by omega),Option.map_some,add_none]
  ·cases h
 ·cases h
theorem sliceX_good(hC:CdcOk C)(hR:Rp C σ H w G){t:Nat}{x:AV T}{y:Value}{lo hi mx:Option (AV T)}{lo' hi' mx':Option Value}(hx:RepA C σ H w x y)
  (hlo:∀a,lo=some a→∃v,lo'=some v∧RepA C σ H w a v) (hlon:lo=none→lo'=none) (hhi:∀a,hi=some a→∃v,hi'=some v∧RepA C σ H w a v) (hhin:hi=none→hi'=none)
  (hmx:∀a,mx=some a→∃v,mx'=some v∧RepA C σ H w a v) (hmxn:mx=none→mx'=none)
  {K:Kont T R} {Kp:AV T→List (AObj T)→Option R} {r:R} (h:sliceX C P t x lo hi mx H K=some r):
  Good P C G σ H w (((do pure (.value (←Instr.sliceAt t y lo' hi' mx')):Sem Next)).run P w) K Kp r:=by
 by_cases hs:(∃o off n c,x= .slc o off n c)∧mx=none
 ·obtain⟨⟨o,off,n,c,rfl⟩,rfl⟩:=hs
  rw [hmxn rfl];exact(sliceC_q hx hlo hlon hhi hhin h).good hR
 ·have:sliceX C P t x lo hi mx H K=sliceA C P t x lo hi mx H K:=by
   unfold sliceX;split
   ·exact absurd ⟨⟨_,_,_,_,rfl⟩,rfl⟩ hs
   ·rfl
  rw [this]at h;exact sliceA_good hC hR hx hlo hlon hhi hhin hmx hmxn h
theorem sliceX_q(hC:CdcOk C)(hR:Rp C σ H w G){t:Nat}{x:AV T}{y:Value}(hno:∀o,x≠.own o){lo hi mx:Option (AV T)}{lo' hi' mx':Option Value}(hx:RepA C σ H w x y)
  (hlo:∀a,lo=some a→∃v,lo'=some v∧RepA C σ H w a v) (hlon:lo=none→lo'=none) (hhi:∀a,hi=some a→∃v,hi'=some v∧RepA C σ H w a v) (hhin:hi=none→hi'=none)
  (hmx:∀a,mx=some a→∃v,mx'=some v∧RepA C σ H w a v) (hmxn:mx=none→mx'=none)
  {K:Kont T R} {r:R} (h:sliceX C P t x lo hi mx H K=some r):
  GoodQ C σ H w (((do pure (.value (←Instr.sliceAt t y lo' hi' mx')):Sem Next)).run P w) K r:=by
 by_cases hs:(∃o off n c,x= .slc o off n c)∧mx=none
 ·obtain⟨⟨o,off,n,c,rfl⟩,rfl⟩:=hs
  rw [hmxn rfl];exact sliceC_q hx hlo hlon hhi hhin h
 ·have:sliceX C P t x lo hi mx H K=sliceA C P t x lo hi mx H K:=by
   unfold sliceX;split
   ·exact absurd ⟨⟨_,_,_,_,rfl⟩,rfl⟩ hs
   ·rfl
  rw [this]at h;exact sliceA_q hC hR hno hx hlo hlon hhi hhin hmx hmxn h
theorem rowCells_ok(hR:Rp C σ H w G){k:Nat}{x:AV T}{y:Value}{l:List (AV T)}(h:rowCells H k x=some l)(hx:RepA C σ H w x y):
  ∃b off n c ys,y= .slice (some ⟨b,off,none⟩) n c∧RepL C σ H w l ys∧l.length=n*k∧∀w',w'.heap=w.heap→(loadCells ⟨b,off,none⟩ (n*k)).run P w'= .ok ys.toArray w':=by
 unfold rowCells at h;split at h
 ·rename_i o off n c
  split at h
  ·rename_i e l0 ho
   cases hb:Nat.ble (off+n*k) l0.length
   ·rw [hb]at h;cases h
   ·rw [hb]at h
    cases h;have hle:=Nat.le_of_ble_eq_true hb;obtain⟨_,b,h1,d,rfl,_⟩:=hx;obtain⟨b',cs,ys,rest,h2,h3,h5,h4,_⟩:=(hR.obj o _ ho).cellsD;rw [h1]at h2;cases h2;have hlen:=h4.length;refine⟨b,off,n,d,(ys.drop off).take (n*k),rfl,(h4.drop off).take (n*k),by simp;omega,fun w' hw=> ?_⟩;refine loadCells_rows (by simp;omega) (fun j v hj=> ?_);rw [List.getElem?_take]at hj;split at hj
    ·rw [List.getElem?_drop]at hj
     rw [add_none,cell_heap hw,cell_blk h3];have hlt:off+j<ys.length:=(List.getElem?_eq_some_iff.1 hj).1;have:cs.toList[off+j]? =some v:=by rw [h5,List.getElem?_append_left hlt];exact hj
     simpa using this
    ·cases hj
  ·cases h
 ·cases h
theorem allLeaf_rep{l:List (AV T)}{ys:List Value}(h:allLeaf l=true)(hr:RepL C σ H w l ys):∀u∈ys,u.oneCell'=true:=allLeaf_one h hr
theorem crow_new(hR:Rp C σ H w G)(e:TypeId){n cap:Nat}{l:List (AV T)}{ys:List Value}(hl:RepL C σ H w l ys)(zs:Array Value)(hn0:0<n)(hcap:n≤cap):
  Step C G [] σ H w (add σ H.length (some w.heap.size)) (H++[.cells e (some 0) l]) (w.alloc (.cells (ys.toArray++zs) e))∧
   RepA C (add σ H.length (some w.heap.size)) (H++[.cells e (some 0) l]) (w.alloc (.cells (ys.toArray++zs) e)) (.slc H.length 0 n 0) (.slice (some ⟨w.heap.size,0,none⟩) n cap):=by
 refine⟨step_alloc hR (.cells e (some 0) l) (.cells (ys.toArray++zs) e) (fun M=>⟨w.heap.size,_,ys,zs.toList,add_self _ _ _,alloc_new _ _,by simp,hl.move0 M⟩), ?_⟩;have hlt:H.length<(H++[AObj.cells e (some 0) l]).length:=by simp
 exact⟨hlt,w.heap.size,add_self _ _ _,cap,rfl,fun h=>by omega,hcap⟩
theorem appendC_good(hR:Rp C σ H w G){st xt ty:Nat}{x z:AV T}{y u:Value}(hx:RepA C σ H w x y)(hz:RepA C σ H w z u)
  {K:Kont T R} {Kp:AV T→List (AObj T)→Option R} {r:R} (h:appendC P st xt x z H K=some r):
  Good P C G σ H w (((do pure (.value (←Builtin.append_ #[st,xt] ty #[y,u])):Sem Next)).run P w) K Kp r:=by
 unfold appendC at h;split at h
 ·rename_i e he
  have hu:=elemT_ok he;split at h
  ·rename_i k bytes zz hn hb hzz
   split at h
   ·rename_i o off n c o2 off2 m c2
    split at h
    ·rename_i l1 l2 hl1 hl2
     cases hbb:Nat.beq n c&&Nat.blt 0 m&&Nat.beq zz.length (k+1)&&Nat.ble (n+m) (room (bytes+1))&&allLeaf l2&&isSrc P xt&&slT P xt
     ·rw [hbb]at h;cases h
     ·rw [hbb]at h
      simp only [cond_true]at h;simp only [Bool.and_eq_true]at hbb;obtain⟨⟨⟨⟨⟨⟨b1,b2⟩,b3⟩,b4⟩,b5⟩,b6⟩,b7⟩:=hbb;have hnc:n=c:=Nat.eq_of_beq_eq_true b1;have hm:0<m:=Nat.le_of_ble_eq_true b2;have hzl:zz.length=k+1:=Nat.eq_of_beq_eq_true b3;have hrm:=Nat.le_of_ble_eq_true b4;obtain⟨e',hxt⟩:∃e',P.underlying xt=some (.slice e'):=by
       unfold slT at b7;split at b7
       ·rename_i e' hh;exact⟨e',hh⟩
       ·cases b7
      obtain⟨zv,hz1,hz2⟩:=zeroT_ok (C:=C) hzz;have hzs:zv.cells.size=k+1:=by rw [←Array.length_toList,(hz2 (σ:=σ) (H:=H) (w:=w)).length,hzl]
      obtain⟨i,hi,hib⟩:=bytesT_ok hb;have hisz:i.size=k+1:=by have:=hn;unfold sizeT at this;rw [hi]at this;simpa using this
      have hiz:i.zero=some zv:=by rw [hi]at hz1;simpa using hz1
      obtain⟨ba,oa,na,ca,ya,rfl,ra,la,lda⟩:=rowCells_ok (P:=P) hR hl1 hx;obtain⟨bx,ox,nx,cx,yx,rfl,rx,lx,ldx⟩:=rowCells_ok (P:=P) hR hl2 hz;obtain⟨_,_,_,d1,hxe,hd1,_⟩:=hx;obtain⟨_,_,_,d2,hze,_⟩:=hz;have hd1:=hd1 (Nat.le_of_eq hnc);cases hxe;cases hze;rw [hd1,←hnc];clear hd1 hnc;have hs:Src P i.size xt (.slice (some ⟨bx,off2,none⟩) m cx) m yx w:=by
       refine⟨.inl ⟨e',hxt⟩,fun _ =>rfl, ?_, ?_,by rw [rx.length,lx,hisz],allLeaf_rep b5 rx⟩
       ·rw [hisz];exact ldx w rfl
       ·rw [hisz];exact ldx w.drew rfl
      have hold:(Builtin.firstCells i.size n (.slice (some ⟨ba,off,none⟩) n n)).run P w.drew= .ok ya.toArray w.drew:=by
       rw [hisz];exact lda w.drew rfl
      have hmx:=room_max hrm;have hgrow:=run_append_grow_src (P:=P) w (ty:=ty) st xt e i zv hu hi hiz (some ⟨ba,off,none⟩) n n ya hold _ m yx hs (by omega) (by omega) (growslice_fits (by omega) (by rw [hib];exact room_le hrm));have hcap:n+m≤grownCap w (n+m) n e:=by
       show n+m≤(Question.appendCap (n+m) n e).cut _;simp only [Question.cut];omega
      generalize hgc:grownCap w (n+m) n e=cap at hgrow hcap;have hrun:(((do pure (.value (←Builtin.append_ #[st,xt] ty #[.slice (some ⟨ba,off,none⟩) n n,.slice (some ⟨bx,off2,none⟩) m cx])):Sem Next)).run P w)= .ok (.value (.slice (some ⟨w.heap.size,0,none⟩) (n+m) cap)) (w.drew.alloc (.cells ((ya++yx).toArray++Builtin.zeroCells zv.cells (cap-(n+m))) e)):=by
       simp only [Sem.run_bind,hgrow,Result.andThen_ok,Sem.run_pure]
      have hrl:RepL C σ H w (l1++l2) (ya++yx):=ra.append rx;have hst0:=step_drew hR;obtain⟨s1,s2⟩:=crow_new hst0.rp e (hrl.move0 hst0.move) (Builtin.zeroCells zv.cells (cap-(n+m))) (by omega) hcap;exact .inl ⟨_,_,[],_,_,_,h,.inl hrun,hst0.trans0 s1,s2⟩
    ·cases h
   ·cases h
  ·cases h
 ·cases h
theorem appendX_good(hC:CdcOk C)(hR:Rp C σ H w G){st xt ty:Nat}{x z:AV T}{y u:Value}(hx:RepA C σ H w x y)(hz:RepA C σ H w z u)
  {K:Kont T R} {Kp:AV T→List (AObj T)→Option R} {r:R} (h:appendX C P st xt x z H K=some r):
  Good P C G σ H w (((do pure (.value (←Builtin.append_ #[st,xt] ty #[y,u])):Sem Next)).run P w) K Kp r:=by
 unfold appendX at h;split at h
 ·exact appendC_good hR hx hz h
 ·exact appendA_good hC hR hx hz h
end Go.Proofs.YtdoifigogbdodaaGreatDoor.Ev

namespace Go.Proofs.YtdoifigogbdodaaGreatDoor.Ev
open Go
variable {T:Nat→Type} {C:Cdc T} {P:Program} {σ:Lk} {H:List (AObj T)} {w:World} {G:Nat→Option (List (V T))} {R:Type}
theorem drop_split{α:Type}(l:List α){a b:Nat}(h:a≤b):l.drop a=(l.take b).drop a++l.drop b:=by
 have e:l.drop a=(l.take b++l.drop b).drop a:=by rw [List.take_append_drop]
 rw [e,List.drop_append];congr 1;by_cases hb:b≤l.length
 ·have:(l.take b).length=b:=by simp;omega
  rw [this,show a-b=0 by omega];rfl
 ·rw [List.drop_of_length_le (l:=l) (by omega)];simp
theorem copyA_good(hC:CdcOk C)(hR:Rp C σ H w G){dt xt ty:Nat}{x z:AV T}{y u:Value}(hx:RepA C σ H w x y)(hz:RepA C σ H w z u)
  {K:Kont T R} {Kp:AV T→List (AObj T)→Option R} {r:R} {at_ :Array Nat} {args:Array Value} (h0:at_[0]? =some dt) (g0:args[0]? =some y) (g1:args[1]? =some u) (h:copyA C P dt x z H K=some r):
  Good P C G σ H w (((do pure (.value (←Builtin.copy_ at_ ty args)):Sem Next)).run P w) K Kp r:=by
 unfold copyA at h;split at h
 ·rename_i e he
  have hu:=elemT_ok he;split at h
  ·rename_i n l2 o hn hap
   split at h
   ·rename_i t l ho
    cases hb:Nat.beq n (C.size e)
    ·rw [hb]at h;cases h
    ·rw [hb]at h
     simp only [cond_true]at h;have hns:n=C.size e:=Nat.eq_of_beq_eq_true hb;subst hns;split at h
     ·rename_i hte
      subst hte;simp only at h;obtain⟨news,h1,h2,h3⟩:=appended_ok (P:=P) hC hR hz hap;obtain⟨hlt0,_,hy⟩:=hx;have hlen:(l2.take l.length++l.drop l2.length).length=l.length:=by simp;omega
      have hmin:Nat.min l2.length l.length=min l2.length l.length:=rfl;rcases hy _ _ (svH_row ho)with⟨k1,rfl⟩|⟨b,c,cs,ee,fz,k1,rfl,k2,k3⟩
      ·rcases hR.obj o _ ho with⟨rfl,_⟩|⟨b,_,_,_,hb2,_⟩
       ·refine .inl ⟨_,_,[],.int .i64 0,σ,w,h,.inl ?_, ?_, ?_⟩
        ·have hf:=h2 w rfl 0 (Nat.zero_le _)
         simp only [Nat.zero_mul,List.take_zero]at hf;simp [Builtin.copy_,h0,g0,g1,run_underlying hu,h1,run_sizeOf' hn,hf,storeCells,goInt]
        ·refine step_set hR w ho rfl rfl rfl rfl rfl (Nat.le_refl _) (fun _ _ _ =>rfl) (fun off hf=>hf.imp id (fun hf=>by simp at hf⊢)) (fun _ _ _ _ =>rfl) (fun n2 s2 hr=> ?_) (fun M=> .inl ⟨by simp,k1⟩)
         exact⟨by simpa [svO] using hr,fun b hb=>by rw [k1]at hb;cases hb⟩
        ·simpa using mk_i .i64 0
       ·rw [k1]at hb2;cases hb2
      ·rcases hR.obj o _ ho with⟨_,hn2⟩|⟨b',cs',fz',cap,hb2,h6,h7,h8,h9,h10⟩
       ·rw [k1]at hn2;cases hn2
       ·rw [k1]at hb2;cases hb2
        rw [k2]at h6;cases h6;have hro:=repO_rows hC h8 h9 h10;have hmul:l.length*C.size t≤cap*C.size t:=Nat.mul_le_mul_right _ h9;let k:=min l2.length l.length;have hk1:k≤l2.length:=Nat.min_le_left _ _;have hk2:k≤l.length:=Nat.min_le_right _ _;have hkm:k*C.size t≤l.length*C.size t:=Nat.mul_le_mul_right _ hk2;have hkm2:k*C.size t≤l2.length*C.size t:=Nat.mul_le_mul_right _ hk1;have hnl:(news.take (k*C.size t)).length=k*C.size t:=by rw [List.length_take,h3.1];omega
        have hst:=run_storeCells_fz P b 0 _ fz (news.take (k*C.size t)) 0 cs w k2 h7 (by rw [hnl];omega) (fun v hv=>rows_one hC h3 v (List.mem_of_mem_take hv));have hrun:((do pure (.value (←Builtin.copy_ at_ ty args)):Sem Next)).run P w= .ok (.value (.int .i64 ((k:Nat):Int))) (w.setRow b (setRange cs.toList 0 (news.take (k*C.size t))).toArray):=by
         have hf:=h2 w rfl k hk1;simp only [Nat.zero_add]at hst;simp [Builtin.copy_,h0,g0,g1,run_underlying hu,h1,run_sizeOf' hn,goInt];rw [show(Nat.min l2.length l.length)=k from rfl,hf];simp [hst]
        have hsr:=setRange_length (l:=cs.toList) (vs:=news.take (k*C.size t)) (off:=0) (by rw [hnl];simp;omega);have hsz2:(setRange cs.toList 0 (news.take (k*C.size t))).toArray.size=cs.size:=by simpa using hsr
        refine .inl ⟨_,_,[],_,σ,_,h,.inl hrun, ?_,mk_i _ _⟩;refine step_set hR _ ho rfl rfl rfl rfl rfl (by simp) (fun q hq hne=>setRow_other w b q _ (fun hqb=>hne (by rw [hqb];exact k1))) (fun _ _ => .inl rfl) (fun q off hq hnf=>(hnf (.inl rfl)).elim) (fun n2 s2 hr=> ?_) (fun M=> ?_)
        ·refine⟨by simp only [svO]at hr⊢;rw [hlen]at hr;exact hr,fun b2 hb2 cs2 e2 fz2 hc2=> ?_⟩
         rw [k1]at hb2;cases hb2;rw [k2]at hc2;cases hc2;exact⟨_,_,fz,setRow_blk k2,hsz2⟩
        ·refine .inr ⟨b,_,fz,cap,k1,setRow_blk k2,fun q hq=>h7 q (by rw [hsz2]at hq;exact hq),by rw [hsz2];exact h8,by rw [hlen];exact h9, ?_⟩
         have hr2:=Rows.append hC (h3.take hC k) (hro.drop k);have e1:l2.take k=l2.take l.length:=by
          show l2.take (min l2.length l.length)=_;rcases Nat.le_total l2.length l.length with hh|hh
          ·rw [Nat.min_eq_left hh,List.take_of_length_le (Nat.le_refl _),List.take_of_length_le hh]
          ·rw [Nat.min_eq_right hh]
         have e2:l.drop k=l.drop l2.length:=by
          show l.drop (min l2.length l.length)=_;rcases Nat.le_total l2.length l.length with hh|hh
          ·rw [Nat.min_eq_left hh]
          ·rw [Nat.min_eq_right hh,List.drop_of_length_le (Nat.le_refl _),List.drop_of_length_le hh]
         rw [e1,e2]at hr2;refine rows_repO (ys:=news.take (k*C.size t)++(cs.toList.take (l.length*C.size t)).drop (k*C.size t)) (zs:=cs.toList.drop (l.length*C.size t)) ?_ (hr2.mono M.cell);simp only [setRange,List.take_zero,List.nil_append,Nat.zero_add,hnl,List.append_assoc];congr 1;exact drop_split _ hkm
     ·cases h
   ·cases h
  ·cases h
 ·cases h
theorem zeros_any{z:Value}{e:Nat}(hz:(P.info? e).bind (·.zero)=some z)(n k:Nat)(hk:z.cells.size=k)(hk0:0<k)(w:World):
  ∃zc:Array Value,((n*k=0∧zc= #[])∨(n*k≠0∧zc=z.cells))∧((Array.range (n*k)).map (zc[· %zc.size]!)).toList=repL z.cells.toList n:=by
 by_cases h0:n*k=0
 ·refine⟨#[],.inl ⟨h0,rfl⟩, ?_⟩
  have:n=0:=by rcases Nat.mul_eq_zero.1 h0 with h|h<;>omega
  subst this;simp [repL]
 ·exact⟨z.cells,.inr ⟨h0,rfl⟩,zeros_eq z.cells n (n*k) (by omega) (by rw [hk])⟩
theorem Rows.replicate(hC:CdcOk C){cell:Nat→Nat→Value→Prop}{e:Nat}{x:T e}{ys:List Value}(hl:ys.length=C.size e)(h:∀(k:Nat) (v:V T),(C.enc e x)[k]? =some v→∃y,ys[k]? =some y∧RepV C cell v y):
  ∀n,Rows C cell e (List.replicate n x) (repL ys n)
 |0=>Rows.nil _ _
 |n+1=>Rows.cons hC hl h (Rows.replicate hC hl h n)
theorem makeSliceA_good(hC:CdcOk C)(hR:Rp C σ H w G){t:Nat}{x z:AV T}{y u:Value}(hx:RepA C σ H w x y)(hz:RepA C σ H w z u)
  {K:Kont T R} {Kp:AV T→List (AObj T)→Option R} {r:R} (h:makeSliceA C P t x z H K=some r):
  Good P C G σ H w (((do pure (.value (←Instr.makeSlice t y u)):Sem Next)).run P w) K Kp r:=by
 unfold makeSliceA at h;split at h
 ·rename_i e k1 n k2 c he
  have hu:=elemT_ok he;have:=rep_i hx;subst this;have:=rep_i hz;subst this;split at h
  ·rename_i k zz bytes hk hzz hb
   cases hbb:Nat.beq k (C.size e)&&Nat.beq zz.length k&&decide (0≤n)&&decide (n≤c)&&decide ((bytes:Int)*c≤140737488355328)&&decide (c≤140737488355328)
   ·rw [hbb]at h;cases h
   ·rw [hbb]at h
    simp only [cond_true]at h;simp only [Bool.and_eq_true,decide_eq_true_eq]at hbb;obtain⟨⟨⟨⟨⟨b1,b2⟩,b3⟩,b4⟩,b5⟩,b6⟩:=hbb;have hks:k=C.size e:=Nat.eq_of_beq_eq_true b1;have hzl:zz.length=k:=Nat.eq_of_beq_eq_true b2;obtain⟨zv,hz1,hz2⟩:=zeroT_ok (C:=C) hzz;have hzs:zv.cells.size=C.size e:=by rw [←Array.length_toList,(hz2 (σ:=σ) (H:=H) (w:=w)).length,hzl,hks]
    obtain⟨i,hi,hib⟩:=bytesT_ok hb;obtain⟨vs,H',k1',k2',k3',k4',k5'⟩:=vsK_ok hC zz H _ r zv.cells.toList hR hz2 h;obtain⟨xx,hxx,hK⟩:=Option.bind_eq_some_iff.1 k1';obtain⟨zc,hz3,hz4⟩:=zeros_any hz1 c.toNat k (by rw [hzs,hks]) (by rw [hks];exact hC.pos e) w;have wn:IntKind.i64.wrap n=n:=IntWalk.i64_in n ⟨by omega,by omega⟩;have wc:IntKind.i64.wrap c=c:=IntWalk.i64_in c ⟨by omega,by omega⟩;have t1:((i.bytes:Int)*c>2^48)=False:=by rw [hib];simp;omega
    have hrun:((do pure (.value (←Instr.makeSlice t (.int k1 n) (.int k2 c))):Sem Next)).run P w=
      .ok (.value (.slice (some ⟨w.heap.size,0,none⟩) n.toNat c.toNat)) (w.alloc (.cells ((Array.range (c.toNat*k)).map (zc[· %zc.size]!)) e)):=by
     have c1:¬c<0:=by omega
     have c2:¬n<0:=by omega
     have c3:¬n>c:=by omega
     rcases hz3 with⟨h0,rfl⟩|⟨h0,rfl⟩
     ·simp [Instr.makeSlice,run_underlying hu,asInt,run_asIntOf,run_typeInfo w hi,wn,wc,c1,c2,c3,hib,run_sizeOf' hk,h0,newRow]
      intro hbad;exfalso;omega
     ·simp [Instr.makeSlice,run_underlying hu,asInt,run_asIntOf,run_typeInfo w hi,wn,wc,c1,c2,c3,hib,run_sizeOf' hk,h0,newRow,run_zero hz1]
      intro hbad;exfalso;omega
    have hnc:n.toNat≤c.toNat:=by omega
    have hrows:=Rows.replicate hC (cell:=Cell C σ H' w) (x:=xx) (ys:=zv.cells.toList) (by rw [Array.length_toList,hzs]) (dec_rep hC hxx k5') n.toNat;have he2:((Array.range (c.toNat*k)).map (zc[· %zc.size]!)).toList=repL zv.cells.toList n.toNat++repL zv.cells.toList (c.toNat-n.toNat):=by
     rw [hz4,←repL_add];congr 1;omega
    have hsz:((Array.range (c.toNat*k)).map (zc[· %zc.size]!)).size=c.toNat*C.size e:=by simp [hks]
    have hst:=step_row_new hC k2'.rp (cap:=c.toNat) (0,0) he2 hrows hsz (fz0 _) true;refine .inl ⟨_,_,[],_,add σ H'.length (some w.heap.size),_,hK,.inl hrun,k2'.trans0 hst, ?_⟩;have:=own_new (C:=C) (σ:=σ) (H:=H') (t:=e) (l:=List.replicate n.toNat xx) (m:=true) (alloc_new w (.cells ((Array.range (c.toNat*k)).map (zc[· %zc.size]!)) e)) hsz
    rwa [List.length_replicate]at this
  ·cases h
 ·cases h
end Go.Proofs.YtdoifigogbdodaaGreatDoor.Ev

namespace Go.Proofs.YtdoifigogbdodaaGreatDoor.Ev
open Go
variable {T:Nat→Type} {C:Cdc T} {P:Program} {σ:Lk} {H:List (AObj T)} {w:World} {G:Nat→Option (List (V T))} {R:Type}
theorem size_bt(hC:CdcOk C):C.size C.bt=1:=by have:=hC.len C.bt (C.ofB 0);rw [hC.encB]at this;simpa using this.symm
theorem cap_ge(w:World)(need old:Nat)(e:TypeId)(h:need≤maxI):need≤grownCap w need old e:=by
 show need≤(Question.appendCap need old e).cut _;simp only [Question.cut];unfold maxI at h;omega
theorem convA_good(hC:CdcOk C)(hR:Rp C σ H w G){src dst:Nat}{x:AV T}{y:Value}(hx:RepA C σ H w x y)
  {K:Kont T R} {Kp:AV T→List (AObj T)→Option R} {r:R} (h:convA C P src dst x H K=some r):
  Good P C G σ H w (((do pure (.value (←convert src dst y)):Sem Next)).run P w) K Kp r:=by
 unfold convA at h;split at h
 ·rename_i k0 k kk n h1 h2
  have:=rep_i hx;subst this;refine good_val hR h ?_ (mk_i _ _);simp [convert,run_underlying h1,run_underlying h2,Conv.intToInt]
 ·rename_i k0 kk n h1 h2
  have:=rep_i hx;subst this;refine good_val hR h ?_ (mk_s _);simp [convert,run_underlying h1,run_underlying h2,Conv.intToString]
 ·rename_i s h1 h2
  have:=rep_s hx;subst this;refine good_val hR h ?_ (mk_s _);simp [convert,run_underlying h1,run_underlying h2]
 ·rename_i e s h1 h2
  have:=rep_s hx;subst this;split at h
  ·rename_i he
   cases hb:Nat.beq e C.bt&&Nat.beq ((sizeT P e).getD 0) 1&&Nat.beq (C.size e) 1&&Nat.ble s.size maxI
   ·rw [hb]at h;cases h
   ·rw [hb]at h
    simp only [cond_true]at h;simp only [Bool.and_eq_true]at hb;have heb:e=C.bt:=Nat.eq_of_beq_eq_true hb.1.1.1;subst heb;have hsz:=Nat.le_of_ble_eq_true hb.2;have hcap:=cap_ge w s.size 0 C.bt hsz;let cap:=grownCap w s.size 0 C.bt;have hrows:=bytes_rows hC (Cell C σ H w) s.data.toList;have hbs:(bytesRow s cap).toList=(s.data.toList.map fun b=>Value.int .u8 b.toNat)++List.replicate (cap-s.size) (.int .u8 0):=by simp [bytesRow]
    have hlen:(bytesRow s cap).size=cap*C.size C.bt:=by
     rw [size_bt hC,Nat.mul_one,←Array.length_toList,hbs,List.length_append,List.length_map,List.length_replicate];have:s.data.toList.length=s.size:=by show s.data.toList.length=s.data.size;simp
     omega
    have hst:=(step_drew hR).trans0 (step_row_new (m:=true) hC (step_drew hR).rp ((bytesRow s cap).size,(bytesRow s cap).size+1) hbs (hrows.mono (step_drew hR).move.cell) hlen (fun off ho hh=>by simp at hh;omega));refine .inl ⟨_,_,[],.slice (some ⟨w.heap.size,0,none⟩) s.size cap,_,_,h,.inl ?_,hst, ?_⟩
    ·simp only [Sem.run_bind,run_bytes_of_string w src dst C.bt s h1 h2 he,Result.andThen_ok,Sem.run_pure];rfl
    ·have:=own_new (C:=C) (σ:=σ) (H:=H) (t:=C.bt) (l:=s.data.toList.map fun b=>C.ofB b.toNat) (m:=true) (b:=w.heap.size) (alloc_new w.drew (.cells (bytesRow s cap) C.bt ((bytesRow s cap).size,(bytesRow s cap).size+1))) hlen
     have hl2:(s.data.toList.map fun b=>C.ofB b.toNat).length=s.size:=by rw [List.length_map];show s.data.toList.length=s.data.size;simp
     rwa [hl2]at this
  ·cases h
 ·rename_i t o k h1 h2
  split at h
  ·rename_i e l j ho hj
   cases hb: !Nat.beq j.size 0&&Nat.blt k l.length
   ·rw [hb]at h;cases h
   ·rw [hb]at h
    simp only [cond_true]at h;rw [Bool.and_eq_true]at hb;obtain⟨h0,b,hs,rfl⟩:=hx;obtain⟨b',cs,hs',hblk,hrep⟩:=hR.obj o _ ho;rw [hs]at hs';cases hs';have hlen:=hrep.length;have hk:k<l.length:=Nat.le_of_ble_eq_true hb.2;refine good_val hR h ?_ ⟨h0,b,hs,rfl⟩;rw [Sem.run_bind,Lib.run_to_unsafe (e:=e) (cells:=cs.size) w ⟨b,k,none⟩ h1 h2 hj (by intro h;rw [h]at hb;simp at hb) (by simp [World.shape?,hblk]) (by simp at hlen⊢;omega)];rfl
  ·cases h
 ·rename_i u o k h1 h2
  split at h
  ·rename_i e l j ho hj
   cases hb:liesAt P P.depth e (l.length/P.cellsOf e) k u 1
   ·rw [hb]at h;cases h
   ·rw [hb]at h
    simp only [cond_true]at h;obtain⟨h0,b,hs,rfl⟩:=hx;obtain⟨b',cs,hs',hblk,hrep⟩:=hR.obj o _ ho;rw [hs]at hs';cases hs';have hlen:cs.size=l.length:=by have:=hrep.length;simpa using this
    refine good_val hR h ?_ ⟨h0,b,hs,rfl⟩;rw [Sem.run_bind,Lib.run_from_unsafe (e:=e) (cells:=cs.size) w ⟨b,k,none⟩ h1 h2 hj (by simp [World.shape?,hblk]) (by rw [hlen];exact hb)];rfl
  ·cases h
 ·rename_i q e h1 h2
  split at h
  ·rename_i he
   cases hb:Nat.beq (C.size C.bt) 1
   ·rw [hb]at h;cases h
   ·rw [hb]at h
    simp only [cond_true]at h;split at h
    ·rename_i l hl
     obtain⟨A,cap,ys,rfl,h3,h4⟩:=cont_rows hC hR hx hl;refine good_val hR h ?_ (mk_s _);rw [Sem.run_bind,run_convert_bytes_string w src dst e A l.length cap h1 he h2];have key:(Conv.bytesToString (.slice A l.length cap)).run P w= .ok (.string ⟨(l.map fun x=>UInt8.ofNat (C.toB x).toNat).toArray⟩) w:=by
      rcases h4 with rfl|⟨b,off,rfl,h5⟩
      ·cases A with
       |none=>rfl
       |some a=>
        exact run_bytesToString (P:=P) w a 0 cap [] (by simp [loadCells,loadCellsFrom])
      ·have hys:ys=(l.map C.toB).map (Value.int .u8):=by
        apply List.ext_getElem?;intro j;by_cases hj:j<l.length
        ·obtain⟨y,h6,h7⟩:=h3.2 j hj 0 (.i .u8 (C.toB l[j])) (by rw [hC.encB];rfl)
         rw [size_bt hC,Nat.mul_one,Nat.add_zero]at h6;cases h7;rw [h6];simp [hj]
        ·rw [List.getElem?_eq_none (by rw [h3.1,size_bt hC];omega),List.getElem?_eq_none (by simp;omega)]
       subst hys;have:=run_bytesToString (P:=P) w ⟨b,off,none⟩ l.length cap (l.map C.toB) (loadCells_rows (by simp) (fun j v hj=>by rw [add_none];exact h5 j v hj));rw [this];congr 2;have:∀(xs:List (T C.bt)) (q:ByteArray),(xs.map C.toB).foldl (fun r n=>r.push (UInt8.ofNat n.toNat)) q=⟨q.data++(xs.map fun x=>UInt8.ofNat (C.toB x).toNat).toArray⟩:=by
        intro xs
        induction xs with
        |nil=>intro q;simp
        |cons x xs ih=>intro q;simp only [List.map_cons,List.foldl_cons,ih];simp [ByteArray.push]
       rw [this];simp
     rw [key,Result.andThen_ok,Sem.run_pure]
    ·cases h
  ·cases h
 ·cases h
theorem convA_q(hC:CdcOk C)(hR:Rp C σ H w G){src dst:Nat}{x:AV T}{y:Value}(hx:RepA C σ H w x y)(hns:∀e,P.underlying dst≠some (.slice e))
  {K:Kont T R} {r:R} (h:convA C P src dst x H K=some r):
  GoodQ C σ H w (((do pure (.value (←convert src dst y)):Sem Next)).run P w) K r:=by
 unfold convA at h;split at h
 ·rename_i k0 k kk n h1 h2
  have:=rep_i hx;subst this;refine good_q h ?_ (mk_i _ _);simp [convert,run_underlying h1,run_underlying h2,Conv.intToInt]
 ·rename_i k0 kk n h1 h2
  have:=rep_i hx;subst this;refine good_q h ?_ (mk_s _);simp [convert,run_underlying h1,run_underlying h2,Conv.intToString]
 ·rename_i s h1 h2
  have:=rep_s hx;subst this;refine good_q h ?_ (mk_s _);simp [convert,run_underlying h1,run_underlying h2]
 ·rename_i e s h1 h2
  exact(hns e h2).elim
 ·rename_i t o k h1 h2
  split at h
  ·rename_i e l j ho hj
   cases hb: !Nat.beq j.size 0&&Nat.blt k l.length
   ·rw [hb]at h;cases h
   ·rw [hb]at h
    simp only [cond_true]at h;rw [Bool.and_eq_true]at hb;obtain⟨h0,b,hs,rfl⟩:=hx;obtain⟨b',cs,hs',hblk,hrep⟩:=hR.obj o _ ho;rw [hs]at hs';cases hs';have hlen:=hrep.length;have hk:k<l.length:=Nat.le_of_ble_eq_true hb.2;refine good_q h ?_ ⟨h0,b,hs,rfl⟩;rw [Sem.run_bind,Lib.run_to_unsafe (e:=e) (cells:=cs.size) w ⟨b,k,none⟩ h1 h2 hj (by intro h;rw [h]at hb;simp at hb) (by simp [World.shape?,hblk]) (by simp at hlen⊢;omega)];rfl
  ·cases h
 ·rename_i u o k h1 h2
  split at h
  ·rename_i e l j ho hj
   cases hb:liesAt P P.depth e (l.length/P.cellsOf e) k u 1
   ·rw [hb]at h;cases h
   ·rw [hb]at h
    simp only [cond_true]at h;obtain⟨h0,b,hs,rfl⟩:=hx;obtain⟨b',cs,hs',hblk,hrep⟩:=hR.obj o _ ho;rw [hs]at hs';cases hs';have hlen:cs.size=l.length:=by have:=hrep.length;simpa using this
    refine good_q h ?_ ⟨h0,b,hs,rfl⟩;rw [Sem.run_bind,Lib.run_from_unsafe (e:=e) (cells:=cs.size) w ⟨b,k,none⟩ h1 h2 hj (by simp [World.shape?,hblk]) (by rw [hlen];exact hb)];rfl
  ·cases h
 ·rename_i q e h1 h2
  split at h
  ·rename_i he
   cases hb:Nat.beq (C.size C.bt) 1
   ·rw [hb]at h;cases h
   ·rw [hb]at h
    simp only [cond_true]at h;split at h
    ·rename_i l hl
     obtain⟨A,cap,ys,rfl,h3,h4⟩:=cont_rows hC hR hx hl;refine good_q h ?_ (mk_s _);rw [Sem.run_bind,run_convert_bytes_string w src dst e A l.length cap h1 he h2];have key:(Conv.bytesToString (.slice A l.length cap)).run P w= .ok (.string ⟨(l.map fun x=>UInt8.ofNat (C.toB x).toNat).toArray⟩) w:=by
      rcases h4 with rfl|⟨b,off,rfl,h5⟩
      ·cases A with
       |none=>rfl
       |some a=>
        exact run_bytesToString (P:=P) w a 0 cap [] (by simp [loadCells,loadCellsFrom])
      ·have hys:ys=(l.map C.toB).map (Value.int .u8):=by
        apply List.ext_getElem?;intro j;by_cases hj:j<l.length
        ·obtain⟨y,h6,h7⟩:=h3.2 j hj 0 (.i .u8 (C.toB l[j])) (by rw [hC.encB];rfl)
         rw [size_bt hC,Nat.mul_one,Nat.add_zero]at h6;cases h7;rw [h6];simp [hj]
        ·rw [List.getElem?_eq_none (by rw [h3.1,size_bt hC];omega),List.getElem?_eq_none (by simp;omega)]
       subst hys;have:=run_bytesToString (P:=P) w ⟨b,off,none⟩ l.length cap (l.map C.toB) (loadCells_rows (by simp) (fun j v hj=>by rw [add_none];exact h5 j v hj));rw [this];congr 2;have:∀(xs:List (T C.bt)) (q:ByteArray),(xs.map C.toB).foldl (fun r n=>r.push (UInt8.ofNat n.toNat)) q=⟨q.data++(xs.map fun x=>UInt8.ofNat (C.toB x).toNat).toArray⟩:=by
        intro xs
        induction xs with
        |nil=>intro q;simp
        |cons x xs ih=>intro q;simp only [List.map_cons,List.foldl_cons,ih];simp [ByteArray.push]
       rw [this];simp
     rw [key,Result.andThen_ok,Sem.run_pure]
    ·cases h
  ·cases h
 ·cases h
theorem assertA_good(hR:Rp C σ H w G){xt as:Nat}{ok:Bool}{x:AV T}{y:Value}(hx:RepA C σ H w x y)
  {K:Kont T R} {r:R} (h:assertA P x as ok H K=some r):
  GoodQ C σ H w (((do pure (.value (←Instr.typeAssert y xt as ok)):Sem Next)).run P w) K r:=by
 have tup2:∀(a b:AV T) (u v:Value),RepA C σ H w a u→RepA C σ H w b v→RepA C σ H w (.tup [a,b]) (.tuple #[u,v]):=fun a b u v ha hb=>
  ⟨_,rfl,u,[v],rfl,ha,v,[],rfl,hb,rfl⟩
 unfold assertA at h;split at h
 ·rename_i want hu
  split at h
  ·rename_i t x
   obtain⟨z,rfl,hz⟩:=hx;split at h
   ·rename_i i hi
    split at h
    ·rename_i hm
     cases ok
     ·exact good_q h (v:= .iface t z) (by simp [Instr.typeAssert,run_underlying hu,run_typeInfo w hi,hm]) ⟨z,rfl,hz⟩
     ·exact good_q h (v:= .tuple #[.iface t z,.bool true]) (by simp [Instr.typeAssert,run_underlying hu,run_typeInfo w hi,hm]) (tup2 _ _ _ _ ⟨z,rfl,hz⟩ (mk_b _))
    ·rename_i m hm
     cases ok
     ·cases h
     ·simp only [cond_true]at h
      split at h
      ·rename_i zv hzv
       refine good_q h (v:= .tuple #[zv,.bool false]) ?_ (tup2 _ _ _ _ (rep_ofConst zv) (mk_b _));simp [Instr.typeAssert,run_underlying hu,run_typeInfo w hi,hm,run_zero hzv]
      ·cases h
   ·cases h
  ·cases h
 ·rename_i d hd hu
  have hni:∀want,d≠.interface want:=fun want he=>hd want he
  split at h
  ·rename_i t x
   obtain⟨z,rfl,hz⟩:=hx;cases ht:Nat.beq t as
   ·rw [ht]at h
    simp only [cond_false]at h;cases ok
    ·cases h
    ·simp only [cond_true]at h
     split at h
     ·rename_i zv hzv
      have hne:¬t=as:=fun e=>by subst e;simp at ht
      refine good_q h (v:= .tuple #[zv,.bool false]) ?_ (tup2 _ _ _ _ (rep_ofConst zv) (mk_b _));cases d<;>first|(exact(hni _ rfl).elim)|(simp [Instr.typeAssert,run_underlying hu,hne,run_zero hzv])
     ·cases h
   ·rw [ht]at h
    simp only [cond_true]at h;have:=Nat.eq_of_beq_eq_true ht;subst this;cases ok
    ·refine good_q h (v:=z) ?_ hz
     cases d<;>first|(exact(hni _ rfl).elim)|(simp [Instr.typeAssert,run_underlying hu])
    ·refine good_q h (v:= .tuple #[z,.bool true]) ?_ (tup2 _ _ _ _ hz (mk_b _))
     cases d<;>first|(exact(hni _ rfl).elim)|(simp [Instr.typeAssert,run_underlying hu])
  ·cases(show RepV C (Cell C σ H w) _ _ from hx)
   cases ok
   ·cases h
   ·simp only [cond_true]at h
    split at h
    ·rename_i zv hzv
     refine good_q h (v:= .tuple #[zv,.bool false]) ?_ (tup2 _ _ _ _ (rep_ofConst zv) (mk_b _));cases d<;>first|(exact(hni _ rfl).elim)|(simp [Instr.typeAssert,run_underlying hu,run_zero hzv])
    ·cases h
  ·cases h
 ·cases h
end Go.Proofs.YtdoifigogbdodaaGreatDoor.Ev

namespace Go.Proofs.YtdoifigogbdodaaGreatDoor.Ev
open Go
variable {T:Nat→Type} {C:Cdc T} {P:Program} {σ:Lk} {H:List (AObj T)} {w:World} {G:Nat→Option (List (V T))} {R:Type}
theorem sliceDataA_good(hC:CdcOk C)(hR:Rp C σ H w G){ty:Nat}{at_ :Array Nat}{x:AV T}{y:Value}(hx:RepA C σ H w x y){K:Kont T R}{Kp:AV T→List (AObj T)→Option R}{r:R}(h:sliceDataA P ty x H K=some r):
  Good P C G σ H w (((do pure (.value (←Builtin.unsafeSliceData_ at_ ty #[y])):Sem Next)).run P w) K Kp r:=by
 unfold sliceDataA at h;split at h
 ·rename_i e hty
  split at h
  ·rename_i o
   split at h
   ·rename_i t l m ho
    obtain⟨h0,_,h1⟩:=hx;rcases h1 _ _ (svH_row ho)with⟨h2,rfl⟩|⟨b,c,cs,ee,fz,h2,rfl,h3,h4⟩
    ·refine good_val hR h (v:= .pointer none) ?_ ⟨h0,⟨_,rfl⟩,fun n s hs hn=> ?_⟩
     ·rw [Sem.run_bind,Lib.run_unsafeSliceData_nil];rfl
     ·rw [svH_row ho]at hs;cases hs
      rcases hR.obj o _ ho with⟨rfl,_⟩|⟨b,_,_,_,hb,_⟩
      ·simp at hn
      ·rw [h2]at hb;cases hb
    ·by_cases hc:c=0
     ·subst hc
      have hsh:w.shape? (⟨b,0,none⟩:Addr).block=some (ee,cs.size):=by simp [World.shape?,h3]
      refine .inl ⟨_,_,[],.pointer (some ⟨w.heap.size,0,none⟩),σ,w.alloc (.view ⟨b,0,none⟩ e),h,.inl ?_, ?_,⟨h0,⟨_,rfl⟩,fun n s hs hn=> ?_⟩⟩
      ·rw [Sem.run_bind,Lib.run_unsafeSliceData_zero w at_ ty e hty ⟨b,0,none⟩ l.length (ee,cs.size) hsh];rfl
      ·
       have hblk:∀b',b'<w.heap.size→(w.alloc (.view ⟨b,0,none⟩ e)).heap[b']? =w.heap[b']? :=fun b' hb'=>alloc_old w _ b' hb'
       have hcell:∀b' off x,Cell C σ H w b' off x→Cell C σ H (w.alloc (.view ⟨b,0,none⟩ e)) b' off x:=fun b' off x ⟨k1,k2⟩=>⟨k1,(cell_of_block (hblk b' (cell_lt k2))).trans k2⟩
       have hM:Move C [] σ H w σ H (w.alloc (.view ⟨b,0,none⟩ e)):=⟨hcell,Nat.le_refl _,fun _ _ _ =>rfl,fun o' _ _ n s hs=>⟨hs,fun b' _ cs' e' fz' hb'=>⟨cs',e',fz',by rw [hblk b' (Array.getElem?_eq_some_iff.1 hb').1];exact hb',rfl⟩⟩⟩
       refine⟨⟨hR.inj,fun i o' b' k1 k2 k3=>Nat.lt_of_lt_of_le (hR.lt i o' b' k1 k2 k3) (by simp),fun i o' hi=> ?_,fun g l hg=>(hR.glob g l hg).mono hcell,hR.free,fun b' off hF=>Nat.lt_of_lt_of_le (hR.fb b' off hF) (by simp)⟩,
        ⟨rfl,rfl,rfl,rfl,by simp,Nat.le_refl _,fun _ _ _ h=>h,fun b' off hb' _ =>cell_of_block (hblk b' hb'),fun b' hb' _ =>hblk b' hb',fun _ _ _ _ =>rfl,fun _ o' _ k1 k2 k3=> .inl ⟨o',k1,k2,k3⟩,fun _ o' o'' k1 k2 hr=>by rw [k1]at k2;cases k2;exact hr⟩,hM⟩
       by_cases hl:live o'=true
       ·have:=RepO.move hM rfl (fun b' hb'=>hblk b' (hR.lt i o' b' hi hl hb')) (hR.obj i o' hi)
        rwa [purgeO_nil]at this
       ·cases o'<;>simp [live]at hl
        trivial
      ·rw [svH_row ho]at hs;cases hs
       rcases hR.obj o _ ho with⟨rfl,_⟩|⟨b',cs',fz',cap,hb',h6,h7,h8,h9,_⟩
       ·simp at hn
       ·rw [h2]at hb';cases hb'
        rw [h3]at h6;cases h6;have:=Nat.eq_of_mul_eq_mul_right (hC.pos t) (h8.symm.trans h4);omega
     ·refine good_val hR h (v:= .pointer (some ⟨b,0,none⟩)) ?_ ⟨h0,⟨_,rfl⟩,fun n s _ _ =>⟨b,h2,rfl⟩⟩
      rw [Sem.run_bind,Lib.run_unsafeSliceData_row w at_ ty _ _ _ hc];rfl
   ·cases h
  ·cases(show y=_ from hx)
   refine .inl ⟨_,_,[],.pointer none,add σ H.length none,w,h,.inl ?_,step_add hR .dead none w rfl rfl rfl (Nat.le_refl _) (fun _ _ =>rfl) (fun b hb=>by cases hb) (fun _ =>trivial),by simp,⟨_,rfl⟩,fun n s hs hn=> ?_⟩
   ·rw [Sem.run_bind,Lib.run_unsafeSliceData_nil];rfl
   ·unfold svH at hs;simp [svO]at hs
  ·cases h
 ·cases h
theorem run_loadBytesI(w:World):∀(l:List Int) (a:Addr) (acc:ByteArray),(∀j x,l[j]? =some x→w.cell? (a.add j)=some (.int .u8 x))→
  (loadBytes a acc l.length).run P w= .ok ⟨acc.data++(l.map fun x=>UInt8.ofNat x.toNat).toArray⟩ w
 |[],a,acc,_ =>by simp [loadBytes]
 |x::l,a,acc,h=>by
  have h0:w.cell? a=some (.int .u8 x):=by
   have:=h 0 x rfl
   simpa [Addr.add] using this
  have ih:=run_loadBytesI w l (a.add 1) (acc.push (UInt8.ofNat x.toNat)) (fun j y hy=>by
   have:=h (j+1) y (by simpa using hy);have e:(a.add 1).add j=a.add (j+1):=by
    unfold Addr.add;by_cases hj:j=0
    ·subst hj;simp
    ·simp [hj];omega
   rw [e];exact this)
  simp only [List.length_cons,loadBytes,Sem.run_bind,run_load,h0,Result.andThen];have e2:x.toNat.toUInt8=UInt8.ofNat x.toNat:=rfl;rw [e2,ih];congr 1;apply ByteArray.ext;simp [ByteArray.push]
theorem run_unsafeStringI(w:World)(pt it ty e:TypeId)(hp:P.underlying pt=some (.pointer e))(hc:P.cellsOf e=1)(g cells:Nat)(hsh:w.shape? g=some (e,cells))(l:List Int)(h0:l≠[])(hn:l.length≤cells)(h63:l.length≤9223372036854775807)
  (hcell:∀j x,l[j]? =some x→w.cell? ((⟨g,0,none⟩:Addr).add j)=some (.int .u8 x)):
  (Builtin.unsafeString_ #[pt,it] ty #[.pointer (some ⟨g,0,none⟩),.int .i64 l.length]).run P w= .ok (.string ⟨(l.map fun x=>UInt8.ofNat x.toNat).toArray⟩) (w.freeze ⟨g,0,none⟩ l.length):=by
 have hl:l.length≠0:=by simpa using h0
 have hlb:=run_loadBytesI (P:=P) w l ⟨g,0,none⟩ .empty hcell;have hlies:=Lib.liesAt_bytes (P:=P) hc (cells/P.cellsOf e) l.length (by rw [hc];simpa using hn);have h63':¬(9223372036854775807:Int)<(l.length:Int):=by omega
 have hdef:Builtin.unsafeString_ #[pt,it] ty #[.pointer (some ⟨g,0,none⟩),.int .i64 l.length]=
   (do
    let n←asInt (.int .i64 l.length)
    if n<0 then runtimePanic (.error "unsafe.String: len out of range")
    if n>IntKind.i64.max then unsupported (.unsafePointer "String: a length above the largest int")
    if n=0 then pure (.string .empty)
    else if←variablesAt ⟨g,0,none⟩ (←elemOf pt) n.toNat then do
     let s←loadBytes ⟨g,0,none⟩ .empty n.toNat
     freeze ⟨g,0,none⟩ n.toNat
     pure (.string s)
    else unsupported (.unsafePointer "String: not so many bytes at ptr")):=rfl
 rw [hdef];have hmax:IntKind.i64.max=9223372036854775807:=rfl;have hneg:¬(l.length:Int)<0:=by omega
 simp [asInt,asIntOf,hmax,h63',hneg,hl,variablesAt,hsh,elemOf,run_underlying hp,hlies,hlb]
theorem freeze_other(w:World)(a:Addr)(n b:Nat)(h:b≠a.block):(w.freeze a n).heap[b]? =w.heap[b]? :=by
 unfold World.freeze;split
 ·rfl
 ·simp only [Array.getElem?_modify]
  rw [if_neg (fun e=>h e.symm)]
theorem freeze_size(w:World)(a:Addr)(n:Nat):(w.freeze a n).heap.size=w.heap.size:=by
 unfold World.freeze;split
 ·rfl
 ·simp
theorem freeze_os(w:World)(a:Addr)(n:Nat):(w.freeze a n).os=w.os∧(w.freeze a n).tape=w.tape∧(w.freeze a n).output=w.output:=by
 unfold World.freeze;split<;>exact⟨rfl,rfl,rfl⟩
theorem freeze_cell(w:World)(a:Addr)(n:Nat)(b off:Nat):(w.freeze a n).cell? ⟨b,off,none⟩=w.cell? ⟨b,off,none⟩:=by
 unfold World.freeze;split
 ·rfl
 ·unfold World.cell?
  simp only [Array.getElem?_modify];by_cases hb:a.block=b
  ·subst hb
   rw [if_pos rfl];cases h:w.heap[a.block]? with
   |none=>rfl
   |some o=>
    simp only [Option.map_some];cases o<;>rfl
  ·rw [if_neg hb]
theorem uStringA_good(hC:CdcOk C)(hR:Rp C σ H w G){ty pt it:Nat}{p n:AV T}{y u:Value}(hp:RepA C σ H w p y)(hn:RepA C σ H w n u){K:Kont T R}{Kp:AV T→List (AObj T)→Option R}{r:R}(h:uStringA C P pt p n H K=some r):
  Good P C G σ H w (((do pure (.value (←Builtin.unsafeString_ #[pt,it] ty #[y,u])):Sem Next)).run P w) K Kp r:=by
 unfold uStringA at h;split at h
 ·rename_i e o k hpt
  have:=rep_i hn;subst this;obtain⟨h0,⟨q,rfl⟩,h1⟩:=hp;split at h
  ·rename_i t l m ho
   split at h
   ·rename_i he
    subst he;cases hb:Nat.beq e C.bt&&Nat.beq (P.cellsOf e) 1&&Nat.beq (C.size C.bt) 1&&decide (k=(l.length:Int))&&Nat.ble l.length maxI
    ·rw [hb]at h;cases h
    ·rw [hb]at h
     simp only [cond_true]at h;simp only [Bool.and_eq_true,decide_eq_true_eq]at hb;obtain⟨⟨⟨⟨hb1,hb2⟩,hb3⟩,hb4⟩,hb5⟩:=hb;have he:=Nat.eq_of_beq_eq_true hb1;have hc:=Nat.eq_of_beq_eq_true hb2;have hs:=Nat.eq_of_beq_eq_true hb3;have hle:=Nat.le_of_ble_eq_true hb5;subst hb4;have kill:∀w',w'.os=w.os→w'.tape=w.tape→w'.output=w.output→w'.heap.size=w.heap.size→(∀b,b<w.heap.size→σ o≠some b→w'.heap[b]? =w.heap[b]?)→(∀b off,w'.cell? ⟨b,off,none⟩=w.cell? ⟨b,off,none⟩)→
       Step C G [o] σ H w (add σ o (σ o)) ((H.set o .dead).map (purgeO [o])) w':=fun w' k1 k2 k3 k4 k5 k6=>
      step_modW (S:=[o]) hR (o':= .dead) (σ o) w' ho rfl (fun hf=>by cases hf) k1 k2 k3 (by rw [k4];exact Nat.le_refl _) k5 (fun b hl=>by cases hl) (fun b off _ _ =>k6 b off) (.inl (by simp)) (fun hf=>by cases hf) (.inl (by simp)) (fun _ =>trivial)
     by_cases hl:l=[]
     ·subst hl
      refine .inl ⟨_,_,[o],.string .empty,_,w,h,.inl ?_,kill w rfl rfl rfl rfl (fun _ _ _ =>rfl) (fun _ _ =>rfl), ?_⟩
      ·have:=Lib.run_unsafeString_none (P:=P) w pt it ty q
       rw [Sem.run_bind];rw [show(.int .i64 (([]:List (T C.bt)).length:Int):Value)= .int .i64 0 from rfl,this];rfl
      ·exact .s _
     ·have hpos:0<l.length:=by cases l with|nil=>exact(hl rfl).elim|cons=>simp
      obtain⟨b,hσ,hq⟩:=h1 _ _ (svH_row ho) hpos;cases hq;rcases hR.obj o _ ho with⟨rfl,_⟩|⟨b',cs,fz,cap,hb',h6,h7,h8,h9,h10⟩
      ·exact(hl rfl).elim
      ·rw [hσ]at hb';cases hb'
       have hcell:∀j x,(l.map C.toB)[j]? =some x→w.cell? ((⟨b,0,none⟩:Addr).add j)=some (.int .u8 x):=by
        intro j x hx;rw [List.getElem?_map]at hx;cases hj:l[j]? with
        |none=>rw [hj]at hx;cases hx
        |some z=>
         rw [hj]at hx;cases hx;obtain⟨hlt,hz⟩:=List.getElem?_eq_some_iff.1 hj;obtain⟨yv,k1,k2⟩:=h10 j hlt 0 (.i .u8 (C.toB z)) (by rw [hz,hC.encB];rfl);cases k2;rw [add_none,cell_blk h6,Nat.zero_add];rw [hs]at k1
         simpa using k1
       have hsz:cs.size=cap:=by rw [h8,hs,Nat.mul_one]
       have hrun:=run_unsafeStringI (P:=P) w pt it ty e hpt hc b cs.size (by simp [World.shape?,h6,he]) (l.map C.toB) (by simpa using hl) (by simp;omega) (by simp;unfold maxI at hle;exact hle) hcell;rw [List.length_map]at hrun;have⟨o1,o2,o3⟩:=freeze_os w ⟨b,0,none⟩ l.length;refine .inl ⟨_,_,[o],.string ⟨((l.map C.toB).map fun x=>UInt8.ofNat x.toNat).toArray⟩,_,w.freeze ⟨b,0,none⟩ l.length,h,.inl ?_,kill _ o1 o2 o3 (freeze_size _ _ _) (fun b' _ hne=>freeze_other w _ _ b' fun e=>hne (by rw [e];exact hσ)) (fun b' off=>freeze_cell w _ _ b' off), ?_⟩
       ·rw [Sem.run_bind,hrun];rfl
       ·have:bytesOfA C l=⟨((l.map C.toB).map fun x=>UInt8.ofNat x.toNat).toArray⟩:=by
         unfold bytesOfA;rw [List.map_map];rfl
        show RepV C _ (.s (bytesOfA C l)) _;rw [this];exact .s _
   ·cases h
  ·rename_i ho
   cases hk:decide (k=0)
   ·rw [hk]at h;cases h
   ·rw [hk]at h
    have hk0:k=0:=by simpa using hk
    subst hk0;refine good_val hR h ?_ (mk_s _);rw [Sem.run_bind,Lib.run_unsafeString_none];rfl
  ·cases h
 ·cases h
end Go.Proofs.YtdoifigogbdodaaGreatDoor.Ev

namespace Go.Proofs.YtdoifigogbdodaaGreatDoor.Ev
open Go
variable {T:Nat→Type} {C:Cdc T} {P:Program} {σ:Lk} {H:List (AObj T)} {w:World} {G:Nat→Option (List (V T))} {R:Type}
theorem rangeA_good(hR:Rp C σ H w G){t:Nat}{x:AV T}{y:Value}(hx:RepA C σ H w x y)
  {K:Kont T R} {Kp:AV T→List (AObj T)→Option R} {r:R} (h:rangeA P t x H K=some r):
  Good P C G σ H w (((do pure (.value (←Instr.range t y)):Sem Next)).run P w) K Kp r:=by
 unfold rangeA at h;split at h
 ·rename_i s hu
  have:=rep_s hx;subst this;have hst:=step_alloc hR (.siter s 0) (.stringIter s 0) fun M=>⟨w.heap.size,add_self _ _ _,alloc_new w _⟩
  refine .inl ⟨_,_,[],.pointer (some ⟨w.heap.size,0,none⟩),_,_,h,.inl ?_,hst,ptr_new _⟩;simp [Instr.range,run_underlying hu]
 ·cases h
theorem nextA_good(hR:Rp C σ H w G){ty:Nat}{str:Bool}{x:AV T}{y:Value}(hx:RepA C σ H w x y)
  {K:Kont T R} {Kp:AV T→List (AObj T)→Option R} {r:R} (h:nextA x str H K=some r):
  Good P C G σ H w (((do pure (.value (←Instr.next y str ty)):Sem Next)).run P w) K Kp r:=by
 unfold nextA at h;split at h
 ·rename_i o
  split at h
  ·rename_i s pos ho
   obtain⟨h0,b,hb,rfl⟩:=hx;obtain⟨b',hb2,hblk⟩:=hR.obj o _ ho;rw [hb]at hb2;cases hb2;have hget:(getObj b).run P w= .ok (.stringIter s pos) w:=by
    show Sem.run P (.getObj b .pure) w=_;simp only [Sem.run,hblk]
   cases hlt:Nat.blt pos s.size
   ·rw [hlt]at h
    simp only [cond_false]at h;have hn:¬pos<s.size:=fun hh=>by
     have:Nat.blt pos s.size=true:=Nat.ble_eq_true_of_le hh;rw [hlt]at this;cases this
    refine good_val hR h (v:= .tuple #[.bool false]) ?_ ⟨_,rfl,_,[],rfl,mk_b _,rfl⟩;simp [Instr.next,hget,hn]
   ·rw [hlt]at h
    simp only [cond_true]at h;have hp:pos<s.size:=Nat.le_of_ble_eq_true hlt;have hblt:b<w.heap.size:=hR.lt o _ b ho rfl hb;let w':World:={w with heap:=w.heap.setIfInBounds b (.stringIter s (pos+(Utf8.decode s pos).2))}
    have hset:(setObj b (.stringIter s (pos+(Utf8.decode s pos).2))).run P w= .ok () w':=by
     show Sem.run P (.setObj b _ (.pure ())) w=_;simp only [Sem.run,hblk];rfl
    have hother:∀k,k≠b→w'.heap[k]? =w.heap[k]? :=fun k hk=>by
     show(w.heap.setIfInBounds b _)[k]? =_;rw [Array.getElem?_setIfInBounds_ne (Ne.symm hk)]
    have hst:Step C G [] σ H w σ (H.set o (.siter s (pos+(Utf8.decode s pos).2))) w':=by
     refine step_set hR w' ho rfl rfl rfl rfl rfl (by show _ ≤(w.heap.setIfInBounds b _).size;simp) (fun k hk hne=>hother k (fun hkb=>hne (by rw [hkb];exact hb))) (fun _ _ =>trivial) (fun k off hk hnf=>(hnf trivial).elim) (fun n2 s2 hr=>by cases hr) (fun M=>⟨b,hb, ?_⟩);show(w.heap.setIfInBounds b _)[b]? =_;simp [hblt]
    refine .inl ⟨_,_,[],.tuple #[.bool true,.int .i64 pos,.int .i32 (Utf8.decode s pos).1],_,_,h,.inl ?_,hst,⟨_,rfl,_,_,rfl,mk_b _,_,_,rfl,mk_i _ _,_,[],rfl,mk_i _ _,rfl⟩⟩;simp [Instr.next,hget,hp,hset,goInt]
  ·cases h
 ·cases h
theorem minMaxA_good(hR:Rp C σ H w G){mx:Bool}{args:List (AV T)}{vs:Array Value}(ha:RepL C σ H w args vs.toList){at_ :Array Nat}{ty:Nat}
  {K:Kont T R} {r:R} (h:minMaxA mx args H K=some r):
  (mx=false→GoodQ C σ H w (((do pure (.value (←Builtin.min_ at_ ty vs)):Sem Next)).run P w) K r)∧(mx=true→GoodQ C σ H w (((do pure (.value (←Builtin.max_ at_ ty vs)):Sem Next)).run P w) K r):=by
 unfold minMaxA at h;split at h
 ·rename_i k a k' b
  obtain⟨y,ys,h1,h2,y',ys',h3,h4,h5⟩:=ha;have h5':ys'=[]:=h5;have h6:=rep_i h2;have h7:=rep_i h4;subst h5';subst h3;subst h6;subst h7;obtain⟨vs⟩:=vs;simp only at h1;subst h1;refine⟨fun e=> ?_,fun e=> ?_⟩
  ·subst e
   simp only [cond_false]at h;exact good_q h (by simp [Builtin.min_,Builtin.min2]) (mk_i _ _)
  ·subst e
   simp only [cond_true]at h;exact good_q h (by simp [Builtin.max_,Builtin.max2]) (mk_i _ _)
 ·cases h
theorem builtinA_good(hC:CdcOk C)(hR:Rp C σ H w G){b:Builtin}{at_ :Array Nat}{args:List (AV T)}{vs:Array Value}(ha:RepL C σ H w args vs.toList){ty:Nat}{cs:Array Bool}
  {K:Kont T R} {Kp:AV T→List (AObj T)→Option R} {r:R} (h:builtinA C P b ty at_ args H K=some r):
  Good P C G σ H w ((builtin b at_ ty cs vs).run P w) K Kp r:=by
 have hget:∀(i:Nat) (x:Value),vs.toList[i]? =some x→vs[i]? =some x:=fun i x hx=>by simpa using hx
 have hgett:∀(i:Nat) (x:Nat),at_.toList[i]? =some x→at_[i]? =some x:=fun i x hx=>by simpa using hx
 unfold builtinA at h;split at h
 ·rename_i t ts a as hat
  obtain⟨y,ys,h1,h2,_⟩:=ha;exact(lenX_good (ts:=ts) hR h2 (hget 0 y (by rw [h1];rfl)) (hgett 0 t (by rw [hat];rfl)) h).good hR
 ·rename_i t t2 a x hat
  obtain⟨y,ys,h1,h2,u,us,h3,h4,h5⟩:=ha;subst h3;have h5':us=[]:=h5;subst h5';have e1:at_ = #[t,t2]:=Array.ext' hat;have e2:vs= #[y,u]:=Array.ext' h1;subst e1;subst e2;exact appendX_good hC hR h2 h4 h
 ·rename_i t ts a x as hat
  obtain⟨y,ys,h1,h2,u,us,h3,h4,h5⟩:=ha;subst h3;exact copyA_good (xt:=0) hC hR h2 h4 (hgett 0 t (by rw [hat];rfl)) (hget 0 y (by rw [h1];rfl)) (hget 1 u (by rw [h1];rfl)) h
 ·exact((minMaxA_good hR ha h).1 rfl).good hR
 ·exact((minMaxA_good hR ha h).2 rfl).good hR
 ·rename_i x
  obtain⟨y,ys,h1,h2,h3⟩:=ha;have h3':ys=[]:=h3;subst h3';have e2:vs= #[y]:=Array.ext' h1;subst e2;exact sliceDataA_good hC hR h2 h
 ·rename_i pt it x n hat
  obtain⟨y,ys,h1,h2,u,us,h3,h4,h5⟩:=ha;subst h3;have h5':us=[]:=h5;subst h5';have e1:at_ = #[pt,it]:=Array.ext' hat;have e2:vs= #[y,u]:=Array.ext' h1;subst e1;subst e2;exact uStringA_good hC hR h2 h4 h
 ·cases h
theorem parts_rep{env:Env T}{a:Act}(h:RepE C σ H w env a):∀(l:List (Nat×Operand)),RepP C σ H w (l.map fun p=>(p.1,evO env p.2)) (l.map fun p=>(p.1,a.eval p.2))
 |[]=> .nil
 |(i,x)::l=> .cons (rep_evO h x) (parts_rep h l)
theorem parts_rep'{env:Env T}{a:Act}(h:RepE C σ H w env a)(l:Array (Nat×Operand)):RepP C σ H w (l.toList.map fun p=>(p.1,evO env p.2)) (l.map fun p=>(p.1,a.eval p.2)).toList:=by
 rw [Array.toList_map];exact parts_rep h _
theorem run_value{x:Sem Value}{v:Value}{w w':World}(h:x.run P w= .ok v w'):((do pure (.value (←x)):Sem Next)).run P w= .ok (.value v) w':=by
 rw [Sem.run_bind,h];rfl
theorem evOp_good(hC:CdcOk C)(hR:Rp C σ H w G){o:Oper}{env:Env T}{a:Act}(he:RepE C σ H w env a){K:Kont T R}{Kp:AV T→List (AObj T)→Option R}{r:R}
  (h:evOp C P G o env H K Kp=some r):Good P C G σ H w ((execOp a.eval o).run P w) K Kp r:=by
 unfold evOp at h;unfold execOp;cases hop:o.op<;>rw [hop]at h<;>simp only at h⊢
 case move x=>exact good_val hR h rfl (rep_evO he x)
 case assign x=>exact good_val hR h rfl (rep_evO he x)
 case pick c x y=>
  split at h
  ·rename_i b hb
   have hc:=rep_evO he c;rw [hb]at hc;have hcv:=rep_b hc;cases b
   ·simp only [cond_false]at h
    exact good_val hR h (by simp [asBool,hcv]) (rep_evO he y)
   ·simp only [cond_true]at h
    exact good_val hR h (by simp [asBool,hcv]) (rep_evO he x)
  ·cases h
 case alloc e=>exact allocA_good hR h
 case box e x=>exact boxA_good hR (rep_evO he x) h
 case build t parts=>
  exact(buildA_good hR (parts_rep' he parts) h).good hR
 case buildSlice t n parts=>
  exact buildSliceA_good hC hR (parts_rep' he parts) h
 case load t x=>exact(loadA_good hR (rep_evO he x) (by rw [←loadB_eq];exact h)).good hR
 case store t x y=>exact storeA_good hC hR (rep_evO he x) (rep_evO he y) h
 case nilCheck x=>
  rcases nilCheckA_good hR (rep_evO he x) h with⟨⟨p,hp⟩,hK⟩|⟨⟨f,u,v,hp⟩,hK⟩
  ·exact good_val hR hK (v:=a.eval x) (by rw [hp];rfl) (rep_evO he x)
  ·exact good_val hR hK (v:=a.eval x) (by rw [hp];rfl) (rep_evO he x)
 case binOp op t x y yt=>
  obtain⟨z,v,h1,h2,h3⟩:=binA_good hR (rep_evO he x) (rep_evO he y) h;exact good_val hR h1 (run_value h2) h3
 case unOp op t x=>
  obtain⟨z,v,h1,h2,h3⟩:=unA_ok (P:=P) (rep_evO he x) h;exact good_val hR h1 (run_value h2) h3
 case convert s d x=>exact convA_good hC hR (rep_evO he x) h
 case makeInterface t x=>
  split at h
  ·cases h
  ·rename_i d hd hu
   refine good_val hR h (run_value (v:= .iface t (a.eval x)) ?_) ⟨_,rfl,rep_evO he x⟩;simp only [Instr.makeInterface,Sem.run_bind,run_underlying hu,Result.andThen_ok];cases d<;>first|rfl|(exact(hd _ rfl).elim)
  ·cases h
 case makeFunc f first cap=>
  refine good_val hR h rfl ⟨first.map a.eval,cap.map a.eval,rfl, ?_, ?_⟩
  ·rw [Array.toList_map];exact rep_evOs he _
  ·rw [Array.toList_map];exact rep_evOs he _
 case makeSlice t l c=>exact makeSliceA_good hC hR (rep_evO he l) (rep_evO he c) h
 case slice t x lo hi mx=>
  have opt:∀(z:Option Operand),(∀q,z.map (evO env)=some q→∃v,z.map a.eval=some v∧RepA C σ H w q v)∧(z.map (evO env)=none→z.map a.eval=none):=fun z=>by
   cases z with
   |none=>exact⟨fun q hq=>(by cases hq),fun _ =>rfl⟩
   |some z=>exact⟨fun q hq=>(by cases hq;exact⟨_,rfl,rep_evO he z⟩),fun hq=>(by cases hq)⟩
  exact sliceX_good hC hR (rep_evO he x) (opt lo).1 (opt lo).2 (opt hi).1 (opt hi).2 (opt mx).1 (opt mx).2 h
 case fieldAddr s x f=>exact(fieldAddrA_good hR (rep_evO he x) h).good hR
 case field s x f=>exact(fieldA_good hR (rep_evO he x) h).good hR
 case indexAddr t x i=>exact(indexAddrX_good hR (rep_evO he x) (rep_evO he i) h).good hR
 case index t x i=>exact(indexA_good hR (rep_evO he x) (rep_evO he i) h).good hR
 case range t x=>exact rangeA_good hR (rep_evO he x) h
 case next it s=>exact nextA_good hR (rep_evO he it) h
 case typeAssert x xt as ok=>exact(assertA_good hR (rep_evO he x) h).good hR
 case extract t i=>
  split at h
  ·rename_i l hl
   have ht:=rep_evO he t;rw [hl]at ht;obtain⟨vs,hv,h1⟩:=ht;split at h
   ·rename_i x hx
    obtain⟨y,h2,h3⟩:=h1.get i x hx;refine good_val hR h (run_value (v:=y) ?_) h3;have:vs[i]? =some y:=by simpa using h2
    rw [hv];simp [Instr.extract,this]
   ·cases h
  ·cases h
 case call c=>
  obtain⟨callee,args,at_⟩:=c;cases callee with
  |builtin b=>
   simp only at h;simp only [resolve,Sem.run_bind,Sem.run_pure,Result.andThen_ok,invoke];exact builtinA_good hC hR (by rw [Array.toList_map];exact rep_evOs he _) h
  |value f=>cases h
  |invoke r m=>cases h
 case panic x=>
  split at h
  ·rename_i t y hx
   have hv:=rep_evO he x;rw [hx]at hv;have hv':=hv;obtain⟨z,hz,_⟩:=hv';refine .inr ⟨_,_,a.eval x,σ,w,h, ?_,Step.refl hR,hv⟩;rw [hz];rfl
  ·cases h
 all_goals (cases h)
end Go.Proofs.YtdoifigogbdodaaGreatDoor.Ev

namespace Go.Proofs.YtdoifigogbdodaaGreatDoor.Ev
open Go
variable {T:Nat→Type} {C:Cdc T} {P:Program} {σ:Lk} {H:List (AObj T)} {w:World} {G:Nat→Option (List (V T))} {R:Type}
mutual
def ren(f:Nat→Nat):AV T→AV T
 | .ptr o k=> .ptr (f o) k
 | .rptr o i k=> .rptr (f o) i k
 | .own o=> .own (f o)
 | .sp o=> .sp (f o)
 | .slc o k n c=> .slc (f o) k n c
 | .agg l=> .agg (renL f l)
 | .tup l=> .tup (renL f l)
 | .fn g a b=> .fn g (renL f a) (renL f b)
 | .ifc t x=> .ifc t (ren f x)
 | .any=> .any
 | .v x=> .v x
 | .cptr t x k=> .cptr t x k
 | .gptr g k=> .gptr g k
 | .cap0=> .cap0
 | .z0=> .z0
def renL(f:Nat→Nat):List (AV T)→List (AV T)
 |[]=>[]
 |x::l=>ren f x::renL f l
end
def renO(f:Nat→Nat):AObj T→AObj T
 | .cells e g l=> .cells e g (renL f l)
 |x=>x
mutual
def within(S:List Nat):AV T→Bool
 | .ptr o _ =>S.elem o
 | .rptr o _ _ =>S.elem o
 | .own o=>S.elem o
 | .sp o=>S.elem o
 | .slc o _ _ _ =>S.elem o
 | .agg l=>withinL S l
 | .tup l=>withinL S l
 | .fn _ a b=>withinL S a&&withinL S b
 | .ifc _ x=>within S x
 | .any| .v _ | .cptr _ _ _ | .gptr _ _ | .cap0| .z0=>true
def withinL(S:List Nat):List (AV T)→Bool
 |[]=>true
 |x::l=>within S x&&withinL S l
end
def withinO(S:List Nat):AObj T→Bool
 | .cells _ _ l=>withinL S l
 |_ =>true
mutual
def refs:AV T→List Nat
 | .ptr o _ =>[o]
 | .rptr o _ _ =>[o]
 | .own o=>[o]
 | .sp o=>[o]
 | .slc o _ _ _ =>[o]
 | .agg l=>refsL l
 | .tup l=>refsL l
 | .fn _ a b=>refsL a++refsL b
 | .ifc _ x=>refs x
 | .any| .v _ | .cptr _ _ _ | .gptr _ _ | .cap0| .z0=>[]
def refsL:List (AV T)→List Nat
 |[]=>[]
 |x::l=>refs x++refsL l
end
structure Rn(C:Cdc T)(f:Nat→Nat)(D:Nat→Prop)(σ:Lk)(H:List (AObj T))(w:World)(σ':Lk)(H':List (AObj T))(w':World):Prop where
 cell:∀b off x,Cell C σ H w b off x→Cell C σ' H' w' b off x
 lt:∀o,D o→o<H.length→f o<H'.length
 sig:∀o,D o→o<H.length→σ' (f o)=σ o
 row:∀o,D o→o<H.length→∀n s,svH C H' (f o)=some (n,s)→svH C H o=some (n,s)
 heap:∀o,D o→∀b,σ o=some b→∀cs e fz,w.heap[b]? =some (.cells cs e fz)→∃cs' e' fz',w'.heap[b]? =some (.cells cs' e' fz')∧cs'.size=cs.size
mutual
def Names(D:Nat→Prop):AV T→Prop
 | .ptr o _ =>D o
 | .rptr o _ _ =>D o
 | .own o=>D o
 | .sp o=>D o
 | .slc o _ _ _ =>D o
 | .agg l=>NamesL D l
 | .tup l=>NamesL D l
 | .fn _ a b=>NamesL D a∧NamesL D b
 | .ifc _ x=>Names D x
 | .any| .v _ | .cptr _ _ _ | .gptr _ _ | .cap0| .z0=>True
def NamesL(D:Nat→Prop):List (AV T)→Prop
 |[]=>True
 |x::l=>Names D x∧NamesL D l
end
mutual
theorem names_within(S:List Nat):∀(x:AV T),within S x=true→Names (· ∈S) x
 | .ptr o _,h=>by
  show o∈S;have h':S.elem o=true:=h
  simpa using h'
 | .rptr o _ _,h=>by
  show o∈S;have h':S.elem o=true:=h
  simpa using h'
 | .own o,h=>by
  show o∈S;have h':S.elem o=true:=h
  simpa using h'
 | .sp o,h=>by
  show o∈S;have h':S.elem o=true:=h
  simpa using h'
 | .slc o _ _ _,h=>by
  show o∈S;have h':S.elem o=true:=h
  simpa using h'
 | .agg l,h=>names_withinL S l h
 | .tup l,h=>names_withinL S l h
 | .fn _ a b,h=>by
  have h':(withinL S a&&withinL S b)=true:=h;rw [Bool.and_eq_true]at h';exact⟨names_withinL S a h'.1,names_withinL S b h'.2⟩
 | .ifc _ x,h=>names_within S x h
 | .any,_ | .v _,_ | .cptr _ _ _,_ | .gptr _ _,_ | .cap0,_ | .z0,_ =>trivial
theorem names_withinL(S:List Nat):∀(l:List (AV T)),withinL S l=true→NamesL (· ∈S) l
 |[],_ =>trivial
 |x::l,h=>by
  have h':(within S x&&withinL S l)=true:=h;rw [Bool.and_eq_true]at h';exact⟨names_within S x h'.1,names_withinL S l h'.2⟩
end
mutual
theorem names_all{D:Nat→Prop}(h:∀o,D o):∀(x:AV T),Names D x
 | .ptr o _ | .rptr o _ _ | .own o| .sp o| .slc o _ _ _ =>h o
 | .agg l=>names_allL h l
 | .tup l=>names_allL h l
 | .fn _ a b=>⟨names_allL h a,names_allL h b⟩
 | .ifc _ x=>names_all h x
 | .any| .v _ | .cptr _ _ _ | .gptr _ _ | .cap0| .z0=>trivial
theorem names_allL{D:Nat→Prop}(h:∀o,D o):∀(l:List (AV T)),NamesL D l
 |[]=>trivial
 |x::l=>⟨names_all h x,names_allL h l⟩
end
section
variable {f:Nat→Nat} {D:Nat→Prop} {σ':Lk} {H':List (AObj T)} {w':World}
mutual
theorem RepA.ren(M:Rn C f D σ H w σ' H' w'):∀(x:AV T) (y:Value),Names D x→RepA C σ H w x y→RepA C σ' H' w' (ren f x) y
 | .any,_,_,_ =>trivial
 | .v _,_,_,h=>h.mono M.cell
 | .agg l,_,hn,⟨vs,h1,h2⟩=>⟨vs,h1,RepL.ren M l _ hn h2⟩
 | .tup l,_,hn,⟨vs,h1,h2⟩=>⟨vs,h1,RepL.ren M l _ hn h2⟩
 | .ptr o off,y,hn,⟨h0,b,h1,h2⟩=>⟨M.lt o hn h0,b,(M.sig o hn h0).trans h1,h2⟩
 | .rptr o i off,y,hn,⟨h0,hp,b,h1,h2⟩=>⟨M.lt o hn h0,hp,b,(M.sig o hn h0).trans h1,fun n s h=>h2 n s (M.row o hn h0 n s h)⟩
 | .cptr t x off,_,_,⟨b,k,h1,h2⟩=>⟨b,k,h1,h2.mono M.cell⟩
 | .gptr _ _,_,_,h=>h
 | .own o,y,hn,⟨h0,hp,h⟩=>⟨M.lt o hn h0,hp,fun n s hr=>by
   rcases h n s (M.row o hn h0 n s hr)with⟨h6,h7⟩|⟨b,c,cs,e,fz,h6,h7,h8,h9⟩
   ·exact .inl ⟨(M.sig o hn h0).trans h6,h7⟩
   ·obtain⟨cs',e',fz',h10,h11⟩:=M.heap o hn b h6 cs e fz h8
    exact .inr ⟨b,c,cs',e',fz',(M.sig o hn h0).trans h6,h7,h10,h11.trans h9⟩⟩
 | .sp o,y,hn,⟨h0,hp,h⟩=>⟨M.lt o hn h0,hp,fun n s hr h1=>by
   obtain⟨b,h2,h3⟩:=h n s (M.row o hn h0 n s hr) h1;exact⟨b,(M.sig o hn h0).trans h2,h3⟩⟩
 | .slc o off n c,y,hn,⟨h0,b,h1,h2⟩=>⟨M.lt o hn h0,b,(M.sig o hn h0).trans h1,h2⟩
 | .cap0,_,_,h=>h
 | .z0,_,_,h=>h
 | .fn g a b,_,hn,⟨x,y,h1,h2,h3⟩=>⟨x,y,h1,RepL.ren M a _ hn.1 h2,RepL.ren M b _ hn.2 h3⟩
 | .ifc t x,_,hn,⟨z,h1,h2⟩=>⟨z,h1,RepA.ren M x z hn h2⟩
theorem RepL.ren(M:Rn C f D σ H w σ' H' w'):∀(l:List (AV T)) (ys:List Value),NamesL D l→RepL C σ H w l ys→RepL C σ' H' w' (renL f l) ys
 |[],_,_,h=>h
 |x::l,_,hn,⟨y,ys',h1,h2,h3⟩=>⟨y,ys',h1,RepA.ren M x y hn.1 h2,RepL.ren M l ys' hn.2 h3⟩
end
theorem live_renO(o:AObj T):live (renO f o)=live o:=by cases o<;>rfl
theorem isRow_renO(o:AObj T):isRow (renO f o)=isRow o:=by
 cases o with
 |cells e g l=>cases g<;>rfl
 |_ =>rfl
theorem svO_ren(o:AObj T):∀n s,svO C (renO f o)=some (n,s)→svO C o=some (n,s):=by
 intro n s h;cases o with
 |cells e g l=>cases h
 |row t l m=>exact h
 |siter=>cases h
 |dead=>cases h
theorem foot_renO(o:AObj T)(off:Nat):foot C (renO f o) off↔foot C o off:=by cases o<;>exact Iff.rfl
def NamesO(D:Nat→Prop):AObj T→Prop
 | .cells _ _ l=>NamesL D l
 |_ =>True
theorem RepO.ren(M:Rn C f D σ H w σ' H' w'){j:Nat}{o:AObj T}(hn:NamesO D o)(hs:σ' (f j)=σ j)(hb:∀b,σ j=some b→w'.heap[b]? =w.heap[b]?)
  (h:RepO C σ H w j o):RepO C σ' H' w' (f j) (renO f o):=by
 cases o with
 |cells e g l=>
  cases g with
  |none=>
   obtain⟨b,cs,h1,h2,h4⟩:=h;exact⟨b,cs,hs.trans h1,(hb b h1).trans h2,h4.ren M _ _ hn⟩
  |some s=>
   obtain⟨b,cs,ys,rest,h1,h2,h3,h4⟩:=h;exact⟨b,cs,ys,rest,hs.trans h1,(hb b h1).trans h2,h3,h4.ren M _ _ hn⟩
 |row t l m=>
  rcases h with⟨h1,h2⟩|⟨b,cs,fz,cap,h1,h2,h3,h4,h5,h6⟩
  ·exact .inl ⟨h1,hs.trans h2⟩
  ·refine .inr ⟨b,cs,fz,cap,hs.trans h1,(hb b h1).trans h2,h3,h4,h5,fun j hj k v hv=> ?_⟩
   obtain⟨y,h7,h8⟩:=h6 j hj k v hv;exact⟨y,h7,h8.mono M.cell⟩
 |siter s pos=>
  obtain⟨b,h1,h2⟩:=h;exact⟨b,hs.trans h1,(hb b h1).trans h2⟩
 |dead=>trivial
end
inductive Out(T:Nat→Type):Type
 |ret (x:AV T) (H:List (AObj T))
 |panic (p:AV T) (H:List (AObj T))
def subH(S:List Nat)(H:List (AObj T)):List (AObj T):=S.map fun o=>renO S.idxOf (H.getD o .dead)
def back(S:List Nat)(n:Nat)(i:Nat):Nat:=if i<S.length then S.getD i 0 else n+(i-S.length)
def merge(S rows:List Nat)(H H2:List (AObj T)):List (AObj T):=
 ((List.range H.length).map fun i=>if S.elem i then renO (back S H.length) (H2.getD (S.idxOf i) .dead)else purgeO rows (H.getD i .dead))++(H2.drop S.length).map (renO (back S H.length))
def rowsOf(S:List Nat)(H:List (AObj T)):List Nat:=S.filter fun o=>match H[o]? with|some x=>isRow x|none=>false
def closedB(S:List Nat)(H:List (AObj T)):Bool:=S.all fun o=>Nat.blt o H.length&&match H[o]? with|some x=>withinO S x|none=>false
def nodupB:List Nat→Bool
 |[]=>true
 |x::l=> !l.elem x&&nodupB l
def subσ(C:Cdc T)(S:List Nat)(H:List (AObj T))(σ:Lk):Lk:=
 {f:=fun i=>(S[i]?).bind σ.f,F:=fun b off=>σ.F b off∨∃i o,i∉S∧H[i]? =some o∧σ i=some b∧foot C o off}
section
variable {S:List Nat}
theorem nodup_of(h:nodupB S=true):S.Nodup:=by
 induction S with
 |nil=>exact List.nodup_nil
 |cons x l ih=>
  simp only [nodupB,Bool.and_eq_true,Bool.not_eq_true']at h;exact List.nodup_cons.2 ⟨by simpa using h.1,ih h.2⟩
theorem subH_get{i:Nat}{x:AObj T}(h:(subH S H)[i]? =some x):∃o,S[i]? =some o∧x=renO S.idxOf (H.getD o .dead):=by
 unfold subH at h;rw [List.getElem?_map]at h;cases hi:S[i]? with
 |none=>rw [hi]at h;cases h
 |some o=>rw [hi]at h;exact⟨o,rfl,by simpa using h.symm⟩
theorem idx_get(hn:S.Nodup){i o:Nat}(h:S[i]? =some o):S.idxOf o=i:=by
 obtain⟨hi,ho⟩:=List.getElem?_eq_some_iff.1 h;rw [←ho];exact hn.idxOf_getElem i hi
theorem get_idx{o:Nat}(h:o∈S):S[S.idxOf o]? =some o:=by
 have:=List.idxOf_lt_length_of_mem h;rw [List.getElem?_eq_getElem this,List.getElem_idxOf]
theorem getD_some{i:Nat}{x:AObj T}(h:H[i]? =some x):H.getD i .dead=x:=by
 rw [List.getD_eq_getElem?_getD,h];rfl
theorem closed_get(hc:closedB S H=true){o:Nat}(ho:o∈S):∃x,H[o]? =some x∧withinO S x=true:=by
 unfold closedB at hc;have:=List.all_eq_true.1 hc o ho;simp only [Bool.and_eq_true]at this;cases hx:H[o]? with
 |none=>rw [hx]at this;simp at this
 |some x=>rw [hx]at this;exact⟨x,rfl,this.2⟩
theorem foot_live{o:AObj T}{off:Nat}(h:foot C o off):live o=true:=by cases o<;>first|rfl|exact h.elim
theorem rn_in(hn:S.Nodup)(hR:Rp C σ H w G):Rn C S.idxOf (· ∈S) σ H w (subσ C S H σ) (subH S H) w:=by
 refine⟨fun b off x ⟨h1,h2⟩=>⟨⟨?_,fun i o hi hs=> ?_⟩,h2⟩,fun o ho _ => ?_,fun o ho _ => ?_,fun o ho hlt n s h=> ?_,fun o _ b _ cs e fz h=>⟨cs,e,fz,h,rfl⟩⟩
 ·rintro(h|⟨i,o,_,k1,k2,k3⟩)
  ·exact h1.1 h
  ·exact h1.2 i o k1 k2 k3
 ·obtain⟨q,hq,rfl⟩:=subH_get hi
  rw [foot_renO];have hs':σ q=some b:=by simpa [subσ,hq] using hs
  cases hx:H[q]? with
  |none=>rw [List.getD_eq_getElem?_getD,hx];exact fun h=>h
  |some x=>rw [getD_some hx];exact h1.2 q x hx hs'
 ·show S.idxOf o<(S.map _).length
  rw [List.length_map];exact List.idxOf_lt_length_of_mem ho
 ·simp [subσ,get_idx ho]
 ·obtain⟨x,hx0,hxs⟩:=svH_some h
  obtain⟨q,hq,hx⟩:=subH_get hx0;rw [get_idx ho]at hq;cases hq;subst hx;have hr:=svO_ren _ n s hxs;rw [List.getD_eq_getElem?_getD,List.getElem?_eq_getElem hlt]at hr;exact svH_of (List.getElem?_eq_getElem hlt) (by simpa using hr)
theorem rp_sub(hn:S.Nodup)(hc:closedB S H=true)(hR:Rp C σ H w G):Rp C (subσ C S H σ) (subH S H) w G:=by
 have hM:=rn_in (C:=C) hn hR;have key:∀{i:Nat} {x:AObj T},(subH S H)[i]? =some x→∃o z,S[i]? =some o∧H[o]? =some z∧x=renO S.idxOf z∧withinO S z=true∧subσ C S H σ i=σ o:=by
  intro i x h;obtain⟨o,ho,rfl⟩:=subH_get h;obtain⟨z,hz,hw⟩:=closed_get hc (List.mem_of_getElem? ho);exact⟨o,z,ho,hz,by rw [getD_some hz],hw,by simp [subσ,ho]⟩
 refine⟨fun i j oi oj b hi hj hli hlj hsi hsj=> ?_,fun i o b hi hl hs=> ?_,fun i o hi=> ?_,fun g l hg=>(hR.glob g l hg).mono hM.cell,fun i o b hi hl hs off hF=> ?_,fun b off hF=> ?_⟩
 ·obtain⟨p,z,h1,h2,rfl,_,h3⟩:=key hi
  obtain⟨q,z',k1,k2,rfl,_,k3⟩:=key hj;rw [live_renO]at hli hlj;have:=hR.inj p q z z' b h2 k2 hli hlj (h3▸hsi) (k3▸hsj);subst this;rw [←idx_get hn h1,←idx_get hn k1]
 ·obtain⟨p,z,h1,h2,rfl,_,h3⟩:=key hi
  rw [live_renO]at hl;exact hR.lt p z b h2 hl (h3▸hs)
 ·obtain⟨p,z,h1,h2,rfl,hw,h3⟩:=key hi
  have:=RepO.ren hM (j:=p) (o:=z) (by cases z<;>first|trivial|exact names_withinL S _ hw) (by rw [idx_get hn h1];exact h3) (fun _ _ =>rfl) (hR.obj p z h2)
  rwa [idx_get hn h1]at this
 ·obtain⟨p,z,h1,h2,rfl,hw,h3⟩:=key hi
  rw [live_renO]at hl;rcases hF with hF|⟨q,o,k0,k1,k2,k3⟩
  ·exact hR.free p z b h2 hl (h3▸hs) off hF
  ·have:=hR.inj q p o z b k1 h2 (foot_live k3) hl k2 (h3▸hs)
   subst this;exact k0 (List.mem_of_getElem? h1)
 ·rcases hF with hF|⟨q,o,k0,k1,k2,k3⟩
  ·exact hR.fb b off hF
  ·exact hR.lt q o b k1 (foot_live k3) k2
def backσ(S:List Nat)(n:Nat)(σ σ2:Lk):Lk:={σ with f:=fun i=>if i<n then(if i∈S then σ2 (S.idxOf i)else σ i)else σ2 (S.length+(i-n))}
theorem merge_length(rows:List Nat)(H2:List (AObj T))(h:S.length≤H2.length):(merge S rows H H2).length=H.length+(H2.length-S.length):=by
 simp [merge]
theorem merge_get{rows:List Nat}{H2:List (AObj T)}(hlt:∀o∈S,o<H.length)(hl:S.length≤H2.length){σ σ2:Lk}{i:Nat}{x:AObj T}(h:(merge S rows H H2)[i]? =some x):
  (∃j z,H2[j]? =some z∧x=renO (back S H.length) z∧backσ S H.length σ σ2 i=σ2 j∧back S H.length j=i∧((S[j]? =some i∧i<H.length)∨(S.length≤j∧H.length≤i)))∨
  (i∉S∧∃z,H[i]? =some z∧x=purgeO rows z∧backσ S H.length σ σ2 i=σ i):=by
 unfold merge at h;by_cases hi:i<H.length
 ·rw [List.getElem?_append_left (by simpa using hi),List.getElem?_map,List.getElem?_range hi]at h
  simp only [Option.map_some,Option.some.injEq]at h;by_cases hS:i∈S
  ·rw [if_pos (by simpa using hS)]at h
   have hj:=List.idxOf_lt_length_of_mem hS;refine .inl ⟨S.idxOf i,H2[S.idxOf i]'(by omega),List.getElem?_eq_getElem (by omega), ?_,by simp [backσ,hi,hS], ?_,.inl ⟨get_idx hS,hi⟩⟩
   ·rw [←h,List.getD_eq_getElem?_getD,List.getElem?_eq_getElem (by omega:S.idxOf i<H2.length)];rfl
   ·rw [back,if_pos hj,List.getD_eq_getElem?_getD,get_idx hS];rfl
  ·rw [if_neg (by simpa using hS)]at h
   refine .inr ⟨hS,H[i],List.getElem?_eq_getElem hi, ?_,by simp [backσ,hi,hS]⟩;rw [←h,List.getD_eq_getElem?_getD,List.getElem?_eq_getElem hi];rfl
 ·rw [List.getElem?_append_right (by simpa using Nat.le_of_not_lt hi),List.getElem?_map,List.getElem?_drop,List.length_map,List.length_range]at h
  cases hz:H2[S.length+(i-H.length)]? with
  |none=>rw [hz]at h;cases h
  |some z=>
   rw [hz]at h;refine .inl ⟨_,z,hz,by simpa using h.symm,by simp [backσ,hi], ?_,.inr ⟨by omega,by omega⟩⟩;rw [back,if_neg (by omega)];omega
theorem call_back{rows:List Nat}(hn:S.Nodup)(hc:closedB S H=true)(hrows:rows=rowsOf S H)(hR:Rp C σ H w G){σ2:Lk}{H2:List (AObj T)}{w':World}
  (hA:Anc C (subσ C S H σ) (subH S H) w σ2 H2 w') (hR2:Rp C σ2 H2 w' G):
  Step C G rows σ H w (backσ S H.length σ σ2) (merge S rows H H2) w'∧∀(x:AV T) (y:Value),RepA C σ2 H2 w' x y→RepA C (backσ S H.length σ σ2) (merge S rows H H2) w' (ren (back S H.length) x) y:=by
 have hlt:∀o∈S,o<H.length:=fun o ho=>by
  obtain⟨x,hx,_⟩:=closed_get hc ho;exact(List.getElem?_eq_some_iff.1 hx).1
 have hl:S.length≤H2.length:=by have:=hA.len;simpa [subH] using this
 have hget:=fun{i:Nat} {x:AObj T} (h:(merge S rows H H2)[i]? =some x)=>merge_get (σ:=σ) (σ2:=σ2) hlt hl h
 have hsub:∀{j o:Nat},S[j]? =some o→∃z,H[o]? =some z∧(subH S H)[j]? =some (renO S.idxOf z)∧subσ C S H σ j=σ o:=by
  intro j o hj;obtain⟨z,hz,_⟩:=closed_get hc (List.mem_of_getElem? hj);refine⟨z,hz, ?_,by simp [subσ,hj]⟩;unfold subH;rw [List.getElem?_map,hj,Option.map_some,getD_some hz]
 have hsubget:∀{j:Nat} {x:AObj T},(subH S H)[j]? =some x→∃o z,S[j]? =some o∧H[o]? =some z∧x=renO S.idxOf z∧subσ C S H σ j=σ o:=by
  intro j x h;obtain⟨o,ho,rfl⟩:=subH_get h;obtain⟨z,hz,hw⟩:=closed_get hc (List.mem_of_getElem? ho);exact⟨o,z,ho,hz,by rw [getD_some hz],by simp [subσ,ho]⟩
 have hokc1:∀b off,Okc C σ H b off→Okc C (subσ C S H σ) (subH S H) b off:=by
  intro b off ho;refine⟨?_,fun j x hj hs=> ?_⟩
  ·rintro(h|⟨i,o,_,k1,k2,k3⟩)
   ·exact ho.1 h
   ·exact ho.2 i o k1 k2 k3
  ·obtain⟨o,z,h1,h2,rfl,h3⟩:=hsubget hj
   rw [foot_renO];exact ho.2 o z h2 (h3▸hs)
 have hsame:∀b off,b<w.heap.size→Okc C σ H b off→w'.cell? ⟨b,off,none⟩=w.cell? ⟨b,off,none⟩:=fun b off hb ho=>hA.same b off hb (hokc1 b off ho)
 have hokc:∀b off,b<w.heap.size→Okc C σ H b off→Okc C (backσ S H.length σ σ2) (merge S rows H H2) b off:=by
  intro b off hb ho;refine⟨ho.1,fun i x hi hs=> ?_⟩;rcases hget hi with⟨j,z,h1,rfl,h3,_⟩|⟨_,z,h2,rfl,h3⟩
  ·rw [foot_renO];exact(hA.okc b off hb (hokc1 b off ho)).2 j z h1 (h3▸hs)
  ·rw [foot_purgeO];exact ho.2 i z h2 (h3▸hs)
 have hcell:∀b off x,Cell C σ H w b off x→Cell C (backσ S H.length σ σ2) (merge S rows H H2) w' b off x:=fun b off x ⟨h1,h2⟩=>
  ⟨hokc b off (cell_lt h2) h1,(hsame b off (cell_lt h2) h1).trans h2⟩
 have hother:∀{i:Nat} {z:AObj T} {b:Nat},i∉S→H[i]? =some z→live z=true→σ i=some b→w'.heap[b]? =w.heap[b]? :=by
  intro i z b hS hz hlz hb;refine hA.block b (hR.lt i z b hz hlz hb) fun j x hj hlx hs=> ?_
  obtain⟨o,z',h1,h2,rfl,h3⟩:=hsubget hj;rw [live_renO]at hlx;have:=hR.inj i o z z' b hz h2 hlz hlx hb (h3▸hs);exact hS (this▸List.mem_of_getElem? h1)
 have hcross:∀{i j:Nat} {z z2:AObj T} {b:Nat},i∉S→H[i]? =some z→live z=true→σ i=some b→H2[j]? =some z2→live z2=true→σ2 j=some b→False:=by
  intro i j z z2 b hS hz hlz hb hj hl2 hs;rcases hA.fresh j z2 b hj hl2 hs with⟨x,h1,h2,h3⟩|h1
  ·obtain⟨o,z',k1,k2,rfl,k3⟩:=hsubget h1
   rw [live_renO]at h2;have:=hR.inj i o z z' b hz k2 hlz h2 hb (k3▸h3);exact hS (this▸List.mem_of_getElem? k1)
  ·have:=hR.lt i z b hz hlz hb;omega
 have hrowmem:∀{o:Nat} {x:AObj T},o∈S→H[o]? =some x→isRow x=true→o∈rows:=by
  intro o x ho hr hx;rw [hrows];unfold rowsOf;rw [List.mem_filter];exact⟨ho,by rw [hr];exact hx⟩
 have hrowsS:∀o∈rows,o∈S:=fun o ho=>by rw [hrows]at ho;exact(List.mem_filter.1 ho).1
 have hlen:H.length≤(merge S rows H H2).length:=by rw [merge_length rows H2 hl];omega
 have hsigS:∀{o:Nat} {z:AObj T},o∈S→H[o]? =some z→isRow z=false→backσ S H.length σ σ2 o=σ o:=by
  intro o z ho hz hr;obtain⟨z',h1,h2,h3⟩:=hsub (get_idx ho);rw [hz]at h1;cases h1;have:=hA.sig _ _ h2 (by rw [isRow_renO];exact hr);simp [backσ,hlt o ho,ho,this,h3]
 have hM:Move C rows σ H w (backσ S H.length σ σ2) (merge S rows H H2) w':=by
  refine⟨hcell,hlen,fun o ho hro=> ?_,fun o ho hro n s h=> ?_⟩
  ·by_cases hS:o∈S
   ·refine hsigS hS (List.getElem?_eq_getElem ho) ?_
    cases hz:isRow H[o]
    ·rfl
    ·exact(hro (hrowmem hS (List.getElem?_eq_getElem ho) hz)).elim
   ·simp [backσ,ho,hS]
  ·obtain⟨x,hx0,hxs⟩:=svH_some h
   rcases hget hx0 with⟨j,z,h1,h2,h3,h4,h5⟩|⟨hS,z,h2,h3,h4⟩
   ·rcases h5 with⟨h5,h6⟩|⟨_,h6⟩
    ·have hS:=List.mem_of_getElem? h5
     obtain⟨z0,k1,k2,k3⟩:=hsub h5;have hz2:isRow z=true:=by rw [←isRow_renO (f:=back S H.length),←h2];exact(svO_row hxs).1
     cases hr0:isRow z0 with
     |true=>exact(hro (hrowmem hS k1 hr0)).elim
     |false=>
      have:=hA.kind j _ _ k2 h1 (by rw [isRow_renO];exact hr0);rw [hz2]at this;cases this
    ·omega
   ·subst h3
    have hz:=svO_purge z n s hxs;exact⟨svH_of h2 hz,fun b hb cs e fz hcs=>⟨cs,e,fz,(hother hS h2 (svO_row hz).2 hb).trans hcs,rfl⟩⟩
 have hRn:Rn C (back S H.length) (fun _ =>True) σ2 H2 w' (backσ S H.length σ σ2) (merge S rows H H2) w':=by
  have hidx:∀o,o<H2.length→backσ S H.length σ σ2 (back S H.length o)=σ2 o∧back S H.length o<(merge S rows H H2).length∧∀x,(merge S rows H H2)[back S H.length o]? =some x→∃z,H2[o]? =some z∧x=renO (back S H.length) z:=by
   intro o ho;rw [merge_length rows H2 hl];by_cases hs:o<S.length
   ·have hm:S[o]∈S:=List.getElem_mem hs
    have hb:back S H.length o=S[o]:=by rw [back,if_pos hs,List.getD_eq_getElem?_getD,List.getElem?_eq_getElem hs];rfl
    have hid:S.idxOf S[o]=o:=hn.idxOf_getElem o hs;have hol:=hlt _ hm;refine⟨by rw [hb];simp [backσ,hol,hm,hid],by rw [hb];omega,fun x hx=> ?_⟩;rw [hb]at hx;rcases hget hx with⟨j,z,h1,h2,_,_,h5⟩|⟨hS,_⟩
    ·rcases h5 with⟨h5,_⟩|⟨_,h6⟩
     ·have:=idx_get hn h5
      rw [hid]at this;subst this;exact⟨z,h1,h2⟩
     ·omega
    ·exact(hS hm).elim
   ·have hb:back S H.length o=H.length+(o-S.length):=by rw [back,if_neg hs]
    refine⟨by rw [hb];simp only [backσ];rw [if_neg (by omega)];congr 1;omega,by rw [hb];omega,fun x hx=> ?_⟩;rw [hb]at hx;rcases hget hx with⟨j,z,h1,h2,_,h4,h5⟩|⟨hS,z,h2,_⟩
    ·rcases h5 with⟨_,h6⟩|⟨h5,_⟩
     ·omega
     ·have:j=o:=by rw [back,if_neg (by omega)]at h4;omega
      subst this;exact⟨z,h1,h2⟩
    ·have:=(List.getElem?_eq_some_iff.1 h2).1;omega
  refine⟨fun b off x ⟨h1,h2⟩=>⟨⟨fun hF=>h1.1 (by rw [hA.F];exact .inl hF),fun i o hi hs=> ?_⟩,h2⟩,fun o _ ho=>(hidx o ho).2.1,fun o _ ho=>(hidx o ho).1,fun o _ ho n s h=> ?_,fun o _ b _ cs e fz h=>⟨cs,e,fz,h,rfl⟩⟩
  ·rcases hget hi with⟨j,z,k1,rfl,k3,_⟩|⟨hS,z,k2,rfl,k3⟩
   ·rw [foot_renO];exact h1.2 j z k1 (k3▸hs)
   ·rw [foot_purgeO];exact fun hf=>h1.1 (by rw [hA.F];exact .inr ⟨i,z,hS,k2,k3▸hs,hf⟩)
  ·obtain⟨x,hx0,hxs⟩:=svH_some h
   obtain⟨z,k1,k2⟩:=(hidx o ho).2.2 _ hx0;subst k2;exact svH_of k1 (svO_ren z n s hxs)
 refine⟨⟨⟨?_, ?_, ?_,fun g l hg=>(hR.glob g l hg).mono hcell, ?_,fun b off hF=>Nat.lt_of_lt_of_le (hR.fb b off hF) hA.size⟩,
  ⟨rfl,hA.os,hA.tape,hA.output,hA.size,hlen,hokc,hsame, ?_, ?_, ?_, ?_⟩,hM⟩,fun x y h=>RepA.ren hRn x y (names_all (fun _ =>trivial) x) h⟩
 ·intro i j oi oj b hi hj hli hlj hsi hsj
  rcases hget hi with⟨p,z,h1,rfl,h3,h4,_⟩|⟨hS,z,h2,rfl,h3⟩<;>rcases hget hj with⟨q,z',k1,rfl,k3,k4,_⟩|⟨kS,z',k2,rfl,k3⟩
  ·rw [live_renO]at hli hlj
   have:=hR2.inj p q z z' b h1 k1 hli hlj (h3▸hsi) (k3▸hsj);subst this;rw [←h4,←k4]
  ·rw [live_renO]at hli;rw [live_purgeO]at hlj
   exact(hcross kS k2 hlj (k3▸hsj) h1 hli (h3▸hsi)).elim
  ·rw [live_renO]at hlj;rw [live_purgeO]at hli
   exact(hcross hS h2 hli (h3▸hsi) k1 hlj (k3▸hsj)).elim
  ·rw [live_purgeO]at hli hlj
   exact hR.inj i j z z' b h2 k2 hli hlj (h3▸hsi) (k3▸hsj)
 ·intro i o b hi hl hs
  rcases hget hi with⟨p,z,h1,rfl,h3,h4,_⟩|⟨hS,z,h2,rfl,h3⟩
  ·rw [live_renO]at hl;exact hR2.lt p z b h1 hl (h3▸hs)
  ·rw [live_purgeO]at hl;exact Nat.lt_of_lt_of_le (hR.lt i z b h2 hl (h3▸hs)) hA.size
 ·intro i o hi
  rcases hget hi with⟨p,z,h1,rfl,h3,h4,_⟩|⟨hS,z,h2,rfl,h3⟩
  ·have:=RepO.ren hRn (j:=p) (o:=z) (by cases z<;>first|trivial|exact names_allL (fun _ =>trivial) _) (by rw [h4];exact h3) (fun _ _ =>rfl) (hR2.obj p z h1)
   rwa [h4]at this
  ·by_cases hl:live z=true
   ·exact RepO.move hM h3 (fun b hb=>hother hS h2 hl hb) (hR.obj i z h2)
   ·cases z<;>simp [live]at hl
    trivial
 ·intro i o b hi hl hs off hF
  rcases hget hi with⟨p,z,h1,rfl,h3,h4,_⟩|⟨hS,z,h2,rfl,h3⟩
  ·rw [live_renO]at hl;exact hR2.free p z b h1 hl (h3▸hs) off (by rw [hA.F];exact .inl hF)
  ·rw [live_purgeO]at hl;exact hR.free i z b h2 hl (h3▸hs) off hF
 ·intro b hb hn'
  refine hA.block b hb fun j x hj hlx hs=> ?_
  obtain⟨o,z',h1,h2,rfl,h3⟩:=hsubget hj;rw [live_renO]at hlx;exact hn' o z' h2 hlx (h3▸hs)
 ·intro i o hi hr
  by_cases hS:i∈S
  ·exact hsigS hS hi hr
  ·simp [backσ,hS,(List.getElem?_eq_some_iff.1 hi).1]
 ·intro i o b hi hl hs
  rcases hget hi with⟨p,z,h1,rfl,h3,h4,_⟩|⟨hS,z,h2,rfl,h3⟩
  ·rw [live_renO]at hl
   rcases hA.fresh p z b h1 hl (h3▸hs)with⟨x,k1,k2,k3⟩|k1
   ·obtain⟨o,z',q1,q2,rfl,q3⟩:=hsubget k1
    have hp:=(List.getElem?_eq_some_iff.1 q1).1;have hio:i=o:=by rw [←h4,back,if_pos hp,List.getD_eq_getElem?_getD,q1];rfl
    subst hio;rw [live_renO]at k2;exact .inl ⟨z',q2,k2,q3▸k3⟩
   ·exact .inr k1
  ·rw [live_purgeO]at hl
   exact .inl ⟨z,h2,hl,h3▸hs⟩
 ·intro i o o' hi hi' hr
  rcases hget hi' with⟨p,z,h1,rfl,h3,h4,h5⟩|⟨hS,z,h2,rfl,h3⟩
  ·rw [isRow_renO]
   rcases h5 with⟨h5,_⟩|⟨_,h6⟩
   ·obtain⟨z0,k1,k2,k3⟩:=hsub h5
    rw [hi]at k1;cases k1;exact hA.kind p _ _ k2 h1 (by rw [isRow_renO];exact hr)
   ·have:=(List.getElem?_eq_some_iff.1 hi).1;omega
  ·rw [hi]at h2;cases h2
   rw [isRow_purgeO];exact hr
end
end Go.Proofs.YtdoifigogbdodaaGreatDoor.Ev

namespace Go.Proofs.YtdoifigogbdodaaGreatDoor.Ev
open Go
variable {T:Nat→Type} {C:Cdc T} {P:Program} {σ:Lk} {H:List (AObj T)} {w:World} {G:Nat→Option (List (V T))} {R:Type}
def Ends(C:Cdc T)(G:Nat→Option (List (V T)))(σ:Lk)(H:List (AObj T))(w:World)(out:Out T)(e:Ending)(w':World):Prop:=
 match out with
 | .ret x H'=>∃v σ',e= .returned v∧Rp C σ' H' w' G∧Anc C σ H w σ' H' w'∧RepA C σ' H' w' x v
 | .panic p H'=>∃v σ',e= .panicked [{v,recovered:=false}]∧Rp C σ' H' w' G∧Anc C σ H w σ' H' w'∧RepA C σ' H' w' p v
abbrev Entry(T:Nat→Type):=(R:Type)→List (AV T)→List (AObj T)→(Out T→Option R)→Option R
structure Gam(T:Nat→Type) where
 acc:FuncId→Entry T
 own:FuncId→Bool
instance:CoeFun (Gam T) (fun _ =>FuncId→Entry T):=⟨Gam.acc⟩
def Gam.give(Γ:Gam T)(l:List Nat):Gam T:=⟨Γ.acc,fun g=>l.any fun n=>Nat.beq g n⟩
def Does(P:Program)(f:FuncId)(vs:Array Value)(w:World)(Q:Ending→World→Prop):Prop:=
 ((callFunc f vs).run P w= .ok (.enter f vs) w∧Calls P f vs w Q)∨∃v w',(callFunc f vs).run P w= .ok (.value v) w'∧Q (.returned v) w'
theorem Does.mono{f:FuncId}{vs:Array Value}{Q Q':Ending→World→Prop}(h:Does P f vs w Q)(hq:∀e w',Q e w'→Q' e w'):Does P f vs w Q':=by
 rcases h with⟨h1,h2⟩|⟨v,w',h1,h2⟩
 ·exact .inl ⟨h1,h2.mono hq⟩
 ·exact .inr ⟨v,w',h1,hq _ _ h2⟩
def EOk(P:Program)(C:Cdc T)(G:Nat→Option (List (V T)))(f:FuncId)(e:Entry T):Prop:=
 ∀(R:Type) (args:List (AV T)) (H:List (AObj T)) (k:Out T→Option R) (r:R),e R args H k=some r→
  ∀(σ:Lk) (w:World) (vs:List Value),Rp C σ H w G→RepL C σ H w args vs→Does P f vs.toArray w fun e w'=>∃out,k out=some r∧Ends C G σ H w out e w'
def GOk(P:Program)(C:Cdc T)(G:Nat→Option (List (V T)))(Γ:Gam T):Prop:=∀f,EOk P C G f (Γ f)
mutual
def lendK1{R:Type}:AV T→List (AObj T)→(AV T→List (AObj T)→Option R)→Option R
 | .own o,H,K=>match H[o]? with
  |some (.row t c _)=>K (.v (.sl t c)) (lend o H)
  |_ =>none
 | .agg l,H,K=>lendK l H fun l H=>K (.agg l) H
 | .tup l,H,K=>lendK l H fun l H=>K (.tup l) H
 | .fn f a b,H,K=>K (.fn f a b) H
 | .ifc t x,H,K=>K (.ifc t x) H
 | .any,H,K=>K .any H
 | .v x,H,K=>K (.v x) H
 | .ptr o k,H,K=>K (.ptr o k) H
 | .rptr o i k,H,K=>K (.rptr o i k) H
 | .cptr t x k,H,K=>K (.cptr t x k) H
 | .gptr g k,H,K=>K (.gptr g k) H
 | .slc o k n c,H,K=>K (.slc o k n c) H
 | .sp o,H,K=>K (.sp o) H
 | .cap0,H,K=>K .cap0 H
 | .z0,H,K=>K .z0 H
def lendK{R:Type}:List (AV T)→List (AObj T)→(List (AV T)→List (AObj T)→Option R)→Option R
 |[],H,K=>K [] H
 |x::l,H,K=>lendK1 x H fun x H=>lendK l H fun l H=>K (x::l) H
end
theorem Step.move00{σ':Lk}{H':List (AObj T)}{w':World}(h:Step C G [] σ H w σ' H' w'){x:AV T}{y:Value}(hx:RepA C σ H w x y):RepA C σ' H' w' x y:=RepA.move0 h.move hx
mutual
theorem lendK1_ok(hC:CdcOk C):∀(x:AV T) (H:List (AObj T)) (K:AV T→List (AObj T)→Option R) (r:R) (y:Value),Rp C σ H w G→RepA C σ H w x y→lendK1 x H K=some r→
  ∃x' H',K x' H'=some r∧Step C G [] σ H w σ H' w∧H'.length=H.length∧RepA C σ H' w x' y
 | .own o,H,K,r,y,hR,hx,h=>by
  simp only [lendK1]at h;split at h
  ·rename_i t c m ho
   rw [lend_eq ho]at h;have hst:=step_lend hR ho;exact⟨_,_,h,hst,by simp,row_sl hC hst.rp (lend_get ho) (hst.move00 hx)⟩
  ·cases h
 | .agg l,H,K,r,y,hR,⟨vs,hy,h1⟩,h=>by
  obtain⟨l',H',h2,h3,h4,h5⟩:=lendK_ok hC l H _ r vs.toList hR h1 h;exact⟨_,H',h2,h3,h4,vs,hy,h5⟩
 | .tup l,H,K,r,y,hR,⟨vs,hy,h1⟩,h=>by
  obtain⟨l',H',h2,h3,h4,h5⟩:=lendK_ok hC l H _ r vs.toList hR h1 h;exact⟨_,H',h2,h3,h4,vs,hy,h5⟩
 | .fn f a b,H,K,r,y,hR,hx,h=>⟨_,H,h,Step.refl hR,rfl,hx⟩
 | .ifc t x,H,K,r,y,hR,hx,h=>⟨_,H,h,Step.refl hR,rfl,hx⟩
 | .any,H,K,r,y,hR,hx,h=>⟨_,H,h,Step.refl hR,rfl,hx⟩
 | .v x,H,K,r,y,hR,hx,h=>⟨_,H,h,Step.refl hR,rfl,hx⟩
 | .ptr o k,H,K,r,y,hR,hx,h=>⟨_,H,h,Step.refl hR,rfl,hx⟩
 | .rptr o i k,H,K,r,y,hR,hx,h=>⟨_,H,h,Step.refl hR,rfl,hx⟩
 | .cptr t x k,H,K,r,y,hR,hx,h=>⟨_,H,h,Step.refl hR,rfl,hx⟩
 | .gptr g k,H,K,r,y,hR,hx,h=>⟨_,H,h,Step.refl hR,rfl,hx⟩
 | .slc o k n c,H,K,r,y,hR,hx,h=>⟨_,H,h,Step.refl hR,rfl,hx⟩
 | .sp o,H,K,r,y,hR,hx,h=>⟨_,H,h,Step.refl hR,rfl,hx⟩
 | .cap0,H,K,r,y,hR,hx,h=>⟨_,H,h,Step.refl hR,rfl,hx⟩
 | .z0,H,K,r,y,hR,hx,h=>⟨_,H,h,Step.refl hR,rfl,hx⟩
theorem lendK_ok(hC:CdcOk C):∀(l:List (AV T)) (H:List (AObj T)) (K:List (AV T)→List (AObj T)→Option R) (r:R) (ys:List Value),Rp C σ H w G→RepL C σ H w l ys→lendK l H K=some r→
  ∃l' H',K l' H'=some r∧Step C G [] σ H w σ H' w∧H'.length=H.length∧RepL C σ H' w l' ys
 |[],H,K,r,ys,hR,hy,h=>⟨[],H,h,Step.refl hR,rfl,hy⟩
 |x::l,H,K,r,ys,hR,⟨y,ys',hys,h1,h2⟩,h=>by
  obtain⟨x',H1,k1,k2,k3,k4⟩:=lendK1_ok hC x H _ r y hR h1 h;obtain⟨l',H2,q1,q2,q3,q4⟩:=lendK_ok hC l H1 _ r ys' k2.rp (h2.move0 k2.move) k1;exact⟨_,H2,q1,k2.trans0 q2,q3.trans k3,y,ys',hys,q2.move00 k4,q4⟩
end
def addAll(acc xs:List Nat):List Nat:=xs.foldl (fun a x=>bif a.elem x then a else a++[x]) acc
def reach(H:List (AObj T)):Nat→List Nat→List Nat
 |0,S=>S
 |k+1,S=>reach H k (S.foldl (fun(acc:List Nat) (o:Nat)=>match H[o]? with|some (AObj.cells _ _ l)=>addAll acc (refsL l)|_ =>acc) S)
def lendB{R:Type}(give:Bool)(args:List (AV T))(H:List (AObj T))(K:List (AV T)→List (AObj T)→Option R):Option R:=bif give then K args H else lendK args H K
theorem lendB_ok(hC:CdcOk C){b:Bool}(l:List (AV T))(H:List (AObj T))(K:List (AV T)→List (AObj T)→Option R)(r:R)(ys:List Value)(hR:Rp C σ H w G)(hl:RepL C σ H w l ys)(h:lendB b l H K=some r):
  ∃l' H',K l' H'=some r∧Step C G [] σ H w σ H' w∧H'.length=H.length∧RepL C σ H' w l' ys:=by
 cases b
 ·exact lendK_ok hC l H K r ys hR hl h
 ·exact⟨_,_,h,Step.refl hR,rfl,hl⟩
def nilB{α:Type}:List α→Bool
 |[]=>true
 |_ =>false
def callA(Γ:Gam T)(g:FuncId)(args:List (AV T))(H:List (AObj T))(K:Kont T R)(Kp:Kont T R):Option R:=
 lendB (Γ.own g) args H fun args H=>
  (fun(S:List Nat)=>bif nodupB S&&closedB S H&&withinL S args then
   Γ g R (renL S.idxOf args) (subH S H) fun
    | .ret x H2=>bif nilB S&&nilB H2 then K (ren (back S H.length) x) H []else K (ren (back S H.length) x) (merge S (rowsOf S H) H H2) (rowsOf S H)
    | .panic p H2=>Kp (ren (back S H.length) p) (merge S (rowsOf S H) H H2) (rowsOf S H)
  else none) (reach H 3 (addAll [] (refsL args)))
theorem merge_nil:merge [] [] H []=H:=by
 unfold merge;simp only [List.length_nil,List.drop_nil,List.map_nil,List.append_nil];apply List.ext_getElem?;intro i;rw [List.getElem?_map];by_cases hi:i<H.length
 ·rw [List.getElem?_range hi,Option.map_some,if_neg (by simp),List.getD_eq_getElem?_getD,List.getElem?_eq_getElem hi,Option.getD_some,purgeO_nil]
 ·rw [List.getElem?_eq_none (by simpa using Nat.le_of_not_lt hi),List.getElem?_eq_none (Nat.le_of_not_lt hi)];rfl
theorem callA_ok(hC:CdcOk C)(hR:Rp C σ H w G){Γ:Gam T}{g:FuncId}(hΓ:EOk P C G g (Γ g)){args:List (AV T)}{vs:List Value}(ha:RepL C σ H w args vs){K:Kont T R}{Kp:Kont T R}{r:R}
  (h:callA Γ g args H K Kp=some r):
  Does P g vs.toArray w (fun e w'=>
   (∃x H' S v σ',K x H' S=some r∧e= .returned v∧Step C G S σ H w σ' H' w'∧RepA C σ' H' w' x v)∨
   (∃p H' S v σ',Kp p H' S=some r∧e= .panicked [{v,recovered:=false}]∧Step C G S σ H w σ' H' w'∧RepA C σ' H' w' p v)):=by
 unfold callA at h;obtain⟨args',H1,h1,hst,hlen,ha'⟩:=lendB_ok hC args H _ r vs hR ha h;clear h;simp only at h1;generalize hS:reach H1 3 (addAll [] (refsL args'))=S at h1;cases hb:nodupB S&&closedB S H1&&withinL S args'
 ·rw [hb]at h1;cases h1
 ·rw [hb]at h1
  simp only [cond_true]at h1;simp only [Bool.and_eq_true]at hb;have hn:=nodup_of hb.1.1;have hM:=rn_in (C:=C) hn hst.rp;have hsub:=rp_sub hn hb.1.2 hst.rp;have hargs:=RepL.ren hM args' vs (names_withinL S args' hb.2) ha';refine(hΓ R _ _ _ r h1 _ w vs hsub hargs).mono fun e w' ⟨out,hk,he⟩=> ?_
  cases out with
  |ret x H2=>
   obtain⟨v,σ2,rfl,k1,k2,k3⟩:=he;obtain⟨q1,q2⟩:=call_back (rows:=rowsOf S H1) hn hb.1.2 rfl hst.rp k2 k1;have hstep:Step C G (rowsOf S H1) σ H w (backσ S H1.length σ σ2) (merge S (rowsOf S H1) H1 H2) w':=by
    refine⟨q1.rp,hst.anc.trans q1.anc,⟨fun b off x hx=>q1.move.cell b off x (hst.move.cell b off x hx),Nat.le_trans hst.move.len q1.move.len,fun o ho hS=>q1.move.sig o (by omega) hS,fun o ho hS n s hr=> ?_⟩⟩;obtain⟨p1,p3⟩:=q1.move.row o (by omega) hS n s hr;exact⟨(hst.move.row o ho (by simp) n s p1).1,p3⟩
   simp only at hk;cases hnil:nilB S&&nilB H2
   ·rw [hnil]at hk
    exact .inl ⟨_,_,_,v,_,hk,rfl,hstep,q2 _ _ k3⟩
   ·rw [hnil]at hk
    simp only [cond_true]at hk;have hS0:S=[]:=by cases S with|nil=>rfl|cons=>simp [nilB]at hnil
    have hH0:H2=[]:=by cases H2 with|nil=>rfl|cons=>simp [nilB]at hnil
    subst hS0;subst hH0;have hm:merge [] (rowsOf [] H1) H1 []=H1:=merge_nil;refine .inl ⟨_,_,[],v,_,hk,rfl,by rw [hm]at hstep;exact hstep, ?_⟩;have:=q2 _ _ k3
    rwa [hm]at this
  |panic p H2=>
   obtain⟨v,σ2,rfl,k1,k2,k3⟩:=he;obtain⟨q1,q2⟩:=call_back (rows:=rowsOf S H1) hn hb.1.2 rfl hst.rp k2 k1;refine .inr ⟨_,_,rowsOf S H1,v,_,hk,rfl, ?_,q2 _ _ k3⟩;refine⟨q1.rp,hst.anc.trans q1.anc,⟨fun b off x hx=>q1.move.cell b off x (hst.move.cell b off x hx),Nat.le_trans hst.move.len q1.move.len,fun o ho hS=>q1.move.sig o (by omega) hS,fun o ho hS n s hr=> ?_⟩⟩;obtain⟨p1,p3⟩:=q1.move.row o (by omega) hS n s hr;exact⟨(hst.move.row o ho (by simp) n s p1).1,p3⟩
abbrev Ds(T:Nat→Type):=List (Fn×List (AV T)×List (AV T))
def purgeDs(S:List Nat)(ds:Ds T):Ds T:=ds.map fun d=>(d.1,purgeL S d.2.1,purgeL S d.2.2)
def RepDs(C:Cdc T)(σ:Lk)(H:List (AObj T))(w:World):Ds T→List Deferred→Prop
 |[],l=>l=[]
 |d::ds,l=>∃args cap l',l={target:= .fn d.1 cap,args:=args}::l'∧RepL C σ H w d.2.1 args.toList∧RepL C σ H w d.2.2 cap.toList∧RepDs C σ H w ds l'
structure Bs where
 σ:Lk
 w:World
structure Base(T:Nat→Type) where
 σ:Lk
 H:List (AObj T)
 w:World
structure St(C:Cdc T)(G:Nat→Option (List (V T)))(n:Nat)(B:Base T)(σ:Lk)(env:Env T)(H:List (AObj T))(ds:Ds T)(a:Act)(w:World):Prop where
 rp:Rp C σ H w G
 anc:Anc C B.σ B.H B.w σ H w
 size:a.tmps.size=n
 env:RepE C σ H w env a
 ds:RepDs C σ H w ds a.defers
def penv(S:List Nat)(env:Env T):Env T:=
 match S with
 |[]=>env
 |S=>fun t=>purge S (env t)
theorem RepDs.move{S:List Nat}{σ':Lk}{H':List (AObj T)}{w':World}(M:Move C S σ H w σ' H' w'):∀{ds:Ds T} {l:List Deferred},RepDs C σ H w ds l→RepDs C σ' H' w' (purgeDs S ds) l
 |[],_,h=>h
 |d::ds,_,⟨args,cap,l',h1,h2,h3,h4⟩=>⟨args,cap,l',h1,h2.move M,h3.move M,RepDs.move M h4⟩
theorem penv_rep{S:List Nat}{σ':Lk}{H':List (AObj T)}{w':World}(M:Move C S σ H w σ' H' w'){env:Env T}{a:Act}(h:RepE C σ H w env a):RepE C σ' H' w' (penv S env) a:=by
 intro t;cases S with
 |nil=>exact RepA.move0 M (h t)
 |cons=>exact RepA.move M _ _ (h t)
theorem St.step{n:Nat}{B:Base T}{env:Env T}{ds:Ds T}{a:Act}(st:St C G n B σ env H ds a w){S:List Nat}{σ':Lk}{H':List (AObj T)}{w':World}(h:Step C G S σ H w σ' H' w'):
  St C G n B σ' (penv S env) H' (purgeDs S ds) a w':=
 ⟨h.rp,st.anc.trans h.anc,st.size,penv_rep h.move st.env,st.ds.move h.move⟩
theorem St.put{n:Nat}{B:Base T}{env:Env T}{ds:Ds T}{a:Act}(st:St C G n B σ env H ds a w){d:Nat}(hd:d<n){x:AV T}{v:Value}(hx:RepA C σ H w x v):
  St C G n B σ (upd env d x) H ds (a.put (some d) v) w:=by
 refine⟨st.rp,st.anc,by simp [Act.put,st.size],fun t=> ?_,st.ds⟩;unfold upd;cases ht:Nat.beq t d
 ·have hne:d≠t:=fun e=>by subst e;simp at ht
  have:(a.put (some d) v).tmps.getD t undef=a.tmps.getD t undef:=by
   simp [Act.put,Array.getElem?_setIfInBounds_ne hne]
  rw [this];exact st.env t
 ·have:=Nat.eq_of_beq_eq_true ht
  subst this;have hlt:t<a.tmps.size:=by rw [st.size];exact hd
  have:(a.put (some t) v).tmps.getD t undef=v:=by
   simp [Act.put,hlt]
  rw [this];exact hx
theorem St.weaken{n:Nat}{B:Base T}{env env':Env T}{ds:Ds T}{a:Act}(st:St C G n B σ env H ds a w)(h:∀t,env' t=env t∨env' t= .any):St C G n B σ env' H ds a w:=
 ⟨st.rp,st.anc,st.size,fun t=>by
  rcases h t with h|h
  ·rw [h];exact st.env t
  ·rw [h];trivial,st.ds⟩
end Go.Proofs.YtdoifigogbdodaaGreatDoor.Ev

namespace Go.Proofs.YtdoifigogbdodaaGreatDoor.Ev
open Go
variable {P:Program}
def methA(P:Program)(t:Nat)(name:String):Option FuncId:=
 match P.info? t with
 |some i=>match i.methods.find? (·.name==name)with
  |some m=>match m.path.toList,m.func,P.underlying t with
   |[],some (f,false),some (.pointer _)=>none
   |[],some (f,false),some _ =>some f
   |[],some (f,true),some (.pointer _)=>some f
   |_,_,_ =>none
  |none=>none
 |none=>none
theorem methA_ok{t:Nat}{name:String}{f:FuncId}{args:Array Value}(h:methA P t name=some f)(v:Value)(w:World):(callMethod (.iface t v) name args).run P w=(callFunc f (#[v]++args)).run P w:=by
 unfold methA at h;split at h
 ·rename_i i hi
  split at h
  ·rename_i m hm
   have key:∀d,(method (d+1) t v name).run P w= .ok (f,v) w:=by
    intro d;split at h
    ·cases h
    ·rename_i g u h1 h2 h3
     cases h;simp only [method,Sem.run_bind,run_typeInfo w hi,Result.andThen_ok,hm,h1,follow,Sem.run_pure,h2,receiverAt,run_underlying h3];rfl
    ·rename_i g e h1 h2 h3
     cases h;simp only [method,Sem.run_bind,run_typeInfo w hi,Result.andThen_ok,hm,h1,follow,Sem.run_pure,h2,receiverAt,run_underlying h3,Place.get]
    ·cases h
   unfold callMethod;have hp:(program).run P w= .ok P w:=rfl;simp only [Sem.run_bind,hp,Result.andThen_ok];rw [show P.types.size+Made.depth=(P.types.size+Made.depth-1)+1 from by simp [Made.depth]];simp only [key,Result.andThen_ok]
  ·cases h
 ·cases h
end Go.Proofs.YtdoifigogbdodaaGreatDoor.Ev

namespace Go.Proofs.YtdoifigogbdodaaGreatDoor.Ev
open Go
variable {T:Nat→Type} {C:Cdc T} {P:Program} {σ:Lk} {H:List (AObj T)} {w:World} {G:Nat→Option (List (V T))} {R:Type}
abbrev KS(T:Nat→Type)(R:Type):=Env T→List (AObj T)→Ds T→Option R
abbrev KP(T:Nat→Type)(R:Type):=Env T→AV T→List (AObj T)→Ds T→Option R
def finA(dst:Option Nat)(n:Nat)(env:Env T)(ds:Ds T)(x:AV T)(H:List (AObj T))(S:List Nat)(K:KS T R):Option R:=
 match dst with
 |some d=>bif Nat.blt d n then K (upd (penv S env) d x) H (purgeDs S ds)else none
 |none=>K (penv S env) H (purgeDs S ds)
def runA(C:Cdc T)(P:Program)(G:Nat→Option (List (V T)))(Γ:Gam T)(n:Nat)(o:Oper)(env:Env T)(H:List (AObj T))(ds:Ds T)(K:KS T R)(Kp:KP T R):Option R:=
 match o.op with
 | .call {callee:= .value f,args,.. }=>match evO env f with
  | .fn (.func g) first cap=>callA Γ g (first++args.toList.map (evO env)++cap) H (fun x H S=>finA o.dst n env ds x H S K) (fun p H S=>Kp (penv S env) p H (purgeDs S ds))
  |_ =>none
 | .call {callee:= .invoke f name,args,.. }=>match evO env f with
  | .ifc t x=>match methA P t name with
   |some g=>callA Γ g (x::args.toList.map (evO env)) H (fun x H S=>finA o.dst n env ds x H S K) (fun p H S=>Kp (penv S env) p H (purgeDs S ds))
   |none=>none
  |_ =>none
 | .defer {callee:= .value f,args,.. }=>match evO env f with
  | .fn g first cap=>finA o.dst n env ((g,first++args.toList.map (evO env),cap)::ds) .any H [] K
  |_ =>none
 |_ =>evOp C P G o env H (fun x H S=>finA o.dst n env ds x H S K) (fun p H=>Kp env p H ds)
def operA(C:Cdc T)(P:Program)(G:Nat→Option (List (V T)))(Γ:Gam T)(n:Nat)(dsts:Nat→Option Nat)(o:Oper)(env:Env T)(H:List (AObj T))(ds:Ds T)(K:KS T R)(Kp:KP T R):Option R:=
 match o.guard with
 |none=>runA C P G Γ n o env H ds K Kp
 |some (j,want)=>match dsts j with
  |some t=>match env t with
   | .v (.b b)=>
    bif b then bif want then runA C P G Γ n o (upd env t (.v (.b true))) H ds K Kp else finA o.dst n (upd env t (.v (.b true))) ds (.tup []) H [] K
    else bif want then finA o.dst n (upd env t (.v (.b false))) ds (.tup []) H [] K else runA C P G Γ n o (upd env t (.v (.b false))) H ds K Kp
   | .tup []=>finA o.dst n env ds (.tup []) H [] K
   |_ =>none
  |none=>none
theorem rep_undef:RepA C σ H w (.tup []) undef:=⟨#[],rfl,rfl⟩
theorem undef_rep{v:Value}(h:RepA C σ H w (.tup []) v):v=undef:=by
 obtain⟨vs,h1,h2⟩:=h;have h3:vs.toList=[]:=h2;have:vs= #[]:=by cases vs;simp_all
 rw [h1,this];rfl
theorem yielded_undef{ops:Array Oper}{dsts:Nat→Option Nat}(hd:∀j,dsts j=(ops[j]?).bind (·.dst)){a:Act}{j t:Nat}(ht:dsts j=some t)(hv:a.tmps.getD t undef=undef):yielded ops a.tmps j=none:=by
 unfold yielded;rw [←hd,ht];simp only [Option.bind_some];rcases Nat.lt_or_ge t a.tmps.size with h|h
 ·rw [Array.getD_eq_getD_getElem?,Array.getElem?_eq_getElem h]at hv
  rw [Array.getElem?_eq_getElem h];simp only [Option.getD_some]at hv;rw [hv];rfl
 ·rw [Array.getElem?_eq_none h]
theorem wanted_undef{o:Oper}{j:Nat}{want:Bool}(hg:o.guard=some (j,want)){f:Nat→Option Bool}(hy:f j=none):Region.wanted o f=false:=by
 simp only [Region.wanted,hg,hy];cases want<;>rfl
def anyEnv:Env T:=fun _ => .any
theorem finA_ok{n:Nat}{B:Base T}{env:Env T}{ds:Ds T}{a:Act}(st:St C G n B σ env H ds a w){S:List Nat}{σ':Lk}{H':List (AObj T)}{w':World}(hs:Step C G S σ H w σ' H' w'){x:AV T}{v:Value}(hx:RepA C σ' H' w' x v)
  {dst:Option Nat} {K:KS T R} {r:R} (h:finA dst n env ds x H' S K=some r):∃env' ds',K env' H' ds'=some r∧St C G n B σ' env' H' ds' (a.put dst v) w':=by
 unfold finA at h;split at h
 ·rename_i d
  cases hd:Nat.blt d n
  ·rw [hd]at h;cases h
  ·rw [hd]at h
   exact⟨_,_,h,(st.step hs).put (Nat.le_of_ble_eq_true hd) hx⟩
 ·exact⟨_,_,h,st.step hs⟩
theorem upd_same{n:Nat}{B:Base T}{env:Env T}{ds:Ds T}{a:Act}(st:St C G n B σ env H ds a w){t:Nat}{b:Bool}(h:env t= .v (.b b)):St C G n B σ (upd env t (.v (.b b))) H ds a w:=
 ⟨st.rp,st.anc,st.size,fun u=>by
  unfold upd;cases hu:Nat.beq u t
  ·exact st.env u
  ·have:=Nat.eq_of_beq_eq_true hu
   subst this;have:=st.env u
   rwa [h]at this,st.ds⟩
def PSt(C:Cdc T)(G:Nat→Option (List (V T)))(n:Nat)(B:Base T)(σ:Lk)(env:Env T)(p:AV T)(H:List (AObj T))(ds:Ds T)(a:Act)(v:Value)(w:World):Prop:=
 St C G n B σ env H ds a w∧RepA C σ H w p v
theorem runA_ok(hC:CdcOk C){Γ:Gam T}(hΓ:GOk P C G Γ){n:Nat}{B:Base T}{env:Env T}{ds:Ds T}{a:Act}(st:St C G n B σ env H ds a w){o:Oper}{K:KS T R}{Kp:KP T R}{r:R}
  (h:runA C P G Γ n o env H ds K Kp=some r) {next:Act→World→Prop} {Q:Exit→Act→World→Prop}
  (hK:∀σ' env' H' ds' a' w',K env' H' ds'=some r→St C G n B σ' env' H' ds' a' w'→next a' w')
  (hP:∀σ' env' p H' ds' v w',Kp env' p H' ds'=some r→PSt C G n B σ' env' p H' ds' a v w'→Q (.panic [{v,recovered:=false}]) a w'):
  o.wp P a w next Q:=by
 have plain:evOp C P G o env H (fun x H S=>finA o.dst n env ds x H S K) (fun p H=>Kp env p H ds)=some r→o.wp P a w next Q:=by
  intro h;unfold Oper.wp;rcases evOp_good hC st.rp st.env h with⟨x,H',S,v,σ',w',h1,h2,h3,h4⟩|⟨p,H',v,σ',w',h1,h2,h3,h4⟩
  ·rcases h2 with h2|⟨h2,rfl⟩<;>rw [h2]<;>obtain⟨env',ds',k1,k2⟩:=finA_ok st h3 h4 h1<;>exact hK _ _ _ _ _ _ k1 k2
  ·rw [h2]
   have hst:=st.step h3;rw [show purgeDs [] ds=ds from by unfold purgeDs;rw [List.map_congr_left (g:=id) (fun d _ =>by obtain⟨a,b,c⟩:=d;simp [purgeL_nil])];simp]at hst;exact hP _ _ _ _ _ _ _ h1 ⟨hst,h4⟩
 unfold runA at h;split at h
 ·rename_i f args at_ hop
  split at h
  ·rename_i g first cap hf
   have hfv:=rep_evO st.env f;rw [hf]at hfv;obtain⟨a1,a2,h1,h2,h3⟩:=hfv;have hargs:=(h2.append (rep_evOs st.env args.toList)).append h3;have hdo:=callA_ok hC st.rp (hΓ g) hargs h;have harr:(a1++args.map a.eval++a2)=(a1.toList++args.toList.map a.eval++a2.toList).toArray:=by
    apply Array.ext';simp
   have hrun:(execOp a.eval o).run P w=(callFunc g (a1.toList++args.toList.map a.eval++a2.toList).toArray).run P w:=by
    unfold execOp;rw [hop];simp only [resolve,h1,Deferred.ofValue,Sem.run_bind,Sem.run_pure,Result.andThen_ok,invoke];rw [←harr]
   unfold Oper.wp;rw [hrun];rcases hdo with⟨k1,k2⟩|⟨v0,w0,k1,k2⟩
   ·rw [k1]
    simp only [Oper.upon];refine k2.mono fun e w' he=> ?_
    rcases he with⟨x,H',S,v,σ',q1,rfl,q3,q4⟩|⟨p,H',S,v,σ',q1,rfl,q3,q4⟩
    ·obtain⟨env',ds',s1,s2⟩:=finA_ok st q3 q4 q1
     exact hK _ _ _ _ _ _ s1 s2
    ·exact hP _ _ _ _ _ _ _ q1 ⟨st.step q3,q4⟩
   ·rw [k1]
    simp only [Oper.upon];rcases k2 with⟨x,H',S,v,σ',q1,e2,q3,q4⟩|⟨p,H',S,v,σ',q1,e2,q3,q4⟩
    ·cases e2
     obtain⟨env',ds',s1,s2⟩:=finA_ok st q3 q4 q1;exact hK _ _ _ _ _ _ s1 s2
    ·cases e2
  ·cases h
 ·rename_i f name args at_ hop
  split at h
  ·rename_i t x hf
   split at h
   ·rename_i g hg
    have hfv:=rep_evO st.env f;rw [hf]at hfv;obtain⟨z,h1,h2⟩:=hfv;have hargs:RepL C σ H w (x::args.toList.map (evO env)) (z::args.toList.map a.eval):=⟨z,_,rfl,h2,rep_evOs st.env args.toList⟩
    have hdo:=callA_ok hC st.rp (hΓ g) hargs h;have hrun:(execOp a.eval o).run P w=(callFunc g (z::args.toList.map a.eval).toArray).run P w:=by
     unfold execOp;rw [hop];simp only [resolve,Sem.run_bind,Sem.run_pure,Result.andThen_ok,invoke];have h0:(#[a.eval f]++args.map a.eval)[0]? =some (.iface t z):=by
      have h1':a.eval f= .iface t z:=h1;rw [h1',←Array.getElem?_toList,Array.toList_append];rfl
     rw [h0];show(callMethod (.iface t z) name _).run P w=_;rw [methA_ok hg];congr 2;apply Array.ext';simp only [Array.toList_append,Array.toList_extract,Array.toList_map,List.extract_eq_take_drop,Array.size_append,List.size_toArray,Array.size_map,List.cons_append,List.nil_append];simp [List.take_of_length_le]
    unfold Oper.wp;rw [hrun];rcases hdo with⟨k1,k2⟩|⟨v0,w0,k1,k2⟩
    ·rw [k1]
     simp only [Oper.upon];refine k2.mono fun e w' he=> ?_
     rcases he with⟨x,H',S,v,σ',q1,rfl,q3,q4⟩|⟨p,H',S,v,σ',q1,rfl,q3,q4⟩
     ·obtain⟨env',ds',s1,s2⟩:=finA_ok st q3 q4 q1
      exact hK _ _ _ _ _ _ s1 s2
     ·exact hP _ _ _ _ _ _ _ q1 ⟨st.step q3,q4⟩
    ·rw [k1]
     simp only [Oper.upon];rcases k2 with⟨x,H',S,v,σ',q1,e2,q3,q4⟩|⟨p,H',S,v,σ',q1,e2,q3,q4⟩
     ·cases e2
      obtain⟨env',ds',s1,s2⟩:=finA_ok st q3 q4 q1;exact hK _ _ _ _ _ _ s1 s2
     ·cases e2
   ·cases h
  ·cases h
 ·rename_i f args at_ hop
  split at h
  ·rename_i g first cap hf
   have hfv:=rep_evO st.env f;rw [hf]at hfv;obtain⟨a1,a2,h1,h2,h3⟩:=hfv;have hrun:(execOp a.eval o).run P w= .ok (.defer {target:= .fn g a2,args:=a1++args.map a.eval}) w:=by
    unfold execOp;rw [hop];simp only [resolve,h1,Deferred.ofValue,Sem.run_bind,Sem.run_pure,Result.andThen_ok]
   unfold Oper.wp;rw [hrun];simp only [Oper.upon];have st2:St C G n B σ env H ((g,first++args.toList.map (evO env),cap)::ds) {a with defers:={target:= .fn g a2,args:=a1++args.map a.eval}::a.defers} w:=by
    refine⟨st.rp,st.anc,st.size,st.env,_,_,_,rfl, ?_,h3,st.ds⟩;rw [Array.toList_append,Array.toList_map];exact h2.append (rep_evOs st.env args.toList)
   obtain⟨env',ds',s1,s2⟩:=finA_ok st2 (Step.refl st.rp) (x:= .any) (v:=undef) trivial h;exact hK _ _ _ _ _ _ s1 s2
  ·cases h
 ·exact plain h
theorem operA_ok(hC:CdcOk C){Γ:Gam T}(hΓ:GOk P C G Γ){n:Nat}{B:Base T}{env:Env T}{ds:Ds T}{a:Act}(st:St C G n B σ env H ds a w){ops:Array Oper}{dsts:Nat→Option Nat}(hd:∀j,dsts j=(ops[j]?).bind (·.dst)){o:Oper}{K:KS T R}{Kp:KP T R}{r:R}
  (h:operA C P G Γ n dsts o env H ds K Kp=some r) {next:Act→World→Prop} {Q:Exit→Act→World→Prop}
  (hK:∀σ' env' H' ds' a' w',K env' H' ds'=some r→St C G n B σ' env' H' ds' a' w'→next a' w')
  (hP:∀σ' env' p H' ds' v w',Kp env' p H' ds'=some r→PSt C G n B σ' env' p H' ds' a v w'→Q (.panic [{v,recovered:=false}]) a w'):
  if Region.wanted o (yielded ops a.tmps)then o.wp P a w next Q else next (a.put o.dst undef) w:=by
 have skip:∀env,St C G n B σ env H ds a w→finA o.dst n env ds (.tup []) H [] K=some r→next (a.put o.dst undef) w:=fun env st' hf=>by
  obtain⟨env',ds',s1,s2⟩:=finA_ok st' (Step.refl st'.rp) (x:= .tup []) (v:=undef) rep_undef hf;exact hK _ _ _ _ _ _ s1 s2
 unfold operA at h;split at h
 ·rename_i hg
  rw [if_pos (by simp [Region.wanted,hg])];exact runA_ok hC hΓ st h hK hP
 ·rename_i j want hg
  split at h
  ·rename_i t ht
   split at h
   ·rename_i b hb
    have hv:=st.env t;rw [hb]at hv;have hvb:=rep_b hv;have hy:yielded ops a.tmps j=some b:=by
     have hlt:t<a.tmps.size:=by
      rcases Nat.lt_or_ge t a.tmps.size with h|h
      ·exact h
      ·rw [Array.getD_eq_getD_getElem?,Array.getElem?_eq_none h]at hvb;cases hvb
     have hget:a.tmps[t]? =some (.bool b):=by
      rw [Array.getD_eq_getD_getElem?,Array.getElem?_eq_getElem hlt]at hvb;rw [Array.getElem?_eq_getElem hlt]
      simpa using hvb
     unfold yielded;rw [←hd,ht];simp only [Option.bind_some,hget]
    have hw:Region.wanted o (yielded ops a.tmps)=(b==want):=by
     simp only [Region.wanted,hg,hy];cases b<;>cases want<;>rfl
    rw [hw];have st':=upd_same st hb;cases b<;>cases want<;>simp only [cond_true,cond_false]at h
    ·rw [if_pos (by rfl)];exact runA_ok hC hΓ st' h hK hP
    ·rw [if_neg (by decide)];exact skip _ st' h
    ·rw [if_neg (by decide)];exact skip _ st' h
    ·rw [if_pos (by rfl)];exact runA_ok hC hΓ st' h hK hP
   ·rename_i hb
    have hv:=st.env t;rw [hb]at hv;rw [wanted_undef hg (yielded_undef hd ht (undef_rep hv)),if_neg (by decide)];exact skip _ st h
   ·cases h
  ·cases h
end Go.Proofs.YtdoifigogbdodaaGreatDoor.Ev

namespace Go.Proofs.YtdoifigogbdodaaGreatDoor.Ev
open Go
variable {T:Nat→Type} {C:Cdc T} {P:Program} {σ:Lk} {H:List (AObj T)} {w:World} {G:Nat→Option (List (V T))} {R:Type}
def isSliceT(P:Program)(t:Nat):Bool:=match P.underlying t with|some (.slice _)=>true|_ =>false
def isOwn:AV T→Bool
 | .own _ =>true
 |_ =>false
def quietB(P:Program)(env:Env T)(o:Oper):Bool:=
 match o.op with
 | .move _ | .assign _ | .pick _ _ _ | .build _ _ | .load _ _ | .nilCheck _ | .binOp _ _ _ _ _ | .unOp _ _ _ | .makeInterface _ _ | .makeFunc _ _ _
 | .fieldAddr _ _ _ | .field _ _ _ | .indexAddr _ _ _ | .index _ _ _ | .typeAssert _ _ _ _ | .extract _ _ =>true
 | .convert _ d _ => !isSliceT P d
 | .slice _ x _ _ _ => !isOwn (evO env x)
 | .call {callee:= .builtin b,.. }=>match b with
  | .len| .min| .max=>true
  |_ =>false
 |_ =>false
theorem len_q{ty:Nat}{at_ :Array Nat}{args:List (AV T)}{K:Kont T R}{r:R}(h:builtinA C P .len ty at_ args H K=some r):∃t ts x xs,at_.toList=t::ts∧args=x::xs∧lenX P t x H K=some r:=by
 cases ht:at_.toList with
 |nil=>simp [builtinA,ht]at h
 |cons t ts=>
  cases args with
  |nil=>simp [builtinA,ht]at h
  |cons x xs=>exact⟨t,ts,x,xs,rfl,rfl,by simpa [builtinA,ht] using h⟩
theorem evOp_q(hC:CdcOk C)(hR:Rp C σ H w G){o:Oper}{env:Env T}{a:Act}(he:RepE C σ H w env a){K:Kont T R}{r:R}
  (h:evOp C P G o env H K (fun _ _ =>none)=some r) (hq:quietB P env o=true):GoodQ C σ H w ((execOp a.eval o).run P w) K r:=by
 unfold evOp at h;unfold quietB at hq;unfold execOp;cases hop:o.op<;>rw [hop]at h hq<;>simp only at h hq⊢
 case move x=>exact good_q h rfl (rep_evO he x)
 case assign x=>exact good_q h rfl (rep_evO he x)
 case pick c x y=>
  split at h
  ·rename_i b hb
   have hc:=rep_evO he c;rw [hb]at hc;have hcv:=rep_b hc;cases b
   ·simp only [cond_false]at h
    exact good_q h (by simp [asBool,hcv]) (rep_evO he y)
   ·simp only [cond_true]at h
    exact good_q h (by simp [asBool,hcv]) (rep_evO he x)
  ·cases h
 case build t parts=>exact buildA_good hR (parts_rep' he parts) h
 case load t x=>exact loadA_good hR (rep_evO he x) (by rw [←loadB_eq];exact h)
 case nilCheck x=>
  rcases nilCheckA_good hR (rep_evO he x) h with⟨⟨p,hp⟩,hK⟩|⟨⟨f,u,v,hp⟩,hK⟩
  ·exact good_q hK (v:=a.eval x) (by rw [hp];rfl) (rep_evO he x)
  ·exact good_q hK (v:=a.eval x) (by rw [hp];rfl) (rep_evO he x)
 case binOp op t x y yt=>
  obtain⟨z,v,h1,h2,h3⟩:=binA_good hR (rep_evO he x) (rep_evO he y) h;exact good_q h1 (run_value h2) h3
 case unOp op t x=>
  obtain⟨z,v,h1,h2,h3⟩:=unA_ok (P:=P) (rep_evO he x) h;exact good_q h1 (run_value h2) h3
 case convert s d x=>
  refine convA_q hC hR (rep_evO he x) (fun e hu=> ?_) h;simp [isSliceT,hu]at hq
 case makeInterface t x=>
  split at h
  ·cases h
  ·rename_i d hd hu
   refine good_q h (run_value (v:= .iface t (a.eval x)) ?_) ⟨_,rfl,rep_evO he x⟩;simp only [Instr.makeInterface,Sem.run_bind,run_underlying hu,Result.andThen_ok];cases d<;>first|rfl|(exact(hd _ rfl).elim)
  ·cases h
 case makeFunc f first cap=>
  refine good_q h rfl ⟨first.map a.eval,cap.map a.eval,rfl, ?_, ?_⟩
  ·rw [Array.toList_map];exact rep_evOs he _
  ·rw [Array.toList_map];exact rep_evOs he _
 case slice t x lo hi mx=>
  have opt:∀(z:Option Operand),(∀q,z.map (evO env)=some q→∃v,z.map a.eval=some v∧RepA C σ H w q v)∧(z.map (evO env)=none→z.map a.eval=none):=fun z=>by
   cases z with
   |none=>exact⟨fun q hq=>(by cases hq),fun _ =>rfl⟩
   |some z=>exact⟨fun q hq=>(by cases hq;exact⟨_,rfl,rep_evO he z⟩),fun hq=>(by cases hq)⟩
  exact sliceX_q hC hR (fun o ho=>by rw [ho]at hq;simp [isOwn]at hq) (rep_evO he x) (opt lo).1 (opt lo).2 (opt hi).1 (opt hi).2 (opt mx).1 (opt mx).2 h
 case fieldAddr s x f=>exact fieldAddrA_good hR (rep_evO he x) h
 case field s x f=>exact fieldA_good hR (rep_evO he x) h
 case indexAddr t x i=>exact indexAddrX_good hR (rep_evO he x) (rep_evO he i) h
 case index t x i=>exact indexA_good hR (rep_evO he x) (rep_evO he i) h
 case typeAssert x xt as ok=>exact assertA_good hR (rep_evO he x) h
 case extract t i=>
  split at h
  ·rename_i l hl
   have ht:=rep_evO he t;rw [hl]at ht;obtain⟨vs,hv,h1⟩:=ht;split at h
   ·rename_i x hx
    obtain⟨y,h2,h3⟩:=h1.get i x hx;refine good_q h (run_value (v:=y) ?_) h3;have:vs[i]? =some y:=by simpa using h2
    rw [hv];simp [Instr.extract,this]
   ·cases h
  ·cases h
 case call c=>
  obtain⟨callee,args,at_⟩:=c;cases callee with
  |builtin b=>
   simp only at h hq;simp only [resolve,Sem.run_bind,Sem.run_pure,Result.andThen_ok,invoke];have ha:RepL C σ H w (args.toList.map (evO env)) (args.map a.eval).toList:=by rw [Array.toList_map];exact rep_evOs he _
   cases b<;>simp only at hq<;>first
    |(cases hq;done)
    |(exact(minMaxA_good hR ha h).1 rfl)
    |(exact(minMaxA_good hR ha h).2 rfl)
    |skip
   obtain⟨t,ts,x,xs,h1,h2,h3⟩:=len_q h;rw [h2]at ha;obtain⟨y,ys,h4,h5,_⟩:=ha;exact lenX_good (ts:=ts) hR h5 (by rw [←Array.getElem?_toList,h4];rfl) (by rw [←Array.getElem?_toList,h1];rfl) h3
  |value f=>cases h
  |invoke r m=>cases h
 all_goals (cases hq)
end Go.Proofs.YtdoifigogbdodaaGreatDoor.Ev

namespace Go.Proofs.YtdoifigogbdodaaGreatDoor.Ev
open Go
variable {T:Nat→Type} {C:Cdc T} {P:Program} {σ:Lk} {H:List (AObj T)} {w:World} {G:Nat→Option (List (V T))} {R:Type}
abbrev Res3(T:Nat→Type):=AV T×List (AObj T)×List Nat
def ret3:Kont T (Res3 T):=fun x H S=>some (x,H,S)
def app3(K:Kont T R)(z:Res3 T):Option R:=K z.1 z.2.1 z.2.2
theorem whole_nat{ag:Bool}{n:Nat}{cs:List (AV T)}{H:List (AObj T)}{K:Kont T R}:whole ag n cs (fun x=>K x H [])=(whole ag n cs (fun x=>ret3 x H [])).bind (app3 K):=by
 unfold whole;cases ag
 ·simp only [cond_false]
  split<;>rfl
 ·simp only [cond_true]
  cases Nat.beq cs.length n<;>rfl
theorem loadA_nat{t:Nat}{a:AV T}{K:Kont T R}:loadA C P G t a H K=(loadA C P G t a H ret3).bind (app3 K):=by
 unfold loadA;cases sizeT P t<;>cases aggT P t<;>try rfl
 simp only;cases cellsAt C (fun g=>(G g).map fun l=>l.map AV.v) H a _ <;>try rfl
 exact whole_nat
theorem buildA_nat{t:Nat}{parts:List (Nat×AV T)}{K:Kont T R}:buildA P t parts H K=(buildA P t parts H ret3).bind (app3 K):=by
 unfold buildA;split
 ·cases sizedT P t
  ·rfl
  ·simp only [cond_true]
   split<;>rfl
 ·rfl
theorem nilCheckA_nat{a:AV T}{K:Kont T R}:nilCheckA a H K=(nilCheckA a H ret3).bind (app3 K):=by
 unfold nilCheckA;split<;>rfl
theorem binInt_nat{op:BinOp}{k:IntKind}{a b:Int}{K:Kont T R}:binInt op k a b (fun v=>K v H [])=(binInt op k a b (fun v=>ret3 v H [])).bind (app3 K):=by
 unfold binInt;split<;>first|rfl|(cases decide (b=0)<;>rfl)
theorem shiftA_nat{op:BinOp}{k:IntKind}{a b:Int}{K:Kont T R}:shiftA op k a b (fun v=>K v H [])=(shiftA op k a b (fun v=>ret3 v H [])).bind (app3 K):=by
 unfold shiftA;cases decide (b<0)
 ·simp only [cond_false]
  split<;>rfl
 ·rfl
theorem binStr_nat{op:BinOp}{a b:ByteArray}{K:Kont T R}:binStr op a b (fun v=>K v H [])=(binStr op a b (fun v=>ret3 v H [])).bind (app3 K):=by
 unfold binStr;split<;>first|rfl|(cases Nat.ble (a.size+b.size) maxI<;>rfl)
theorem binA_nat{op:BinOp}{t:Nat}{x y:Operand}{a b:AV T}{K:Kont T R}:binA P op t x y a b (fun v=>K v H [])=(binA P op t x y a b (fun v=>ret3 v H [])).bind (app3 K):=by
 unfold binA;split
 ·cases isSh op
  ·rename_i k a k' b
   cases(k==k')
   ·rfl
   ·exact binInt_nat
  ·exact shiftA_nat
 ·exact binStr_nat
 ·generalize nilOk P t x y _ _ =b
  cases b
  ·rfl
  ·simp only [cond_true]
   generalize eqA P 6 t _ _ =e;split<;>first|rfl|(cases e<;>rfl)
theorem unA_nat{op:UnOp}{a:AV T}{K:Kont T R}:unA op a (fun v=>K v H [])=(unA op a (fun v=>ret3 v H [])).bind (app3 K):=by
 unfold unA;split<;>rfl
theorem fieldAddrA_nat{s f:Nat}{a:AV T}{K:Kont T R}:fieldAddrA P s f a H K=(fieldAddrA P s f a H ret3).bind (app3 K):=by
 unfold fieldAddrA;split
 ·split
  ·split<;>rfl
  ·rfl
 ·rfl
theorem fieldA_nat{s f:Nat}{a:AV T}{K:Kont T R}:fieldA P s f a H K=(fieldA P s f a H ret3).bind (app3 K):=by
 unfold fieldA;split
 ·split
  ·exact whole_nat
  ·rfl
 ·rfl
theorem bind_nat{α:Type}{o:Option α}{f:α→AV T}{K:Kont T R}:(o.bind fun x=>K (f x) H [])=(o.bind fun x=>ret3 (f x) H []).bind (app3 K):=by cases o<;>rfl
theorem indexAddrA_nat{t:Nat}{a i:AV T}{K:Kont T R}:indexAddrA C P t a i H K=(indexAddrA C P t a i H ret3).bind (app3 K):=by
 unfold indexAddrA;split
 ·split
  ·split
   ·split
    ·generalize (_ &&_)=b
     cases b<;>rfl
    ·rfl
   ·generalize (_ &&_)=b
    cases b
    ·rfl
    ·exact bind_nat
   ·generalize (_ &&_)=b
    cases b<;>rfl
   ·rfl
  ·rfl
 ·split
  ·generalize (_ &&_)=b
   cases b
   ·rfl
   ·simp only [cond_true]
    split<;>rfl
  ·rfl
 ·rfl
theorem indexAddrX_nat{t:Nat}{a i:AV T}{K:Kont T R}:indexAddrX C P t a i H K=(indexAddrX C P t a i H ret3).bind (app3 K):=by
 exact indexAddrA_nat
theorem indexA_nat{t:Nat}{a i:AV T}{K:Kont T R}:indexA P t a i H K=(indexA P t a i H ret3).bind (app3 K):=by
 unfold indexA;split
 ·rename_i s k n _
  generalize decide (0≤n)=b;cases b
  ·rfl
  ·exact bind_nat
 ·split
  ·generalize (_ &&_)=b
   cases b
   ·rfl
   ·exact whole_nat
  ·rfl
 ·rfl
theorem sliceA_nat{t:Nat}{a:AV T}{lo hi mx:Option (AV T)}{K:Kont T R}:sliceA C P t a lo hi mx H K=(sliceA C P t a lo hi mx H ret3).bind (app3 K):=by
 unfold sliceA;split
 ·split
  ·cases isNone mx
   ·rfl
   ·simp only [cond_true]
    split
    ·generalize (_ &&_)=b
     cases b<;>rfl
    ·rfl
  ·rfl
 ·split
  ·generalize (_ &&_)=b
   cases b<;>rfl
  ·generalize Nat.beq _ _ =b
   cases b
   ·rfl
   ·simp only [cond_true]
    split
    ·split
     ·generalize (_ &&_)=b
      cases b<;>rfl
     ·rfl
    ·rfl
 ·rfl
theorem convA_nat{s d:Nat}{a:AV T}{K:Kont T R}:convA C P s d a H K=(convA C P s d a H ret3).bind (app3 K):=by
 unfold convA;split
 ·rfl
 ·rfl
 ·rfl
 ·split
  ·generalize (_ &&_)=b
   cases b<;>rfl
  ·rfl
 ·split
  ·generalize (_ &&_)=b
   cases b<;>rfl
  ·rfl
 ·split
  ·generalize liesAt _ _ _ _ _ _ _ =b
   cases b<;>rfl
  ·rfl
 ·split
  ·generalize Nat.beq _ _ =b
   cases b
   ·rfl
   ·simp only [cond_true]
    split<;>rfl
  ·rfl
 ·rfl
theorem assertA_nat{a:AV T}{t:Nat}{ok:Bool}{K:Kont T R}:assertA P a t ok H K=(assertA P a t ok H ret3).bind (app3 K):=by
 unfold assertA;split
 ·split
  ·split
   ·split
    ·rfl
    ·cases ok
     ·rfl
     ·simp only [cond_true];split<;>rfl
   ·rfl
  ·rfl
 ·split
  ·generalize Nat.beq _ _ =b
   cases b
   ·cases ok
    ·rfl
    ·simp only [cond_true,cond_false];split<;>rfl
   ·rfl
  ·cases ok
   ·rfl
   ·simp only [cond_true];split<;>rfl
  ·rfl
 ·rfl
theorem lenA_nat{t:Nat}{a:AV T}{K:Kont T R}:lenA P t a H K=(lenA P t a H ret3).bind (app3 K):=by
 unfold lenA;split<;>first|rfl|(split<;>rfl)
theorem lenX_nat{t:Nat}{a:AV T}{K:Kont T R}:lenX P t a H K=(lenX P t a H ret3).bind (app3 K):=by
 exact lenA_nat
theorem sliceX_nat{t:Nat}{a:AV T}{lo hi mx:Option (AV T)}{K:Kont T R}:sliceX C P t a lo hi mx H K=(sliceX C P t a lo hi mx H ret3).bind (app3 K):=by
 unfold sliceX;split
 ·split
  ·split
   ·generalize (_ &&_)=b
    cases b<;>rfl
   ·rfl
  ·rfl
 ·exact sliceA_nat
theorem minMaxA_nat{mx:Bool}{args:List (AV T)}{K:Kont T R}:minMaxA mx args H K=(minMaxA mx args H ret3).bind (app3 K):=by
 unfold minMaxA;split<;>rfl
theorem evOp_natE{o:Oper}{env:Env T}(hq:quietB P env o=true){K:Kont T R}:
 evOp C P G o env H K (fun _ _ =>none)=(evOp C P G o env H ret3 (fun _ _ =>none)).bind (app3 K):=by
 unfold quietB at hq;unfold evOp;cases hop:o.op<;>rw [hop]at hq<;>simp only at hq⊢<;>first
  |(cases hq;done)
  |(rw [loadB_eq,loadB_eq];exact loadA_nat)
  |exact buildA_nat
  |exact nilCheckA_nat
  |exact binA_nat
  |exact unA_nat
  |exact convA_nat
  |exact sliceX_nat
  |exact fieldAddrA_nat
  |exact fieldA_nat
  |exact indexAddrX_nat
  |exact indexA_nat
  |exact assertA_nat
  |rfl
  |skip
 case pick=>split<;>first|rfl|(rename_i b _;cases b<;>rfl)
 case makeInterface=>split<;>rfl
 case extract=>
  split
  ·split<;>rfl
  ·rfl
 case call c=>
  obtain⟨callee,args,at_⟩:=c;cases callee with
  |builtin b=>
   simp only at hq⊢;unfold builtinA;cases b<;>simp only at hq<;>first
    |(cases hq;done)
    |exact minMaxA_nat
    |skip
   split<;>first
    |exact lenX_nat
    |rfl
    |simp_all
  |value f=>rfl
  |invoke r m=>rfl
theorem evOp_nat{o:Oper}{env:Env T}(hq:quietB P env o=true){K:Kont T R}{r:R}(h:evOp C P G o env H K (fun _ _ =>none)=some r):
  ∃z,evOp C P G o env H ret3 (fun _ _ =>none)=some z∧app3 K z=some r:=by
 rw [evOp_natE hq]at h;cases hz:evOp C P G o env H ret3 (fun _ _ =>none)with
 |none=>rw [hz]at h;cases h
 |some z=>rw [hz]at h;exact⟨z,rfl,h⟩
theorem evOp_congr{o:Oper}{env env':Env T}(h:∀x∈o.op.operands,evO env x=evO env' x){K:Kont T R}{Kp:AV T→List (AObj T)→Option R}:
  evOp C P G o env H K Kp=evOp C P G o env' H K Kp:=by
 have pairs:∀ps:Array (Nat×Operand),(∀x∈ps.map (·.2),evO env x=evO env' x)→
   (ps.toList.map fun p=>(p.1,evO env p.2))=(ps.toList.map fun p=>(p.1,evO env' p.2)):=fun ps hp=>
  List.map_congr_left fun p hm=>by
   obtain⟨i,x⟩:=p;simp only [hp x (Array.mem_map.2 ⟨(i,x),Array.mem_toList_iff.1 hm,rfl⟩)]
 have arr:∀ps:Array Operand,(∀x∈ps,evO env x=evO env' x)→ps.toList.map (evO env)=ps.toList.map (evO env'):=fun ps hp=>
  List.map_congr_left fun x hm=>hp x (Array.mem_toList_iff.1 hm)
 unfold evOp;cases hop:o.op<;>rw [hop]at h<;>simp only [Op.operands]at h<;>try simp only
 case panic x=>rw [h x (by simp)]
 case build t ps=>rw [pairs ps fun x hx=>h x (by simpa using hx)]
 case buildSlice t n ps=>rw [pairs ps fun x hx=>h x (by simpa using hx)]
 case makeFunc fn first captured=>
  rw [arr first fun x hx=>h x (by simp [hx]),arr captured fun x hx=>h x (by simp [hx])]
 case call c=>
  obtain⟨callee,args,at_⟩:=c;cases callee with
  |builtin b=>simp only;rw [arr args fun x hx=>h x (by simp [Call.operands,hx])]
  |value f=>rfl
  |invoke r m=>rfl
 case slice t x lo hi mx=>
  have e1:lo.map (evO env)=lo.map (evO env'):=by cases lo<;>simp_all
  have e2:hi.map (evO env)=hi.map (evO env'):=by cases hi<;>simp_all
  have e3:mx.map (evO env)=mx.map (evO env'):=by cases mx<;>simp_all
  rw [e1,e2,e3,h x (by simp)]
 case pick c x y=>rw [h c (by simp),h x (by simp),h y (by simp)]
 all_goals (first|rfl|(simp_all;done)|skip)
theorem quietB_congr{o:Oper}{env env':Env T}(h:∀x∈o.op.operands,evO env x=evO env' x):quietB P env o=quietB P env' o:=by
 unfold quietB;cases hop:o.op<;>rw [hop]at h<;>simp only [Op.operands]at h<;>try simp only
 case slice t x lo hi mx=>rw [h x (by simp)]
 case call c=>obtain⟨callee,args,at_⟩:=c;cases callee<;>rfl
mutual
theorem below_of_rep:∀(x:AV T) (y:Value),RepA C σ H w x y→below H.length x=true
 | .any,_,_ | .v _,_,_ | .cptr _ _ _,_,_ | .gptr _ _,_,_ | .cap0,_,_ | .z0,_,_ =>rfl
 | .agg l,_,⟨vs,_,h⟩=>below_of_repL l _ h
 | .tup l,_,⟨vs,_,h⟩=>below_of_repL l _ h
 | .ptr o off,_,h=>Nat.ble_eq_true_of_le h.1
 | .rptr o i off,_,h=>Nat.ble_eq_true_of_le h.1
 | .own o,_,h=>Nat.ble_eq_true_of_le h.1
 | .sp o,_,h=>Nat.ble_eq_true_of_le h.1
 | .slc o a b c,_,h=>Nat.ble_eq_true_of_le h.1
 | .fn f a b,_,⟨_,_,_,h1,h2⟩=>by
  show(belowL H.length a&&belowL H.length b)=true;rw [below_of_repL a _ h1,below_of_repL b _ h2];rfl
 | .ifc t x,_,⟨z,_,h⟩=>below_of_rep x z h
theorem below_of_repL:∀(l:List (AV T)) (ys:List Value),RepL C σ H w l ys→belowL H.length l=true
 |[],_,_ =>rfl
 |x::l,_,⟨y,ys,_,h1,h2⟩=>by
  show(below H.length x&&belowL H.length l)=true;rw [below_of_rep x y h1,below_of_repL l ys h2];rfl
end
end Go.Proofs.YtdoifigogbdodaaGreatDoor.Ev

namespace Go.Proofs.YtdoifigogbdodaaGreatDoor.Ev
open Go
variable {T:Nat→Type} {C:Cdc T} {P:Program} {σ:Lk} {H H':List (AObj T)} {w:World} {G:Nat→Option (List (V T))} {R:Type}
def hset(H':List (AObj T))(z:Res3 T):Res3 T:=(z.1,H',[])
def Same(S:List Nat)(H H':List (AObj T)):Prop:=∀o∈S,H[o]? =H'[o]?
theorem whole_h{ag:Bool}{n:Nat}{cs:List (AV T)}:whole ag n cs (fun x=>ret3 x H' [])=(whole ag n cs (fun x=>ret3 x H [])).map (hset H'):=by
 unfold whole;cases ag
 ·simp only [cond_false]
  split<;>rfl
 ·simp only [cond_true]
  cases Nat.beq cs.length n<;>rfl
theorem cellsAt_h{g:Nat→Option (List (AV T))}{a:AV T}{n:Nat}(h:Same (refs a) H H'):cellsAt C g H' a n=cellsAt C g H a n:=by
 cases a with
 |ptr o off=>simp only [cellsAt];rw [h o (by simp [refs])]
 |rptr o i off=>simp only [cellsAt];rw [h o (by simp [refs])]
 |_ =>rfl
theorem contentA_h{e:Nat}{a:AV T}(h:Same (refs a) H H'):contentA H' e a=contentA H e a:=by
 cases a with
 |own o=>simp only [contentA];rw [h o (by simp [refs])]
 |v x=>cases x<;>rfl
 |_ =>rfl
theorem loadA_h{t:Nat}{a:AV T}(h:Same (refs a) H H'):loadA C P G t a H' ret3=(loadA C P G t a H ret3).map (hset H'):=by
 unfold loadA;cases sizeT P t<;>cases aggT P t<;>try rfl
 simp only;rw [cellsAt_h h];cases cellsAt C (fun g=>(G g).map fun l=>l.map AV.v) H a _ <;>try rfl
 exact whole_h
theorem buildA_h{t:Nat}{parts:List (Nat×AV T)}:buildA P t parts H' ret3=(buildA P t parts H ret3).map (hset H'):=by
 unfold buildA;split
 ·cases sizedT P t
  ·rfl
  ·simp only [cond_true]
   split<;>rfl
 ·rfl
theorem nilCheckA_h{a:AV T}:nilCheckA a H' ret3=(nilCheckA a H ret3).map (hset H'):=by
 unfold nilCheckA;split<;>rfl
theorem binInt_h{op:BinOp}{k:IntKind}{a b:Int}:binInt op k a b (fun v=>ret3 v H' [])=(binInt (T:=T) op k a b (fun v=>ret3 v H [])).map (hset H'):=by
 unfold binInt;split<;>first|rfl|(cases decide (b=0)<;>rfl)
theorem shiftA_h{op:BinOp}{k:IntKind}{a b:Int}:shiftA op k a b (fun v=>ret3 v H' [])=(shiftA (T:=T) op k a b (fun v=>ret3 v H [])).map (hset H'):=by
 unfold shiftA;cases decide (b<0)
 ·simp only [cond_false]
  split<;>rfl
 ·rfl
theorem binStr_h{op:BinOp}{a b:ByteArray}:binStr op a b (fun v=>ret3 v H' [])=(binStr (T:=T) op a b (fun v=>ret3 v H [])).map (hset H'):=by
 unfold binStr;split<;>first|rfl|(cases Nat.ble (a.size+b.size) maxI<;>rfl)
theorem binA_h{op:BinOp}{t:Nat}{x y:Operand}{a b:AV T}:binA P op t x y a b (fun v=>ret3 v H' [])=(binA P op t x y a b (fun v=>ret3 v H [])).map (hset H'):=by
 unfold binA;split
 ·cases isSh op
  ·rename_i k a k' b
   cases(k==k')
   ·rfl
   ·exact binInt_h
  ·exact shiftA_h
 ·exact binStr_h
 ·generalize nilOk P t x y _ _ =b
  cases b
  ·rfl
  ·simp only [cond_true]
   generalize eqA P 6 t _ _ =e;split<;>first|rfl|(cases e<;>rfl)
theorem unA_h{op:UnOp}{a:AV T}:unA op a (fun v=>ret3 v H' [])=(unA op a (fun v=>ret3 v H [])).map (hset H'):=by
 unfold unA;split<;>rfl
theorem fieldAddrA_h{s f:Nat}{a:AV T}:fieldAddrA P s f a H' ret3=(fieldAddrA P s f a H ret3).map (hset H'):=by
 unfold fieldAddrA;split
 ·split
  ·split<;>rfl
  ·rfl
 ·rfl
theorem fieldA_h{s f:Nat}{a:AV T}:fieldA P s f a H' ret3=(fieldA P s f a H ret3).map (hset H'):=by
 unfold fieldA;split
 ·split
  ·exact whole_h
  ·rfl
 ·rfl
theorem bind_h{α:Type}{o:Option α}{f:α→AV T}:(o.bind fun x=>ret3 (f x) H' [])=(o.bind fun x=>ret3 (f x) H []).map (hset H'):=by cases o<;>rfl
theorem indexAddrA_h{t:Nat}{a i:AV T}(h:Same (refs a) H H'):indexAddrA C P t a i H' ret3=(indexAddrA C P t a i H ret3).map (hset H'):=by
 unfold indexAddrA;split
 ·split
  ·split
   ·rename_i o
    rw [h o (by simp [refs])];split
    ·generalize (_ &&_)=b
     cases b<;>rfl
    ·rfl
   ·generalize (_ &&_)=b
    cases b
    ·rfl
    ·exact bind_h
   ·generalize (_ &&_)=b
    cases b<;>rfl
   ·rfl
  ·rfl
 ·split
  ·generalize (_ &&_)=b
   cases b
   ·rfl
   ·simp only [cond_true]
    split<;>rfl
  ·rfl
 ·rfl
theorem indexA_h{t:Nat}{a i:AV T}:indexA P t a i H' ret3=(indexA P t a i H ret3).map (hset H'):=by
 unfold indexA;split
 ·rename_i s k n _
  generalize decide (0≤n)=b;cases b
  ·rfl
  ·exact bind_h
 ·split
  ·generalize (_ &&_)=b
   cases b
   ·rfl
   ·exact whole_h
  ·rfl
 ·rfl
theorem sliceA_h{t:Nat}{a:AV T}{lo hi mx:Option (AV T)}(ho:isOwn a=false)(h:Same (refs a) H H'):sliceA C P t a lo hi mx H' ret3=(sliceA C P t a lo hi mx H ret3).map (hset H'):=by
 unfold sliceA;split
 ·split
  ·cases isNone mx
   ·rfl
   ·simp only [cond_true]
    split
    ·generalize (_ &&_)=b
     cases b<;>rfl
    ·rfl
  ·rfl
 ·split
  ·generalize (_ &&_)=b
   cases b<;>rfl
  ·generalize Nat.beq _ _ =b
   cases b
   ·rfl
   ·simp only [cond_true]
    rw [contentA_h h];split
    ·split
     ·generalize (_ &&_)=b
      cases b
      ·rfl
      ·simp only [cond_true]
       cases a<;>first|rfl|(cases ho)
     ·rfl
    ·rfl
 ·rfl
theorem convA_h{s d:Nat}{a:AV T}(hd:isSliceT P d=false)(h:Same (refs a) H H'):convA C P s d a H' ret3=(convA C P s d a H ret3).map (hset H'):=by
 unfold convA;split
 ·rfl
 ·rfl
 ·rfl
 ·rename_i e _ h1 h2
  simp [isSliceT,h2]at hd
 ·rename_i t o k _ _
  rw [h o (by simp [refs])];split
  ·generalize (_ &&_)=b
   cases b<;>rfl
  ·rfl
 ·rename_i t o k _ _
  rw [h o (by simp [refs])];split
  ·generalize liesAt _ _ _ _ _ _ _ =b
   cases b<;>rfl
  ·rfl
 ·split
  ·generalize Nat.beq _ _ =b
   cases b
   ·rfl
   ·simp only [cond_true]
    rw [contentA_h h];split<;>rfl
  ·rfl
 ·rfl
theorem assertA_h{a:AV T}{t:Nat}{ok:Bool}:assertA P a t ok H' ret3=(assertA P a t ok H ret3).map (hset H'):=by
 unfold assertA;split
 ·split
  ·split
   ·split
    ·rfl
    ·cases ok
     ·rfl
     ·simp only [cond_true];split<;>rfl
   ·rfl
  ·rfl
 ·split
  ·generalize Nat.beq _ _ =b
   cases b
   ·cases ok
    ·rfl
    ·simp only [cond_true,cond_false];split<;>rfl
   ·rfl
  ·cases ok
   ·rfl
   ·simp only [cond_true];split<;>rfl
  ·rfl
 ·rfl
theorem lenA_h{t:Nat}{a:AV T}(h:Same (refs a) H H'):lenA P t a H' ret3=(lenA P t a H ret3).map (hset H'):=by
 unfold lenA;split<;>first
  |rfl
  |(rw [←h _ (by simp [refs])];split<;>rfl)
theorem minMaxA_h{mx:Bool}{args:List (AV T)}:minMaxA mx args H' ret3=(minMaxA mx args H ret3).map (hset H'):=by
 unfold minMaxA;split<;>rfl
theorem indexAddrX_h{t:Nat}{a i:AV T}(h:Same (refs a) H H'):indexAddrX C P t a i H' ret3=(indexAddrX C P t a i H ret3).map (hset H'):=by
 exact indexAddrA_h h
theorem lenX_h{t:Nat}{a:AV T}(h:Same (refs a) H H'):lenX P t a H' ret3=(lenX P t a H ret3).map (hset H'):=by
 exact lenA_h h
theorem sliceX_h{t:Nat}{a:AV T}{lo hi mx:Option (AV T)}(ho:isOwn a=false)(h:Same (refs a) H H'):sliceX C P t a lo hi mx H' ret3=(sliceX C P t a lo hi mx H ret3).map (hset H'):=by
 unfold sliceX;split
 ·split
  ·split
   ·generalize (_ &&_)=b
    cases b<;>rfl
   ·rfl
  ·rfl
 ·exact sliceA_h ho h
def refsO(env:Env T)(o:Oper):List Nat:=o.op.operands.toList.flatMap fun x=>refs (evO env x)
theorem refsO_mem{env:Env T}{o:Oper}{x:Operand}(hx:x∈o.op.operands){S:List Nat}(h:Same (refsO env o) H H'):Same (refs (evO env x)) H H':=
 fun i hi=>h i (List.mem_flatMap.2 ⟨x,Array.mem_toList_iff.2 hx,hi⟩)
def heapB(o:Oper):Bool:=
 match o.op with
 | .load _ _ | .indexAddr _ _ _ | .convert _ _ _ | .slice _ _ _ _ _ | .call _ =>true
 |_ =>false
theorem evOp_h{o:Oper}{env:Env T}(hq:quietB P env o=true)(hs:heapB o=true→Same (refsO env o) H H'):
  evOp C P G o env H' ret3 (fun _ _ =>none)=(evOp C P G o env H ret3 (fun _ _ =>none)).map (hset H'):=by
 have hx:heapB o=true→∀x∈o.op.operands,Same (refs (evO env x)) H H':=fun hb x hx=>refsO_mem (S:=[]) hx (hs hb)
 clear hs;unfold heapB at hx;unfold quietB at hq;unfold evOp;cases hop:o.op<;>rw [hop]at hq hx<;>simp only [Op.operands]at hq hx⊢<;>first
  |(cases hq;done)
  |(rw [loadB_eq,loadB_eq];exact loadA_h (hx trivial _ (by simp)))
  |exact buildA_h
  |exact nilCheckA_h
  |exact binA_h
  |exact unA_h
  |exact convA_h (by simpa using hq) (hx trivial _ (by simp))
  |exact sliceX_h (by simpa using hq) (hx trivial _ (by simp))
  |exact fieldAddrA_h
  |exact fieldA_h
  |exact indexAddrX_h (hx trivial _ (by simp))
  |exact indexA_h
  |exact assertA_h
  |rfl
  |skip
 case pick=>split<;>first|rfl|(rename_i b _;cases b<;>rfl)
 case makeInterface=>split<;>rfl
 case extract=>
  split
  ·split<;>rfl
  ·rfl
 case call c=>
  obtain⟨callee,args,at_⟩:=c;cases callee with
  |builtin b=>
   simp only [Call.operands]at hq hx⊢;unfold builtinA;cases b<;>simp only at hq<;>first
    |(cases hq;done)
    |exact minMaxA_h
    |skip
   split<;>first
    |rfl
    |(rename_i t ts x xs h1 h2 h3;refine lenX_h ?_
      have:x∈args.toList.map (evO env):=by rw [h3];simp
      obtain⟨y,hy,rfl⟩:=List.mem_map.1 this;exact hx trivial y (by simpa using hy))
    |(rename_i h1 h2 h3;cases h1;done)
    |(cases‹Builtin.len=_›)
    |simp_all
  |value f=>rfl
  |invoke r m=>rfl
end Go.Proofs.YtdoifigogbdodaaGreatDoor.Ev

namespace Go.Proofs.YtdoifigogbdodaaGreatDoor.Ev
open Go
variable {T:Nat→Type} {C:Cdc T} {P:Program} {σ:Lk} {H H':List (AObj T)} {w:World} {G:Nat→Option (List (V T))} {R:Type}
structure Fr(S0:List Nat)(H H':List (AObj T)):Prop where
 len:H.length≤H'.length
 get:∀o,o<H.length→o∉S0→H'[o]? =H[o]?
def Framed(S0:List Nat)(H H':List (AObj T))(S:List Nat):Prop:=S=[]→Fr S0 H H'
theorem Fr.refl{S0:List Nat}:Fr S0 H H:=⟨Nat.le_refl _,fun _ _ _ =>rfl⟩
theorem Fr.trans{S0:List Nat}{H2:List (AObj T)}(h:Fr S0 H H')(k:Fr S0 H' H2):Fr S0 H H2:=
 ⟨Nat.le_trans h.len k.len,fun o ho hn=>(k.get o (Nat.lt_of_lt_of_le ho h.len) hn).trans (h.get o ho hn)⟩
theorem Fr.mono{S0 S1:List Nat}(h:Fr S0 H H')(hs:∀o∈S0,o∈S1):Fr S1 H H':=⟨h.len,fun o ho hn=>h.get o ho fun hm=>hn (hs o hm)⟩
theorem Fr.app{S0:List Nat}(l:List (AObj T)):Fr S0 H (H++l):=⟨by simp,fun o ho _ =>List.getElem?_append_left ho⟩
theorem Fr.set{S0:List Nat}{o:Nat}{x:AObj T}(ho:o∈S0):Fr S0 H (H.set o x):=
 ⟨by simp,fun i hi hn=>List.getElem?_set_ne fun e=>hn (by rw [←e];exact ho)⟩
theorem Fr.lend{S0:List Nat}{o:Nat}(ho:o∈S0):Fr S0 H (Ev.lend o H):=by
 unfold Ev.lend;split
 ·exact Fr.set ho
 ·exact Fr.refl
theorem mem_refsL{o:Nat}:∀{l:List (AV T)},o∈refsL l↔∃x∈l,o∈refs x
 |[]=>by simp [refsL]
 |x::l=>by simp [refsL,mem_refsL (l:=l)]
theorem refs_leaf(x:Value):refs (ofLeaf (T:=T) x)=[]:=by
 unfold ofLeaf;split<;>rfl
theorem refs_const(x:Value):refs (ofConst (T:=T) x)=[]:=by
 unfold ofConst;split
 ·rename_i cs
  simp only [refs];apply List.eq_nil_iff_forall_not_mem.2;intro o ho;obtain⟨y,hy,h⟩:=mem_refsL.1 ho;obtain⟨z,_,rfl⟩:=List.mem_map.1 hy;rw [refs_leaf]at h;cases h
 ·exact refs_leaf x
theorem refs_cellsA{x:AV T}{cs:List (AV T)}(h:cellsA x=some cs):refsL cs=refs x:=by
 cases x<;>simp only [cellsA,Option.some.injEq,reduceCtorEq]at h<;>subst h<;>simp [refs,refsL]
theorem refs_zeroT{t:Nat}{z:List (AV T)}(h:zeroT P t=some z):refsL z=[]:=by
 unfold zeroT at h;split at h
 ·rw [refs_cellsA h,refs_const]
 ·cases h
theorem refs_fillA{place:Nat→Option (Nat×Nat)}:∀(parts:List (Nat×AV T)) (cells cs:List (AV T)),fillA place cells parts=some cs→∀o∈refsL cs,o∈refsL cells∨∃p∈parts,o∈refs p.2
 |[],cells,cs,h,o,ho=>by cases h;exact .inl ho
 |(i,x)::rest,cells,cs,h,o,ho=>by
  simp only [fillA]at h;split at h
  ·rename_i off n c1 _ hc
   generalize (Nat.beq c1.length n&&Nat.ble (off+c1.length) cells.length)=b at h;cases b
   ·cases h
   ·rcases refs_fillA rest _ cs h o ho with h1|⟨p,hp,h1⟩
    ·obtain⟨y,hy,h2⟩:=mem_refsL.1 h1
     simp only [setRange,List.mem_append]at hy;rcases hy with(hy|hy)|hy
     ·exact .inl (mem_refsL.2 ⟨y,List.mem_of_mem_take hy,h2⟩)
     ·refine .inr ⟨(i,x),by simp, ?_⟩
      rw [←refs_cellsA hc];exact mem_refsL.2 ⟨y,hy,h2⟩
     ·exact .inl (mem_refsL.2 ⟨y,List.mem_of_mem_drop hy,h2⟩)
    ·exact .inr ⟨p,by simp [hp],h1⟩
  ·cases h
theorem refs_repL{l:List (AV T)}(h:refsL l=[]):∀n,refsL (repL l n)=[]
 |0=>rfl
 |n+1=>by
  apply List.eq_nil_iff_forall_not_mem.2;intro o ho;obtain⟨x,hx,h1⟩:=mem_refsL.1 ho;simp only [repL,List.mem_append]at hx;rcases hx with hx|hx
  ·have:=mem_refsL.2 ⟨x,hx,h1⟩;rw [h]at this;cases this
  ·have:=mem_refsL.2 ⟨x,hx,h1⟩;rw [refs_repL h n]at this;cases this
theorem vsK_fr{S0:List Nat}:∀(l:List (AV T)) (H:List (AObj T)) (K K':List (V T)→List (AObj T)→Option R),(∀o∈refsL l,o∈S0)→
  (∀vs H',Fr S0 H H'→K vs H'=K' vs H')→vsK l H K=vsK l H K'
 |[],H,K,K',_,h=>h _ _ Fr.refl
 |x::l,H,K,K',hs,h=>by
  have hs':∀o∈refsL l,o∈S0:=fun o ho=>hs o (by simp [refsL,ho])
  cases x with
  |v x=>exact vsK_fr l H _ _ hs' fun vs H' hf=>h _ _ hf
  |cap0=>exact vsK_fr l H _ _ hs' fun vs H' hf=>h _ _ hf
  |z0=>exact vsK_fr l H _ _ hs' fun vs H' hf=>h _ _ hf
  |own o=>
   simp only [vsK];split
   ·exact vsK_fr l _ _ _ hs' fun vs H' hf=>h _ _ ((Fr.lend (hs o (by simp [refsL,refs]))).trans hf)
   ·rfl
  |_ =>rfl
variable {K K':Kont T R} {S0:List Nat}
theorem allocA_fr{e:Nat}(h:∀x H' S,Framed S0 H H' S→K x H' S=K' x H' S):allocA P e H K=allocA P e H K':=by
 unfold allocA;split
 ·exact h _ _ _ fun _ =>Fr.app _
 ·rfl
theorem boxA_fr{e:Nat}{x:AV T}(h:∀x H' S,Framed S0 H H' S→K x H' S=K' x H' S):boxA e x H K=boxA e x H K':=by
 unfold boxA;split
 ·exact h _ _ _ fun _ =>Fr.app _
 ·rfl
theorem buildSliceA_fr{t n:Nat}{parts:List (Nat×AV T)}(hs:∀p∈parts,∀o∈refs p.2,o∈S0)(h:∀x H' S,Framed S0 H H' S→K x H' S=K' x H' S):
  buildSliceA C P t n parts H K=buildSliceA C P t n parts H K':=by
 unfold buildSliceA;split
 ·split
  ·rename_i m z _ hz
   generalize (_ &&_)=b;cases b
   ·rfl
   ·simp only [cond_true]
    split
    ·rename_i cs hcs
     cases C.typed _
     ·exact h _ _ _ fun _ =>Fr.app _
     ·simp only [cond_true]
      generalize Nat.beq _ _ =b;cases b
      ·rfl
      ·refine vsK_fr (S0:=S0) cs H _ _ (fun o ho=> ?_) fun vs H' hf=> ?_
       ·rcases refs_fillA _ _ _ hcs o ho with h1|⟨p,hp,h1⟩
        ·rw [refs_repL (refs_zeroT hz)]at h1;cases h1
        ·exact hs p hp o h1
       ·cases decN C _ n vs with
        |none=>rfl
        |some l=>exact h _ _ _ fun _ =>hf.trans (Fr.app _)
    ·rfl
  ·rfl
 ·rfl
theorem storeA_fr{t:Nat}{a x:AV T}(ha:∀o∈refs a,o∈S0)(hx:∀o∈refs x,o∈S0)(h:∀x H' S,Framed S0 H H' S→K x H' S=K' x H' S):storeA C P t a x H K=storeA C P t a x H K':=by
 unfold storeA;split
 ·rename_i n cs _ hcs
  generalize (_ &&_)=b;cases b
  ·rfl
  ·simp only [cond_true]
   split
   ·split
    ·rename_i o off _ _ _ l _
     generalize Nat.ble _ _ =b;cases b
     ·rfl
     ·exact h _ _ _ fun _ =>Fr.set (ha o (by simp [refs]))
    ·rfl
   ·rename_i o i off
    refine vsK_fr (S0:=S0) cs H _ _ (fun q hq=>hx q (refs_cellsA hcs▸hq)) fun vs H' hf=> ?_
    split
    ·split
     ·generalize Nat.ble _ _ =b
      cases b
      ·rfl
      ·simp only [cond_true]
       cases C.dec _ _ with
       |none=>rfl
       |some z=>exact h _ _ _ fun _ =>hf.trans (Fr.set (ha o (by simp [refs])))
     ·rfl
    ·rfl
   ·rfl
 ·rfl
theorem makeSliceA_fr{t:Nat}{a b:AV T}(h:∀x H' S,Framed S0 H H' S→K x H' S=K' x H' S):makeSliceA C P t a b H K=makeSliceA C P t a b H K':=by
 unfold makeSliceA;split
 ·split
  ·rename_i hz _
   generalize (_ &&_)=b;cases b
   ·rfl
   ·refine vsK_fr (S0:=S0) _ H _ _ (fun o ho=> ?_) fun vs H' hf=> ?_
    ·rw [refs_zeroT ‹zeroT P _ =_›]at ho;cases ho
    ·cases C.dec _ _ with
     |none=>rfl
     |some l=>exact h _ _ _ fun _ =>hf.trans (Fr.app _)
  ·rfl
 ·rfl
theorem convA_fr{s d:Nat}{a:AV T}(h:∀x H' S,Framed S0 H H' S→K x H' S=K' x H' S):convA C P s d a H K=convA C P s d a H K':=by
 unfold convA;split
 ·exact h _ _ _ fun _ =>Fr.refl
 ·exact h _ _ _ fun _ =>Fr.refl
 ·exact h _ _ _ fun _ =>Fr.refl
 ·split
  ·generalize (_ &&_)=b
   cases b
   ·rfl
   ·exact h _ _ _ fun _ =>Fr.app _
  ·rfl
 ·split
  ·generalize (_ &&_)=b
   cases b
   ·rfl
   ·exact h _ _ _ fun _ =>Fr.refl
  ·rfl
 ·split
  ·generalize liesAt _ _ _ _ _ _ _ =b
   cases b
   ·rfl
   ·exact h _ _ _ fun _ =>Fr.refl
  ·rfl
 ·split
  ·generalize Nat.beq _ _ =b
   cases b
   ·rfl
   ·simp only [cond_true]
    split
    ·exact h _ _ _ fun _ =>Fr.refl
    ·rfl
  ·rfl
 ·rfl
theorem sliceA_fr{t:Nat}{a:AV T}{lo hi mx:Option (AV T)}(ha:∀o∈refs a,o∈S0)(h:∀x H' S,Framed S0 H H' S→K x H' S=K' x H' S):sliceA C P t a lo hi mx H K=sliceA C P t a lo hi mx H K':=by
 unfold sliceA;split
 ·split
  ·cases isNone mx
   ·rfl
   ·simp only [cond_true]
    split
    ·generalize (_ &&_)=b
     cases b
     ·rfl
     ·exact h _ _ _ fun _ =>Fr.refl
    ·rfl
  ·rfl
 ·split
  ·generalize (_ &&_)=b
   cases b
   ·rfl
   ·exact h _ _ _ fun _ =>Fr.refl
  ·generalize Nat.beq _ _ =b
   cases b
   ·rfl
   ·simp only [cond_true]
    split
    ·split
     ·generalize (_ &&_)=b
      cases b
      ·rfl
      ·refine h _ _ _ fun _ => ?_
       cases a<;>first|exact Fr.refl|exact Fr.lend (ha _ (by simp [refs]))
     ·rfl
    ·rfl
 ·rfl
theorem rangeA_fr{t:Nat}{a:AV T}(h:∀x H' S,Framed S0 H H' S→K x H' S=K' x H' S):rangeA P t a H K=rangeA P t a H K':=by
 unfold rangeA;split
 ·exact h _ _ _ fun _ =>Fr.app _
 ·rfl
theorem nextA_fr{a:AV T}{b:Bool}(ha:∀o∈refs a,o∈S0)(h:∀x H' S,Framed S0 H H' S→K x H' S=K' x H' S):nextA a b H K=nextA a b H K':=by
 unfold nextA;split
 ·split
  ·generalize Nat.blt _ _ =b
   cases b
   ·exact h _ _ _ fun _ =>Fr.refl
   ·exact h _ _ _ fun _ =>Fr.set (ha _ (by simp [refs]))
  ·rfl
 ·rfl
theorem lenA_fr{t:Nat}{a:AV T}(h:∀x H' S,Framed S0 H H' S→K x H' S=K' x H' S):lenA P t a H K=lenA P t a H K':=by
 unfold lenA;split<;>first
  |rfl
  |exact h _ _ _ fun _ =>Fr.refl
  |(split<;>first|rfl|exact h _ _ _ fun _ =>Fr.refl)
theorem appendA_fr{t u:Nat}{a b:AV T}(h:∀x H' S,Framed S0 H H' S→K x H' S=K' x H' S):appendA C P t u a b H K=appendA C P t u a b H K':=by
 unfold appendA;split
 ·split
  ·generalize (_ &&_)=b
   cases b
   ·rfl
   ·simp only [cond_true]
    split
    ·generalize Nat.ble _ _ =b
     cases b
     ·rfl
     ·exact h _ _ _ fun _ =>Fr.app _
    ·generalize isNilL _ =b
     cases b
     ·simp only [cond_false]
      generalize Nat.ble _ _ =b;cases b
      ·rfl
      ·exact h _ _ _ fun _ =>Fr.app _
     ·exact h _ _ _ fun _ =>Fr.refl
    ·split
     ·split
      ·generalize Nat.ble _ _ =b
       cases b
       ·rfl
       ·exact h _ _ _ fun he=>by cases he
      ·rfl
     ·rfl
    ·rfl
  ·rfl
 ·rfl
theorem lenX_fr{t:Nat}{a:AV T}(h:∀x H' S,Framed S0 H H' S→K x H' S=K' x H' S):lenX P t a H K=lenX P t a H K':=by
 exact lenA_fr h
theorem appendC_fr{t u:Nat}{a b:AV T}(h:∀x H' S,Framed S0 H H' S→K x H' S=K' x H' S):appendC P t u a b H K=appendC P t u a b H K':=by
 unfold appendC;split
 ·split
  ·split
   ·split
    ·generalize (_ &&_)=b
     cases b
     ·rfl
     ·exact h _ _ _ fun _ =>Fr.app _
    ·rfl
   ·rfl
  ·rfl
 ·rfl
theorem appendX_fr{t u:Nat}{a b:AV T}(h:∀x H' S,Framed S0 H H' S→K x H' S=K' x H' S):appendX C P t u a b H K=appendX C P t u a b H K':=by
 unfold appendX;split
 ·exact appendC_fr h
 ·exact appendA_fr h
theorem sliceX_fr{t:Nat}{a:AV T}{lo hi mx:Option (AV T)}(ha:∀o∈refs a,o∈S0)(h:∀x H' S,Framed S0 H H' S→K x H' S=K' x H' S):sliceX C P t a lo hi mx H K=sliceX C P t a lo hi mx H K':=by
 unfold sliceX;split
 ·split
  ·split
   ·generalize (_ &&_)=b
    cases b
    ·rfl
    ·exact h _ _ _ fun _ =>Fr.refl
   ·rfl
  ·rfl
 ·exact sliceA_fr ha h
theorem copyA_fr{t:Nat}{a b:AV T}(ha:∀o∈refs a,o∈S0)(h:∀x H' S,Framed S0 H H' S→K x H' S=K' x H' S):copyA C P t a b H K=copyA C P t a b H K':=by
 unfold copyA;split
 ·split
  ·split
   ·generalize Nat.beq _ _ =b
    cases b
    ·rfl
    ·simp only [cond_true]
     split
     ·exact h _ _ _ fun _ =>Fr.set (ha _ (by simp [refs]))
     ·rfl
   ·rfl
  ·rfl
 ·rfl
theorem sliceDataA_fr{ty:Nat}{a:AV T}(h:∀x H' S,Framed S0 H H' S→K x H' S=K' x H' S):sliceDataA P ty a H K=sliceDataA P ty a H K':=by
 unfold sliceDataA;split
 ·split
  ·split
   ·exact h _ _ _ fun _ =>Fr.refl
   ·rfl
  ·exact h _ _ _ fun _ =>Fr.app _
  ·rfl
 ·rfl
theorem uStringA_fr{pt:Nat}{p n:AV T}(h:∀x H' S,Framed S0 H H' S→K x H' S=K' x H' S):uStringA C P pt p n H K=uStringA C P pt p n H K':=by
 unfold uStringA;split
 ·split
  ·split
   ·generalize (_ &&_)=b
    cases b
    ·rfl
    ·exact h _ _ _ fun he=>by cases he
   ·rfl
  ·generalize (decide ((_ :Int)=0))=b
   cases b
   ·rfl
   ·exact h _ _ _ fun _ =>Fr.refl
  ·rfl
 ·rfl
theorem evOp_kp{o:Oper}{env:Env T}(hq:quietB P env o=true){Kp Kp':AV T→List (AObj T)→Option R}:evOp C P G o env H K Kp=evOp C P G o env H K Kp':=by
 unfold quietB at hq;unfold evOp;cases hop:o.op<;>rw [hop]at hq<;>try simp only at hq
 case call c=>obtain⟨callee,args,at_⟩:=c;cases callee<;>rfl
 all_goals first|rfl|(cases hq;done)
theorem evOp_fr{o:Oper}{env:Env T}{Kp:AV T→List (AObj T)→Option R}(h:∀x H' S,Framed (refsO env o) H H' S→K x H' S=K' x H' S):evOp C P G o env H K Kp=evOp C P G o env H K' Kp:=by
 cases hq:quietB P env o
 ·have hx:∀x∈o.op.operands,∀i∈refs (evO env x),i∈refsO env o:=fun x hx i hi=>List.mem_flatMap.2 ⟨x,Array.mem_toList_iff.2 hx,hi⟩
  generalize refsO env o=S0 at hx h;unfold quietB at hq;unfold evOp;cases hop:o.op<;>rw [hop]at hq hx<;>simp only [Op.operands]at hq hx⊢<;>first
   |(cases hq;done)
   |exact allocA_fr h
   |exact boxA_fr h
   |exact storeA_fr (hx _ (by simp)) (hx _ (by simp)) h
   |exact makeSliceA_fr h
   |exact convA_fr h
   |exact sliceX_fr (hx _ (by simp)) h
   |exact rangeA_fr h
   |exact nextA_fr (hx _ (by simp)) h
   |rfl
   |skip
  case buildSlice t n parts=>
   refine buildSliceA_fr (fun p hp i hi=> ?_) h;obtain⟨q,hq',rfl⟩:=List.mem_map.1 hp;exact hx q.2 (by
    simp only [List.mem_toArray];exact List.mem_map.2 ⟨q,hq',rfl⟩) i hi
  case call c=>
   obtain⟨callee,args,at_⟩:=c;cases callee with
   |builtin b=>
    simp only [Call.operands]at hq hx
    show builtinA C P b o.type at_ (args.toList.map (evO env)) H K=builtinA C P b o.type at_ (args.toList.map (evO env)) H K';unfold builtinA;split<;>first
     |exact lenX_fr h
     |exact appendX_fr h
     |exact sliceDataA_fr h
     |exact uStringA_fr h
     |rfl
     |skip
    ·rename_i a x xs h1 h2
     refine copyA_fr (fun i hi=> ?_) h;have:a∈args.toList.map (evO env):=by rw [h2];simp
     obtain⟨y,hy,rfl⟩:=List.mem_map.1 this;exact hx y (by simpa using hy) i hi
    ·cases hq
    ·cases hq
   |value f=>rfl
   |invoke r m=>rfl
 ·
  have key:∀K:Kont T R,evOp C P G o env H K Kp=(evOp C P G o env H ret3 (fun _ _ =>none)).bind fun z=>K z.1 H []:=by
   intro K;rw [evOp_kp hq (Kp':=fun _ _ =>none)];have h2:=evOp_h (C:=C) (P:=P) (G:=G) (H:=H) (H':=H) (o:=o) hq (fun _ _ _ =>rfl);cases hz:evOp C P G o env H ret3 (fun _ _ =>none)with
   |none=>
    cases hk:evOp C P G o env H K (fun _ _ =>none)with
    |none=>rfl
    |some r=>
     obtain⟨z,h3,_⟩:=evOp_nat hq hk;rw [hz]at h3;cases h3
   |some z=>
    rw [hz]at h2;have hz2:z=(z.1,H,[]):=by simpa [hset] using h2
    have h4:evOp C P G o env H K (fun _ _ =>none)=(evOp C P G o env H ret3 (fun _ _ =>none)).bind (app3 K):=evOp_natE hq;rw [h4,hz];rw [hz2];rfl
  rw [key K,key K'];congr 1;funext z;exact h _ _ _ fun _ =>Fr.refl
end Go.Proofs.YtdoifigogbdodaaGreatDoor.Ev
