import Derived.Test.YtdoifigogbdodaaGreatDoorEvOne
import Derived.Deep.Upon
import Derived.Laws.BytesString
import Derived.Lib.Builder
import Derived.Lib.UnsafeStr
import Derived.Laws.IdiomStrings
import Derived.ChangeKeysEq
set_option linter.unusedVariables false
set_option linter.unusedSimpArgs false
set_option maxHeartbeats 1000000
namespace Go.Proofs.YtdoifigogbdodaaGreatDoor.Ev
open Go
variable {T:Nat→Type} {C:wB T} {P:Program} {σ:Lk} {H:List (zT T)} {w:World} {G:Nat→Option (List (V T))} {R:Type}
theorem zcS(hR:Rp C σ H w G){t:Nat}{ts:List Nat}{x:AV T}{y:Value}(hx:zr C σ H w x y){ty:Nat}{args:Array Value}{at_ :Array Nat}(ha:args[0]? =some y)(hat:at_[0]? =some t)
  {K:yZ T R} {r:R} (h:zR0 P t x H K=some r):
  kX C σ H w (((do pure (.value (←Builtin.len_ at_ ty args)):Sem Next)).run P w) K r:=by
 unfold zR0 at h;split at h
 ·rename_i s hu
  have:=zCw hx;subst this;exact yY h (by simp only [Builtin.len_,ha,hat,Sem.run_bind,run_underlying hu,Result.andThen_ok,Sem.run_pure];rfl) (zAf _ _)
 ·rename_i e t' l hu
  obtain⟨A,c,rfl,_⟩:=zD2 (show qI C (Cell C σ H w) _ _ from hx);exact yY h (by simp only [Builtin.len_,ha,hat,Sem.run_bind,run_underlying hu,Result.andThen_ok,Sem.run_pure];rfl) (zAf _ _)
 ·rename_i e o hu
  split at h
  ·rename_i t' l m ho
   obtain⟨_,⟨A,n,c,rfl⟩,h1⟩:=hx;have hn:n=l.length:=by
    rcases h1 _ _ (vM ho)with⟨h2,h3⟩|⟨b,c',cs,ee,fz,h2,h3,h4,h5⟩
    ·cases h3
     rcases hR.obj o _ ho with⟨rfl,_⟩|⟨b,_,_,_,hb2,_⟩
     ·rfl
     ·rw [h2]at hb2;cases hb2
    ·cases h3;rfl
   subst hn;exact yY h (by simp only [Builtin.len_,ha,hat,Sem.run_bind,run_underlying hu,Result.andThen_ok,Sem.run_pure];rfl) (zAf _ _)
  ·cases h
 ·rename_i e o off n c hu
  obtain⟨_,b,_,_,rfl,_⟩:=hx;exact yY h (by simp only [Builtin.len_,ha,hat,Sem.run_bind,run_underlying hu,Result.andThen_ok,Sem.run_pure];rfl) (zAf _ _)
 ·rename_i e hu
  cases(show y=_ from hx);exact yY h (by simp only [Builtin.len_,ha,hat,Sem.run_bind,run_underlying hu,Result.andThen_ok,Sem.run_pure];rfl) (zAf _ _)
 ·rename_i e hu
  obtain⟨A,rfl⟩:=hx;exact yY h (by simp only [Builtin.len_,ha,hat,Sem.run_bind,run_underlying hu,Result.andThen_ok,Sem.run_pure];rfl) (zAf _ _)
 ·rename_i e hu
  cases(show qI C (Cell C σ H w) _ _ from hx);exact yY h (by simp only [Builtin.len_,ha,hat,Sem.run_bind,run_underlying hu,Result.andThen_ok,Sem.run_pure];rfl) (zAf _ _)
 ·rename_i n e hu
  refine yY h ?_ (zAf _ _);simp only [Builtin.len_,ha,hat,Sem.run_bind,run_underlying hu,Result.andThen_ok];cases y<;>rfl
 ·cases h
theorem vw{A:Addr}{ys:List Value}{n:Nat}(hn:ys.length=n)(h:∀(j:Nat) (v:Value),ys[j]? =some v→w.cell? (A.add j)=some v):(loadCells A n).run P w= .ok ys.toArray w:=by
 subst hn;exact run_loadCells_list w A ys h
theorem zgw(hC:yj C){e:Nat}{c:List (T e)}{y:Value}(h:qI C (Cell C σ H w) (.sl e c) y):
  ∃A cap ys,y= .slice A c.length cap∧Rows C (Cell C σ H w) e c ys∧(c=[]∨∃b off,A=some ⟨b,off,none⟩∧∀(j:Nat) (v:Value),ys[j]? =some v→w.cell? ⟨b,off+j,none⟩=some v):=by
 obtain⟨A,cap,rfl,h1,h2⟩:=zD2 h;rcases h2 with rfl|⟨b,off,rfl,h3⟩
 ·exact⟨A,cap,[],rfl,Rows.nil _ _,.inl rfl⟩
 ·refine⟨_,cap,(List.range (c.length*C.size e)).map fun j=>(w.cell? ⟨b,off+j,none⟩).getD undef,rfl,⟨by simp,fun i hi k v hv=> ?_⟩,.inr ⟨b,off,rfl,fun j v hj=> ?_⟩⟩
  ·have hk:=zP3 hC hv
   obtain⟨u,h4,h5⟩:=h3 i hi k v hv;refine⟨u, ?_,h5⟩;rw [List.getElem?_map,List.getElem?_range (zTt hi hk)];simp only [Option.map_some,←Nat.add_assoc,h4.2,Option.getD_some]
  ·rw [List.getElem?_map]at hj
   have hlt:j<c.length*C.size e:=by
    rcases Nat.lt_or_ge j (c.length*C.size e)with h|h
    ·exact h
    ·rw [List.getElem?_eq_none (by simpa using h)]at hj;cases hj
   rw [List.getElem?_range hlt]at hj;simp only [Option.map_some,Option.some.injEq]at hj;have hs:=hC.pos e;have hi:j/C.size e<c.length:=(Nat.div_lt_iff_lt_mul hs).2 hlt;have hk:j%C.size e<C.size e:=Nat.mod_lt _ hs;obtain⟨u,h4,h5⟩:=h3 (j/C.size e) hi (j%C.size e) _ (List.getElem?_eq_getElem (by rw [hC.len];exact hk));have hj2:off+j/C.size e*C.size e+j%C.size e=off+j:=by have:=Nat.div_add_mod j (C.size e);rw [Nat.mul_comm]at this;omega
   rw [hj2]at h4;rw [h4.2]at hj⊢
   simpa using hj
theorem zOq(hC:yj C)(hR:Rp C σ H w G){e:Nat}{x:AV T}{y:Value}{c:List (T e)}(hx:zr C σ H w x y)(h:jz H e x=some c):
  ∃A cap ys,y= .slice A c.length cap∧Rows C (Cell C σ H w) e c ys∧(c=[]∨∃b off,A=some ⟨b,off,none⟩∧∀(j:Nat) (v:Value),ys[j]? =some v→w.cell? ⟨b,off+j,none⟩=some v):=by
 unfold jz at h;split at h
 ·split at h
  ·rename_i he;subst he;cases h;exact zgw hC hx
  ·cases h
 ·rename_i o
  split at h
  ·rename_i t l m ho
   split at h
   ·rename_i he;subst he;cases h
    obtain⟨_,_,h1⟩:=hx;rcases h1 _ _ (vM ho)with⟨h2,h3⟩|⟨b,c',cs,ee,fz,h2,h3,h4,h5⟩
    ·subst h3
     rcases hR.obj o _ ho with⟨rfl,_⟩|⟨b,_,_,_,hb2,_⟩
     ·exact⟨none,0,[],rfl,Rows.nil _ _,.inl rfl⟩
     ·rw [h2]at hb2;cases hb2
    ·subst h3
     rcases hR.obj o _ ho with⟨rfl,hn⟩|⟨b',cs',fz',cap,hb2,h6,h7,h8,h9,h10⟩
     ·rw [h2]at hn;cases hn
     ·rw [h2]at hb2;cases hb2
      rw [h4]at h6;cases h6;refine⟨_,c',_,rfl,zQT hC h8 h9 h10,.inr ⟨b,0,rfl,fun j v hj=> ?_⟩⟩;rw [List.getElem?_take]at hj;split at hj
      ·rw [Nat.zero_add,j8 h4];simpa using hj
      ·cases hj
   ·cases h
  ·cases h
 ·cases h;cases(show qI C (Cell C σ H w) _ _ from hx);exact⟨_,_,[],rfl,Rows.nil _ _,.inl rfl⟩
 ·cases h;cases(show y=_ from hx);exact⟨_,_,[],rfl,Rows.nil _ _,.inl rfl⟩
 ·cases h;obtain⟨A,rfl⟩:=hx;exact⟨_,_,[],rfl,Rows.nil _ _,.inl rfl⟩
 ·cases h
theorem zTv(hC:yj C)(cell:Nat→Nat→Value→Prop):∀(l:List UInt8),Rows C cell C.bt (l.map fun b=>C.ofB b.toNat) (l.map fun b=>Value.int .u8 b.toNat):=by
 have hs:C.size C.bt=1:=by have:=hC.len C.bt (C.ofB 0);rw [hC.zaK]at this;simpa using this.symm
 intro l;refine⟨by simp [hs],fun i hi k v hv=> ?_⟩;rw [hC.zaK]at hv;cases k with
 |succ k=>simp at hv
 |zero=>
  simp only [List.getElem?_cons_zero,Option.some.injEq,List.getElem_map,hC.ofB]at hv;subst hv;simp at hi;refine⟨.int .u8 l[i].toNat, ?_,.i _ _⟩;rw [hs,Nat.mul_one,Nat.add_zero,List.getElem?_map,List.getElem?_eq_getElem hi];rfl
theorem zQd(hC:yj C)(hR:Rp C σ H w G){e:Nat}{x:AV T}{y:Value}{c:List (T e)}(hx:zr C σ H w x y)(h:zEh C H e x=some c):
  ∃ys,(∀w',(Builtin.lenOf y).run P w'= .ok c.length w')∧(∀w',w'.heap=w.heap→∀m,m≤c.length→(Builtin.firstCells (C.size e) m y).run P w'= .ok (ys.take (m*C.size e)).toArray w')∧
   Rows C (Cell C σ H w) e c ys:=by
 unfold zEh at h;split at h
 ·rename_i s
  split at h
  ·rename_i he;subst he;cases h
   have:=zCw hx;subst this;have hs:C.size C.bt=1:=by have:=hC.len C.bt (C.ofB 0);rw [hC.zaK]at this;simpa using this.symm
   refine⟨s.data.toList.map fun b=>Value.int .u8 b.toNat,fun w'=> ?_,fun w' _ m hm=> ?_,zTv hC _ _⟩
   ·simp only [Builtin.lenOf,Sem.run_pure,List.length_map];rfl
   ·simp only [Builtin.firstCells,Sem.run_pure,hs,Nat.mul_one]
    congr 1;apply Array.ext';rw [Array.toList_map];simp only [List.toList_toArray,←List.map_take];congr 1;have:(s.extract 0 m).data.toList=s.data.toList.take m:=by
     simp [ByteArray.data_extract]
    exact this
  ·cases h
 ·obtain⟨A,cap,ys,rfl,h1,h2⟩:=zOq hC hR hx h
  refine⟨ys,fun _ =>rfl,fun w' hw m hm=> ?_,h1⟩;rcases h2 with rfl|⟨b,off,rfl,h3⟩
  ·have:m=0:=by simpa using hm
   subst this;have hy:ys=[]:=by have:=h1.1;simpa using this
   subst hy;cases A with
   |none=>simp [Builtin.firstCells]
   |some a=>simp [Builtin.firstCells,loadCells,loadCellsFrom]
  ·simp only [Builtin.firstCells]
   have hle:m*C.size e≤c.length*C.size e:=Nat.mul_le_mul_right _ hm;refine vw (by rw [List.length_take,h1.1];omega) (fun j v hj=> ?_);rw [List.getElem?_take]at hj;split at hj
   ·rw [qR,zFy hw];exact h3 j v hj
   ·cases hj
theorem ze9{cell:Nat→Nat→Value→Prop}{v:V T}{y:Value}(h:qI C cell v y):y.oneCell'=true:=by
 cases h with
 |ifx _ h=>rcases h with rfl|⟨_,_,rfl⟩<;>rfl
 |_ =>rfl
theorem zYL(hC:yj C){cell:Nat→Nat→Value→Prop}{e:Nat}{c:List (T e)}{ys:List Value}(h:Rows C cell e c ys):∀u∈ys,u.oneCell'=true:=by
 intro u hu;obtain⟨j,hj⟩:=List.getElem?_of_mem hu;have hs:=hC.pos e;have hlt:j<c.length*C.size e:=by rw [←h.1];exact(List.getElem?_eq_some_iff.1 hj).1
 have hi:j/C.size e<c.length:=(Nat.div_lt_iff_lt_mul hs).2 hlt;have hk:j%C.size e<C.size e:=Nat.mod_lt _ hs;obtain⟨y,h4,h5⟩:=h.2 (j/C.size e) hi (j%C.size e) _ (List.getElem?_eq_getElem (by rw [hC.len];exact hk));have hj2:j/C.size e*C.size e+j%C.size e=j:=by have:=Nat.div_add_mod j (C.size e);rw [Nat.mul_comm]at this;omega
 rw [hj2,hj]at h4;cases h4;exact ze9 h5
theorem zk9(hC:yj C)(hR:Rp C σ H w G){e xt:Nat}{x:AV T}{y:Value}{c:List (T e)}(hx:zr C σ H w x y)(h:zEh C H e x=some c)(hs:zYs P xt=true):
  ∃ys,Src P (C.size e) xt y c.length ys w∧Rows C (Cell C σ H w) e c ys:=by
 obtain⟨ys,h1,h2,h3⟩:=zQd (P:=P) hC hR hx h;have hall:ys.take (c.length*C.size e)=ys:=List.take_of_length_le (by rw [h3.1];exact Nat.le_refl _);refine⟨ys,⟨?_,h1, ?_, ?_,h3.1,zYL hC h3⟩,h3⟩
 ·unfold zYs at hs
  split at hs
  ·rename_i e' hu;exact .inl ⟨e',hu⟩
  ·rename_i hu;exact .inr hu
  ·cases hs
 ·have:=h2 w rfl c.length (Nat.le_refl _);rwa [hall]at this
 ·have:=h2 w.drew rfl c.length (Nat.le_refl _);rwa [hall]at this
theorem zOI{t n:Nat}(h:zUN P t=some n):∃i,P.info? t=some i∧i.bytes=n:=by
 unfold zUN at h;cases hi:P.info? t with
 |none=>rw [hi]at h;cases h
 |some i=>rw [hi]at h;cases h;exact⟨i,rfl,rfl⟩
theorem zex{α:Type}(l:List α)(a b:Nat):gR l (a+b)=gR l a++gR l b:=by
 induction a with
 |zero=>simp [gR]
 |succ a ih=>rw [Nat.succ_add];simp [gR,ih]
theorem zTc(z:Array Value)(n:Nat)(hz:0<z.size):(Builtin.zeroCells z n).toList=gR z.toList n:=zS3 z n (n*z.size) hz rfl
theorem room_le{n bytes:Nat}(h:n≤room (bytes+1)):n*(bytes+1)≤140737488355328:=by
 unfold room at h;exact Nat.le_trans (Nat.mul_le_mul_right _ h) (Nat.div_mul_le_self _ _)
theorem zTX{n bytes:Nat}(h:n≤room (bytes+1)):n≤140737488355328:=by
 have:=room_le h;exact Nat.le_trans (Nat.le_mul_of_pos_right n (Nat.succ_pos bytes)) this
theorem vS(hR:Rp C σ H w G):Step C G [] σ H w σ H w.drew:=Step.heap hR rfl rfl rfl rfl
theorem zIk(hC:yj C){e:Nat}{l:List (T e)}{ys:List Value}{cell:Nat→Nat→Value→Prop}(h:Rows C cell e l ys){z:Array Value}(hz:z.size=C.size e){c:Nat}(hc:l.length≤c):
  (ys.toArray++Builtin.zeroCells z (c-l.length)).toList=ys++gR z.toList (c-l.length)∧(ys.toArray++Builtin.zeroCells z (c-l.length)).size=c*C.size e:=by
 have hzl:=zTc z (c-l.length) (by rw [hz];exact hC.pos e);refine⟨by rw [Array.toList_append,hzl], ?_⟩;rw [←Array.length_toList,Array.toList_append,hzl];simp only [List.length_append,zFE,Array.length_toList,List.size_toArray,hz,h.1,←Nat.add_mul];congr 1;omega
theorem zWL(hC:yj C)(hR:Rp C σ H w G){st xt ty:Nat}{x z:AV T}{y u:Value}(hx:zr C σ H w x y)(hz:zr C σ H w z u)
  {K:yZ T R} {Kp:AV T→List (zT T)→Option R} {r:R} (h:zF0 C P st xt x z H K=some r):
  Good P C G σ H w (((do pure (.value (←Builtin.append_ #[st,xt] ty #[y,u])):Sem Next)).run P w) K Kp r:=by
 unfold zF0 at h;split at h
 ·rename_i e he
  have hu:=zEc he;split at h
  ·rename_i n bytes l2 zz hn hb hsrc hap hzz
   cases hbb:Nat.beq n (C.size e)&&Nat.beq zz.length n
   ·rw [hbb]at h;cases h
   ·rw [hbb]at h
    simp only [cond_true]at h;simp only [Bool.and_eq_true]at hbb;have hns:n=C.size e:=Nat.eq_of_beq_eq_true hbb.1;have hzl:zz.length=n:=Nat.eq_of_beq_eq_true hbb.2;obtain⟨zv,hz1,hz2⟩:=zCi (C:=C) hzz;have hzs:zv.cells.size=C.size e:=by rw [←Array.length_toList,(hz2 (σ:=σ) (H:=H) (w:=w)).length,hzl,hns]
    obtain⟨i,hi,hib⟩:=zOI hb;have hisz:i.size=C.size e:=by have:=hn;unfold qF at this;rw [hi]at this;simp at this;rw [this,hns]
    have hiz:i.zero=some zv:=by rw [hi]at hz1;simpa using hz1
    obtain⟨news,hs,hrows⟩:=zk9 (P:=P) hC hR hz hap hsrc;rw [←hisz]at hs;have grow:∀(A:Option Addr) (l:List (T e)) (cap:Nat) (olds:List Value),y= .slice A l.length cap→cap<l.length+l2.length→Nat.ble (l.length+l2.length) (room (bytes+1))=true→
      Rows C (Cell C σ H w) e l olds→(Builtin.firstCells i.size l.length (.slice A l.length cap)).run P w.drew= .ok olds.toArray w.drew→
      ∃c,l.length+l2.length≤c∧((do pure (.value (←Builtin.append_ #[st,xt] ty #[y,u])):Sem Next)).run P w= .ok (.value (.slice (some ⟨w.heap.size,0,none⟩) (l++l2).length c))
       (w.drew.alloc (.cells ((olds++news).toArray++Builtin.zeroCells zv.cells (c-(l++l2).length)) e)):=by
     intro A l cap olds hy hlt hble hro hold;subst hy;have hrm:=Nat.le_of_ble_eq_true hble;have:=run_append_grow_src (P:=P) w st xt ty e i zv hu hi hiz A l.length cap olds hold u l2.length news hs hlt (by have:=zTX hrm;omega) (growslice_fits hlt (by rw [hib];exact room_le hrm));refine⟨grownCap w (l.length+l2.length) cap e, ?_, ?_⟩
     ·have hmx:=zTX hrm
      show l.length+l2.length≤(Question.appendCap (l.length+l2.length) cap e).cut _;simp only [Question.cut];omega
     ·simp only [Sem.run_bind,this,Result.andThen_ok,Sem.run_pure,List.length_append]
    have hlen0:∀A,(Builtin.firstCells i.size 0 (.slice A 0 0)).run P w.drew= .ok ([]:List Value).toArray w.drew:=fun A=>by
     cases A with
     |none=>simp [Builtin.firstCells]
     |some a=>simp [Builtin.firstCells,loadCells,loadCellsFrom]
    have nothing:∀(A:Option Addr) (cap:Nat) (k:Nat),y= .slice A k cap→k≤cap→l2=[]→((do pure (.value (←Builtin.append_ #[st,xt] ty #[y,u])):Sem Next)).run P w= .ok (.value y) w:=by
     intro A cap k hy hk hl2;subst hy;subst hl2;have hnn:news=[]:=by have:=hrows.1;simpa using this
     subst hnn;simp only [Sem.run_bind,run_append_nothing w st xt ty e i hu hi A k cap hk u hs,Result.andThen_ok,Sem.run_pure]
    split at h
    ·cases hble:Nat.ble l2.length (room (bytes+1))
     ·rw [hble]at h;cases h
     ·rw [hble]at h
      simp only [cond_true]at h;cases(show y=_ from hx);cases hl2:l2 with
      |nil=>
       refine .inl ⟨_,_,[],.slice none 0 0,_,w,h,.inl (nothing none 0 0 rfl (Nat.le_refl _) hl2),zLj hR (.row e l2 true) none w rfl rfl rfl (Nat.le_refl _) (fun _ _ =>rfl) (fun b hb=>by cases hb) (fun M=> .inl ⟨hl2,wa _ _ _⟩), ?_⟩;refine⟨by simp,⟨_,_,_,rfl⟩,fun t l hr=> .inl ⟨wa _ _ _,rfl⟩⟩
      |cons q qs=>
       obtain⟨c,hc,hrun⟩:=grow none [] 0 [] rfl (by simp [hl2]) (by simpa using hble) (Rows.nil _ _) (hlen0 none);simp only [List.nil_append,List.length_nil,Nat.zero_add]at hrun hc;obtain⟨g1,g2⟩:=zIk hC hrows hzs hc;have hst:=(vS hR).zEr (gO hC (vS hR).rp (0,0) g1 (hrows.mono (vS hR).move.cell) g2 (fz0 _) true);refine .inl ⟨_,_,[],_,_,_,h,.inl hrun,hst, ?_⟩;exact zMu (vO _ _) g2
    ·cases hnl:zaJ l2
     ·rw [hnl]at h
      simp only [cond_false]at h;cases hble:Nat.ble l2.length (room (bytes+1))
      ·rw [hble]at h;cases h
      ·rw [hble]at h
       simp only [cond_true]at h;obtain⟨A,rfl⟩:=hx;have hpos:0<l2.length:=by cases l2 with|nil=>cases hnl|cons=>simp
       obtain⟨c,hc,hrun⟩:=grow A [] 0 [] rfl (by simpa using hpos) (by simpa using hble) (Rows.nil _ _) (hlen0 A);simp only [List.nil_append,List.length_nil,Nat.zero_add]at hrun hc;obtain⟨g1,g2⟩:=zIk hC hrows hzs hc;have hst:=(vS hR).zEr (gO hC (vS hR).rp (0,0) g1 (hrows.mono (vS hR).move.cell) g2 (fz0 _) true);refine .inl ⟨_,_,[],_,_,_,h,.inl hrun,hst, ?_⟩;exact zMu (vO _ _) g2
     ·rw [hnl]at h
      obtain⟨A,rfl⟩:=hx;have hl2:l2=[]:=by cases l2 with|nil=>rfl|cons=>cases hnl
      exact .inl ⟨_,_,[],.slice A 0 0,_,w,h,.inl (nothing A 0 0 rfl (Nat.le_refl _) hl2),Step.refl hR,⟨A,rfl⟩⟩
    ·rename_i o
     split at h
     ·rename_i t l m ho
      split at h
      ·rename_i hte
       subst hte;cases hble:Nat.ble (l.length+l2.length) (room (bytes+1))
       ·rw [hble]at h;cases h
       ·rw [hble]at h
        simp only [cond_true]at h;have holen:=(List.getElem?_eq_some_iff.1 ho).1;have hget:((H.set o (.row t (l++l2) m)).map (wI [o]))[o]? =some (.row t (l++l2) m):=by simp [holen,wI]
        have hkind:vr (zT.row t l m)=vr (zT.row t (l++l2) m):=rfl;have sub:∀off,zER C (.row t (l++l2) m) off→zER C (.row t l m) off:=fun off hf=>hf.imp id (fun hf=>by
         rw [List.length_append,Nat.add_mul]at hf;omega)
        have moved:∀(olds:List Value) (c:Nat),Rows C (Cell C σ H w) t l olds→l.length+l2.length≤c→
          ((do pure (.value (←Builtin.append_ #[st,xt] ty #[y,u])):Sem Next)).run P w= .ok (.value (.slice (some ⟨w.heap.size,0,none⟩) (l++l2).length c))
           (w.drew.alloc (.cells ((olds++news).toArray++Builtin.zeroCells zv.cells (c-(l++l2).length)) t))→Good P C G σ H w (((do pure (.value (←Builtin.append_ #[st,xt] ty #[y,u])):Sem Next)).run P w) K Kp r:=by
         intro olds c hro hc hrun;have hr2:=Rows.append hC hro hrows;obtain⟨g1,g2⟩:=zIk hC hr2 hzs (by rw [List.length_append];exact hc);have hst:=(vS hR).rp;refine .inl ⟨_,_,[o],_,add σ o (some w.heap.size),_,h,.inl hrun, ?_, ?_⟩
         ·refine step_mod (S:=[o]) hR (some w.heap.size) _ ho rfl hkind rfl rfl rfl (by simp) (fun b hb _ => ?_) (fun b _ hb=> .inr (by cases hb;simp)) (fun b off hb _ => ?_) (.inl (by simp)) (fun hf=>by cases hf) (.inl (by simp)) (fun M=> ?_)
          ·exact alloc_old w.drew _ b hb
          ·exact wj (alloc_old w.drew _ b (hR.lt o _ b ho rfl hb))
          ·refine .inr ⟨w.heap.size,_,(0,0),c,wa _ _ _,vO w.drew _,fz0 _,g2,by rw [List.length_append];exact hc,zFm g1 (hr2.mono M.cell)⟩
         ·refine⟨by simpa using holen,⟨_,_,_,rfl⟩,fun t' l' hr=> ?_⟩
          rw [vM hget]at hr;cases hr;exact .inr ⟨w.heap.size,c,_,t,(0,0),wa _ _ _,rfl,vO w.drew _,g2⟩
        obtain⟨h0,_,hy⟩:=hx;rcases hy _ _ (vM ho)with⟨h2,rfl⟩|⟨b,c,cs,ee,fz,h2,rfl,h4,h5⟩
        ·
         rcases hR.obj o _ ho with⟨rfl,_⟩|⟨b,_,_,_,hb2,_⟩
         ·cases hl2:l2 with
          |nil=>
           refine .inl ⟨_,_,[o],.slice none 0 0,add σ o none,w,h,.inl (nothing none 0 0 rfl (Nat.le_refl _) hl2), ?_, ?_⟩
           ·refine step_mod (S:=[o]) hR none w ho rfl hkind rfl rfl rfl (Nat.le_refl _) (fun _ _ _ =>rfl) (fun b _ hb=>by cases hb) (fun _ _ _ _ =>rfl) (.inl (by simp)) (fun hf=>by cases hf) (.inl (by simp)) (fun M=> ?_)
            exact .inl ⟨by simp [hl2],wa _ _ _⟩
           ·refine⟨by simpa using holen,⟨_,_,_,rfl⟩,fun t' l' hr=> .inl ⟨wa _ _ _,rfl⟩⟩
          |cons q qs=>
           obtain⟨c,hc,hrun⟩:=grow none [] 0 [] rfl (by simp [hl2]) hble (Rows.nil _ _) (hlen0 none);exact moved [] c (Rows.nil _ _) hc hrun
         ·rw [h2]at hb2;cases hb2
        ·rcases hR.obj o _ ho with⟨_,hn2⟩|⟨b',cs',fz',cap,hb2,h6,h7,h8,h9,h10⟩
         ·rw [h2]at hn2;cases hn2
         ·rw [h2]at hb2;cases hb2
          rw [h4]at h6;cases h6;have hcc:cap=c:=Nat.eq_of_mul_eq_mul_right (hC.pos t) (h8.symm.trans h5);subst hcc;have hro:=zQT hC h8 h9 h10;by_cases hfit:l.length+l2.length≤cap
          ·
           have hmul:(l.length+l2.length)*C.size t≤cap*C.size t:=Nat.mul_le_mul_right _ hfit;rw [Nat.add_mul]at hmul;have hst:=vt P b (l.length*C.size t) t fz news 0 cs w h4 h7 (by rw [hrows.1];omega) hs.one;rw [Nat.add_zero]at hst;have hrun:((do pure (.value (←Builtin.append_ #[st,xt] ty #[.slice (some ⟨b,0,none⟩) l.length cap,u])):Sem Next)).run P w=
             .ok (.value (.slice (some ⟨b,0,none⟩) (l++l2).length cap)) (w.setRow b (yS cs.toList (l.length*C.size t) news).toArray):=by
            have hadd:(⟨b,0,none⟩:Addr).add (l.length*i.size)=⟨b,l.length*C.size t,none⟩:=by rw [qR,hisz,Nat.zero_add]
            have hcells:=hs.cells;rw [hisz]at hcells;have:(Builtin.append_ #[st,xt] ty #[.slice (some ⟨b,0,none⟩) l.length cap,u]).run P w= .ok (.slice (some ⟨b,0,none⟩) (l.length+l2.length) cap) (w.setRow b (yS cs.toList (l.length*C.size t) news).toArray):=by
             rcases hs.kind with⟨e',hk⟩|hk<;>simp [Builtin.append_,run_underlying hu,run_underlying hk,sizeOf,typeInfo,hi,hs.len,hfit,hcells,hisz,qR,hst]
            simp only [Sem.run_bind,this,Result.andThen_ok,Sem.run_pure,List.length_append]
           have hsr:=qz (l:=cs.toList) (vs:=news) (off:=l.length*C.size t) (by rw [hrows.1];simp;omega);have hsz2:(yS cs.toList (l.length*C.size t) news).toArray.size=cs.size:=by simpa using hsr
           refine .inl ⟨_,_,[o],_,add σ o (σ o),_,h,.inl hrun, ?_, ?_⟩
           ·refine step_mod (S:=[o]) hR (σ o) _ ho rfl hkind rfl rfl rfl (by simp) (fun k hk hne=> ?_) (fun k _ hk=> .inl ⟨hk,sub⟩) (fun k off hk hnf=> ?_) (.inl (by simp)) (fun _ =>rfl) (.inl (by simp)) (fun M=> ?_)
            ·exact setRow_other w b k _ (fun hkb=>hne (by rw [hkb];exact h2))
            ·rw [h2]at hk;cases hk
             rw [j8 (vX h4),j8 h4];have:¬l.length*C.size t≤off:=fun hle=>hnf (.inr hle)
             have hg:=pa cs.toList news (l.length*C.size t) off (by rw [hrows.1];simp;omega);rw [if_neg (by omega)]at hg
             simpa using hg
            ·refine .inr ⟨b,_,fz,cap,(wa _ _ _).trans h2,vX h4,fun k hk=>h7 k (by rw [hsz2]at hk;exact hk),by rw [hsz2];exact h8,by rw [List.length_append];exact hfit, ?_⟩
             have hr2:=Rows.append hC hro hrows;refine zFm (ys:=cs.toList.take (l.length*C.size t)++news) (zs:=cs.toList.drop (l.length*C.size t+news.length)) ?_ (hr2.mono M.cell);simp [yS]
           ·refine⟨by simpa using holen,⟨_,_,_,rfl⟩,fun t' l' hr=> ?_⟩
            rw [vM hget]at hr;cases hr;exact .inr ⟨b,cap,_,t,fz,(wa _ _ _).trans h2,rfl,vX h4,by rw [hsz2];exact h8⟩
          ·obtain⟨c2,hc2,hrun⟩:=grow (some ⟨b,0,none⟩) l cap (cs.toList.take (l.length*C.size t)) rfl (by omega) hble hro (by
            rw [hisz];simp only [Builtin.firstCells];refine vw (by rw [hro.1]) (fun j v hj=> ?_);rw [List.getElem?_take]at hj;split at hj
            ·rw [qR,Nat.zero_add]
             show w.cell? _ =_;rw [j8 h4];simpa using hj
            ·cases hj)
           exact moved _ c2 hro hc2 hrun
      ·cases h
     ·cases h
    ·cases h
  ·cases h
 ·cases h
end Go.Proofs.YtdoifigogbdodaaGreatDoor.Ev

namespace Go.Proofs.YtdoifigogbdodaaGreatDoor.Ev
open Go
variable {T:Nat→Type} {C:wB T} {P:Program} {σ:Lk} {H:List (zT T)} {w:World} {G:Nat→Option (List (V T))} {R:Type}
theorem zVc(hR:Rp C σ H w G){t:Nat}{ts:List Nat}{x:AV T}{y:Value}(hx:zr C σ H w x y){ty:Nat}{args:Array Value}{at_ :Array Nat}(ha:args[0]? =some y)(hat:at_[0]? =some t)
  {K:yZ T R} {r:R} (h:zWC P t x H K=some r):
  kX C σ H w (((do pure (.value (←Builtin.len_ at_ ty args)):Sem Next)).run P w) K r:=by
 exact zcS (ts:=ts) hR hx ha hat h
theorem zEL(hR:Rp C σ H w G){t:Nat}{x i:AV T}{y u:Value}(hx:zr C σ H w x y)(hi:zr C σ H w i u)
  {K:yZ T R} {r:R} (h:xo C P t x i H K=some r):
  kX C σ H w (((do pure (.value (←Instr.indexAt t y u)):Sem Next)).run P w) K r:=by
 exact zRD hR hx hi h
theorem zYx{t:Nat}{o off n c:Nat}{y:Value}{lo hi:Option (AV T)}{lo' hi':Option Value}(hx:zr C σ H w (.yB o off n c) y)
  (hlo:∀a,lo=some a→∃v,lo'=some v∧zr C σ H w a v) (hlon:lo=none→lo'=none) (hhi:∀a,hi=some a→∃v,hi'=some v∧zr C σ H w a v) (hhin:hi=none→hi'=none)
  {K:yZ T R} {r:R} (h:vp C P t (.yB o off n c) lo hi none H K=some r):
  kX C σ H w (((do pure (.value (←Instr.sliceAt t y lo' hi' none)):Sem Next)).run P w) K r:=by
 simp only [vp]at h;split at h
 ·rename_i e hu
  split at h
  ·rename_i k l hh hk hbl hbh
   cases hb:decide (0≤hh)&&decide (hh≤(n:Int))&&decide (0≤l)&&decide (l≤hh)&&Nat.blt l.toNat c&&Nat.ble n c
   ·rw [hb]at h;cases h
   ·rw [hb]at h
    simp only [cond_true]at h;simp only [Bool.and_eq_true,decide_eq_true_eq]at hb;obtain⟨⟨⟨⟨⟨h1,h2⟩,h3⟩,h4⟩,h5⟩,h6⟩:=hb;have h5':l.toNat<c:=by have:=Nat.le_of_ble_eq_true h5;omega
    have h6':n≤c:=Nat.le_of_ble_eq_true h6;obtain⟨q0,b,q1,d,rfl,q2,q3⟩:=hx;obtain rfl:=q2 h6';refine yY h (v:= .slice (some ⟨b,off+l.toNat*k,none⟩) (hh.toNat-l.toNat) (d-l.toNat)) ?_ ⟨q0,b,q1,_,rfl,fun _ =>rfl,by omega⟩;simp only [Instr.sliceAt,Sem.run_bind,run_underlying hu,Result.andThen_ok,Instr.slice,
     vg true n d (vk hbl hlo hlon) (vk hbh hhi hhin) h3 h4 h2 h6',yg hk,Sem.run_pure]
    rw [if_neg (by omega),Option.map_some,qR]
  ·cases h
 ·cases h
theorem zZC(hC:yj C)(hR:Rp C σ H w G){t:Nat}{x:AV T}{y:Value}{lo hi mx:Option (AV T)}{lo' hi' mx':Option Value}(hx:zr C σ H w x y)
  (hlo:∀a,lo=some a→∃v,lo'=some v∧zr C σ H w a v) (hlon:lo=none→lo'=none) (hhi:∀a,hi=some a→∃v,hi'=some v∧zr C σ H w a v) (hhin:hi=none→hi'=none)
  (hmx:∀a,mx=some a→∃v,mx'=some v∧zr C σ H w a v) (hmxn:mx=none→mx'=none)
  {K:yZ T R} {Kp:AV T→List (zT T)→Option R} {r:R} (h:vp C P t x lo hi mx H K=some r):
  Good P C G σ H w (((do pure (.value (←Instr.sliceAt t y lo' hi' mx')):Sem Next)).run P w) K Kp r:=by
 by_cases hs:(∃o off n c,x= .yB o off n c)∧mx=none
 ·obtain⟨⟨o,off,n,c,rfl⟩,rfl⟩:=hs
  rw [hmxn rfl];exact(zYx hx hlo hlon hhi hhin h).zSm hR
 ·have:vp C P t x lo hi mx H K=jg C P t x lo hi mx H K:=by
   unfold vp;split
   ·exact absurd ⟨⟨_,_,_,_,rfl⟩,rfl⟩ hs
   ·rfl
  rw [this]at h;exact zYc hC hR hx hlo hlon hhi hhin hmx hmxn h
theorem zdz(hC:yj C)(hR:Rp C σ H w G){t:Nat}{x:AV T}{y:Value}(hno:∀o,x≠.own o){lo hi mx:Option (AV T)}{lo' hi' mx':Option Value}(hx:zr C σ H w x y)
  (hlo:∀a,lo=some a→∃v,lo'=some v∧zr C σ H w a v) (hlon:lo=none→lo'=none) (hhi:∀a,hi=some a→∃v,hi'=some v∧zr C σ H w a v) (hhin:hi=none→hi'=none)
  (hmx:∀a,mx=some a→∃v,mx'=some v∧zr C σ H w a v) (hmxn:mx=none→mx'=none)
  {K:yZ T R} {r:R} (h:vp C P t x lo hi mx H K=some r):
  kX C σ H w (((do pure (.value (←Instr.sliceAt t y lo' hi' mx')):Sem Next)).run P w) K r:=by
 by_cases hs:(∃o off n c,x= .yB o off n c)∧mx=none
 ·obtain⟨⟨o,off,n,c,rfl⟩,rfl⟩:=hs
  rw [hmxn rfl];exact zYx hx hlo hlon hhi hhin h
 ·have:vp C P t x lo hi mx H K=jg C P t x lo hi mx H K:=by
   unfold vp;split
   ·exact absurd ⟨⟨_,_,_,_,rfl⟩,rfl⟩ hs
   ·rfl
  rw [this]at h;exact zdq hC hR hno hx hlo hlon hhi hhin hmx hmxn h
theorem zQc(hR:Rp C σ H w G){k:Nat}{x:AV T}{y:Value}{l:List (AV T)}(h:zLh H k x=some l)(hx:zr C σ H w x y):
  ∃b off n c ys,y= .slice (some ⟨b,off,none⟩) n c∧yW C σ H w l ys∧l.length=n*k∧∀w',w'.heap=w.heap→(loadCells ⟨b,off,none⟩ (n*k)).run P w'= .ok ys.toArray w':=by
 unfold zLh at h;split at h
 ·rename_i o off n c
  split at h
  ·rename_i e l0 ho
   cases hb:Nat.ble (off+n*k) l0.length
   ·rw [hb]at h;cases h
   ·rw [hb]at h
    cases h;have hle:=Nat.le_of_ble_eq_true hb;obtain⟨_,b,h1,d,rfl,_⟩:=hx;obtain⟨b',cs,ys,rest,h2,h3,h5,h4,_⟩:=(hR.obj o _ ho).cellsD;rw [h1]at h2;cases h2;have hlen:=h4.length;refine⟨b,off,n,d,(ys.drop off).take (n*k),rfl,(h4.drop off).take (n*k),by simp;omega,fun w' hw=> ?_⟩;refine vw (by simp;omega) (fun j v hj=> ?_);rw [List.getElem?_take]at hj;split at hj
    ·rw [List.getElem?_drop]at hj
     rw [qR,zFy hw,j8 h3];have hlt:off+j<ys.length:=(List.getElem?_eq_some_iff.1 hj).1;have:cs.toList[off+j]? =some v:=by rw [h5,List.getElem?_append_left hlt];exact hj
     simpa using this
    ·cases hj
  ·cases h
 ·cases h
theorem zX9{l:List (AV T)}{ys:List Value}(h:zBR l=true)(hr:yW C σ H w l ys):∀u∈ys,u.oneCell'=true:=zFU h hr
theorem zeJ(hR:Rp C σ H w G)(e:TypeId){n cap:Nat}{l:List (AV T)}{ys:List Value}(hl:yW C σ H w l ys)(zs:Array Value)(hn0:0<n)(hcap:n≤cap):
  Step C G [] σ H w (add σ H.length (some w.heap.size)) (H++[.cells e (some 0) l]) (w.alloc (.cells (ys.toArray++zs) e))∧
   zr C (add σ H.length (some w.heap.size)) (H++[.cells e (some 0) l]) (w.alloc (.cells (ys.toArray++zs) e)) (.yB H.length 0 n 0) (.slice (some ⟨w.heap.size,0,none⟩) n cap):=by
 refine⟨zEC hR (.cells e (some 0) l) (.cells (ys.toArray++zs) e) (fun M=>⟨w.heap.size,_,ys,zs.toList,wa _ _ _,vO _ _,by simp,hl.gV M⟩), ?_⟩;have hlt:H.length<(H++[zT.cells e (some 0) l]).length:=by simp
 exact⟨hlt,w.heap.size,wa _ _ _,cap,rfl,fun h=>by omega,hcap⟩
theorem zWk(hR:Rp C σ H w G){st xt ty:Nat}{x z:AV T}{y u:Value}(hx:zr C σ H w x y)(hz:zr C σ H w z u)
  {K:yZ T R} {Kp:AV T→List (zT T)→Option R} {r:R} (h:zFr P st xt x z H K=some r):
  Good P C G σ H w (((do pure (.value (←Builtin.append_ #[st,xt] ty #[y,u])):Sem Next)).run P w) K Kp r:=by
 unfold zFr at h;split at h
 ·rename_i e he
  have hu:=zEc he;split at h
  ·rename_i k bytes zz hn hb hzz
   split at h
   ·rename_i o off n c o2 off2 m c2
    split at h
    ·rename_i l1 l2 hl1 hl2
     cases hbb:Nat.beq n c&&Nat.blt 0 m&&Nat.beq zz.length (k+1)&&Nat.ble (n+m) (room (bytes+1))&&zBR l2&&zYs P xt&&slT P xt
     ·rw [hbb]at h;cases h
     ·rw [hbb]at h
      simp only [cond_true]at h;simp only [Bool.and_eq_true]at hbb;obtain⟨⟨⟨⟨⟨⟨b1,b2⟩,b3⟩,b4⟩,b5⟩,b6⟩,b7⟩:=hbb;have hnc:n=c:=Nat.eq_of_beq_eq_true b1;have hm:0<m:=Nat.le_of_ble_eq_true b2;have hzl:zz.length=k+1:=Nat.eq_of_beq_eq_true b3;have hrm:=Nat.le_of_ble_eq_true b4;obtain⟨e',hxt⟩:∃e',P.underlying xt=some (.slice e'):=by
       unfold slT at b7;split at b7
       ·rename_i e' hh;exact⟨e',hh⟩
       ·cases b7
      obtain⟨zv,hz1,hz2⟩:=zCi (C:=C) hzz;have hzs:zv.cells.size=k+1:=by rw [←Array.length_toList,(hz2 (σ:=σ) (H:=H) (w:=w)).length,hzl]
      obtain⟨i,hi,hib⟩:=zOI hb;have hisz:i.size=k+1:=by have:=hn;unfold qF at this;rw [hi]at this;simpa using this
      have hiz:i.zero=some zv:=by rw [hi]at hz1;simpa using hz1
      obtain⟨ba,oa,na,ca,ya,rfl,ra,la,lda⟩:=zQc (P:=P) hR hl1 hx;obtain⟨bx,ox,nx,cx,yx,rfl,rx,lx,ldx⟩:=zQc (P:=P) hR hl2 hz;obtain⟨_,_,_,d1,hxe,hd1,_⟩:=hx;obtain⟨_,_,_,d2,hze,_⟩:=hz;have hd1:=hd1 (Nat.le_of_eq hnc);cases hxe;cases hze;rw [hd1,←hnc];clear hd1 hnc;have hs:Src P i.size xt (.slice (some ⟨bx,off2,none⟩) m cx) m yx w:=by
       refine⟨.inl ⟨e',hxt⟩,fun _ =>rfl, ?_, ?_,by rw [rx.length,lx,hisz],zX9 b5 rx⟩
       ·rw [hisz];exact ldx w rfl
       ·rw [hisz];exact ldx w.drew rfl
      have hold:(Builtin.firstCells i.size n (.slice (some ⟨ba,off,none⟩) n n)).run P w.drew= .ok ya.toArray w.drew:=by
       rw [hisz];exact lda w.drew rfl
      have hmx:=zTX hrm;have hgrow:=run_append_grow_src (P:=P) w (ty:=ty) st xt e i zv hu hi hiz (some ⟨ba,off,none⟩) n n ya hold _ m yx hs (by omega) (by omega) (growslice_fits (by omega) (by rw [hib];exact room_le hrm));have hcap:n+m≤grownCap w (n+m) n e:=by
       show n+m≤(Question.appendCap (n+m) n e).cut _;simp only [Question.cut];omega
      generalize hgc:grownCap w (n+m) n e=cap at hgrow hcap;have hrun:(((do pure (.value (←Builtin.append_ #[st,xt] ty #[.slice (some ⟨ba,off,none⟩) n n,.slice (some ⟨bx,off2,none⟩) m cx])):Sem Next)).run P w)= .ok (.value (.slice (some ⟨w.heap.size,0,none⟩) (n+m) cap)) (w.drew.alloc (.cells ((ya++yx).toArray++Builtin.zeroCells zv.cells (cap-(n+m))) e)):=by
       simp only [Sem.run_bind,hgrow,Result.andThen_ok,Sem.run_pure]
      have hrl:yW C σ H w (l1++l2) (ya++yx):=ra.append rx;have hst0:=vS hR;obtain⟨s1,s2⟩:=zeJ hst0.rp e (hrl.gV hst0.move) (Builtin.zeroCells zv.cells (cap-(n+m))) (by omega) hcap;exact .inl ⟨_,_,[],_,_,_,h,.inl hrun,hst0.zEr s1,s2⟩
    ·cases h
   ·cases h
  ·cases h
 ·cases h
theorem zWw(hC:yj C)(hR:Rp C σ H w G){st xt ty:Nat}{x z:AV T}{y u:Value}(hx:zr C σ H w x y)(hz:zr C σ H w z u)
  {K:yZ T R} {Kp:AV T→List (zT T)→Option R} {r:R} (h:zFl C P st xt x z H K=some r):
  Good P C G σ H w (((do pure (.value (←Builtin.append_ #[st,xt] ty #[y,u])):Sem Next)).run P w) K Kp r:=by
 unfold zFl at h;split at h
 ·exact zWk hR hx hz h
 ·exact zWL hC hR hx hz h
end Go.Proofs.YtdoifigogbdodaaGreatDoor.Ev

namespace Go.Proofs.YtdoifigogbdodaaGreatDoor.Ev
open Go
variable {T:Nat→Type} {C:wB T} {P:Program} {σ:Lk} {H:List (zT T)} {w:World} {G:Nat→Option (List (V T))} {R:Type}
theorem zZd{α:Type}(l:List α){a b:Nat}(h:a≤b):l.drop a=(l.take b).drop a++l.drop b:=by
 have e:l.drop a=(l.take b++l.drop b).drop a:=by rw [List.take_append_drop]
 rw [e,List.drop_append];congr 1;by_cases hb:b≤l.length
 ·have:(l.take b).length=b:=by simp;omega
  rw [this,show a-b=0 by omega];rfl
 ·rw [List.drop_of_length_le (l:=l) (by omega)];simp
theorem zZ5(hC:yj C)(hR:Rp C σ H w G){dt xt ty:Nat}{x z:AV T}{y u:Value}(hx:zr C σ H w x y)(hz:zr C σ H w z u)
  {K:yZ T R} {Kp:AV T→List (zT T)→Option R} {r:R} {at_ :Array Nat} {args:Array Value} (h0:at_[0]? =some dt) (g0:args[0]? =some y) (g1:args[1]? =some u) (h:zVw C P dt x z H K=some r):
  Good P C G σ H w (((do pure (.value (←Builtin.copy_ at_ ty args)):Sem Next)).run P w) K Kp r:=by
 unfold zVw at h;split at h
 ·rename_i e he
  have hu:=zEc he;split at h
  ·rename_i n l2 o hn hap
   split at h
   ·rename_i t l ho
    cases hb:Nat.beq n (C.size e)
    ·rw [hb]at h;cases h
    ·rw [hb]at h
     simp only [cond_true]at h;have hns:n=C.size e:=Nat.eq_of_beq_eq_true hb;subst hns;split at h
     ·rename_i hte
      subst hte;simp only at h;obtain⟨news,h1,h2,h3⟩:=zQd (P:=P) hC hR hz hap;obtain⟨hlt0,_,hy⟩:=hx;have hlen:(l2.take l.length++l.drop l2.length).length=l.length:=by simp;omega
      have hmin:Nat.min l2.length l.length=min l2.length l.length:=rfl;rcases hy _ _ (vM ho)with⟨k1,rfl⟩|⟨b,c,cs,ee,fz,k1,rfl,k2,k3⟩
      ·rcases hR.obj o _ ho with⟨rfl,_⟩|⟨b,_,_,_,hb2,_⟩
       ·refine .inl ⟨_,_,[],.int .i64 0,σ,w,h,.inl ?_, ?_, ?_⟩
        ·have hf:=h2 w rfl 0 (Nat.zero_le _)
         simp only [Nat.zero_mul,List.take_zero]at hf;simp [Builtin.copy_,h0,g0,g1,run_underlying hu,h1,yg hn,hf,storeCells,goInt]
        ·refine ug hR w ho rfl rfl rfl rfl rfl (Nat.le_refl _) (fun _ _ _ =>rfl) (fun off hf=>hf.imp id (fun hf=>by simp at hf⊢)) (fun _ _ _ _ =>rfl) (fun n2 s2 hr=> ?_) (fun M=> .inl ⟨by simp,k1⟩)
         exact⟨by simpa [svO] using hr,fun b hb=>by rw [k1]at hb;cases hb⟩
        ·simpa using zAf .i64 0
       ·rw [k1]at hb2;cases hb2
      ·rcases hR.obj o _ ho with⟨_,hn2⟩|⟨b',cs',fz',cap,hb2,h6,h7,h8,h9,h10⟩
       ·rw [k1]at hn2;cases hn2
       ·rw [k1]at hb2;cases hb2
        rw [k2]at h6;cases h6;have hro:=zQT hC h8 h9 h10;have hmul:l.length*C.size t≤cap*C.size t:=Nat.mul_le_mul_right _ h9;let k:=min l2.length l.length;have hk1:k≤l2.length:=Nat.min_le_left _ _;have hk2:k≤l.length:=Nat.min_le_right _ _;have hkm:k*C.size t≤l.length*C.size t:=Nat.mul_le_mul_right _ hk2;have hkm2:k*C.size t≤l2.length*C.size t:=Nat.mul_le_mul_right _ hk1;have hnl:(news.take (k*C.size t)).length=k*C.size t:=by rw [List.length_take,h3.1];omega
        have hst:=vt P b 0 _ fz (news.take (k*C.size t)) 0 cs w k2 h7 (by rw [hnl];omega) (fun v hv=>zYL hC h3 v (List.mem_of_mem_take hv));have hrun:((do pure (.value (←Builtin.copy_ at_ ty args)):Sem Next)).run P w= .ok (.value (.int .i64 ((k:Nat):Int))) (w.setRow b (yS cs.toList 0 (news.take (k*C.size t))).toArray):=by
         have hf:=h2 w rfl k hk1;simp only [Nat.zero_add]at hst;simp [Builtin.copy_,h0,g0,g1,run_underlying hu,h1,yg hn,goInt];rw [show(Nat.min l2.length l.length)=k from rfl,hf];simp [hst]
        have hsr:=qz (l:=cs.toList) (vs:=news.take (k*C.size t)) (off:=0) (by rw [hnl];simp;omega);have hsz2:(yS cs.toList 0 (news.take (k*C.size t))).toArray.size=cs.size:=by simpa using hsr
        refine .inl ⟨_,_,[],_,σ,_,h,.inl hrun, ?_,zAf _ _⟩;refine ug hR _ ho rfl rfl rfl rfl rfl (by simp) (fun q hq hne=>setRow_other w b q _ (fun hqb=>hne (by rw [hqb];exact k1))) (fun _ _ => .inl rfl) (fun q off hq hnf=>(hnf (.inl rfl)).elim) (fun n2 s2 hr=> ?_) (fun M=> ?_)
        ·refine⟨by simp only [svO]at hr⊢;rw [hlen]at hr;exact hr,fun b2 hb2 cs2 e2 fz2 hc2=> ?_⟩
         rw [k1]at hb2;cases hb2;rw [k2]at hc2;cases hc2;exact⟨_,_,fz,vX k2,hsz2⟩
        ·refine .inr ⟨b,_,fz,cap,k1,vX k2,fun q hq=>h7 q (by rw [hsz2]at hq;exact hq),by rw [hsz2];exact h8,by rw [hlen];exact h9, ?_⟩
         have hr2:=Rows.append hC (h3.take hC k) (hro.drop k);have e1:l2.take k=l2.take l.length:=by
          show l2.take (min l2.length l.length)=_;rcases Nat.le_total l2.length l.length with hh|hh
          ·rw [Nat.min_eq_left hh,List.take_of_length_le (Nat.le_refl _),List.take_of_length_le hh]
          ·rw [Nat.min_eq_right hh]
         have e2:l.drop k=l.drop l2.length:=by
          show l.drop (min l2.length l.length)=_;rcases Nat.le_total l2.length l.length with hh|hh
          ·rw [Nat.min_eq_left hh]
          ·rw [Nat.min_eq_right hh,List.drop_of_length_le (Nat.le_refl _),List.drop_of_length_le hh]
         rw [e1,e2]at hr2;refine zFm (ys:=news.take (k*C.size t)++(cs.toList.take (l.length*C.size t)).drop (k*C.size t)) (zs:=cs.toList.drop (l.length*C.size t)) ?_ (hr2.mono M.cell);simp only [yS,List.take_zero,List.nil_append,Nat.zero_add,hnl,List.append_assoc];congr 1;exact zZd _ hkm
     ·cases h
   ·cases h
  ·cases h
 ·cases h
theorem zbw{z:Value}{e:Nat}(hz:(P.info? e).bind (·.zero)=some z)(n k:Nat)(hk:z.cells.size=k)(hk0:0<k)(w:World):
  ∃zc:Array Value,((n*k=0∧zc= #[])∨(n*k≠0∧zc=z.cells))∧((Array.range (n*k)).map (zc[· %zc.size]!)).toList=gR z.cells.toList n:=by
 by_cases h0:n*k=0
 ·refine⟨#[],.inl ⟨h0,rfl⟩, ?_⟩
  have:n=0:=by rcases Nat.mul_eq_zero.1 h0 with h|h<;>omega
  subst this;simp [gR]
 ·exact⟨z.cells,.inr ⟨h0,rfl⟩,zS3 z.cells n (n*k) (by omega) (by rw [hk])⟩
theorem Rows.replicate(hC:yj C){cell:Nat→Nat→Value→Prop}{e:Nat}{x:T e}{ys:List Value}(hl:ys.length=C.size e)(h:∀(k:Nat) (v:V T),(C.enc e x)[k]? =some v→∃y,ys[k]? =some y∧qI C cell v y):
  ∀n,Rows C cell e (List.replicate n x) (gR ys n)
 |0=>Rows.nil _ _
 |n+1=>Rows.cons hC hl h (Rows.replicate hC hl h n)
theorem zQ5(hC:yj C)(hR:Rp C σ H w G){t:Nat}{x z:AV T}{y u:Value}(hx:zr C σ H w x y)(hz:zr C σ H w z u)
  {K:yZ T R} {Kp:AV T→List (zT T)→Option R} {r:R} (h:xe C P t x z H K=some r):
  Good P C G σ H w (((do pure (.value (←Instr.makeSlice t y u)):Sem Next)).run P w) K Kp r:=by
 unfold xe at h;split at h
 ·rename_i e k1 n k2 c he
  have hu:=zEc he;have:=jc hx;subst this;have:=jc hz;subst this;split at h
  ·rename_i k zz bytes hk hzz hb
   cases hbb:Nat.beq k (C.size e)&&Nat.beq zz.length k&&decide (0≤n)&&decide (n≤c)&&decide ((bytes:Int)*c≤140737488355328)&&decide (c≤140737488355328)
   ·rw [hbb]at h;cases h
   ·rw [hbb]at h
    simp only [cond_true]at h;simp only [Bool.and_eq_true,decide_eq_true_eq]at hbb;obtain⟨⟨⟨⟨⟨b1,b2⟩,b3⟩,b4⟩,b5⟩,b6⟩:=hbb;have hks:k=C.size e:=Nat.eq_of_beq_eq_true b1;have hzl:zz.length=k:=Nat.eq_of_beq_eq_true b2;obtain⟨zv,hz1,hz2⟩:=zCi (C:=C) hzz;have hzs:zv.cells.size=C.size e:=by rw [←Array.length_toList,(hz2 (σ:=σ) (H:=H) (w:=w)).length,hzl,hks]
    obtain⟨i,hi,hib⟩:=zOI hb;obtain⟨vs,H',k1',k2',k3',k4',k5'⟩:=zZ7 hC zz H _ r zv.cells.toList hR hz2 h;obtain⟨xx,hxx,hK⟩:=Option.bind_eq_some_iff.1 k1';obtain⟨zc,hz3,hz4⟩:=zbw hz1 c.toNat k (by rw [hzs,hks]) (by rw [hks];exact hC.pos e) w;have wn:IntKind.i64.wrap n=n:=IntWalk.i64_in n ⟨by omega,by omega⟩;have wc:IntKind.i64.wrap c=c:=IntWalk.i64_in c ⟨by omega,by omega⟩;have t1:((i.bytes:Int)*c>2^48)=False:=by rw [hib];simp;omega
    have hrun:((do pure (.value (←Instr.makeSlice t (.int k1 n) (.int k2 c))):Sem Next)).run P w=
      .ok (.value (.slice (some ⟨w.heap.size,0,none⟩) n.toNat c.toNat)) (w.alloc (.cells ((Array.range (c.toNat*k)).map (zc[· %zc.size]!)) e)):=by
     have c1:¬c<0:=by omega
     have c2:¬n<0:=by omega
     have c3:¬n>c:=by omega
     rcases hz3 with⟨h0,rfl⟩|⟨h0,rfl⟩
     ·simp [Instr.makeSlice,run_underlying hu,asInt,jP,run_typeInfo w hi,wn,wc,c1,c2,c3,hib,yg hk,h0,newRow]
      intro hbad;exfalso;omega
     ·simp [Instr.makeSlice,run_underlying hu,asInt,jP,run_typeInfo w hi,wn,wc,c1,c2,c3,hib,yg hk,h0,newRow,ui hz1]
      intro hbad;exfalso;omega
    have hnc:n.toNat≤c.toNat:=by omega
    have hrows:=Rows.replicate hC (cell:=Cell C σ H' w) (x:=xx) (ys:=zv.cells.toList) (by rw [Array.length_toList,hzs]) (zV9 hC hxx k5') n.toNat;have he2:((Array.range (c.toNat*k)).map (zc[· %zc.size]!)).toList=gR zv.cells.toList n.toNat++gR zv.cells.toList (c.toNat-n.toNat):=by
     rw [hz4,←zex];congr 1;omega
    have w9:((Array.range (c.toNat*k)).map (zc[· %zc.size]!)).size=c.toNat*C.size e:=by simp [hks]
    have hst:=gO hC k2'.rp (cap:=c.toNat) (0,0) he2 hrows w9 (fz0 _) true;refine .inl ⟨_,_,[],_,add σ H'.length (some w.heap.size),_,hK,.inl hrun,k2'.zEr hst, ?_⟩;have:=zMu (C:=C) (σ:=σ) (H:=H') (t:=e) (l:=List.replicate n.toNat xx) (m:=true) (vO w (.cells ((Array.range (c.toNat*k)).map (zc[· %zc.size]!)) e)) w9
    rwa [List.length_replicate]at this
  ·cases h
 ·cases h
end Go.Proofs.YtdoifigogbdodaaGreatDoor.Ev

namespace Go.Proofs.YtdoifigogbdodaaGreatDoor.Ev
open Go
variable {T:Nat→Type} {C:wB T} {P:Program} {σ:Lk} {H:List (zT T)} {w:World} {G:Nat→Option (List (V T))} {R:Type}
theorem zLu(hC:yj C):C.size C.bt=1:=by have:=hC.len C.bt (C.ofB 0);rw [hC.zaK]at this;simpa using this.symm
theorem zkb(w:World)(zBM old:Nat)(e:TypeId)(h:zBM≤qL):zBM≤grownCap w zBM old e:=by
 show zBM≤(Question.appendCap zBM old e).cut _;simp only [Question.cut];unfold qL at h;omega
theorem zZp(hC:yj C)(hR:Rp C σ H w G){src dst:Nat}{x:AV T}{y:Value}(hx:zr C σ H w x y)
  {K:yZ T R} {Kp:AV T→List (zT T)→Option R} {r:R} (h:zBY C P src dst x H K=some r):
  Good P C G σ H w (((do pure (.value (←convert src dst y)):Sem Next)).run P w) K Kp r:=by
 unfold zBY at h;split at h
 ·rename_i k0 k kk n h1 h2
  have:=jc hx;subst this;refine qU hR h ?_ (zAf _ _);simp [convert,run_underlying h1,run_underlying h2,Conv.intToInt]
 ·rename_i k0 kk n h1 h2
  have:=jc hx;subst this;refine qU hR h ?_ (zUy _);simp [convert,run_underlying h1,run_underlying h2,Conv.intToString]
 ·rename_i s h1 h2
  have:=zCw hx;subst this;refine qU hR h ?_ (zUy _);simp [convert,run_underlying h1,run_underlying h2]
 ·rename_i e s h1 h2
  have:=zCw hx;subst this;split at h
  ·rename_i he
   cases hb:Nat.beq e C.bt&&Nat.beq ((qF P e).getD 0) 1&&Nat.beq (C.size e) 1&&Nat.ble s.size qL
   ·rw [hb]at h;cases h
   ·rw [hb]at h
    simp only [cond_true]at h;simp only [Bool.and_eq_true]at hb;have heb:e=C.bt:=Nat.eq_of_beq_eq_true hb.1.1.1;subst heb;have w9:=Nat.le_of_ble_eq_true hb.2;have hcap:=zkb w s.size 0 C.bt w9;let cap:=grownCap w s.size 0 C.bt;have hrows:=zTv hC (Cell C σ H w) s.data.toList;have hbs:(bytesRow s cap).toList=(s.data.toList.map fun b=>Value.int .u8 b.toNat)++List.replicate (cap-s.size) (.int .u8 0):=by simp [bytesRow]
    have hlen:(bytesRow s cap).size=cap*C.size C.bt:=by
     rw [zLu hC,Nat.mul_one,←Array.length_toList,hbs,List.length_append,List.length_map,List.length_replicate];have:s.data.toList.length=s.size:=by show s.data.toList.length=s.data.size;simp
     omega
    have hst:=(vS hR).zEr (gO (m:=true) hC (vS hR).rp ((bytesRow s cap).size,(bytesRow s cap).size+1) hbs (hrows.mono (vS hR).move.cell) hlen (fun off ho hh=>by simp at hh;omega));refine .inl ⟨_,_,[],.slice (some ⟨w.heap.size,0,none⟩) s.size cap,_,_,h,.inl ?_,hst, ?_⟩
    ·simp only [Sem.run_bind,run_bytes_of_string w src dst C.bt s h1 h2 he,Result.andThen_ok,Sem.run_pure];rfl
    ·have:=zMu (C:=C) (σ:=σ) (H:=H) (t:=C.bt) (l:=s.data.toList.map fun b=>C.ofB b.toNat) (m:=true) (b:=w.heap.size) (vO w.drew (.cells (bytesRow s cap) C.bt ((bytesRow s cap).size,(bytesRow s cap).size+1))) hlen
     have hl2:(s.data.toList.map fun b=>C.ofB b.toNat).length=s.size:=by rw [List.length_map];show s.data.toList.length=s.data.size;simp
     rwa [hl2]at this
  ·cases h
 ·rename_i t o k h1 h2
  split at h
  ·rename_i e l j ho hj
   cases hb: !Nat.beq j.size 0&&Nat.blt k l.length
   ·rw [hb]at h;cases h
   ·rw [hb]at h
    simp only [cond_true]at h;rw [Bool.and_eq_true]at hb;obtain⟨h0,b,hs,rfl⟩:=hx;obtain⟨b',cs,hs',hblk,hrep⟩:=hR.obj o _ ho;rw [hs]at hs';cases hs';have hlen:=hrep.length;have hk:k<l.length:=Nat.le_of_ble_eq_true hb.2;refine qU hR h ?_ ⟨h0,b,hs,rfl⟩;rw [Sem.run_bind,Lib.run_to_unsafe (e:=e) (cells:=cs.size) w ⟨b,k,none⟩ h1 h2 hj (by intro h;rw [h]at hb;simp at hb) (by simp [World.shape?,hblk]) (by simp at hlen⊢;omega)];rfl
  ·cases h
 ·rename_i u o k h1 h2
  split at h
  ·rename_i e l j ho hj
   cases hb:liesAt P P.depth e (l.length/P.cellsOf e) k u 1
   ·rw [hb]at h;cases h
   ·rw [hb]at h
    simp only [cond_true]at h;obtain⟨h0,b,hs,rfl⟩:=hx;obtain⟨b',cs,hs',hblk,hrep⟩:=hR.obj o _ ho;rw [hs]at hs';cases hs';have hlen:cs.size=l.length:=by have:=hrep.length;simpa using this
    refine qU hR h ?_ ⟨h0,b,hs,rfl⟩;rw [Sem.run_bind,Lib.run_from_unsafe (e:=e) (cells:=cs.size) w ⟨b,k,none⟩ h1 h2 hj (by simp [World.shape?,hblk]) (by rw [hlen];exact hb)];rfl
  ·cases h
 ·rename_i q e h1 h2
  split at h
  ·rename_i he
   cases hb:Nat.beq (C.size C.bt) 1
   ·rw [hb]at h;cases h
   ·rw [hb]at h
    simp only [cond_true]at h;split at h
    ·rename_i l hl
     obtain⟨A,cap,ys,rfl,h3,h4⟩:=zOq hC hR hx hl;refine qU hR h ?_ (zUy _);rw [Sem.run_bind,run_convert_bytes_string w src dst e A l.length cap h1 he h2];have key:(Conv.bytesToString (.slice A l.length cap)).run P w= .ok (.string ⟨(l.map fun x=>UInt8.ofNat (C.toB x).toNat).toArray⟩) w:=by
      rcases h4 with rfl|⟨b,off,rfl,h5⟩
      ·cases A with
       |none=>rfl
       |some a=>
        exact run_bytesToString (P:=P) w a 0 cap [] (by simp [loadCells,loadCellsFrom])
      ·have hys:ys=(l.map C.toB).map (Value.int .u8):=by
        apply List.ext_getElem?;intro j;by_cases hj:j<l.length
        ·obtain⟨y,h6,h7⟩:=h3.2 j hj 0 (.i .u8 (C.toB l[j])) (by rw [hC.zaK];rfl)
         rw [zLu hC,Nat.mul_one,Nat.add_zero]at h6;cases h7;rw [h6];simp [hj]
        ·rw [List.getElem?_eq_none (by rw [h3.1,zLu hC];omega),List.getElem?_eq_none (by simp;omega)]
       subst hys;have:=run_bytesToString (P:=P) w ⟨b,off,none⟩ l.length cap (l.map C.toB) (vw (by simp) (fun j v hj=>by rw [qR];exact h5 j v hj));rw [this];congr 2;have:∀(xs:List (T C.bt)) (q:ByteArray),(xs.map C.toB).foldl (fun r n=>r.push (UInt8.ofNat n.toNat)) q=⟨q.data++(xs.map fun x=>UInt8.ofNat (C.toB x).toNat).toArray⟩:=by
        intro xs
        induction xs with
        |nil=>intro q;simp
        |cons x xs ih=>intro q;simp only [List.map_cons,List.foldl_cons,ih];simp [ByteArray.push]
       rw [this];simp
     rw [key,Result.andThen_ok,Sem.run_pure]
    ·cases h
  ·cases h
 ·cases h
theorem zhk(hC:yj C)(hR:Rp C σ H w G){src dst:Nat}{x:AV T}{y:Value}(hx:zr C σ H w x y)(hns:∀e,P.underlying dst≠some (.slice e))
  {K:yZ T R} {r:R} (h:zBY C P src dst x H K=some r):
  kX C σ H w (((do pure (.value (←convert src dst y)):Sem Next)).run P w) K r:=by
 unfold zBY at h;split at h
 ·rename_i k0 k kk n h1 h2
  have:=jc hx;subst this;refine yY h ?_ (zAf _ _);simp [convert,run_underlying h1,run_underlying h2,Conv.intToInt]
 ·rename_i k0 kk n h1 h2
  have:=jc hx;subst this;refine yY h ?_ (zUy _);simp [convert,run_underlying h1,run_underlying h2,Conv.intToString]
 ·rename_i s h1 h2
  have:=zCw hx;subst this;refine yY h ?_ (zUy _);simp [convert,run_underlying h1,run_underlying h2]
 ·rename_i e s h1 h2
  exact(hns e h2).elim
 ·rename_i t o k h1 h2
  split at h
  ·rename_i e l j ho hj
   cases hb: !Nat.beq j.size 0&&Nat.blt k l.length
   ·rw [hb]at h;cases h
   ·rw [hb]at h
    simp only [cond_true]at h;rw [Bool.and_eq_true]at hb;obtain⟨h0,b,hs,rfl⟩:=hx;obtain⟨b',cs,hs',hblk,hrep⟩:=hR.obj o _ ho;rw [hs]at hs';cases hs';have hlen:=hrep.length;have hk:k<l.length:=Nat.le_of_ble_eq_true hb.2;refine yY h ?_ ⟨h0,b,hs,rfl⟩;rw [Sem.run_bind,Lib.run_to_unsafe (e:=e) (cells:=cs.size) w ⟨b,k,none⟩ h1 h2 hj (by intro h;rw [h]at hb;simp at hb) (by simp [World.shape?,hblk]) (by simp at hlen⊢;omega)];rfl
  ·cases h
 ·rename_i u o k h1 h2
  split at h
  ·rename_i e l j ho hj
   cases hb:liesAt P P.depth e (l.length/P.cellsOf e) k u 1
   ·rw [hb]at h;cases h
   ·rw [hb]at h
    simp only [cond_true]at h;obtain⟨h0,b,hs,rfl⟩:=hx;obtain⟨b',cs,hs',hblk,hrep⟩:=hR.obj o _ ho;rw [hs]at hs';cases hs';have hlen:cs.size=l.length:=by have:=hrep.length;simpa using this
    refine yY h ?_ ⟨h0,b,hs,rfl⟩;rw [Sem.run_bind,Lib.run_from_unsafe (e:=e) (cells:=cs.size) w ⟨b,k,none⟩ h1 h2 hj (by simp [World.shape?,hblk]) (by rw [hlen];exact hb)];rfl
  ·cases h
 ·rename_i q e h1 h2
  split at h
  ·rename_i he
   cases hb:Nat.beq (C.size C.bt) 1
   ·rw [hb]at h;cases h
   ·rw [hb]at h
    simp only [cond_true]at h;split at h
    ·rename_i l hl
     obtain⟨A,cap,ys,rfl,h3,h4⟩:=zOq hC hR hx hl;refine yY h ?_ (zUy _);rw [Sem.run_bind,run_convert_bytes_string w src dst e A l.length cap h1 he h2];have key:(Conv.bytesToString (.slice A l.length cap)).run P w= .ok (.string ⟨(l.map fun x=>UInt8.ofNat (C.toB x).toNat).toArray⟩) w:=by
      rcases h4 with rfl|⟨b,off,rfl,h5⟩
      ·cases A with
       |none=>rfl
       |some a=>
        exact run_bytesToString (P:=P) w a 0 cap [] (by simp [loadCells,loadCellsFrom])
      ·have hys:ys=(l.map C.toB).map (Value.int .u8):=by
        apply List.ext_getElem?;intro j;by_cases hj:j<l.length
        ·obtain⟨y,h6,h7⟩:=h3.2 j hj 0 (.i .u8 (C.toB l[j])) (by rw [hC.zaK];rfl)
         rw [zLu hC,Nat.mul_one,Nat.add_zero]at h6;cases h7;rw [h6];simp [hj]
        ·rw [List.getElem?_eq_none (by rw [h3.1,zLu hC];omega),List.getElem?_eq_none (by simp;omega)]
       subst hys;have:=run_bytesToString (P:=P) w ⟨b,off,none⟩ l.length cap (l.map C.toB) (vw (by simp) (fun j v hj=>by rw [qR];exact h5 j v hj));rw [this];congr 2;have:∀(xs:List (T C.bt)) (q:ByteArray),(xs.map C.toB).foldl (fun r n=>r.push (UInt8.ofNat n.toNat)) q=⟨q.data++(xs.map fun x=>UInt8.ofNat (C.toB x).toNat).toArray⟩:=by
        intro xs
        induction xs with
        |nil=>intro q;simp
        |cons x xs ih=>intro q;simp only [List.map_cons,List.foldl_cons,ih];simp [ByteArray.push]
       rw [this];simp
     rw [key,Result.andThen_ok,Sem.run_pure]
    ·cases h
  ·cases h
 ·cases h
theorem zNe(hR:Rp C σ H w G){xt as:Nat}{ok:Bool}{x:AV T}{y:Value}(hx:zr C σ H w x y)
  {K:yZ T R} {r:R} (h:pZ P x as ok H K=some r):
  kX C σ H w (((do pure (.value (←Instr.typeAssert y xt as ok)):Sem Next)).run P w) K r:=by
 have tup2:∀(a b:AV T) (u v:Value),zr C σ H w a u→zr C σ H w b v→zr C σ H w (.qu [a,b]) (.tuple #[u,v]):=fun a b u v ha hb=>
  ⟨_,rfl,u,[v],rfl,ha,v,[],rfl,hb,rfl⟩
 unfold pZ at h;split at h
 ·rename_i want hu
  split at h
  ·rename_i t x
   obtain⟨z,rfl,hz⟩:=hx;split at h
   ·rename_i i hi
    split at h
    ·rename_i hm
     cases ok
     ·exact yY h (v:= .iface t z) (by simp [Instr.typeAssert,run_underlying hu,run_typeInfo w hi,hm]) ⟨z,rfl,hz⟩
     ·exact yY h (v:= .tuple #[.iface t z,.bool true]) (by simp [Instr.typeAssert,run_underlying hu,run_typeInfo w hi,hm]) (tup2 _ _ _ _ ⟨z,rfl,hz⟩ (zSl _))
    ·rename_i m hm
     cases ok
     ·cases h
     ·simp only [cond_true]at h
      split at h
      ·rename_i zv hzv
       refine yY h (v:= .tuple #[zv,.bool false]) ?_ (tup2 _ _ _ _ (uc zv) (zSl _));simp [Instr.typeAssert,run_underlying hu,run_typeInfo w hi,hm,ui hzv]
      ·cases h
   ·cases h
  ·cases h
 ·rename_i d hd hu
  have hni:∀want,d≠.interface want:=fun want he=>hd want he
  split at h
  ·rename_i t x
   obtain⟨z,rfl,hz⟩:=hx;cases ht:Nat.beq t as
   ·rw [ht]at h
    simp only [cond_false]at h;cases ok
    ·cases h
    ·simp only [cond_true]at h
     split at h
     ·rename_i zv hzv
      have hne:¬t=as:=fun e=>by subst e;simp at ht
      refine yY h (v:= .tuple #[zv,.bool false]) ?_ (tup2 _ _ _ _ (uc zv) (zSl _));cases d<;>first|(exact(hni _ rfl).elim)|(simp [Instr.typeAssert,run_underlying hu,hne,ui hzv])
     ·cases h
   ·rw [ht]at h
    simp only [cond_true]at h;have:=Nat.eq_of_beq_eq_true ht;subst this;cases ok
    ·refine yY h (v:=z) ?_ hz
     cases d<;>first|(exact(hni _ rfl).elim)|(simp [Instr.typeAssert,run_underlying hu])
    ·refine yY h (v:= .tuple #[z,.bool true]) ?_ (tup2 _ _ _ _ hz (zSl _))
     cases d<;>first|(exact(hni _ rfl).elim)|(simp [Instr.typeAssert,run_underlying hu])
  ·cases(show qI C (Cell C σ H w) _ _ from hx)
   cases ok
   ·cases h
   ·simp only [cond_true]at h
    split at h
    ·rename_i zv hzv
     refine yY h (v:= .tuple #[zv,.bool false]) ?_ (tup2 _ _ _ _ (uc zv) (zSl _));cases d<;>first|(exact(hni _ rfl).elim)|(simp [Instr.typeAssert,run_underlying hu,ui hzv])
    ·cases h
  ·cases h
 ·cases h
end Go.Proofs.YtdoifigogbdodaaGreatDoor.Ev

namespace Go.Proofs.YtdoifigogbdodaaGreatDoor.Ev
open Go
variable {T:Nat→Type} {C:wB T} {P:Program} {σ:Lk} {H:List (zT T)} {w:World} {G:Nat→Option (List (V T))} {R:Type}
theorem zRj(hC:yj C)(hR:Rp C σ H w G){ty:Nat}{at_ :Array Nat}{x:AV T}{y:Value}(hx:zr C σ H w x y){K:yZ T R}{Kp:AV T→List (zT T)→Option R}{r:R}(h:gx P ty x H K=some r):
  Good P C G σ H w (((do pure (.value (←Builtin.unsafeSliceData_ at_ ty #[y])):Sem Next)).run P w) K Kp r:=by
 unfold gx at h;split at h
 ·rename_i e hty
  split at h
  ·rename_i o
   split at h
   ·rename_i t l m ho
    obtain⟨h0,_,h1⟩:=hx;rcases h1 _ _ (vM ho)with⟨h2,rfl⟩|⟨b,c,cs,ee,fz,h2,rfl,h3,h4⟩
    ·refine qU hR h (v:= .pointer none) ?_ ⟨h0,⟨_,rfl⟩,fun n s hs hn=> ?_⟩
     ·rw [Sem.run_bind,Lib.run_unsafeSliceData_nil];rfl
     ·rw [vM ho]at hs;cases hs
      rcases hR.obj o _ ho with⟨rfl,_⟩|⟨b,_,_,_,hb,_⟩
      ·simp at hn
      ·rw [h2]at hb;cases hb
    ·by_cases hc:c=0
     ·subst hc
      have hsh:w.shape? (⟨b,0,none⟩:Addr).block=some (ee,cs.size):=by simp [World.shape?,h3]
      refine .inl ⟨_,_,[],.pointer (some ⟨w.heap.size,0,none⟩),σ,w.alloc (.view ⟨b,0,none⟩ e),h,.inl ?_, ?_,⟨h0,⟨_,rfl⟩,fun n s hs hn=> ?_⟩⟩
      ·rw [Sem.run_bind,Lib.run_unsafeSliceData_zero w at_ ty e hty ⟨b,0,none⟩ l.length (ee,cs.size) hsh];rfl
      ·
       have hblk:∀b',b'<w.heap.size→(w.alloc (.view ⟨b,0,none⟩ e)).heap[b']? =w.heap[b']? :=fun b' hb'=>alloc_old w _ b' hb'
       have hcell:∀b' off x,Cell C σ H w b' off x→Cell C σ H (w.alloc (.view ⟨b,0,none⟩ e)) b' off x:=fun b' off x ⟨k1,k2⟩=>⟨k1,(wj (hblk b' (uW k2))).trans k2⟩
       have hM:Move C [] σ H w σ H (w.alloc (.view ⟨b,0,none⟩ e)):=⟨hcell,Nat.le_refl _,fun _ _ _ =>rfl,fun o' _ _ n s hs=>⟨hs,fun b' _ cs' e' fz' hb'=>⟨cs',e',fz',by rw [hblk b' (Array.getElem?_eq_some_iff.1 hb').1];exact hb',rfl⟩⟩⟩
       refine⟨⟨hR.inj,fun i o' b' k1 k2 k3=>Nat.lt_of_lt_of_le (hR.lt i o' b' k1 k2 k3) (by simp),fun i o' hi=> ?_,fun g l hg=>(hR.zDJ g l hg).mono hcell,hR.free,fun b' off hF=>Nat.lt_of_lt_of_le (hR.fb b' off hF) (by simp)⟩,
        ⟨rfl,rfl,rfl,rfl,by simp,Nat.le_refl _,fun _ _ _ h=>h,fun b' off hb' _ =>wj (hblk b' hb'),fun b' hb' _ =>hblk b' hb',fun _ _ _ _ =>rfl,fun _ o' _ k1 k2 k3=> .inl ⟨o',k1,k2,k3⟩,fun _ o' o'' k1 k2 hr=>by rw [k1]at k2;cases k2;exact hr⟩,hM⟩
       by_cases hl:live o'=true
       ·have:=dq.move hM rfl (fun b' hb'=>hblk b' (hR.lt i o' b' hi hl hb')) (hR.obj i o' hi)
        rwa [vd]at this
       ·cases o'<;>simp [live]at hl
        trivial
      ·rw [vM ho]at hs;cases hs
       rcases hR.obj o _ ho with⟨rfl,_⟩|⟨b',cs',fz',cap,hb',h6,h7,h8,h9,_⟩
       ·simp at hn
       ·rw [h2]at hb';cases hb'
        rw [h3]at h6;cases h6;have:=Nat.eq_of_mul_eq_mul_right (hC.pos t) (h8.symm.trans h4);omega
     ·refine qU hR h (v:= .pointer (some ⟨b,0,none⟩)) ?_ ⟨h0,⟨_,rfl⟩,fun n s _ _ =>⟨b,h2,rfl⟩⟩
      rw [Sem.run_bind,Lib.run_unsafeSliceData_row w at_ ty _ _ _ hc];rfl
   ·cases h
  ·cases(show y=_ from hx)
   refine .inl ⟨_,_,[],.pointer none,add σ H.length none,w,h,.inl ?_,zLj hR .dead none w rfl rfl rfl (Nat.le_refl _) (fun _ _ =>rfl) (fun b hb=>by cases hb) (fun _ =>trivial),by simp,⟨_,rfl⟩,fun n s hs hn=> ?_⟩
   ·rw [Sem.run_bind,Lib.run_unsafeSliceData_nil];rfl
   ·unfold svH at hs;simp [svO]at hs
  ·cases h
 ·cases h
theorem zEq(w:World):∀(l:List Int) (a:Addr) (acc:ByteArray),(∀j x,l[j]? =some x→w.cell? (a.add j)=some (.int .u8 x))→
  (loadBytes a acc l.length).run P w= .ok ⟨acc.data++(l.map fun x=>UInt8.ofNat x.toNat).toArray⟩ w
 |[],a,acc,_ =>by simp [loadBytes]
 |x::l,a,acc,h=>by
  have h0:w.cell? a=some (.int .u8 x):=by
   have:=h 0 x rfl
   simpa [Addr.add] using this
  have ih:=zEq w l (a.add 1) (acc.push (UInt8.ofNat x.toNat)) (fun j y hy=>by
   have:=h (j+1) y (by simpa using hy);have e:(a.add 1).add j=a.add (j+1):=by
    unfold Addr.add;by_cases hj:j=0
    ·subst hj;simp
    ·simp [hj];omega
   rw [e];exact this)
  simp only [List.length_cons,loadBytes,Sem.run_bind,run_load,h0,Result.andThen];have e2:x.toNat.toUInt8=UInt8.ofNat x.toNat:=rfl;rw [e2,ih];congr 1;apply ByteArray.ext;simp [ByteArray.push]
theorem zMA(w:World)(pt it ty e:TypeId)(hp:P.underlying pt=some (.pointer e))(hc:P.cellsOf e=1)(g cells:Nat)(hsh:w.shape? g=some (e,cells))(l:List Int)(h0:l≠[])(hn:l.length≤cells)(h63:l.length≤9223372036854775807)
  (hcell:∀j x,l[j]? =some x→w.cell? ((⟨g,0,none⟩:Addr).add j)=some (.int .u8 x)):
  (Builtin.unsafeString_ #[pt,it] ty #[.pointer (some ⟨g,0,none⟩),.int .i64 l.length]).run P w= .ok (.string ⟨(l.map fun x=>UInt8.ofNat x.toNat).toArray⟩) (w.freeze ⟨g,0,none⟩ l.length):=by
 have hl:l.length≠0:=by simpa using h0
 have hlb:=zEq (P:=P) w l ⟨g,0,none⟩ .empty hcell;have hlies:=Lib.liesAt_bytes (P:=P) hc (cells/P.cellsOf e) l.length (by rw [hc];simpa using hn);have h63':¬(9223372036854775807:Int)<(l.length:Int):=by omega
 have hdef:Builtin.unsafeString_ #[pt,it] ty #[.pointer (some ⟨g,0,none⟩),.int .i64 l.length]=
   (do
    let n←asInt (.int .i64 l.length)
    if n<0 then runtimePanic (.error "unsafe.String: len out of range")
    if n>IntKind.i64.max then unsupported (.unsafePointer "String: a length above the largest int")
    if n=0 then pure (.string .empty)
    else if←variablesAt ⟨g,0,none⟩ (←elemOf pt) n.toNat then do
     let s←loadBytes ⟨g,0,none⟩ .empty n.toNat
     freeze ⟨g,0,none⟩ n.toNat
     pure (.string s)
    else unsupported (.unsafePointer "String: not so many bytes at ptr")):=rfl
 rw [hdef];have hmax:IntKind.i64.max=9223372036854775807:=rfl;have hneg:¬(l.length:Int)<0:=by omega
 simp [asInt,asIntOf,hmax,h63',hneg,hl,variablesAt,hsh,elemOf,run_underlying hp,hlies,hlb]
theorem zWY(w:World)(a:Addr)(n b:Nat)(h:b≠a.block):(w.freeze a n).heap[b]? =w.heap[b]? :=by
 unfold World.freeze;split
 ·rfl
 ·simp only [Array.getElem?_modify]
  rw [if_neg (fun e=>h e.symm)]
theorem zZS(w:World)(a:Addr)(n:Nat):(w.freeze a n).heap.size=w.heap.size:=by
 unfold World.freeze;split
 ·rfl
 ·simp
theorem zb7(w:World)(a:Addr)(n:Nat):(w.freeze a n).os=w.os∧(w.freeze a n).tape=w.tape∧(w.freeze a n).output=w.output:=by
 unfold World.freeze;split<;>exact⟨rfl,rfl,rfl⟩
theorem zXG(w:World)(a:Addr)(n:Nat)(b off:Nat):(w.freeze a n).cell? ⟨b,off,none⟩=w.cell? ⟨b,off,none⟩:=by
 unfold World.freeze;split
 ·rfl
 ·unfold World.cell?
  simp only [Array.getElem?_modify];by_cases hb:a.block=b
  ·subst hb
   rw [if_pos rfl];cases h:w.heap[a.block]? with
   |none=>rfl
   |some o=>
    simp only [Option.map_some];cases o<;>rfl
  ·rw [if_neg hb]
theorem zVD(hC:yj C)(hR:Rp C σ H w G){ty pt it:Nat}{p n:AV T}{y u:Value}(hp:zr C σ H w p y)(hn:zr C σ H w n u){K:yZ T R}{Kp:AV T→List (zT T)→Option R}{r:R}(h:zCc C P pt p n H K=some r):
  Good P C G σ H w (((do pure (.value (←Builtin.unsafeString_ #[pt,it] ty #[y,u])):Sem Next)).run P w) K Kp r:=by
 unfold zCc at h;split at h
 ·rename_i e o k hpt
  have:=jc hn;subst this;obtain⟨h0,⟨q,rfl⟩,h1⟩:=hp;split at h
  ·rename_i t l m ho
   split at h
   ·rename_i he
    subst he;cases hb:Nat.beq e C.bt&&Nat.beq (P.cellsOf e) 1&&Nat.beq (C.size C.bt) 1&&decide (k=(l.length:Int))&&Nat.ble l.length qL
    ·rw [hb]at h;cases h
    ·rw [hb]at h
     simp only [cond_true]at h;simp only [Bool.and_eq_true,decide_eq_true_eq]at hb;obtain⟨⟨⟨⟨hb1,hb2⟩,hb3⟩,hb4⟩,hb5⟩:=hb;have he:=Nat.eq_of_beq_eq_true hb1;have hc:=Nat.eq_of_beq_eq_true hb2;have hs:=Nat.eq_of_beq_eq_true hb3;have hle:=Nat.le_of_ble_eq_true hb5;subst hb4;have kill:∀w',w'.os=w.os→w'.tape=w.tape→w'.output=w.output→w'.heap.size=w.heap.size→(∀b,b<w.heap.size→σ o≠some b→w'.heap[b]? =w.heap[b]?)→(∀b off,w'.cell? ⟨b,off,none⟩=w.cell? ⟨b,off,none⟩)→
       Step C G [o] σ H w (add σ o (σ o)) ((H.set o .dead).map (wI [o])) w':=fun w' k1 k2 k3 k4 k5 k6=>
      zVm (S:=[o]) hR (o':= .dead) (σ o) w' ho rfl (fun hf=>by cases hf) k1 k2 k3 (by rw [k4];exact Nat.le_refl _) k5 (fun b hl=>by cases hl) (fun b off _ _ =>k6 b off) (.inl (by simp)) (fun hf=>by cases hf) (.inl (by simp)) (fun _ =>trivial)
     by_cases hl:l=[]
     ·subst hl
      refine .inl ⟨_,_,[o],.string .empty,_,w,h,.inl ?_,kill w rfl rfl rfl rfl (fun _ _ _ =>rfl) (fun _ _ =>rfl), ?_⟩
      ·have:=Lib.run_unsafeString_none (P:=P) w pt it ty q
       rw [Sem.run_bind];rw [show(.int .i64 (([]:List (T C.bt)).length:Int):Value)= .int .i64 0 from rfl,this];rfl
      ·exact .s _
     ·have hpos:0<l.length:=by cases l with|nil=>exact(hl rfl).elim|cons=>simp
      obtain⟨b,hσ,hq⟩:=h1 _ _ (vM ho) hpos;cases hq;rcases hR.obj o _ ho with⟨rfl,_⟩|⟨b',cs,fz,cap,hb',h6,h7,h8,h9,h10⟩
      ·exact(hl rfl).elim
      ·rw [hσ]at hb';cases hb'
       have hcell:∀j x,(l.map C.toB)[j]? =some x→w.cell? ((⟨b,0,none⟩:Addr).add j)=some (.int .u8 x):=by
        intro j x hx;rw [List.getElem?_map]at hx;cases hj:l[j]? with
        |none=>rw [hj]at hx;cases hx
        |some z=>
         rw [hj]at hx;cases hx;obtain⟨hlt,hz⟩:=List.getElem?_eq_some_iff.1 hj;obtain⟨yv,k1,k2⟩:=h10 j hlt 0 (.i .u8 (C.toB z)) (by rw [hz,hC.zaK];rfl);cases k2;rw [qR,j8 h6,Nat.zero_add];rw [hs]at k1
         simpa using k1
       have w9:cs.size=cap:=by rw [h8,hs,Nat.mul_one]
       have hrun:=zMA (P:=P) w pt it ty e hpt hc b cs.size (by simp [World.shape?,h6,he]) (l.map C.toB) (by simpa using hl) (by simp;omega) (by simp;unfold qL at hle;exact hle) hcell;rw [List.length_map]at hrun;have⟨o1,o2,o3⟩:=zb7 w ⟨b,0,none⟩ l.length;refine .inl ⟨_,_,[o],.string ⟨((l.map C.toB).map fun x=>UInt8.ofNat x.toNat).toArray⟩,_,w.freeze ⟨b,0,none⟩ l.length,h,.inl ?_,kill _ o1 o2 o3 (zZS _ _ _) (fun b' _ hne=>zWY w _ _ b' fun e=>hne (by rw [e];exact hσ)) (fun b' off=>zXG w _ _ b' off), ?_⟩
       ·rw [Sem.run_bind,hrun];rfl
       ·have:uo C l=⟨((l.map C.toB).map fun x=>UInt8.ofNat x.toNat).toArray⟩:=by
         unfold uo;rw [List.map_map];rfl
        show qI C _ (.s (uo C l)) _;rw [this];exact .s _
   ·cases h
  ·rename_i ho
   cases hk:decide (k=0)
   ·rw [hk]at h;cases h
   ·rw [hk]at h
    have hk0:k=0:=by simpa using hk
    subst hk0;refine qU hR h ?_ (zUy _);rw [Sem.run_bind,Lib.run_unsafeString_none];rfl
  ·cases h
 ·cases h
end Go.Proofs.YtdoifigogbdodaaGreatDoor.Ev

namespace Go.Proofs.YtdoifigogbdodaaGreatDoor.Ev
open Go
variable {T:Nat→Type} {C:wB T} {P:Program} {σ:Lk} {H:List (zT T)} {w:World} {G:Nat→Option (List (V T))} {R:Type}
theorem zX7(hR:Rp C σ H w G){t:Nat}{x:AV T}{y:Value}(hx:zr C σ H w x y)
  {K:yZ T R} {Kp:AV T→List (zT T)→Option R} {r:R} (h:zOQ P t x H K=some r):
  Good P C G σ H w (((do pure (.value (←Instr.range t y)):Sem Next)).run P w) K Kp r:=by
 unfold zOQ at h;split at h
 ·rename_i s hu
  have:=zCw hx;subst this;have hst:=zEC hR (.j6 s 0) (.stringIter s 0) fun M=>⟨w.heap.size,wa _ _ _,vO w _⟩
  refine .inl ⟨_,_,[],.pointer (some ⟨w.heap.size,0,none⟩),_,_,h,.inl ?_,hst,zWd _⟩;simp [Instr.range,run_underlying hu]
 ·cases h
theorem zZk(hR:Rp C σ H w G){ty:Nat}{str:Bool}{x:AV T}{y:Value}(hx:zr C σ H w x y)
  {K:yZ T R} {Kp:AV T→List (zT T)→Option R} {r:R} (h:zVZ x str H K=some r):
  Good P C G σ H w (((do pure (.value (←Instr.next y str ty)):Sem Next)).run P w) K Kp r:=by
 unfold zVZ at h;split at h
 ·rename_i o
  split at h
  ·rename_i s pos ho
   obtain⟨h0,b,hb,rfl⟩:=hx;obtain⟨b',hb2,hblk⟩:=hR.obj o _ ho;rw [hb]at hb2;cases hb2;have hget:(getObj b).run P w= .ok (.stringIter s pos) w:=by
    show Sem.run P (.getObj b .pure) w=_;simp only [Sem.run,hblk]
   cases hlt:Nat.blt pos s.size
   ·rw [hlt]at h
    simp only [cond_false]at h;have hn:¬pos<s.size:=fun hh=>by
     have:Nat.blt pos s.size=true:=Nat.ble_eq_true_of_le hh;rw [hlt]at this;cases this
    refine qU hR h (v:= .tuple #[.bool false]) ?_ ⟨_,rfl,_,[],rfl,zSl _,rfl⟩;simp [Instr.next,hget,hn]
   ·rw [hlt]at h
    simp only [cond_true]at h;have hp:pos<s.size:=Nat.le_of_ble_eq_true hlt;have hblt:b<w.heap.size:=hR.lt o _ b ho rfl hb;let w':World:={w with heap:=w.heap.setIfInBounds b (.stringIter s (pos+(Utf8.decode s pos).2))}
    have um:(setObj b (.stringIter s (pos+(Utf8.decode s pos).2))).run P w= .ok () w':=by
     show Sem.run P (.setObj b _ (.pure ())) w=_;simp only [Sem.run,hblk];rfl
    have hother:∀k,k≠b→w'.heap[k]? =w.heap[k]? :=fun k hk=>by
     show(w.heap.setIfInBounds b _)[k]? =_;rw [Array.getElem?_setIfInBounds_ne (Ne.symm hk)]
    have hst:Step C G [] σ H w σ (H.set o (.j6 s (pos+(Utf8.decode s pos).2))) w':=by
     refine ug hR w' ho rfl rfl rfl rfl rfl (by show _ ≤(w.heap.setIfInBounds b _).size;simp) (fun k hk hne=>hother k (fun hkb=>hne (by rw [hkb];exact hb))) (fun _ _ =>trivial) (fun k off hk hnf=>(hnf trivial).elim) (fun n2 s2 hr=>by cases hr) (fun M=>⟨b,hb, ?_⟩);show(w.heap.setIfInBounds b _)[b]? =_;simp [hblt]
    refine .inl ⟨_,_,[],.tuple #[.bool true,.int .i64 pos,.int .i32 (Utf8.decode s pos).1],_,_,h,.inl ?_,hst,⟨_,rfl,_,_,rfl,zSl _,_,_,rfl,zAf _ _,_,[],rfl,zAf _ _,rfl⟩⟩;simp [Instr.next,hget,hp,um,goInt]
  ·cases h
 ·cases h
theorem pY(hR:Rp C σ H w G){mx:Bool}{args:List (AV T)}{vs:Array Value}(ha:yW C σ H w args vs.toList){at_ :Array Nat}{ty:Nat}
  {K:yZ T R} {r:R} (h:uZ mx args H K=some r):
  (mx=false→kX C σ H w (((do pure (.value (←Builtin.min_ at_ ty vs)):Sem Next)).run P w) K r)∧(mx=true→kX C σ H w (((do pure (.value (←Builtin.max_ at_ ty vs)):Sem Next)).run P w) K r):=by
 unfold uZ at h;split at h
 ·rename_i k a k' b
  obtain⟨y,ys,h1,h2,y',ys',h3,h4,h5⟩:=ha;have h5':ys'=[]:=h5;have h6:=jc h2;have h7:=jc h4;subst h5';subst h3;subst h6;subst h7;obtain⟨vs⟩:=vs;simp only at h1;subst h1;refine⟨fun e=> ?_,fun e=> ?_⟩
  ·subst e
   simp only [cond_false]at h;exact yY h (by simp [Builtin.min_,Builtin.min2]) (zAf _ _)
  ·subst e
   simp only [cond_true]at h;exact yY h (by simp [Builtin.max_,Builtin.max2]) (zAf _ _)
 ·cases h
theorem zU1(hC:yj C)(hR:Rp C σ H w G){b:Builtin}{at_ :Array Nat}{args:List (AV T)}{vs:Array Value}(ha:yW C σ H w args vs.toList){ty:Nat}{cs:Array Bool}
  {K:yZ T R} {Kp:AV T→List (zT T)→Option R} {r:R} (h:vT C P b ty at_ args H K=some r):
  Good P C G σ H w ((builtin b at_ ty cs vs).run P w) K Kp r:=by
 have hget:∀(i:Nat) (x:Value),vs.toList[i]? =some x→vs[i]? =some x:=fun i x hx=>by simpa using hx
 have hgett:∀(i:Nat) (x:Nat),at_.toList[i]? =some x→at_[i]? =some x:=fun i x hx=>by simpa using hx
 unfold vT at h;split at h
 ·rename_i t ts a as hat
  obtain⟨y,ys,h1,h2,_⟩:=ha;exact(zVc (ts:=ts) hR h2 (hget 0 y (by rw [h1];rfl)) (hgett 0 t (by rw [hat];rfl)) h).zSm hR
 ·rename_i t t2 a x hat
  obtain⟨y,ys,h1,h2,u,us,h3,h4,h5⟩:=ha;subst h3;have h5':us=[]:=h5;subst h5';have e1:at_ = #[t,t2]:=Array.ext' hat;have e2:vs= #[y,u]:=Array.ext' h1;subst e1;subst e2;exact zWw hC hR h2 h4 h
 ·rename_i t ts a x as hat
  obtain⟨y,ys,h1,h2,u,us,h3,h4,h5⟩:=ha;subst h3;exact zZ5 (xt:=0) hC hR h2 h4 (hgett 0 t (by rw [hat];rfl)) (hget 0 y (by rw [h1];rfl)) (hget 1 u (by rw [h1];rfl)) h
 ·exact((pY hR ha h).1 rfl).zSm hR
 ·exact((pY hR ha h).2 rfl).zSm hR
 ·rename_i x
  obtain⟨y,ys,h1,h2,h3⟩:=ha;have h3':ys=[]:=h3;subst h3';have e2:vs= #[y]:=Array.ext' h1;subst e2;exact zRj hC hR h2 h
 ·rename_i pt it x n hat
  obtain⟨y,ys,h1,h2,u,us,h3,h4,h5⟩:=ha;subst h3;have h5':us=[]:=h5;subst h5';have e1:at_ = #[pt,it]:=Array.ext' hat;have e2:vs= #[y,u]:=Array.ext' h1;subst e1;subst e2;exact zVD hC hR h2 h4 h
 ·cases h
theorem zVz{env:Env T}{a:Act}(h:zHf C σ H w env a):∀(l:List (Nat×Operand)),zXi C σ H w (l.map fun p=>(p.1,w8 env p.2)) (l.map fun p=>(p.1,a.eval p.2))
 |[]=> .nil
 |(i,x)::l=> .cons (z7 h x) (zVz h l)
theorem zKI{env:Env T}{a:Act}(h:zHf C σ H w env a)(l:Array (Nat×Operand)):zXi C σ H w (l.toList.map fun p=>(p.1,w8 env p.2)) (l.map fun p=>(p.1,a.eval p.2)).toList:=by
 rw [Array.toList_map];exact zVz h _
theorem kW{x:Sem Value}{v:Value}{w w':World}(h:x.run P w= .ok v w'):((do pure (.value (←x)):Sem Next)).run P w= .ok (.value v) w':=by
 rw [Sem.run_bind,h];rfl
theorem zVs(hC:yj C)(hR:Rp C σ H w G){o:Oper}{env:Env T}{a:Act}(he:zHf C σ H w env a){K:yZ T R}{Kp:AV T→List (zT T)→Option R}{r:R}
  (h:vV C P G o env H K Kp=some r):Good P C G σ H w ((execOp a.eval o).run P w) K Kp r:=by
 unfold vV at h;unfold execOp;cases hop:o.op<;>rw [hop]at h<;>simp only at h⊢
 case move x=>exact qU hR h rfl (z7 he x)
 case assign x=>exact qU hR h rfl (z7 he x)
 case pick c x y=>
  split at h
  ·rename_i b hb
   have hc:=z7 he c;rw [hb]at hc;have hcv:=zEt hc;cases b
   ·simp only [cond_false]at h
    exact qU hR h (by simp [asBool,hcv]) (z7 he y)
   ·simp only [cond_true]at h
    exact qU hR h (by simp [asBool,hcv]) (z7 he x)
  ·cases h
 case alloc e=>exact zXl hR h
 case box e x=>exact zbs hR (z7 he x) h
 case build t parts=>
  exact(zQY hR (zKI he parts) h).zSm hR
 case buildSlice t n parts=>
  exact zOd hC hR (zKI he parts) h
 case load t x=>exact(zS2 hR (z7 he x) (by rw [←zCx];exact h)).zSm hR
 case store t x y=>exact zZL hC hR (z7 he x) (z7 he y) h
 case nilCheck x=>
  rcases zEw hR (z7 he x) h with⟨⟨p,hp⟩,hK⟩|⟨⟨f,u,v,hp⟩,hK⟩
  ·exact qU hR hK (v:=a.eval x) (by rw [hp];rfl) (z7 he x)
  ·exact qU hR hK (v:=a.eval x) (by rw [hp];rfl) (z7 he x)
 case binOp op t x y yt=>
  obtain⟨z,v,h1,h2,h3⟩:=zV3 hR (z7 he x) (z7 he y) h;exact qU hR h1 (kW h2) h3
 case unOp op t x=>
  obtain⟨z,v,h1,h2,h3⟩:=zfM (P:=P) (z7 he x) h;exact qU hR h1 (kW h2) h3
 case convert s d x=>exact zZp hC hR (z7 he x) h
 case makeInterface t x=>
  split at h
  ·cases h
  ·rename_i d hd hu
   refine qU hR h (kW (v:= .iface t (a.eval x)) ?_) ⟨_,rfl,z7 he x⟩;simp only [Instr.makeInterface,Sem.run_bind,run_underlying hu,Result.andThen_ok];cases d<;>first|rfl|(exact(hd _ rfl).elim)
  ·cases h
 case makeFunc f first cap=>
  refine qU hR h rfl ⟨first.map a.eval,cap.map a.eval,rfl, ?_, ?_⟩
  ·rw [Array.toList_map];exact vN he _
  ·rw [Array.toList_map];exact vN he _
 case makeSlice t l c=>exact zQ5 hC hR (z7 he l) (z7 he c) h
 case slice t x lo hi mx=>
  have opt:∀(z:Option Operand),(∀q,z.map (w8 env)=some q→∃v,z.map a.eval=some v∧zr C σ H w q v)∧(z.map (w8 env)=none→z.map a.eval=none):=fun z=>by
   cases z with
   |none=>exact⟨fun q hq=>(by cases hq),fun _ =>rfl⟩
   |some z=>exact⟨fun q hq=>(by cases hq;exact⟨_,rfl,z7 he z⟩),fun hq=>(by cases hq)⟩
  exact zZC hC hR (z7 he x) (opt lo).1 (opt lo).2 (opt hi).1 (opt hi).2 (opt mx).1 (opt mx).2 h
 case fieldAddr s x f=>exact(zEO hR (z7 he x) h).zSm hR
 case field s x f=>exact(zQU hR (z7 he x) h).zSm hR
 case indexAddr t x i=>exact(zEL hR (z7 he x) (z7 he i) h).zSm hR
 case index t x i=>exact(zQi hR (z7 he x) (z7 he i) h).zSm hR
 case range t x=>exact zX7 hR (z7 he x) h
 case next it s=>exact zZk hR (z7 he it) h
 case typeAssert x xt as ok=>exact(zNe hR (z7 he x) h).zSm hR
 case extract t i=>
  split at h
  ·rename_i l hl
   have ht:=z7 he t;rw [hl]at ht;obtain⟨vs,hv,h1⟩:=ht;split at h
   ·rename_i x hx
    obtain⟨y,h2,h3⟩:=h1.get i x hx;refine qU hR h (kW (v:=y) ?_) h3;have:vs[i]? =some y:=by simpa using h2
    rw [hv];simp [Instr.extract,this]
   ·cases h
  ·cases h
 case call c=>
  obtain⟨callee,args,at_⟩:=c;cases callee with
  |builtin b=>
   simp only at h;simp only [resolve,Sem.run_bind,Sem.run_pure,Result.andThen_ok,invoke];exact zU1 hC hR (by rw [Array.toList_map];exact vN he _) h
  |value f=>cases h
  |invoke r m=>cases h
 case panic x=>
  split at h
  ·rename_i t y hx
   have hv:=z7 he x;rw [hx]at hv;have hv':=hv;obtain⟨z,hz,_⟩:=hv';refine .inr ⟨_,_,a.eval x,σ,w,h, ?_,Step.refl hR,hv⟩;rw [hz];rfl
  ·cases h
 all_goals (cases h)
end Go.Proofs.YtdoifigogbdodaaGreatDoor.Ev

namespace Go.Proofs.YtdoifigogbdodaaGreatDoor.Ev
open Go
variable {T:Nat→Type} {C:wB T} {P:Program} {σ:Lk} {H:List (zT T)} {w:World} {G:Nat→Option (List (V T))} {R:Type}
mutual
def ren(f:Nat→Nat):AV T→AV T
 | .ptr o k=> .ptr (f o) k
 | .wu o i k=> .wu (f o) i k
 | .own o=> .own (f o)
 | .sp o=> .sp (f o)
 | .yB o k n c=> .yB (f o) k n c
 | .agg l=> .agg (zSG f l)
 | .qu l=> .qu (zSG f l)
 | .fn g a b=> .fn g (zSG f a) (zSG f b)
 | .q9 t x=> .q9 t (ren f x)
 | .any=> .any
 | .v x=> .v x
 | .wU t x k=> .wU t x k
 | .vA g k=> .vA g k
 | .qG=> .qG
 | .z0=> .z0
def zSG(f:Nat→Nat):List (AV T)→List (AV T)
 |[]=>[]
 |x::l=>ren f x::zSG f l
end
def zJ7(f:Nat→Nat):zT T→zT T
 | .cells e g l=> .cells e g (zSG f l)
 |x=>x
mutual
def within(S:List Nat):AV T→Bool
 | .ptr o _ =>S.elem o
 | .wu o _ _ =>S.elem o
 | .own o=>S.elem o
 | .sp o=>S.elem o
 | .yB o _ _ _ =>S.elem o
 | .agg l=>wS S l
 | .qu l=>wS S l
 | .fn _ a b=>wS S a&&wS S b
 | .q9 _ x=>within S x
 | .any| .v _ | .wU _ _ _ | .vA _ _ | .qG| .z0=>true
def wS(S:List Nat):List (AV T)→Bool
 |[]=>true
 |x::l=>within S x&&wS S l
end
def zSd(S:List Nat):zT T→Bool
 | .cells _ _ l=>wS S l
 |_ =>true
mutual
def refs:AV T→List Nat
 | .ptr o _ =>[o]
 | .wu o _ _ =>[o]
 | .own o=>[o]
 | .sp o=>[o]
 | .yB o _ _ _ =>[o]
 | .agg l=>qH l
 | .qu l=>qH l
 | .fn _ a b=>qH a++qH b
 | .q9 _ x=>refs x
 | .any| .v _ | .wU _ _ _ | .vA _ _ | .qG| .z0=>[]
def qH:List (AV T)→List Nat
 |[]=>[]
 |x::l=>refs x++qH l
end
structure Rn(C:wB T)(f:Nat→Nat)(D:Nat→Prop)(σ:Lk)(H:List (zT T))(w:World)(σ':Lk)(H':List (zT T))(w':World):Prop where
 cell:∀b off x,Cell C σ H w b off x→Cell C σ' H' w' b off x
 lt:∀o,D o→o<H.length→f o<H'.length
 sig:∀o,D o→o<H.length→σ' (f o)=σ o
 row:∀o,D o→o<H.length→∀n s,svH C H' (f o)=some (n,s)→svH C H o=some (n,s)
 heap:∀o,D o→∀b,σ o=some b→∀cs e fz,w.heap[b]? =some (.cells cs e fz)→∃cs' e' fz',w'.heap[b]? =some (.cells cs' e' fz')∧cs'.size=cs.size
mutual
def Names(D:Nat→Prop):AV T→Prop
 | .ptr o _ =>D o
 | .wu o _ _ =>D o
 | .own o=>D o
 | .sp o=>D o
 | .yB o _ _ _ =>D o
 | .agg l=>p8 D l
 | .qu l=>p8 D l
 | .fn _ a b=>p8 D a∧p8 D b
 | .q9 _ x=>Names D x
 | .any| .v _ | .wU _ _ _ | .vA _ _ | .qG| .z0=>True
def p8(D:Nat→Prop):List (AV T)→Prop
 |[]=>True
 |x::l=>Names D x∧p8 D l
end
mutual
theorem zDS(S:List Nat):∀(x:AV T),within S x=true→Names (· ∈S) x
 | .ptr o _,h=>by
  show o∈S;have h':S.elem o=true:=h
  simpa using h'
 | .wu o _ _,h=>by
  show o∈S;have h':S.elem o=true:=h
  simpa using h'
 | .own o,h=>by
  show o∈S;have h':S.elem o=true:=h
  simpa using h'
 | .sp o,h=>by
  show o∈S;have h':S.elem o=true:=h
  simpa using h'
 | .yB o _ _ _,h=>by
  show o∈S;have h':S.elem o=true:=h
  simpa using h'
 | .agg l,h=>qq S l h
 | .qu l,h=>qq S l h
 | .fn _ a b,h=>by
  have h':(wS S a&&wS S b)=true:=h;rw [Bool.and_eq_true]at h';exact⟨qq S a h'.1,qq S b h'.2⟩
 | .q9 _ x,h=>zDS S x h
 | .any,_ | .v _,_ | .wU _ _ _,_ | .vA _ _,_ | .qG,_ | .z0,_ =>trivial
theorem qq(S:List Nat):∀(l:List (AV T)),wS S l=true→p8 (· ∈S) l
 |[],_ =>trivial
 |x::l,h=>by
  have h':(within S x&&wS S l)=true:=h;rw [Bool.and_eq_true]at h';exact⟨zDS S x h'.1,qq S l h'.2⟩
end
mutual
theorem zPj{D:Nat→Prop}(h:∀o,D o):∀(x:AV T),Names D x
 | .ptr o _ | .wu o _ _ | .own o| .sp o| .yB o _ _ _ =>h o
 | .agg l=>gh h l
 | .qu l=>gh h l
 | .fn _ a b=>⟨gh h a,gh h b⟩
 | .q9 _ x=>zPj h x
 | .any| .v _ | .wU _ _ _ | .vA _ _ | .qG| .z0=>trivial
theorem gh{D:Nat→Prop}(h:∀o,D o):∀(l:List (AV T)),p8 D l
 |[]=>trivial
 |x::l=>⟨zPj h x,gh h l⟩
end
section
variable {f:Nat→Nat} {D:Nat→Prop} {σ':Lk} {H':List (zT T)} {w':World}
mutual
theorem zr.ren(M:Rn C f D σ H w σ' H' w'):∀(x:AV T) (y:Value),Names D x→zr C σ H w x y→zr C σ' H' w' (ren f x) y
 | .any,_,_,_ =>trivial
 | .v _,_,_,h=>h.mono M.cell
 | .agg l,_,hn,⟨vs,h1,h2⟩=>⟨vs,h1,yW.ren M l _ hn h2⟩
 | .qu l,_,hn,⟨vs,h1,h2⟩=>⟨vs,h1,yW.ren M l _ hn h2⟩
 | .ptr o off,y,hn,⟨h0,b,h1,h2⟩=>⟨M.lt o hn h0,b,(M.sig o hn h0).trans h1,h2⟩
 | .wu o i off,y,hn,⟨h0,hp,b,h1,h2⟩=>⟨M.lt o hn h0,hp,b,(M.sig o hn h0).trans h1,fun n s h=>h2 n s (M.row o hn h0 n s h)⟩
 | .wU t x off,_,_,⟨b,k,h1,h2⟩=>⟨b,k,h1,h2.mono M.cell⟩
 | .vA _ _,_,_,h=>h
 | .own o,y,hn,⟨h0,hp,h⟩=>⟨M.lt o hn h0,hp,fun n s hr=>by
   rcases h n s (M.row o hn h0 n s hr)with⟨h6,h7⟩|⟨b,c,cs,e,fz,h6,h7,h8,h9⟩
   ·exact .inl ⟨(M.sig o hn h0).trans h6,h7⟩
   ·obtain⟨cs',e',fz',h10,h11⟩:=M.heap o hn b h6 cs e fz h8
    exact .inr ⟨b,c,cs',e',fz',(M.sig o hn h0).trans h6,h7,h10,h11.trans h9⟩⟩
 | .sp o,y,hn,⟨h0,hp,h⟩=>⟨M.lt o hn h0,hp,fun n s hr h1=>by
   obtain⟨b,h2,h3⟩:=h n s (M.row o hn h0 n s hr) h1;exact⟨b,(M.sig o hn h0).trans h2,h3⟩⟩
 | .yB o off n c,y,hn,⟨h0,b,h1,h2⟩=>⟨M.lt o hn h0,b,(M.sig o hn h0).trans h1,h2⟩
 | .qG,_,_,h=>h
 | .z0,_,_,h=>h
 | .fn g a b,_,hn,⟨x,y,h1,h2,h3⟩=>⟨x,y,h1,yW.ren M a _ hn.1 h2,yW.ren M b _ hn.2 h3⟩
 | .q9 t x,_,hn,⟨z,h1,h2⟩=>⟨z,h1,zr.ren M x z hn h2⟩
theorem yW.ren(M:Rn C f D σ H w σ' H' w'):∀(l:List (AV T)) (ys:List Value),p8 D l→yW C σ H w l ys→yW C σ' H' w' (zSG f l) ys
 |[],_,_,h=>h
 |x::l,_,hn,⟨y,ys',h1,h2,h3⟩=>⟨y,ys',h1,zr.ren M x y hn.1 h2,yW.ren M l ys' hn.2 h3⟩
end
theorem qk(o:zT T):live (zJ7 f o)=live o:=by cases o<;>rfl
theorem xJ(o:zT T):vr (zJ7 f o)=vr o:=by
 cases o with
 |cells e g l=>cases g<;>rfl
 |_ =>rfl
theorem zWy(o:zT T):∀n s,svO C (zJ7 f o)=some (n,s)→svO C o=some (n,s):=by
 intro n s h;cases o with
 |cells e g l=>cases h
 |row t l m=>exact h
 |j6=>cases h
 |dead=>cases h
theorem po(o:zT T)(off:Nat):zER C (zJ7 f o) off↔zER C o off:=by cases o<;>exact Iff.rfl
def zkF(D:Nat→Prop):zT T→Prop
 | .cells _ _ l=>p8 D l
 |_ =>True
theorem dq.ren(M:Rn C f D σ H w σ' H' w'){j:Nat}{o:zT T}(hn:zkF D o)(hs:σ' (f j)=σ j)(hb:∀b,σ j=some b→w'.heap[b]? =w.heap[b]?)
  (h:dq C σ H w j o):dq C σ' H' w' (f j) (zJ7 f o):=by
 cases o with
 |cells e g l=>
  cases g with
  |none=>
   obtain⟨b,cs,h1,h2,h4⟩:=h;exact⟨b,cs,hs.trans h1,(hb b h1).trans h2,h4.ren M _ _ hn⟩
  |some s=>
   obtain⟨b,cs,ys,rest,h1,h2,h3,h4⟩:=h;exact⟨b,cs,ys,rest,hs.trans h1,(hb b h1).trans h2,h3,h4.ren M _ _ hn⟩
 |row t l m=>
  rcases h with⟨h1,h2⟩|⟨b,cs,fz,cap,h1,h2,h3,h4,h5,h6⟩
  ·exact .inl ⟨h1,hs.trans h2⟩
  ·refine .inr ⟨b,cs,fz,cap,hs.trans h1,(hb b h1).trans h2,h3,h4,h5,fun j hj k v hv=> ?_⟩
   obtain⟨y,h7,h8⟩:=h6 j hj k v hv;exact⟨y,h7,h8.mono M.cell⟩
 |j6 s pos=>
  obtain⟨b,h1,h2⟩:=h;exact⟨b,hs.trans h1,(hb b h1).trans h2⟩
 |dead=>trivial
end
inductive Out(T:Nat→Type):Type
 |ret (x:AV T) (H:List (zT T))
 |panic (p:AV T) (H:List (zT T))
def zCq(S:List Nat)(H:List (zT T)):List (zT T):=S.map fun o=>zJ7 S.idxOf (H.getD o .dead)
def back(S:List Nat)(n:Nat)(i:Nat):Nat:=if i<S.length then S.getD i 0 else n+(i-S.length)
def merge(S rows:List Nat)(H H2:List (zT T)):List (zT T):=
 ((List.range H.length).map fun i=>if S.elem i then zJ7 (back S H.length) (H2.getD (S.idxOf i) .dead)else wI rows (H.getD i .dead))++(H2.drop S.length).map (zJ7 (back S H.length))
def rowsOf(S:List Nat)(H:List (zT T)):List Nat:=S.filter fun o=>match H[o]? with|some x=>vr x|none=>false
def jU(S:List Nat)(H:List (zT T)):Bool:=S.all fun o=>Nat.blt o H.length&&match H[o]? with|some x=>zSd S x|none=>false
def zD8:List Nat→Bool
 |[]=>true
 |x::l=> !l.elem x&&zD8 l
def zRF(C:wB T)(S:List Nat)(H:List (zT T))(σ:Lk):Lk:=
 {f:=fun i=>(S[i]?).bind σ.f,F:=fun b off=>σ.F b off∨∃i o,i∉S∧H[i]? =some o∧σ i=some b∧zER C o off}
section
variable {S:List Nat}
theorem zYA(h:zD8 S=true):S.Nodup:=by
 induction S with
 |nil=>exact List.nodup_nil
 |cons x l ih=>
  simp only [zD8,Bool.and_eq_true,Bool.not_eq_true']at h;exact List.nodup_cons.2 ⟨by simpa using h.1,ih h.2⟩
theorem zAM{i:Nat}{x:zT T}(h:(zCq S H)[i]? =some x):∃o,S[i]? =some o∧x=zJ7 S.idxOf (H.getD o .dead):=by
 unfold zCq at h;rw [List.getElem?_map]at h;cases hi:S[i]? with
 |none=>rw [hi]at h;cases h
 |some o=>rw [hi]at h;exact⟨o,rfl,by simpa using h.symm⟩
theorem gC(hn:S.Nodup){i o:Nat}(h:S[i]? =some o):S.idxOf o=i:=by
 obtain⟨hi,ho⟩:=List.getElem?_eq_some_iff.1 h;rw [←ho];exact hn.idxOf_getElem i hi
theorem zDY{o:Nat}(h:o∈S):S[S.idxOf o]? =some o:=by
 have:=List.idxOf_lt_length_of_mem h;rw [List.getElem?_eq_getElem this,List.getElem_idxOf]
theorem getD_some{i:Nat}{x:zT T}(h:H[i]? =some x):H.getD i .dead=x:=by
 rw [List.getD_eq_getElem?_getD,h];rfl
theorem zAE(hc:jU S H=true){o:Nat}(ho:o∈S):∃x,H[o]? =some x∧zSd S x=true:=by
 unfold jU at hc;have:=List.all_eq_true.1 hc o ho;simp only [Bool.and_eq_true]at this;cases hx:H[o]? with
 |none=>rw [hx]at this;simp at this
 |some x=>rw [hx]at this;exact⟨x,rfl,this.2⟩
theorem zV4{o:zT T}{off:Nat}(h:zER C o off):live o=true:=by cases o<;>first|rfl|exact h.elim
theorem zh7(hn:S.Nodup)(hR:Rp C σ H w G):Rn C S.idxOf (· ∈S) σ H w (zRF C S H σ) (zCq S H) w:=by
 refine⟨fun b off x ⟨h1,h2⟩=>⟨⟨?_,fun i o hi hs=> ?_⟩,h2⟩,fun o ho _ => ?_,fun o ho _ => ?_,fun o ho hlt n s h=> ?_,fun o _ b _ cs e fz h=>⟨cs,e,fz,h,rfl⟩⟩
 ·rintro(h|⟨i,o,_,k1,k2,k3⟩)
  ·exact h1.1 h
  ·exact h1.2 i o k1 k2 k3
 ·obtain⟨q,hq,rfl⟩:=zAM hi
  rw [po];have hs':σ q=some b:=by simpa [zRF,hq] using hs
  cases hx:H[q]? with
  |none=>rw [List.getD_eq_getElem?_getD,hx];exact fun h=>h
  |some x=>rw [getD_some hx];exact h1.2 q x hx hs'
 ·show S.idxOf o<(S.map _).length
  rw [List.length_map];exact List.idxOf_lt_length_of_mem ho
 ·simp [zRF,zDY ho]
 ·obtain⟨x,hx0,hxs⟩:=zMO h
  obtain⟨q,hq,hx⟩:=zAM hx0;rw [zDY ho]at hq;cases hq;subst hx;have hr:=zWy _ n s hxs;rw [List.getD_eq_getElem?_getD,List.getElem?_eq_getElem hlt]at hr;exact zWp (List.getElem?_eq_getElem hlt) (by simpa using hr)
theorem zj1(hn:S.Nodup)(hc:jU S H=true)(hR:Rp C σ H w G):Rp C (zRF C S H σ) (zCq S H) w G:=by
 have hM:=zh7 (C:=C) hn hR;have key:∀{i:Nat} {x:zT T},(zCq S H)[i]? =some x→∃o z,S[i]? =some o∧H[o]? =some z∧x=zJ7 S.idxOf z∧zSd S z=true∧zRF C S H σ i=σ o:=by
  intro i x h;obtain⟨o,ho,rfl⟩:=zAM h;obtain⟨z,hz,hw⟩:=zAE hc (List.mem_of_getElem? ho);exact⟨o,z,ho,hz,by rw [getD_some hz],hw,by simp [zRF,ho]⟩
 refine⟨fun i j oi oj b hi hj hli hlj hsi hsj=> ?_,fun i o b hi hl hs=> ?_,fun i o hi=> ?_,fun g l hg=>(hR.zDJ g l hg).mono hM.cell,fun i o b hi hl hs off hF=> ?_,fun b off hF=> ?_⟩
 ·obtain⟨p,z,h1,h2,rfl,_,h3⟩:=key hi
  obtain⟨q,z',k1,k2,rfl,_,k3⟩:=key hj;rw [qk]at hli hlj;have:=hR.inj p q z z' b h2 k2 hli hlj (h3▸hsi) (k3▸hsj);subst this;rw [←gC hn h1,←gC hn k1]
 ·obtain⟨p,z,h1,h2,rfl,_,h3⟩:=key hi
  rw [qk]at hl;exact hR.lt p z b h2 hl (h3▸hs)
 ·obtain⟨p,z,h1,h2,rfl,hw,h3⟩:=key hi
  have:=dq.ren hM (j:=p) (o:=z) (by cases z<;>first|trivial|exact qq S _ hw) (by rw [gC hn h1];exact h3) (fun _ _ =>rfl) (hR.obj p z h2)
  rwa [gC hn h1]at this
 ·obtain⟨p,z,h1,h2,rfl,hw,h3⟩:=key hi
  rw [qk]at hl;rcases hF with hF|⟨q,o,k0,k1,k2,k3⟩
  ·exact hR.free p z b h2 hl (h3▸hs) off hF
  ·have:=hR.inj q p o z b k1 h2 (zV4 k3) hl k2 (h3▸hs)
   subst this;exact k0 (List.mem_of_getElem? h1)
 ·rcases hF with hF|⟨q,o,k0,k1,k2,k3⟩
  ·exact hR.fb b off hF
  ·exact hR.lt q o b k1 (zV4 k3) k2
def ks(S:List Nat)(n:Nat)(σ σ2:Lk):Lk:={σ with f:=fun i=>if i<n then(if i∈S then σ2 (S.idxOf i)else σ i)else σ2 (S.length+(i-n))}
theorem zMf(rows:List Nat)(H2:List (zT T))(h:S.length≤H2.length):(merge S rows H H2).length=H.length+(H2.length-S.length):=by
 simp [merge]
theorem zb3{rows:List Nat}{H2:List (zT T)}(hlt:∀o∈S,o<H.length)(hl:S.length≤H2.length){σ σ2:Lk}{i:Nat}{x:zT T}(h:(merge S rows H H2)[i]? =some x):
  (∃j z,H2[j]? =some z∧x=zJ7 (back S H.length) z∧ks S H.length σ σ2 i=σ2 j∧back S H.length j=i∧((S[j]? =some i∧i<H.length)∨(S.length≤j∧H.length≤i)))∨
  (i∉S∧∃z,H[i]? =some z∧x=wI rows z∧ks S H.length σ σ2 i=σ i):=by
 unfold merge at h;by_cases hi:i<H.length
 ·rw [List.getElem?_append_left (by simpa using hi),List.getElem?_map,List.getElem?_range hi]at h
  simp only [Option.map_some,Option.some.injEq]at h;by_cases hS:i∈S
  ·rw [if_pos (by simpa using hS)]at h
   have hj:=List.idxOf_lt_length_of_mem hS;refine .inl ⟨S.idxOf i,H2[S.idxOf i]'(by omega),List.getElem?_eq_getElem (by omega), ?_,by simp [ks,hi,hS], ?_,.inl ⟨zDY hS,hi⟩⟩
   ·rw [←h,List.getD_eq_getElem?_getD,List.getElem?_eq_getElem (by omega:S.idxOf i<H2.length)];rfl
   ·rw [back,if_pos hj,List.getD_eq_getElem?_getD,zDY hS];rfl
  ·rw [if_neg (by simpa using hS)]at h
   refine .inr ⟨hS,H[i],List.getElem?_eq_getElem hi, ?_,by simp [ks,hi,hS]⟩;rw [←h,List.getD_eq_getElem?_getD,List.getElem?_eq_getElem hi];rfl
 ·rw [List.getElem?_append_right (by simpa using Nat.le_of_not_lt hi),List.getElem?_map,List.getElem?_drop,List.length_map,List.length_range]at h
  cases hz:H2[S.length+(i-H.length)]? with
  |none=>rw [hz]at h;cases h
  |some z=>
   rw [hz]at h;refine .inl ⟨_,z,hz,by simpa using h.symm,by simp [ks,hi], ?_,.inr ⟨by omega,by omega⟩⟩;rw [back,if_neg (by omega)];omega
theorem zV2{rows:List Nat}(hn:S.Nodup)(hc:jU S H=true)(hrows:rows=rowsOf S H)(hR:Rp C σ H w G){σ2:Lk}{H2:List (zT T)}{w':World}
  (hA:Anc C (zRF C S H σ) (zCq S H) w σ2 H2 w') (hR2:Rp C σ2 H2 w' G):
  Step C G rows σ H w (ks S H.length σ σ2) (merge S rows H H2) w'∧∀(x:AV T) (y:Value),zr C σ2 H2 w' x y→zr C (ks S H.length σ σ2) (merge S rows H H2) w' (ren (back S H.length) x) y:=by
 have hlt:∀o∈S,o<H.length:=fun o ho=>by
  obtain⟨x,hx,_⟩:=zAE hc ho;exact(List.getElem?_eq_some_iff.1 hx).1
 have hl:S.length≤H2.length:=by have:=hA.len;simpa [zCq] using this
 have hget:=fun{i:Nat} {x:zT T} (h:(merge S rows H H2)[i]? =some x)=>zb3 (σ:=σ) (σ2:=σ2) hlt hl h
 have hsub:∀{j o:Nat},S[j]? =some o→∃z,H[o]? =some z∧(zCq S H)[j]? =some (zJ7 S.idxOf z)∧zRF C S H σ j=σ o:=by
  intro j o hj;obtain⟨z,hz,_⟩:=zAE hc (List.mem_of_getElem? hj);refine⟨z,hz, ?_,by simp [zRF,hj]⟩;unfold zCq;rw [List.getElem?_map,hj,Option.map_some,getD_some hz]
 have hsubget:∀{j:Nat} {x:zT T},(zCq S H)[j]? =some x→∃o z,S[j]? =some o∧H[o]? =some z∧x=zJ7 S.idxOf z∧zRF C S H σ j=σ o:=by
  intro j x h;obtain⟨o,ho,rfl⟩:=zAM h;obtain⟨z,hz,hw⟩:=zAE hc (List.mem_of_getElem? ho);exact⟨o,z,ho,hz,by rw [getD_some hz],by simp [zRF,ho]⟩
 have hokc1:∀b off,Okc C σ H b off→Okc C (zRF C S H σ) (zCq S H) b off:=by
  intro b off ho;refine⟨?_,fun j x hj hs=> ?_⟩
  ·rintro(h|⟨i,o,_,k1,k2,k3⟩)
   ·exact ho.1 h
   ·exact ho.2 i o k1 k2 k3
  ·obtain⟨o,z,h1,h2,rfl,h3⟩:=hsubget hj
   rw [po];exact ho.2 o z h2 (h3▸hs)
 have hsame:∀b off,b<w.heap.size→Okc C σ H b off→w'.cell? ⟨b,off,none⟩=w.cell? ⟨b,off,none⟩:=fun b off hb ho=>hA.same b off hb (hokc1 b off ho)
 have hokc:∀b off,b<w.heap.size→Okc C σ H b off→Okc C (ks S H.length σ σ2) (merge S rows H H2) b off:=by
  intro b off hb ho;refine⟨ho.1,fun i x hi hs=> ?_⟩;rcases hget hi with⟨j,z,h1,rfl,h3,_⟩|⟨_,z,h2,rfl,h3⟩
  ·rw [po];exact(hA.wP b off hb (hokc1 b off ho)).2 j z h1 (h3▸hs)
  ·rw [zBP];exact ho.2 i z h2 (h3▸hs)
 have hcell:∀b off x,Cell C σ H w b off x→Cell C (ks S H.length σ σ2) (merge S rows H H2) w' b off x:=fun b off x ⟨h1,h2⟩=>
  ⟨hokc b off (uW h2) h1,(hsame b off (uW h2) h1).trans h2⟩
 have hother:∀{i:Nat} {z:zT T} {b:Nat},i∉S→H[i]? =some z→live z=true→σ i=some b→w'.heap[b]? =w.heap[b]? :=by
  intro i z b hS hz hlz hb;refine hA.block b (hR.lt i z b hz hlz hb) fun j x hj hlx hs=> ?_
  obtain⟨o,z',h1,h2,rfl,h3⟩:=hsubget hj;rw [qk]at hlx;have:=hR.inj i o z z' b hz h2 hlz hlx hb (h3▸hs);exact hS (this▸List.mem_of_getElem? h1)
 have hcross:∀{i j:Nat} {z z2:zT T} {b:Nat},i∉S→H[i]? =some z→live z=true→σ i=some b→H2[j]? =some z2→live z2=true→σ2 j=some b→False:=by
  intro i j z z2 b hS hz hlz hb hj hl2 hs;rcases hA.fresh j z2 b hj hl2 hs with⟨x,h1,h2,h3⟩|h1
  ·obtain⟨o,z',k1,k2,rfl,k3⟩:=hsubget h1
   rw [qk]at h2;have:=hR.inj i o z z' b hz k2 hlz h2 hb (k3▸h3);exact hS (this▸List.mem_of_getElem? k1)
  ·have:=hR.lt i z b hz hlz hb;omega
 have hrowmem:∀{o:Nat} {x:zT T},o∈S→H[o]? =some x→vr x=true→o∈rows:=by
  intro o x ho hr hx;rw [hrows];unfold rowsOf;rw [List.mem_filter];exact⟨ho,by rw [hr];exact hx⟩
 have hrowsS:∀o∈rows,o∈S:=fun o ho=>by rw [hrows]at ho;exact(List.mem_filter.1 ho).1
 have hlen:H.length≤(merge S rows H H2).length:=by rw [zMf rows H2 hl];omega
 have hsigS:∀{o:Nat} {z:zT T},o∈S→H[o]? =some z→vr z=false→ks S H.length σ σ2 o=σ o:=by
  intro o z ho hz hr;obtain⟨z',h1,h2,h3⟩:=hsub (zDY ho);rw [hz]at h1;cases h1;have:=hA.sig _ _ h2 (by rw [xJ];exact hr);simp [ks,hlt o ho,ho,this,h3]
 have hM:Move C rows σ H w (ks S H.length σ σ2) (merge S rows H H2) w':=by
  refine⟨hcell,hlen,fun o ho hro=> ?_,fun o ho hro n s h=> ?_⟩
  ·by_cases hS:o∈S
   ·refine hsigS hS (List.getElem?_eq_getElem ho) ?_
    cases hz:vr H[o]
    ·rfl
    ·exact(hro (hrowmem hS (List.getElem?_eq_getElem ho) hz)).elim
   ·simp [ks,ho,hS]
  ·obtain⟨x,hx0,hxs⟩:=zMO h
   rcases hget hx0 with⟨j,z,h1,h2,h3,h4,h5⟩|⟨hS,z,h2,h3,h4⟩
   ·rcases h5 with⟨h5,h6⟩|⟨_,h6⟩
    ·have hS:=List.mem_of_getElem? h5
     obtain⟨z0,k1,k2,k3⟩:=hsub h5;have hz2:vr z=true:=by rw [←xJ (f:=back S H.length),←h2];exact(zbO hxs).1
     cases hr0:vr z0 with
     |true=>exact(hro (hrowmem hS k1 hr0)).elim
     |false=>
      have:=hA.kind j _ _ k2 h1 (by rw [xJ];exact hr0);rw [hz2]at this;cases this
    ·omega
   ·subst h3
    have hz:=zPq z n s hxs;exact⟨zWp h2 hz,fun b hb cs e fz hcs=>⟨cs,e,fz,(hother hS h2 (zbO hz).2 hb).trans hcs,rfl⟩⟩
 have hRn:Rn C (back S H.length) (fun _ =>True) σ2 H2 w' (ks S H.length σ σ2) (merge S rows H H2) w':=by
  have hidx:∀o,o<H2.length→ks S H.length σ σ2 (back S H.length o)=σ2 o∧back S H.length o<(merge S rows H H2).length∧∀x,(merge S rows H H2)[back S H.length o]? =some x→∃z,H2[o]? =some z∧x=zJ7 (back S H.length) z:=by
   intro o ho;rw [zMf rows H2 hl];by_cases hs:o<S.length
   ·have hm:S[o]∈S:=List.getElem_mem hs
    have hb:back S H.length o=S[o]:=by rw [back,if_pos hs,List.getD_eq_getElem?_getD,List.getElem?_eq_getElem hs];rfl
    have hid:S.idxOf S[o]=o:=hn.idxOf_getElem o hs;have hol:=hlt _ hm;refine⟨by rw [hb];simp [ks,hol,hm,hid],by rw [hb];omega,fun x hx=> ?_⟩;rw [hb]at hx;rcases hget hx with⟨j,z,h1,h2,_,_,h5⟩|⟨hS,_⟩
    ·rcases h5 with⟨h5,_⟩|⟨_,h6⟩
     ·have:=gC hn h5
      rw [hid]at this;subst this;exact⟨z,h1,h2⟩
     ·omega
    ·exact(hS hm).elim
   ·have hb:back S H.length o=H.length+(o-S.length):=by rw [back,if_neg hs]
    refine⟨by rw [hb];simp only [ks];rw [if_neg (by omega)];congr 1;omega,by rw [hb];omega,fun x hx=> ?_⟩;rw [hb]at hx;rcases hget hx with⟨j,z,h1,h2,_,h4,h5⟩|⟨hS,z,h2,_⟩
    ·rcases h5 with⟨_,h6⟩|⟨h5,_⟩
     ·omega
     ·have:j=o:=by rw [back,if_neg (by omega)]at h4;omega
      subst this;exact⟨z,h1,h2⟩
    ·have:=(List.getElem?_eq_some_iff.1 h2).1;omega
  refine⟨fun b off x ⟨h1,h2⟩=>⟨⟨fun hF=>h1.1 (by rw [hA.F];exact .inl hF),fun i o hi hs=> ?_⟩,h2⟩,fun o _ ho=>(hidx o ho).2.1,fun o _ ho=>(hidx o ho).1,fun o _ ho n s h=> ?_,fun o _ b _ cs e fz h=>⟨cs,e,fz,h,rfl⟩⟩
  ·rcases hget hi with⟨j,z,k1,rfl,k3,_⟩|⟨hS,z,k2,rfl,k3⟩
   ·rw [po];exact h1.2 j z k1 (k3▸hs)
   ·rw [zBP];exact fun hf=>h1.1 (by rw [hA.F];exact .inr ⟨i,z,hS,k2,k3▸hs,hf⟩)
  ·obtain⟨x,hx0,hxs⟩:=zMO h
   obtain⟨z,k1,k2⟩:=(hidx o ho).2.2 _ hx0;subst k2;exact zWp k1 (zWy z n s hxs)
 refine⟨⟨⟨?_, ?_, ?_,fun g l hg=>(hR.zDJ g l hg).mono hcell, ?_,fun b off hF=>Nat.lt_of_lt_of_le (hR.fb b off hF) hA.size⟩,
  ⟨rfl,hA.os,hA.tape,hA.output,hA.size,hlen,hokc,hsame, ?_, ?_, ?_, ?_⟩,hM⟩,fun x y h=>zr.ren hRn x y (zPj (fun _ =>trivial) x) h⟩
 ·intro i j oi oj b hi hj hli hlj hsi hsj
  rcases hget hi with⟨p,z,h1,rfl,h3,h4,_⟩|⟨hS,z,h2,rfl,h3⟩<;>rcases hget hj with⟨q,z',k1,rfl,k3,k4,_⟩|⟨kS,z',k2,rfl,k3⟩
  ·rw [qk]at hli hlj
   have:=hR2.inj p q z z' b h1 k1 hli hlj (h3▸hsi) (k3▸hsj);subst this;rw [←h4,←k4]
  ·rw [qk]at hli;rw [y8]at hlj
   exact(hcross kS k2 hlj (k3▸hsj) h1 hli (h3▸hsi)).elim
  ·rw [qk]at hlj;rw [y8]at hli
   exact(hcross hS h2 hli (h3▸hsi) k1 hlj (k3▸hsj)).elim
  ·rw [y8]at hli hlj
   exact hR.inj i j z z' b h2 k2 hli hlj (h3▸hsi) (k3▸hsj)
 ·intro i o b hi hl hs
  rcases hget hi with⟨p,z,h1,rfl,h3,h4,_⟩|⟨hS,z,h2,rfl,h3⟩
  ·rw [qk]at hl;exact hR2.lt p z b h1 hl (h3▸hs)
  ·rw [y8]at hl;exact Nat.lt_of_lt_of_le (hR.lt i z b h2 hl (h3▸hs)) hA.size
 ·intro i o hi
  rcases hget hi with⟨p,z,h1,rfl,h3,h4,_⟩|⟨hS,z,h2,rfl,h3⟩
  ·have:=dq.ren hRn (j:=p) (o:=z) (by cases z<;>first|trivial|exact gh (fun _ =>trivial) _) (by rw [h4];exact h3) (fun _ _ =>rfl) (hR2.obj p z h1)
   rwa [h4]at this
  ·by_cases hl:live z=true
   ·exact dq.move hM h3 (fun b hb=>hother hS h2 hl hb) (hR.obj i z h2)
   ·cases z<;>simp [live]at hl
    trivial
 ·intro i o b hi hl hs off hF
  rcases hget hi with⟨p,z,h1,rfl,h3,h4,_⟩|⟨hS,z,h2,rfl,h3⟩
  ·rw [qk]at hl;exact hR2.free p z b h1 hl (h3▸hs) off (by rw [hA.F];exact .inl hF)
  ·rw [y8]at hl;exact hR.free i z b h2 hl (h3▸hs) off hF
 ·intro b hb hn'
  refine hA.block b hb fun j x hj hlx hs=> ?_
  obtain⟨o,z',h1,h2,rfl,h3⟩:=hsubget hj;rw [qk]at hlx;exact hn' o z' h2 hlx (h3▸hs)
 ·intro i o hi hr
  by_cases hS:i∈S
  ·exact hsigS hS hi hr
  ·simp [ks,hS,(List.getElem?_eq_some_iff.1 hi).1]
 ·intro i o b hi hl hs
  rcases hget hi with⟨p,z,h1,rfl,h3,h4,_⟩|⟨hS,z,h2,rfl,h3⟩
  ·rw [qk]at hl
   rcases hA.fresh p z b h1 hl (h3▸hs)with⟨x,k1,k2,k3⟩|k1
   ·obtain⟨o,z',q1,q2,rfl,q3⟩:=hsubget k1
    have hp:=(List.getElem?_eq_some_iff.1 q1).1;have hio:i=o:=by rw [←h4,back,if_pos hp,List.getD_eq_getElem?_getD,q1];rfl
    subst hio;rw [qk]at k2;exact .inl ⟨z',q2,k2,q3▸k3⟩
   ·exact .inr k1
  ·rw [y8]at hl
   exact .inl ⟨z,h2,hl,h3▸hs⟩
 ·intro i o o' hi hi' hr
  rcases hget hi' with⟨p,z,h1,rfl,h3,h4,h5⟩|⟨hS,z,h2,rfl,h3⟩
  ·rw [xJ]
   rcases h5 with⟨h5,_⟩|⟨_,h6⟩
   ·obtain⟨z0,k1,k2,k3⟩:=hsub h5
    rw [hi]at k1;cases k1;exact hA.kind p _ _ k2 h1 (by rw [xJ];exact hr)
   ·have:=(List.getElem?_eq_some_iff.1 hi).1;omega
  ·rw [hi]at h2;cases h2
   rw [zDd];exact hr
end
end Go.Proofs.YtdoifigogbdodaaGreatDoor.Ev

namespace Go.Proofs.YtdoifigogbdodaaGreatDoor.Ev
open Go
variable {T:Nat→Type} {C:wB T} {P:Program} {σ:Lk} {H:List (zT T)} {w:World} {G:Nat→Option (List (V T))} {R:Type}
def Ends(C:wB T)(G:Nat→Option (List (V T)))(σ:Lk)(H:List (zT T))(w:World)(out:Out T)(e:Ending)(w':World):Prop:=
 match out with
 | .ret x H'=>∃v σ',e= .returned v∧Rp C σ' H' w' G∧Anc C σ H w σ' H' w'∧zr C σ' H' w' x v
 | .panic p H'=>∃v σ',e= .panicked [{v,recovered:=false}]∧Rp C σ' H' w' G∧Anc C σ H w σ' H' w'∧zr C σ' H' w' p v
abbrev Entry(T:Nat→Type):=(R:Type)→List (AV T)→List (zT T)→(Out T→Option R)→Option R
structure qK(T:Nat→Type) where
 acc:FuncId→Entry T
 own:FuncId→Bool
instance:CoeFun (qK T) (fun _ =>FuncId→Entry T):=⟨qK.acc⟩
def qK.zct(Γ:qK T)(l:List Nat):qK T:=⟨Γ.acc,fun g=>l.any fun n=>Nat.beq g n⟩
def zeu(P:Program)(f:FuncId)(vs:Array Value)(w:World)(Q:Ending→World→Prop):Prop:=
 ((callFunc f vs).run P w= .ok (.enter f vs) w∧Calls P f vs w Q)∨∃v w',(callFunc f vs).run P w= .ok (.value v) w'∧Q (.returned v) w'
theorem zeu.mono{f:FuncId}{vs:Array Value}{Q Q':Ending→World→Prop}(h:zeu P f vs w Q)(hq:∀e w',Q e w'→Q' e w'):zeu P f vs w Q':=by
 rcases h with⟨h1,h2⟩|⟨v,w',h1,h2⟩
 ·exact .inl ⟨h1,h2.mono hq⟩
 ·exact .inr ⟨v,w',h1,hq _ _ h2⟩
def wM(P:Program)(C:wB T)(G:Nat→Option (List (V T)))(f:FuncId)(e:Entry T):Prop:=
 ∀(R:Type) (args:List (AV T)) (H:List (zT T)) (k:Out T→Option R) (r:R),e R args H k=some r→
  ∀(σ:Lk) (w:World) (vs:List Value),Rp C σ H w G→yW C σ H w args vs→zeu P f vs.toArray w fun e w'=>∃out,k out=some r∧Ends C G σ H w out e w'
def ql(P:Program)(C:wB T)(G:Nat→Option (List (V T)))(Γ:qK T):Prop:=∀f,wM P C G f (Γ f)
mutual
def zFg{R:Type}:AV T→List (zT T)→(AV T→List (zT T)→Option R)→Option R
 | .own o,H,K=>match H[o]? with
  |some (.row t c _)=>K (.v (.sl t c)) (zDN o H)
  |_ =>none
 | .agg l,H,K=>zQh l H fun l H=>K (.agg l) H
 | .qu l,H,K=>zQh l H fun l H=>K (.qu l) H
 | .fn f a b,H,K=>K (.fn f a b) H
 | .q9 t x,H,K=>K (.q9 t x) H
 | .any,H,K=>K .any H
 | .v x,H,K=>K (.v x) H
 | .ptr o k,H,K=>K (.ptr o k) H
 | .wu o i k,H,K=>K (.wu o i k) H
 | .wU t x k,H,K=>K (.wU t x k) H
 | .vA g k,H,K=>K (.vA g k) H
 | .yB o k n c,H,K=>K (.yB o k n c) H
 | .sp o,H,K=>K (.sp o) H
 | .qG,H,K=>K .qG H
 | .z0,H,K=>K .z0 H
def zQh{R:Type}:List (AV T)→List (zT T)→(List (AV T)→List (zT T)→Option R)→Option R
 |[],H,K=>K [] H
 |x::l,H,K=>zFg x H fun x H=>zQh l H fun l H=>K (x::l) H
end
theorem Step.zZx{σ':Lk}{H':List (zT T)}{w':World}(h:Step C G [] σ H w σ' H' w'){x:AV T}{y:Value}(hx:zr C σ H w x y):zr C σ' H' w' x y:=zr.gV h.move hx
mutual
theorem zcU(hC:yj C):∀(x:AV T) (H:List (zT T)) (K:AV T→List (zT T)→Option R) (r:R) (y:Value),Rp C σ H w G→zr C σ H w x y→zFg x H K=some r→
  ∃x' H',K x' H'=some r∧Step C G [] σ H w σ H' w∧H'.length=H.length∧zr C σ H' w x' y
 | .own o,H,K,r,y,hR,hx,h=>by
  simp only [zFg]at h;split at h
  ·rename_i t c m ho
   rw [zSi ho]at h;have hst:=zFi hR ho;exact⟨_,_,h,hst,by simp,zWt hC hst.rp (zNX ho) (hst.zZx hx)⟩
  ·cases h
 | .agg l,H,K,r,y,hR,⟨vs,hy,h1⟩,h=>by
  obtain⟨l',H',h2,h3,h4,h5⟩:=zN4 hC l H _ r vs.toList hR h1 h;exact⟨_,H',h2,h3,h4,vs,hy,h5⟩
 | .qu l,H,K,r,y,hR,⟨vs,hy,h1⟩,h=>by
  obtain⟨l',H',h2,h3,h4,h5⟩:=zN4 hC l H _ r vs.toList hR h1 h;exact⟨_,H',h2,h3,h4,vs,hy,h5⟩
 | .fn f a b,H,K,r,y,hR,hx,h=>⟨_,H,h,Step.refl hR,rfl,hx⟩
 | .q9 t x,H,K,r,y,hR,hx,h=>⟨_,H,h,Step.refl hR,rfl,hx⟩
 | .any,H,K,r,y,hR,hx,h=>⟨_,H,h,Step.refl hR,rfl,hx⟩
 | .v x,H,K,r,y,hR,hx,h=>⟨_,H,h,Step.refl hR,rfl,hx⟩
 | .ptr o k,H,K,r,y,hR,hx,h=>⟨_,H,h,Step.refl hR,rfl,hx⟩
 | .wu o i k,H,K,r,y,hR,hx,h=>⟨_,H,h,Step.refl hR,rfl,hx⟩
 | .wU t x k,H,K,r,y,hR,hx,h=>⟨_,H,h,Step.refl hR,rfl,hx⟩
 | .vA g k,H,K,r,y,hR,hx,h=>⟨_,H,h,Step.refl hR,rfl,hx⟩
 | .yB o k n c,H,K,r,y,hR,hx,h=>⟨_,H,h,Step.refl hR,rfl,hx⟩
 | .sp o,H,K,r,y,hR,hx,h=>⟨_,H,h,Step.refl hR,rfl,hx⟩
 | .qG,H,K,r,y,hR,hx,h=>⟨_,H,h,Step.refl hR,rfl,hx⟩
 | .z0,H,K,r,y,hR,hx,h=>⟨_,H,h,Step.refl hR,rfl,hx⟩
theorem zN4(hC:yj C):∀(l:List (AV T)) (H:List (zT T)) (K:List (AV T)→List (zT T)→Option R) (r:R) (ys:List Value),Rp C σ H w G→yW C σ H w l ys→zQh l H K=some r→
  ∃l' H',K l' H'=some r∧Step C G [] σ H w σ H' w∧H'.length=H.length∧yW C σ H' w l' ys
 |[],H,K,r,ys,hR,hy,h=>⟨[],H,h,Step.refl hR,rfl,hy⟩
 |x::l,H,K,r,ys,hR,⟨y,ys',hys,h1,h2⟩,h=>by
  obtain⟨x',H1,k1,k2,k3,k4⟩:=zcU hC x H _ r y hR h1 h;obtain⟨l',H2,q1,q2,q3,q4⟩:=zN4 hC l H1 _ r ys' k2.rp (h2.gV k2.move) k1;exact⟨_,H2,q1,k2.zEr q2,q3.trans k3,y,ys',hys,q2.zZx k4,q4⟩
end
def jf(acc xs:List Nat):List Nat:=xs.foldl (fun a x=>bif a.elem x then a else a++[x]) acc
def reach(H:List (zT T)):Nat→List Nat→List Nat
 |0,S=>S
 |k+1,S=>reach H k (S.foldl (fun(acc:List Nat) (o:Nat)=>match H[o]? with|some (zT.cells _ _ l)=>jf acc (qH l)|_ =>acc) S)
def zdh{R:Type}(zct:Bool)(args:List (AV T))(H:List (zT T))(K:List (AV T)→List (zT T)→Option R):Option R:=bif zct then K args H else zQh args H K
theorem zeq(hC:yj C){b:Bool}(l:List (AV T))(H:List (zT T))(K:List (AV T)→List (zT T)→Option R)(r:R)(ys:List Value)(hR:Rp C σ H w G)(hl:yW C σ H w l ys)(h:zdh b l H K=some r):
  ∃l' H',K l' H'=some r∧Step C G [] σ H w σ H' w∧H'.length=H.length∧yW C σ H' w l' ys:=by
 cases b
 ·exact zN4 hC l H K r ys hR hl h
 ·exact⟨_,_,h,Step.refl hR,rfl,hl⟩
def jX{α:Type}:List α→Bool
 |[]=>true
 |_ =>false
def zM9(Γ:qK T)(g:FuncId)(args:List (AV T))(H:List (zT T))(K:yZ T R)(Kp:yZ T R):Option R:=
 zdh (Γ.own g) args H fun args H=>
  (fun(S:List Nat)=>bif zD8 S&&jU S H&&wS S args then
   Γ g R (zSG S.idxOf args) (zCq S H) fun
    | .ret x H2=>bif jX S&&jX H2 then K (ren (back S H.length) x) H []else K (ren (back S H.length) x) (merge S (rowsOf S H) H H2) (rowsOf S H)
    | .panic p H2=>Kp (ren (back S H.length) p) (merge S (rowsOf S H) H H2) (rowsOf S H)
  else none) (reach H 3 (jf [] (qH args)))
theorem zbp:merge [] [] H []=H:=by
 unfold merge;simp only [List.length_nil,List.drop_nil,List.map_nil,List.append_nil];apply List.ext_getElem?;intro i;rw [List.getElem?_map];by_cases hi:i<H.length
 ·rw [List.getElem?_range hi,Option.map_some,if_neg (by simp),List.getD_eq_getElem?_getD,List.getElem?_eq_getElem hi,Option.getD_some,vd]
 ·rw [List.getElem?_eq_none (by simpa using Nat.le_of_not_lt hi),List.getElem?_eq_none (Nat.le_of_not_lt hi)];rfl
theorem zNh(hC:yj C)(hR:Rp C σ H w G){Γ:qK T}{g:FuncId}(hΓ:wM P C G g (Γ g)){args:List (AV T)}{vs:List Value}(ha:yW C σ H w args vs){K:yZ T R}{Kp:yZ T R}{r:R}
  (h:zM9 Γ g args H K Kp=some r):
  zeu P g vs.toArray w (fun e w'=>
   (∃x H' S v σ',K x H' S=some r∧e= .returned v∧Step C G S σ H w σ' H' w'∧zr C σ' H' w' x v)∨
   (∃p H' S v σ',Kp p H' S=some r∧e= .panicked [{v,recovered:=false}]∧Step C G S σ H w σ' H' w'∧zr C σ' H' w' p v)):=by
 unfold zM9 at h;obtain⟨args',H1,h1,hst,hlen,ha'⟩:=zeq hC args H _ r vs hR ha h;clear h;simp only at h1;generalize hS:reach H1 3 (jf [] (qH args'))=S at h1;cases hb:zD8 S&&jU S H1&&wS S args'
 ·rw [hb]at h1;cases h1
 ·rw [hb]at h1
  simp only [cond_true]at h1;simp only [Bool.and_eq_true]at hb;have hn:=zYA hb.1.1;have hM:=zh7 (C:=C) hn hst.rp;have hsub:=zj1 hn hb.1.2 hst.rp;have hargs:=yW.ren hM args' vs (qq S args' hb.2) ha';refine(hΓ R _ _ _ r h1 _ w vs hsub hargs).mono fun e w' ⟨out,hk,he⟩=> ?_
  cases out with
  |ret x H2=>
   obtain⟨v,σ2,rfl,k1,k2,k3⟩:=he;obtain⟨q1,q2⟩:=zV2 (rows:=rowsOf S H1) hn hb.1.2 rfl hst.rp k2 k1;have hstep:Step C G (rowsOf S H1) σ H w (ks S H1.length σ σ2) (merge S (rowsOf S H1) H1 H2) w':=by
    refine⟨q1.rp,hst.anc.trans q1.anc,⟨fun b off x hx=>q1.move.cell b off x (hst.move.cell b off x hx),Nat.le_trans hst.move.len q1.move.len,fun o ho hS=>q1.move.sig o (by omega) hS,fun o ho hS n s hr=> ?_⟩⟩;obtain⟨p1,p3⟩:=q1.move.row o (by omega) hS n s hr;exact⟨(hst.move.row o ho (by simp) n s p1).1,p3⟩
   simp only at hk;cases hnil:jX S&&jX H2
   ·rw [hnil]at hk
    exact .inl ⟨_,_,_,v,_,hk,rfl,hstep,q2 _ _ k3⟩
   ·rw [hnil]at hk
    simp only [cond_true]at hk;have hS0:S=[]:=by cases S with|nil=>rfl|cons=>simp [jX]at hnil
    have hH0:H2=[]:=by cases H2 with|nil=>rfl|cons=>simp [jX]at hnil
    subst hS0;subst hH0;have hm:merge [] (rowsOf [] H1) H1 []=H1:=zbp;refine .inl ⟨_,_,[],v,_,hk,rfl,by rw [hm]at hstep;exact hstep, ?_⟩;have:=q2 _ _ k3
    rwa [hm]at this
  |panic p H2=>
   obtain⟨v,σ2,rfl,k1,k2,k3⟩:=he;obtain⟨q1,q2⟩:=zV2 (rows:=rowsOf S H1) hn hb.1.2 rfl hst.rp k2 k1;refine .inr ⟨_,_,rowsOf S H1,v,_,hk,rfl, ?_,q2 _ _ k3⟩;refine⟨q1.rp,hst.anc.trans q1.anc,⟨fun b off x hx=>q1.move.cell b off x (hst.move.cell b off x hx),Nat.le_trans hst.move.len q1.move.len,fun o ho hS=>q1.move.sig o (by omega) hS,fun o ho hS n s hr=> ?_⟩⟩;obtain⟨p1,p3⟩:=q1.move.row o (by omega) hS n s hr;exact⟨(hst.move.row o ho (by simp) n s p1).1,p3⟩
abbrev Ds(T:Nat→Type):=List (Fn×List (AV T)×List (AV T))
def wR(S:List Nat)(ds:Ds T):Ds T:=ds.map fun d=>(d.1,jQ S d.2.1,jQ S d.2.2)
def zCp(C:wB T)(σ:Lk)(H:List (zT T))(w:World):Ds T→List Deferred→Prop
 |[],l=>l=[]
 |d::ds,l=>∃args cap l',l={target:= .fn d.1 cap,args:=args}::l'∧yW C σ H w d.2.1 args.toList∧yW C σ H w d.2.2 cap.toList∧zCp C σ H w ds l'
structure Bs where
 σ:Lk
 w:World
structure jS(T:Nat→Type) where
 σ:Lk
 H:List (zT T)
 w:World
structure St(C:wB T)(G:Nat→Option (List (V T)))(n:Nat)(B:jS T)(σ:Lk)(env:Env T)(H:List (zT T))(ds:Ds T)(a:Act)(w:World):Prop where
 rp:Rp C σ H w G
 anc:Anc C B.σ B.H B.w σ H w
 size:a.tmps.size=n
 env:zHf C σ H w env a
 ds:zCp C σ H w ds a.defers
def zDw(S:List Nat)(env:Env T):Env T:=
 match S with
 |[]=>env
 |S=>fun t=>zH3 S (env t)
theorem zCp.move{S:List Nat}{σ':Lk}{H':List (zT T)}{w':World}(M:Move C S σ H w σ' H' w'):∀{ds:Ds T} {l:List Deferred},zCp C σ H w ds l→zCp C σ' H' w' (wR S ds) l
 |[],_,h=>h
 |d::ds,_,⟨args,cap,l',h1,h2,h3,h4⟩=>⟨args,cap,l',h1,h2.move M,h3.move M,zCp.move M h4⟩
theorem zXr{S:List Nat}{σ':Lk}{H':List (zT T)}{w':World}(M:Move C S σ H w σ' H' w'){env:Env T}{a:Act}(h:zHf C σ H w env a):zHf C σ' H' w' (zDw S env) a:=by
 intro t;cases S with
 |nil=>exact zr.gV M (h t)
 |cons=>exact zr.move M _ _ (h t)
theorem St.step{n:Nat}{B:jS T}{env:Env T}{ds:Ds T}{a:Act}(st:St C G n B σ env H ds a w){S:List Nat}{σ':Lk}{H':List (zT T)}{w':World}(h:Step C G S σ H w σ' H' w'):
  St C G n B σ' (zDw S env) H' (wR S ds) a w':=
 ⟨h.rp,st.anc.trans h.anc,st.size,zXr h.move st.env,st.ds.move h.move⟩
theorem St.put{n:Nat}{B:jS T}{env:Env T}{ds:Ds T}{a:Act}(st:St C G n B σ env H ds a w){d:Nat}(hd:d<n){x:AV T}{v:Value}(hx:zr C σ H w x v):
  St C G n B σ (kT env d x) H ds (a.put (some d) v) w:=by
 refine⟨st.rp,st.anc,by simp [Act.put,st.size],fun t=> ?_,st.ds⟩;unfold kT;cases ht:Nat.beq t d
 ·have hne:d≠t:=fun e=>by subst e;simp at ht
  have:(a.put (some d) v).tmps.getD t undef=a.tmps.getD t undef:=by
   simp [Act.put,Array.getElem?_setIfInBounds_ne hne]
  rw [this];exact st.env t
 ·have:=Nat.eq_of_beq_eq_true ht
  subst this;have hlt:t<a.tmps.size:=by rw [st.size];exact hd
  have:(a.put (some t) v).tmps.getD t undef=v:=by
   simp [Act.put,hlt]
  rw [this];exact hx
theorem St.weaken{n:Nat}{B:jS T}{env env':Env T}{ds:Ds T}{a:Act}(st:St C G n B σ env H ds a w)(h:∀t,env' t=env t∨env' t= .any):St C G n B σ env' H ds a w:=
 ⟨st.rp,st.anc,st.size,fun t=>by
  rcases h t with h|h
  ·rw [h];exact st.env t
  ·rw [h];trivial,st.ds⟩
end Go.Proofs.YtdoifigogbdodaaGreatDoor.Ev

namespace Go.Proofs.YtdoifigogbdodaaGreatDoor.Ev
open Go
variable {P:Program}
def zbA(P:Program)(t:Nat)(name:String):Option FuncId:=
 match P.info? t with
 |some i=>match i.methods.find? (·.name==name)with
  |some m=>match m.path.toList,m.func,P.underlying t with
   |[],some (f,false),some (.pointer _)=>none
   |[],some (f,false),some _ =>some f
   |[],some (f,true),some (.pointer _)=>some f
   |_,_,_ =>none
  |none=>none
 |none=>none
theorem zZG{t:Nat}{name:String}{f:FuncId}{args:Array Value}(h:zbA P t name=some f)(v:Value)(w:World):(callMethod (.iface t v) name args).run P w=(callFunc f (#[v]++args)).run P w:=by
 unfold zbA at h;split at h
 ·rename_i i hi
  split at h
  ·rename_i m hm
   have key:∀d,(method (d+1) t v name).run P w= .ok (f,v) w:=by
    intro d;split at h
    ·cases h
    ·rename_i g u h1 h2 h3
     cases h;simp only [method,Sem.run_bind,run_typeInfo w hi,Result.andThen_ok,hm,h1,follow,Sem.run_pure,h2,receiverAt,run_underlying h3];rfl
    ·rename_i g e h1 h2 h3
     cases h;simp only [method,Sem.run_bind,run_typeInfo w hi,Result.andThen_ok,hm,h1,follow,Sem.run_pure,h2,receiverAt,run_underlying h3,Place.get]
    ·cases h
   unfold callMethod;have hp:(program).run P w= .ok P w:=rfl;simp only [Sem.run_bind,hp,Result.andThen_ok];rw [show P.types.size+Made.depth=(P.types.size+Made.depth-1)+1 from by simp [Made.depth]];simp only [key,Result.andThen_ok]
  ·cases h
 ·cases h
end Go.Proofs.YtdoifigogbdodaaGreatDoor.Ev

namespace Go.Proofs.YtdoifigogbdodaaGreatDoor.Ev
open Go
variable {T:Nat→Type} {C:wB T} {P:Program} {σ:Lk} {H:List (zT T)} {w:World} {G:Nat→Option (List (V T))} {R:Type}
abbrev KS(T:Nat→Type)(R:Type):=Env T→List (zT T)→Ds T→Option R
abbrev KP(T:Nat→Type)(R:Type):=Env T→AV T→List (zT T)→Ds T→Option R
def zR1(dst:Option Nat)(n:Nat)(env:Env T)(ds:Ds T)(x:AV T)(H:List (zT T))(S:List Nat)(K:KS T R):Option R:=
 match dst with
 |some d=>bif Nat.blt d n then K (kT (zDw S env) d x) H (wR S ds)else none
 |none=>K (zDw S env) H (wR S ds)
def zfS(C:wB T)(P:Program)(G:Nat→Option (List (V T)))(Γ:qK T)(n:Nat)(o:Oper)(env:Env T)(H:List (zT T))(ds:Ds T)(K:KS T R)(Kp:KP T R):Option R:=
 match o.op with
 | .call {callee:= .value f,args,.. }=>match w8 env f with
  | .fn (.func g) first cap=>zM9 Γ g (first++args.toList.map (w8 env)++cap) H (fun x H S=>zR1 o.dst n env ds x H S K) (fun p H S=>Kp (zDw S env) p H (wR S ds))
  |_ =>none
 | .call {callee:= .invoke f name,args,.. }=>match w8 env f with
  | .q9 t x=>match zbA P t name with
   |some g=>zM9 Γ g (x::args.toList.map (w8 env)) H (fun x H S=>zR1 o.dst n env ds x H S K) (fun p H S=>Kp (zDw S env) p H (wR S ds))
   |none=>none
  |_ =>none
 | .defer {callee:= .value f,args,.. }=>match w8 env f with
  | .fn g first cap=>zR1 o.dst n env ((g,first++args.toList.map (w8 env),cap)::ds) .any H [] K
  |_ =>none
 |_ =>vV C P G o env H (fun x H S=>zR1 o.dst n env ds x H S K) (fun p H=>Kp env p H ds)
def zdj(C:wB T)(P:Program)(G:Nat→Option (List (V T)))(Γ:qK T)(n:Nat)(dsts:Nat→Option Nat)(o:Oper)(env:Env T)(H:List (zT T))(ds:Ds T)(K:KS T R)(Kp:KP T R):Option R:=
 match o.guard with
 |none=>zfS C P G Γ n o env H ds K Kp
 |some (j,want)=>match dsts j with
  |some t=>match env t with
   | .v (.b b)=>
    bif b then bif want then zfS C P G Γ n o (kT env t (.v (.b true))) H ds K Kp else zR1 o.dst n (kT env t (.v (.b true))) ds (.qu []) H [] K
    else bif want then zR1 o.dst n (kT env t (.v (.b false))) ds (.qu []) H [] K else zfS C P G Γ n o (kT env t (.v (.b false))) H ds K Kp
   | .qu []=>zR1 o.dst n env ds (.qu []) H [] K
   |_ =>none
  |none=>none
theorem zFt:zr C σ H w (.qu []) undef:=⟨#[],rfl,rfl⟩
theorem zO7{v:Value}(h:zr C σ H w (.qu []) v):v=undef:=by
 obtain⟨vs,h1,h2⟩:=h;have h3:vs.toList=[]:=h2;have:vs= #[]:=by cases vs;simp_all
 rw [h1,this];rfl
theorem zBu{ops:Array Oper}{dsts:Nat→Option Nat}(hd:∀j,dsts j=(ops[j]?).bind (·.dst)){a:Act}{j t:Nat}(ht:dsts j=some t)(hv:a.tmps.getD t undef=undef):yielded ops a.tmps j=none:=by
 unfold yielded;rw [←hd,ht];simp only [Option.bind_some];rcases Nat.lt_or_ge t a.tmps.size with h|h
 ·rw [Array.getD_eq_getD_getElem?,Array.getElem?_eq_getElem h]at hv
  rw [Array.getElem?_eq_getElem h];simp only [Option.getD_some]at hv;rw [hv];rfl
 ·rw [Array.getElem?_eq_none h]
theorem zDb{o:Oper}{j:Nat}{want:Bool}(hg:o.guard=some (j,want)){f:Nat→Option Bool}(hy:f j=none):Region.wanted o f=false:=by
 simp only [Region.wanted,hg,hy];cases want<;>rfl
def zj9:Env T:=fun _ => .any
theorem zBZ{n:Nat}{B:jS T}{env:Env T}{ds:Ds T}{a:Act}(st:St C G n B σ env H ds a w){S:List Nat}{σ':Lk}{H':List (zT T)}{w':World}(hs:Step C G S σ H w σ' H' w'){x:AV T}{v:Value}(hx:zr C σ' H' w' x v)
  {dst:Option Nat} {K:KS T R} {r:R} (h:zR1 dst n env ds x H' S K=some r):∃env' ds',K env' H' ds'=some r∧St C G n B σ' env' H' ds' (a.put dst v) w':=by
 unfold zR1 at h;split at h
 ·rename_i d
  cases hd:Nat.blt d n
  ·rw [hd]at h;cases h
  ·rw [hd]at h
   exact⟨_,_,h,(st.step hs).put (Nat.le_of_ble_eq_true hd) hx⟩
 ·exact⟨_,_,h,st.step hs⟩
theorem zd9{n:Nat}{B:jS T}{env:Env T}{ds:Ds T}{a:Act}(st:St C G n B σ env H ds a w){t:Nat}{b:Bool}(h:env t= .v (.b b)):St C G n B σ (kT env t (.v (.b b))) H ds a w:=
 ⟨st.rp,st.anc,st.size,fun u=>by
  unfold kT;cases hu:Nat.beq u t
  ·exact st.env u
  ·have:=Nat.eq_of_beq_eq_true hu
   subst this;have:=st.env u
   rwa [h]at this,st.ds⟩
def PSt(C:wB T)(G:Nat→Option (List (V T)))(n:Nat)(B:jS T)(σ:Lk)(env:Env T)(p:AV T)(H:List (zT T))(ds:Ds T)(a:Act)(v:Value)(w:World):Prop:=
 St C G n B σ env H ds a w∧zr C σ H w p v
theorem zWo(hC:yj C){Γ:qK T}(hΓ:ql P C G Γ){n:Nat}{B:jS T}{env:Env T}{ds:Ds T}{a:Act}(st:St C G n B σ env H ds a w){o:Oper}{K:KS T R}{Kp:KP T R}{r:R}
  (h:zfS C P G Γ n o env H ds K Kp=some r) {next:Act→World→Prop} {Q:Exit→Act→World→Prop}
  (hK:∀σ' env' H' ds' a' w',K env' H' ds'=some r→St C G n B σ' env' H' ds' a' w'→next a' w')
  (hP:∀σ' env' p H' ds' v w',Kp env' p H' ds'=some r→PSt C G n B σ' env' p H' ds' a v w'→Q (.panic [{v,recovered:=false}]) a w'):
  o.wp P a w next Q:=by
 have plain:vV C P G o env H (fun x H S=>zR1 o.dst n env ds x H S K) (fun p H=>Kp env p H ds)=some r→o.wp P a w next Q:=by
  intro h;unfold Oper.wp;rcases zVs hC st.rp st.env h with⟨x,H',S,v,σ',w',h1,h2,h3,h4⟩|⟨p,H',v,σ',w',h1,h2,h3,h4⟩
  ·rcases h2 with h2|⟨h2,rfl⟩<;>rw [h2]<;>obtain⟨env',ds',k1,k2⟩:=zBZ st h3 h4 h1<;>exact hK _ _ _ _ _ _ k1 k2
  ·rw [h2]
   have hst:=st.step h3;rw [show wR [] ds=ds from by unfold wR;rw [List.map_congr_left (g:=id) (fun d _ =>by obtain⟨a,b,c⟩:=d;simp [vI])];simp]at hst;exact hP _ _ _ _ _ _ _ h1 ⟨hst,h4⟩
 unfold zfS at h;split at h
 ·rename_i f args at_ hop
  split at h
  ·rename_i g first cap hf
   have hfv:=z7 st.env f;rw [hf]at hfv;obtain⟨a1,a2,h1,h2,h3⟩:=hfv;have hargs:=(h2.append (vN st.env args.toList)).append h3;have hdo:=zNh hC st.rp (hΓ g) hargs h;have harr:(a1++args.map a.eval++a2)=(a1.toList++args.toList.map a.eval++a2.toList).toArray:=by
    apply Array.ext';simp
   have hrun:(execOp a.eval o).run P w=(callFunc g (a1.toList++args.toList.map a.eval++a2.toList).toArray).run P w:=by
    unfold execOp;rw [hop];simp only [resolve,h1,Deferred.ofValue,Sem.run_bind,Sem.run_pure,Result.andThen_ok,invoke];rw [←harr]
   unfold Oper.wp;rw [hrun];rcases hdo with⟨k1,k2⟩|⟨v0,w0,k1,k2⟩
   ·rw [k1]
    simp only [Oper.upon];refine k2.mono fun e w' he=> ?_
    rcases he with⟨x,H',S,v,σ',q1,rfl,q3,q4⟩|⟨p,H',S,v,σ',q1,rfl,q3,q4⟩
    ·obtain⟨env',ds',s1,s2⟩:=zBZ st q3 q4 q1
     exact hK _ _ _ _ _ _ s1 s2
    ·exact hP _ _ _ _ _ _ _ q1 ⟨st.step q3,q4⟩
   ·rw [k1]
    simp only [Oper.upon];rcases k2 with⟨x,H',S,v,σ',q1,e2,q3,q4⟩|⟨p,H',S,v,σ',q1,e2,q3,q4⟩
    ·cases e2
     obtain⟨env',ds',s1,s2⟩:=zBZ st q3 q4 q1;exact hK _ _ _ _ _ _ s1 s2
    ·cases e2
  ·cases h
 ·rename_i f name args at_ hop
  split at h
  ·rename_i t x hf
   split at h
   ·rename_i g hg
    have hfv:=z7 st.env f;rw [hf]at hfv;obtain⟨z,h1,h2⟩:=hfv;have hargs:yW C σ H w (x::args.toList.map (w8 env)) (z::args.toList.map a.eval):=⟨z,_,rfl,h2,vN st.env args.toList⟩
    have hdo:=zNh hC st.rp (hΓ g) hargs h;have hrun:(execOp a.eval o).run P w=(callFunc g (z::args.toList.map a.eval).toArray).run P w:=by
     unfold execOp;rw [hop];simp only [resolve,Sem.run_bind,Sem.run_pure,Result.andThen_ok,invoke];have h0:(#[a.eval f]++args.map a.eval)[0]? =some (.iface t z):=by
      have h1':a.eval f= .iface t z:=h1;rw [h1',←Array.getElem?_toList,Array.toList_append];rfl
     rw [h0];show(callMethod (.iface t z) name _).run P w=_;rw [zZG hg];congr 2;apply Array.ext';simp only [Array.toList_append,Array.toList_extract,Array.toList_map,List.extract_eq_take_drop,Array.size_append,List.size_toArray,Array.size_map,List.cons_append,List.nil_append];simp [List.take_of_length_le]
    unfold Oper.wp;rw [hrun];rcases hdo with⟨k1,k2⟩|⟨v0,w0,k1,k2⟩
    ·rw [k1]
     simp only [Oper.upon];refine k2.mono fun e w' he=> ?_
     rcases he with⟨x,H',S,v,σ',q1,rfl,q3,q4⟩|⟨p,H',S,v,σ',q1,rfl,q3,q4⟩
     ·obtain⟨env',ds',s1,s2⟩:=zBZ st q3 q4 q1
      exact hK _ _ _ _ _ _ s1 s2
     ·exact hP _ _ _ _ _ _ _ q1 ⟨st.step q3,q4⟩
    ·rw [k1]
     simp only [Oper.upon];rcases k2 with⟨x,H',S,v,σ',q1,e2,q3,q4⟩|⟨p,H',S,v,σ',q1,e2,q3,q4⟩
     ·cases e2
      obtain⟨env',ds',s1,s2⟩:=zBZ st q3 q4 q1;exact hK _ _ _ _ _ _ s1 s2
     ·cases e2
   ·cases h
  ·cases h
 ·rename_i f args at_ hop
  split at h
  ·rename_i g first cap hf
   have hfv:=z7 st.env f;rw [hf]at hfv;obtain⟨a1,a2,h1,h2,h3⟩:=hfv;have hrun:(execOp a.eval o).run P w= .ok (.defer {target:= .fn g a2,args:=a1++args.map a.eval}) w:=by
    unfold execOp;rw [hop];simp only [resolve,h1,Deferred.ofValue,Sem.run_bind,Sem.run_pure,Result.andThen_ok]
   unfold Oper.wp;rw [hrun];simp only [Oper.upon];have st2:St C G n B σ env H ((g,first++args.toList.map (w8 env),cap)::ds) {a with defers:={target:= .fn g a2,args:=a1++args.map a.eval}::a.defers} w:=by
    refine⟨st.rp,st.anc,st.size,st.env,_,_,_,rfl, ?_,h3,st.ds⟩;rw [Array.toList_append,Array.toList_map];exact h2.append (vN st.env args.toList)
   obtain⟨env',ds',s1,s2⟩:=zBZ st2 (Step.refl st.rp) (x:= .any) (v:=undef) trivial h;exact hK _ _ _ _ _ _ s1 s2
  ·cases h
 ·exact plain h
theorem zXU(hC:yj C){Γ:qK T}(hΓ:ql P C G Γ){n:Nat}{B:jS T}{env:Env T}{ds:Ds T}{a:Act}(st:St C G n B σ env H ds a w){ops:Array Oper}{dsts:Nat→Option Nat}(hd:∀j,dsts j=(ops[j]?).bind (·.dst)){o:Oper}{K:KS T R}{Kp:KP T R}{r:R}
  (h:zdj C P G Γ n dsts o env H ds K Kp=some r) {next:Act→World→Prop} {Q:Exit→Act→World→Prop}
  (hK:∀σ' env' H' ds' a' w',K env' H' ds'=some r→St C G n B σ' env' H' ds' a' w'→next a' w')
  (hP:∀σ' env' p H' ds' v w',Kp env' p H' ds'=some r→PSt C G n B σ' env' p H' ds' a v w'→Q (.panic [{v,recovered:=false}]) a w'):
  if Region.wanted o (yielded ops a.tmps)then o.wp P a w next Q else next (a.put o.dst undef) w:=by
 have skip:∀env,St C G n B σ env H ds a w→zR1 o.dst n env ds (.qu []) H [] K=some r→next (a.put o.dst undef) w:=fun env st' hf=>by
  obtain⟨env',ds',s1,s2⟩:=zBZ st' (Step.refl st'.rp) (x:= .qu []) (v:=undef) zFt hf;exact hK _ _ _ _ _ _ s1 s2
 unfold zdj at h;split at h
 ·rename_i hg
  rw [if_pos (by simp [Region.wanted,hg])];exact zWo hC hΓ st h hK hP
 ·rename_i j want hg
  split at h
  ·rename_i t ht
   split at h
   ·rename_i b hb
    have hv:=st.env t;rw [hb]at hv;have hvb:=zEt hv;have hy:yielded ops a.tmps j=some b:=by
     have hlt:t<a.tmps.size:=by
      rcases Nat.lt_or_ge t a.tmps.size with h|h
      ·exact h
      ·rw [Array.getD_eq_getD_getElem?,Array.getElem?_eq_none h]at hvb;cases hvb
     have hget:a.tmps[t]? =some (.bool b):=by
      rw [Array.getD_eq_getD_getElem?,Array.getElem?_eq_getElem hlt]at hvb;rw [Array.getElem?_eq_getElem hlt]
      simpa using hvb
     unfold yielded;rw [←hd,ht];simp only [Option.bind_some,hget]
    have hw:Region.wanted o (yielded ops a.tmps)=(b==want):=by
     simp only [Region.wanted,hg,hy];cases b<;>cases want<;>rfl
    rw [hw];have st':=zd9 st hb;cases b<;>cases want<;>simp only [cond_true,cond_false]at h
    ·rw [if_pos (by rfl)];exact zWo hC hΓ st' h hK hP
    ·rw [if_neg (by decide)];exact skip _ st' h
    ·rw [if_neg (by decide)];exact skip _ st' h
    ·rw [if_pos (by rfl)];exact zWo hC hΓ st' h hK hP
   ·rename_i hb
    have hv:=st.env t;rw [hb]at hv;rw [zDb hg (zBu hd ht (zO7 hv)),if_neg (by decide)];exact skip _ st h
   ·cases h
  ·cases h
end Go.Proofs.YtdoifigogbdodaaGreatDoor.Ev

namespace Go.Proofs.YtdoifigogbdodaaGreatDoor.Ev
open Go
variable {T:Nat→Type} {C:wB T} {P:Program} {σ:Lk} {H:List (zT T)} {w:World} {G:Nat→Option (List (V T))} {R:Type}
def zCz(P:Program)(t:Nat):Bool:=match P.underlying t with|some (.slice _)=>true|_ =>false
def zbX:AV T→Bool
 | .own _ =>true
 |_ =>false
def vR(P:Program)(env:Env T)(o:Oper):Bool:=
 match o.op with
 | .move _ | .assign _ | .pick _ _ _ | .build _ _ | .load _ _ | .nilCheck _ | .binOp _ _ _ _ _ | .unOp _ _ _ | .makeInterface _ _ | .makeFunc _ _ _
 | .fieldAddr _ _ _ | .field _ _ _ | .indexAddr _ _ _ | .index _ _ _ | .typeAssert _ _ _ _ | .extract _ _ =>true
 | .convert _ d _ => !zCz P d
 | .slice _ x _ _ _ => !zbX (w8 env x)
 | .call {callee:= .builtin b,.. }=>match b with
  | .len| .min| .max=>true
  |_ =>false
 |_ =>false
theorem znM{ty:Nat}{at_ :Array Nat}{args:List (AV T)}{K:yZ T R}{r:R}(h:vT C P .len ty at_ args H K=some r):∃t ts x xs,at_.toList=t::ts∧args=x::xs∧zWC P t x H K=some r:=by
 cases ht:at_.toList with
 |nil=>simp [vT,ht]at h
 |cons t ts=>
  cases args with
  |nil=>simp [vT,ht]at h
  |cons x xs=>exact⟨t,ts,x,xs,rfl,rfl,by simpa [vT,ht] using h⟩
theorem zc6(hC:yj C)(hR:Rp C σ H w G){o:Oper}{env:Env T}{a:Act}(he:zHf C σ H w env a){K:yZ T R}{r:R}
  (h:vV C P G o env H K (fun _ _ =>none)=some r) (hq:vR P env o=true):kX C σ H w ((execOp a.eval o).run P w) K r:=by
 unfold vV at h;unfold vR at hq;unfold execOp;cases hop:o.op<;>rw [hop]at h hq<;>simp only at h hq⊢
 case move x=>exact yY h rfl (z7 he x)
 case assign x=>exact yY h rfl (z7 he x)
 case pick c x y=>
  split at h
  ·rename_i b hb
   have hc:=z7 he c;rw [hb]at hc;have hcv:=zEt hc;cases b
   ·simp only [cond_false]at h
    exact yY h (by simp [asBool,hcv]) (z7 he y)
   ·simp only [cond_true]at h
    exact yY h (by simp [asBool,hcv]) (z7 he x)
  ·cases h
 case build t parts=>exact zQY hR (zKI he parts) h
 case load t x=>exact zS2 hR (z7 he x) (by rw [←zCx];exact h)
 case nilCheck x=>
  rcases zEw hR (z7 he x) h with⟨⟨p,hp⟩,hK⟩|⟨⟨f,u,v,hp⟩,hK⟩
  ·exact yY hK (v:=a.eval x) (by rw [hp];rfl) (z7 he x)
  ·exact yY hK (v:=a.eval x) (by rw [hp];rfl) (z7 he x)
 case binOp op t x y yt=>
  obtain⟨z,v,h1,h2,h3⟩:=zV3 hR (z7 he x) (z7 he y) h;exact yY h1 (kW h2) h3
 case unOp op t x=>
  obtain⟨z,v,h1,h2,h3⟩:=zfM (P:=P) (z7 he x) h;exact yY h1 (kW h2) h3
 case convert s d x=>
  refine zhk hC hR (z7 he x) (fun e hu=> ?_) h;simp [zCz,hu]at hq
 case makeInterface t x=>
  split at h
  ·cases h
  ·rename_i d hd hu
   refine yY h (kW (v:= .iface t (a.eval x)) ?_) ⟨_,rfl,z7 he x⟩;simp only [Instr.makeInterface,Sem.run_bind,run_underlying hu,Result.andThen_ok];cases d<;>first|rfl|(exact(hd _ rfl).elim)
  ·cases h
 case makeFunc f first cap=>
  refine yY h rfl ⟨first.map a.eval,cap.map a.eval,rfl, ?_, ?_⟩
  ·rw [Array.toList_map];exact vN he _
  ·rw [Array.toList_map];exact vN he _
 case slice t x lo hi mx=>
  have opt:∀(z:Option Operand),(∀q,z.map (w8 env)=some q→∃v,z.map a.eval=some v∧zr C σ H w q v)∧(z.map (w8 env)=none→z.map a.eval=none):=fun z=>by
   cases z with
   |none=>exact⟨fun q hq=>(by cases hq),fun _ =>rfl⟩
   |some z=>exact⟨fun q hq=>(by cases hq;exact⟨_,rfl,z7 he z⟩),fun hq=>(by cases hq)⟩
  exact zdz hC hR (fun o ho=>by rw [ho]at hq;simp [zbX]at hq) (z7 he x) (opt lo).1 (opt lo).2 (opt hi).1 (opt hi).2 (opt mx).1 (opt mx).2 h
 case fieldAddr s x f=>exact zEO hR (z7 he x) h
 case field s x f=>exact zQU hR (z7 he x) h
 case indexAddr t x i=>exact zEL hR (z7 he x) (z7 he i) h
 case index t x i=>exact zQi hR (z7 he x) (z7 he i) h
 case typeAssert x xt as ok=>exact zNe hR (z7 he x) h
 case extract t i=>
  split at h
  ·rename_i l hl
   have ht:=z7 he t;rw [hl]at ht;obtain⟨vs,hv,h1⟩:=ht;split at h
   ·rename_i x hx
    obtain⟨y,h2,h3⟩:=h1.get i x hx;refine yY h (kW (v:=y) ?_) h3;have:vs[i]? =some y:=by simpa using h2
    rw [hv];simp [Instr.extract,this]
   ·cases h
  ·cases h
 case call c=>
  obtain⟨callee,args,at_⟩:=c;cases callee with
  |builtin b=>
   simp only at h hq;simp only [resolve,Sem.run_bind,Sem.run_pure,Result.andThen_ok,invoke];have ha:yW C σ H w (args.toList.map (w8 env)) (args.map a.eval).toList:=by rw [Array.toList_map];exact vN he _
   cases b<;>simp only at hq<;>first
    |(cases hq;done)
    |(exact(pY hR ha h).1 rfl)
    |(exact(pY hR ha h).2 rfl)
    |skip
   obtain⟨t,ts,x,xs,h1,h2,h3⟩:=znM h;rw [h2]at ha;obtain⟨y,ys,h4,h5,_⟩:=ha;exact zVc (ts:=ts) hR h5 (by rw [←Array.getElem?_toList,h4];rfl) (by rw [←Array.getElem?_toList,h1];rfl) h3
  |value f=>cases h
  |invoke r m=>cases h
 all_goals (cases hq)
end Go.Proofs.YtdoifigogbdodaaGreatDoor.Ev

namespace Go.Proofs.YtdoifigogbdodaaGreatDoor.Ev
open Go
variable {T:Nat→Type} {C:wB T} {P:Program} {σ:Lk} {H:List (zT T)} {w:World} {G:Nat→Option (List (V T))} {R:Type}
abbrev zgp(T:Nat→Type):=AV T×List (zT T)×List Nat
def qO:yZ T (zgp T):=fun x H S=>some (x,H,S)
def bQ(K:yZ T R)(z:zgp T):Option R:=K z.1 z.2.1 z.2.2
theorem zOi{ag:Bool}{n:Nat}{cs:List (AV T)}{H:List (zT T)}{K:yZ T R}:whole ag n cs (fun x=>K x H [])=(whole ag n cs (fun x=>qO x H [])).bind (bQ K):=by
 unfold whole;cases ag
 ·simp only [cond_false]
  split<;>rfl
 ·simp only [cond_true]
  cases Nat.beq cs.length n<;>rfl
theorem zcX{t:Nat}{a:AV T}{K:yZ T R}:zCk C P G t a H K=(zCk C P G t a H qO).bind (bQ K):=by
 unfold zCk;cases qF P t<;>cases zUO P t<;>try rfl
 simp only;cases uY C (fun g=>(G g).map fun l=>l.map AV.v) H a _ <;>try rfl
 exact zOi
theorem zaR{t:Nat}{parts:List (Nat×AV T)}{K:yZ T R}:zDj P t parts H K=(zDj P t parts H qO).bind (bQ K):=by
 unfold zDj;split
 ·cases zUD P t
  ·rfl
  ·simp only [cond_true]
   split<;>rfl
 ·rfl
theorem zVC{a:AV T}{K:yZ T R}:jV a H K=(jV a H qO).bind (bQ K):=by
 unfold jV;split<;>rfl
theorem zaD{op:BinOp}{k:IntKind}{a b:Int}{K:yZ T R}:zDq op k a b (fun v=>K v H [])=(zDq op k a b (fun v=>qO v H [])).bind (bQ K):=by
 unfold zDq;split<;>first|rfl|(cases decide (b=0)<;>rfl)
theorem zZv{op:BinOp}{k:IntKind}{a b:Int}{K:yZ T R}:zDh op k a b (fun v=>K v H [])=(zDh op k a b (fun v=>qO v H [])).bind (bQ K):=by
 unfold zDh;cases decide (b<0)
 ·simp only [cond_false]
  split<;>rfl
 ·rfl
theorem zaQ{op:BinOp}{a b:ByteArray}{K:yZ T R}:zD5 op a b (fun v=>K v H [])=(zD5 op a b (fun v=>qO v H [])).bind (bQ K):=by
 unfold zD5;split<;>first|rfl|(cases Nat.ble (a.size+b.size) qL<;>rfl)
theorem zc9{op:BinOp}{t:Nat}{x y:Operand}{a b:AV T}{K:yZ T R}:zWm P op t x y a b (fun v=>K v H [])=(zWm P op t x y a b (fun v=>qO v H [])).bind (bQ K):=by
 unfold zWm;split
 ·cases zWJ op
  ·rename_i k a k' b
   cases(k==k')
   ·rfl
   ·exact zaD
  ·exact zZv
 ·exact zaQ
 ·generalize zVv P t x y _ _ =b
  cases b
  ·rfl
  ·simp only [cond_true]
   generalize eqA P 6 t _ _ =e;split<;>first|rfl|(cases e<;>rfl)
theorem zgq{op:UnOp}{a:AV T}{K:yZ T R}:unA op a (fun v=>K v H [])=(unA op a (fun v=>qO v H [])).bind (bQ K):=by
 unfold unA;split<;>rfl
theorem zUi{s f:Nat}{a:AV T}{K:yZ T R}:vZ P s f a H K=(vZ P s f a H qO).bind (bQ K):=by
 unfold vZ;split
 ·split
  ·split<;>rfl
  ·rfl
 ·rfl
theorem zZn{s f:Nat}{a:AV T}{K:yZ T R}:zDP P s f a H K=(zDP P s f a H qO).bind (bQ K):=by
 unfold zDP;split
 ·split
  ·exact zOi
  ·rfl
 ·rfl
theorem zZA{α:Type}{o:Option α}{f:α→AV T}{K:yZ T R}:(o.bind fun x=>K (f x) H [])=(o.bind fun x=>qO (f x) H []).bind (bQ K):=by cases o<;>rfl
theorem zUX{t:Nat}{a i:AV T}{K:yZ T R}:vc C P t a i H K=(vc C P t a i H qO).bind (bQ K):=by
 unfold vc;split
 ·split
  ·split
   ·split
    ·generalize (_ &&_)=b
     cases b<;>rfl
    ·rfl
   ·generalize (_ &&_)=b
    cases b
    ·rfl
    ·exact zZA
   ·generalize (_ &&_)=b
    cases b<;>rfl
   ·rfl
  ·rfl
 ·split
  ·generalize (_ &&_)=b
   cases b
   ·rfl
   ·simp only [cond_true]
    split<;>rfl
  ·rfl
 ·rfl
theorem zTY{t:Nat}{a i:AV T}{K:yZ T R}:xo C P t a i H K=(xo C P t a i H qO).bind (bQ K):=by
 exact zUX
theorem zZ9{t:Nat}{a i:AV T}{K:yZ T R}:zDX P t a i H K=(zDX P t a i H qO).bind (bQ K):=by
 unfold zDX;split
 ·rename_i s k n _
  generalize decide (0≤n)=b;cases b
  ·rfl
  ·exact zZA
 ·split
  ·generalize (_ &&_)=b
   cases b
   ·rfl
   ·exact zOi
  ·rfl
 ·rfl
theorem zaT{t:Nat}{a:AV T}{lo hi mx:Option (AV T)}{K:yZ T R}:jg C P t a lo hi mx H K=(jg C P t a lo hi mx H qO).bind (bQ K):=by
 unfold jg;split
 ·split
  ·cases isNone mx
   ·rfl
   ·simp only [cond_true]
    split
    ·generalize (_ &&_)=b
     cases b<;>rfl
    ·rfl
  ·rfl
 ·split
  ·generalize (_ &&_)=b
   cases b<;>rfl
  ·generalize Nat.beq _ _ =b
   cases b
   ·rfl
   ·simp only [cond_true]
    split
    ·split
     ·generalize (_ &&_)=b
      cases b<;>rfl
     ·rfl
    ·rfl
 ·rfl
theorem zcM{s d:Nat}{a:AV T}{K:yZ T R}:zBY C P s d a H K=(zBY C P s d a H qO).bind (bQ K):=by
 unfold zBY;split
 ·rfl
 ·rfl
 ·rfl
 ·split
  ·generalize (_ &&_)=b
   cases b<;>rfl
  ·rfl
 ·split
  ·generalize (_ &&_)=b
   cases b<;>rfl
  ·rfl
 ·split
  ·generalize liesAt _ _ _ _ _ _ _ =b
   cases b<;>rfl
  ·rfl
 ·split
  ·generalize Nat.beq _ _ =b
   cases b
   ·rfl
   ·simp only [cond_true]
    split<;>rfl
  ·rfl
 ·rfl
theorem zYO{a:AV T}{t:Nat}{ok:Bool}{K:yZ T R}:pZ P a t ok H K=(pZ P a t ok H qO).bind (bQ K):=by
 unfold pZ;split
 ·split
  ·split
   ·split
    ·rfl
    ·cases ok
     ·rfl
     ·simp only [cond_true];split<;>rfl
   ·rfl
  ·rfl
 ·split
  ·generalize Nat.beq _ _ =b
   cases b
   ·cases ok
    ·rfl
    ·simp only [cond_true,cond_false];split<;>rfl
   ·rfl
  ·cases ok
   ·rfl
   ·simp only [cond_true];split<;>rfl
  ·rfl
 ·rfl
theorem zfL{t:Nat}{a:AV T}{K:yZ T R}:zR0 P t a H K=(zR0 P t a H qO).bind (bQ K):=by
 unfold zR0;split<;>first|rfl|(split<;>rfl)
theorem ze7{t:Nat}{a:AV T}{K:yZ T R}:zWC P t a H K=(zWC P t a H qO).bind (bQ K):=by
 exact zfL
theorem zZ6{t:Nat}{a:AV T}{lo hi mx:Option (AV T)}{K:yZ T R}:vp C P t a lo hi mx H K=(vp C P t a lo hi mx H qO).bind (bQ K):=by
 unfold vp;split
 ·split
  ·split
   ·generalize (_ &&_)=b
    cases b<;>rfl
   ·rfl
  ·rfl
 ·exact zaT
theorem zYZ{mx:Bool}{args:List (AV T)}{K:yZ T R}:uZ mx args H K=(uZ mx args H qO).bind (bQ K):=by
 unfold uZ;split<;>rfl
theorem zVo{o:Oper}{env:Env T}(hq:vR P env o=true){K:yZ T R}:
 vV C P G o env H K (fun _ _ =>none)=(vV C P G o env H qO (fun _ _ =>none)).bind (bQ K):=by
 unfold vR at hq;unfold vV;cases hop:o.op<;>rw [hop]at hq<;>simp only at hq⊢<;>first
  |(cases hq;done)
  |(rw [zCx,zCx];exact zcX)
  |exact zaR
  |exact zVC
  |exact zc9
  |exact zgq
  |exact zcM
  |exact zZ6
  |exact zUi
  |exact zZn
  |exact zTY
  |exact zZ9
  |exact zYO
  |rfl
  |skip
 case pick=>split<;>first|rfl|(rename_i b _;cases b<;>rfl)
 case makeInterface=>split<;>rfl
 case extract=>
  split
  ·split<;>rfl
  ·rfl
 case call c=>
  obtain⟨callee,args,at_⟩:=c;cases callee with
  |builtin b=>
   simp only at hq⊢;unfold vT;cases b<;>simp only at hq<;>first
    |(cases hq;done)
    |exact zYZ
    |skip
   split<;>first
    |exact ze7
    |rfl
    |simp_all
  |value f=>rfl
  |invoke r m=>rfl
theorem zYy{o:Oper}{env:Env T}(hq:vR P env o=true){K:yZ T R}{r:R}(h:vV C P G o env H K (fun _ _ =>none)=some r):
  ∃z,vV C P G o env H qO (fun _ _ =>none)=some z∧bQ K z=some r:=by
 rw [zVo hq]at h;cases hz:vV C P G o env H qO (fun _ _ =>none)with
 |none=>rw [hz]at h;cases h
 |some z=>rw [hz]at h;exact⟨z,rfl,h⟩
theorem zaB{o:Oper}{env env':Env T}(h:∀x∈o.op.operands,w8 env x=w8 env' x){K:yZ T R}{Kp:AV T→List (zT T)→Option R}:
  vV C P G o env H K Kp=vV C P G o env' H K Kp:=by
 have pairs:∀ps:Array (Nat×Operand),(∀x∈ps.map (·.2),w8 env x=w8 env' x)→
   (ps.toList.map fun p=>(p.1,w8 env p.2))=(ps.toList.map fun p=>(p.1,w8 env' p.2)):=fun ps hp=>
  List.map_congr_left fun p hm=>by
   obtain⟨i,x⟩:=p;simp only [hp x (Array.mem_map.2 ⟨(i,x),Array.mem_toList_iff.1 hm,rfl⟩)]
 have arr:∀ps:Array Operand,(∀x∈ps,w8 env x=w8 env' x)→ps.toList.map (w8 env)=ps.toList.map (w8 env'):=fun ps hp=>
  List.map_congr_left fun x hm=>hp x (Array.mem_toList_iff.1 hm)
 unfold vV;cases hop:o.op<;>rw [hop]at h<;>simp only [Op.operands]at h<;>try simp only
 case panic x=>rw [h x (by simp)]
 case build t ps=>rw [pairs ps fun x hx=>h x (by simpa using hx)]
 case buildSlice t n ps=>rw [pairs ps fun x hx=>h x (by simpa using hx)]
 case makeFunc fn first captured=>
  rw [arr first fun x hx=>h x (by simp [hx]),arr captured fun x hx=>h x (by simp [hx])]
 case call c=>
  obtain⟨callee,args,at_⟩:=c;cases callee with
  |builtin b=>simp only;rw [arr args fun x hx=>h x (by simp [Call.operands,hx])]
  |value f=>rfl
  |invoke r m=>rfl
 case slice t x lo hi mx=>
  have e1:lo.map (w8 env)=lo.map (w8 env'):=by cases lo<;>simp_all
  have e2:hi.map (w8 env)=hi.map (w8 env'):=by cases hi<;>simp_all
  have e3:mx.map (w8 env)=mx.map (w8 env'):=by cases mx<;>simp_all
  rw [e1,e2,e3,h x (by simp)]
 case pick c x y=>rw [h c (by simp),h x (by simp),h y (by simp)]
 all_goals (first|rfl|(simp_all;done)|skip)
theorem zWF{o:Oper}{env env':Env T}(h:∀x∈o.op.operands,w8 env x=w8 env' x):vR P env o=vR P env' o:=by
 unfold vR;cases hop:o.op<;>rw [hop]at h<;>simp only [Op.operands]at h<;>try simp only
 case slice t x lo hi mx=>rw [h x (by simp)]
 case call c=>obtain⟨callee,args,at_⟩:=c;cases callee<;>rfl
mutual
theorem zD1:∀(x:AV T) (y:Value),zr C σ H w x y→below H.length x=true
 | .any,_,_ | .v _,_,_ | .wU _ _ _,_,_ | .vA _ _,_,_ | .qG,_,_ | .z0,_,_ =>rfl
 | .agg l,_,⟨vs,_,h⟩=>j5 l _ h
 | .qu l,_,⟨vs,_,h⟩=>j5 l _ h
 | .ptr o off,_,h=>Nat.ble_eq_true_of_le h.1
 | .wu o i off,_,h=>Nat.ble_eq_true_of_le h.1
 | .own o,_,h=>Nat.ble_eq_true_of_le h.1
 | .sp o,_,h=>Nat.ble_eq_true_of_le h.1
 | .yB o a b c,_,h=>Nat.ble_eq_true_of_le h.1
 | .fn f a b,_,⟨_,_,_,h1,h2⟩=>by
  show(xE H.length a&&xE H.length b)=true;rw [j5 a _ h1,j5 b _ h2];rfl
 | .q9 t x,_,⟨z,_,h⟩=>zD1 x z h
theorem j5:∀(l:List (AV T)) (ys:List Value),yW C σ H w l ys→xE H.length l=true
 |[],_,_ =>rfl
 |x::l,_,⟨y,ys,_,h1,h2⟩=>by
  show(below H.length x&&xE H.length l)=true;rw [zD1 x y h1,j5 l ys h2];rfl
end
end Go.Proofs.YtdoifigogbdodaaGreatDoor.Ev

namespace Go.Proofs.YtdoifigogbdodaaGreatDoor.Ev
open Go
variable {T:Nat→Type} {C:wB T} {P:Program} {σ:Lk} {H H':List (zT T)} {w:World} {G:Nat→Option (List (V T))} {R:Type}
def um(H':List (zT T))(z:zgp T):zgp T:=(z.1,H',[])
def zF6(S:List Nat)(H H':List (zT T)):Prop:=∀o∈S,H[o]? =H'[o]?
theorem zXC{ag:Bool}{n:Nat}{cs:List (AV T)}:whole ag n cs (fun x=>qO x H' [])=(whole ag n cs (fun x=>qO x H [])).map (um H'):=by
 unfold whole;cases ag
 ·simp only [cond_false]
  split<;>rfl
 ·simp only [cond_true]
  cases Nat.beq cs.length n<;>rfl
theorem zcB{g:Nat→Option (List (AV T))}{a:AV T}{n:Nat}(h:zF6 (refs a) H H'):uY C g H' a n=uY C g H a n:=by
 cases a with
 |ptr o off=>simp only [uY];rw [h o (by simp [refs])]
 |wu o i off=>simp only [uY];rw [h o (by simp [refs])]
 |_ =>rfl
theorem zSq{e:Nat}{a:AV T}(h:zF6 (refs a) H H'):jz H' e a=jz H e a:=by
 cases a with
 |own o=>simp only [jz];rw [h o (by simp [refs])]
 |v x=>cases x<;>rfl
 |_ =>rfl
theorem zfi{t:Nat}{a:AV T}(h:zF6 (refs a) H H'):zCk C P G t a H' qO=(zCk C P G t a H qO).map (um H'):=by
 unfold zCk;cases qF P t<;>cases zUO P t<;>try rfl
 simp only;rw [zcB h];cases uY C (fun g=>(G g).map fun l=>l.map AV.v) H a _ <;>try rfl
 exact zXC
theorem zeE{t:Nat}{parts:List (Nat×AV T)}:zDj P t parts H' qO=(zDj P t parts H qO).map (um H'):=by
 unfold zDj;split
 ·cases zUD P t
  ·rfl
  ·simp only [cond_true]
   split<;>rfl
 ·rfl
theorem zZM{a:AV T}:jV a H' qO=(jV a H qO).map (um H'):=by
 unfold jV;split<;>rfl
theorem zfP{op:BinOp}{k:IntKind}{a b:Int}:zDq op k a b (fun v=>qO v H' [])=(zDq (T:=T) op k a b (fun v=>qO v H [])).map (um H'):=by
 unfold zDq;split<;>first|rfl|(cases decide (b=0)<;>rfl)
theorem zdy{op:BinOp}{k:IntKind}{a b:Int}:zDh op k a b (fun v=>qO v H' [])=(zDh (T:=T) op k a b (fun v=>qO v H [])).map (um H'):=by
 unfold zDh;cases decide (b<0)
 ·simp only [cond_false]
  split<;>rfl
 ·rfl
theorem zek{op:BinOp}{a b:ByteArray}:zD5 op a b (fun v=>qO v H' [])=(zD5 (T:=T) op a b (fun v=>qO v H [])).map (um H'):=by
 unfold zD5;split<;>first|rfl|(cases Nat.ble (a.size+b.size) qL<;>rfl)
theorem zj7{op:BinOp}{t:Nat}{x y:Operand}{a b:AV T}:zWm P op t x y a b (fun v=>qO v H' [])=(zWm P op t x y a b (fun v=>qO v H [])).map (um H'):=by
 unfold zWm;split
 ·cases zWJ op
  ·rename_i k a k' b
   cases(k==k')
   ·rfl
   ·exact zfP
  ·exact zdy
 ·exact zek
 ·generalize zVv P t x y _ _ =b
  cases b
  ·rfl
  ·simp only [cond_true]
   generalize eqA P 6 t _ _ =e;split<;>first|rfl|(cases e<;>rfl)
theorem zmr{op:UnOp}{a:AV T}:unA op a (fun v=>qO v H' [])=(unA op a (fun v=>qO v H [])).map (um H'):=by
 unfold unA;split<;>rfl
theorem zWM{s f:Nat}{a:AV T}:vZ P s f a H' qO=(vZ P s f a H qO).map (um H'):=by
 unfold vZ;split
 ·split
  ·split<;>rfl
  ·rfl
 ·rfl
theorem zel{s f:Nat}{a:AV T}:zDP P s f a H' qO=(zDP P s f a H qO).map (um H'):=by
 unfold zDP;split
 ·split
  ·exact zXC
  ·rfl
 ·rfl
theorem zej{α:Type}{o:Option α}{f:α→AV T}:(o.bind fun x=>qO (f x) H' [])=(o.bind fun x=>qO (f x) H []).map (um H'):=by cases o<;>rfl
theorem zWG{t:Nat}{a i:AV T}(h:zF6 (refs a) H H'):vc C P t a i H' qO=(vc C P t a i H qO).map (um H'):=by
 unfold vc;split
 ·split
  ·split
   ·rename_i o
    rw [h o (by simp [refs])];split
    ·generalize (_ &&_)=b
     cases b<;>rfl
    ·rfl
   ·generalize (_ &&_)=b
    cases b
    ·rfl
    ·exact zej
   ·generalize (_ &&_)=b
    cases b<;>rfl
   ·rfl
  ·rfl
 ·split
  ·generalize (_ &&_)=b
   cases b
   ·rfl
   ·simp only [cond_true]
    split<;>rfl
  ·rfl
 ·rfl
theorem zer{t:Nat}{a i:AV T}:zDX P t a i H' qO=(zDX P t a i H qO).map (um H'):=by
 unfold zDX;split
 ·rename_i s k n _
  generalize decide (0≤n)=b;cases b
  ·rfl
  ·exact zej
 ·split
  ·generalize (_ &&_)=b
   cases b
   ·rfl
   ·exact zXC
  ·rfl
 ·rfl
theorem zdB{t:Nat}{a:AV T}{lo hi mx:Option (AV T)}(ho:zbX a=false)(h:zF6 (refs a) H H'):jg C P t a lo hi mx H' qO=(jg C P t a lo hi mx H qO).map (um H'):=by
 unfold jg;split
 ·split
  ·cases isNone mx
   ·rfl
   ·simp only [cond_true]
    split
    ·generalize (_ &&_)=b
     cases b<;>rfl
    ·rfl
  ·rfl
 ·split
  ·generalize (_ &&_)=b
   cases b<;>rfl
  ·generalize Nat.beq _ _ =b
   cases b
   ·rfl
   ·simp only [cond_true]
    rw [zSq h];split
    ·split
     ·generalize (_ &&_)=b
      cases b
      ·rfl
      ·simp only [cond_true]
       cases a<;>first|rfl|(cases ho)
     ·rfl
    ·rfl
 ·rfl
theorem zhQ{s d:Nat}{a:AV T}(hd:zCz P d=false)(h:zF6 (refs a) H H'):zBY C P s d a H' qO=(zBY C P s d a H qO).map (um H'):=by
 unfold zBY;split
 ·rfl
 ·rfl
 ·rfl
 ·rename_i e _ h1 h2
  simp [zCz,h2]at hd
 ·rename_i t o k _ _
  rw [h o (by simp [refs])];split
  ·generalize (_ &&_)=b
   cases b<;>rfl
  ·rfl
 ·rename_i t o k _ _
  rw [h o (by simp [refs])];split
  ·generalize liesAt _ _ _ _ _ _ _ =b
   cases b<;>rfl
  ·rfl
 ·split
  ·generalize Nat.beq _ _ =b
   cases b
   ·rfl
   ·simp only [cond_true]
    rw [zSq h];split<;>rfl
  ·rfl
 ·rfl
theorem zbk{a:AV T}{t:Nat}{ok:Bool}:pZ P a t ok H' qO=(pZ P a t ok H qO).map (um H'):=by
 unfold pZ;split
 ·split
  ·split
   ·split
    ·rfl
    ·cases ok
     ·rfl
     ·simp only [cond_true];split<;>rfl
   ·rfl
  ·rfl
 ·split
  ·generalize Nat.beq _ _ =b
   cases b
   ·cases ok
    ·rfl
    ·simp only [cond_true,cond_false];split<;>rfl
   ·rfl
  ·cases ok
   ·rfl
   ·simp only [cond_true];split<;>rfl
  ·rfl
 ·rfl
theorem zk0{t:Nat}{a:AV T}(h:zF6 (refs a) H H'):zR0 P t a H' qO=(zR0 P t a H qO).map (um H'):=by
 unfold zR0;split<;>first
  |rfl
  |(rw [←h _ (by simp [refs])];split<;>rfl)
theorem zcL{mx:Bool}{args:List (AV T)}:uZ mx args H' qO=(uZ mx args H qO).map (um H'):=by
 unfold uZ;split<;>rfl
theorem zWI{t:Nat}{a i:AV T}(h:zF6 (refs a) H H'):xo C P t a i H' qO=(xo C P t a i H qO).map (um H'):=by
 exact zWG h
theorem zjw{t:Nat}{a:AV T}(h:zF6 (refs a) H H'):zWC P t a H' qO=(zWC P t a H qO).map (um H'):=by
 exact zk0 h
theorem zfT{t:Nat}{a:AV T}{lo hi mx:Option (AV T)}(ho:zbX a=false)(h:zF6 (refs a) H H'):vp C P t a lo hi mx H' qO=(vp C P t a lo hi mx H qO).map (um H'):=by
 unfold vp;split
 ·split
  ·split
   ·generalize (_ &&_)=b
    cases b<;>rfl
   ·rfl
  ·rfl
 ·exact zdB ho h
def jB(env:Env T)(o:Oper):List Nat:=o.op.operands.toList.flatMap fun x=>refs (w8 env x)
theorem zcD{env:Env T}{o:Oper}{x:Operand}(hx:x∈o.op.operands){S:List Nat}(h:zF6 (jB env o) H H'):zF6 (refs (w8 env x)) H H':=
 fun i hi=>h i (List.mem_flatMap.2 ⟨x,Array.mem_toList_iff.2 hx,hi⟩)
def zIG(o:Oper):Bool:=
 match o.op with
 | .load _ _ | .indexAddr _ _ _ | .convert _ _ _ | .slice _ _ _ _ _ | .call _ =>true
 |_ =>false
theorem zdk{o:Oper}{env:Env T}(hq:vR P env o=true)(hs:zIG o=true→zF6 (jB env o) H H'):
  vV C P G o env H' qO (fun _ _ =>none)=(vV C P G o env H qO (fun _ _ =>none)).map (um H'):=by
 have hx:zIG o=true→∀x∈o.op.operands,zF6 (refs (w8 env x)) H H':=fun hb x hx=>zcD (S:=[]) hx (hs hb)
 clear hs;unfold zIG at hx;unfold vR at hq;unfold vV;cases hop:o.op<;>rw [hop]at hq hx<;>simp only [Op.operands]at hq hx⊢<;>first
  |(cases hq;done)
  |(rw [zCx,zCx];exact zfi (hx trivial _ (by simp)))
  |exact zeE
  |exact zZM
  |exact zj7
  |exact zmr
  |exact zhQ (by simpa using hq) (hx trivial _ (by simp))
  |exact zfT (by simpa using hq) (hx trivial _ (by simp))
  |exact zWM
  |exact zel
  |exact zWI (hx trivial _ (by simp))
  |exact zer
  |exact zbk
  |rfl
  |skip
 case pick=>split<;>first|rfl|(rename_i b _;cases b<;>rfl)
 case makeInterface=>split<;>rfl
 case extract=>
  split
  ·split<;>rfl
  ·rfl
 case call c=>
  obtain⟨callee,args,at_⟩:=c;cases callee with
  |builtin b=>
   simp only [Call.operands]at hq hx⊢;unfold vT;cases b<;>simp only at hq<;>first
    |(cases hq;done)
    |exact zcL
    |skip
   split<;>first
    |rfl
    |(rename_i t ts x xs h1 h2 h3;refine zjw ?_
      have:x∈args.toList.map (w8 env):=by rw [h3];simp
      obtain⟨y,hy,rfl⟩:=List.mem_map.1 this;exact hx trivial y (by simpa using hy))
    |(rename_i h1 h2 h3;cases h1;done)
    |(cases‹Builtin.len=_›)
    |simp_all
  |value f=>rfl
  |invoke r m=>rfl
end Go.Proofs.YtdoifigogbdodaaGreatDoor.Ev

namespace Go.Proofs.YtdoifigogbdodaaGreatDoor.Ev
open Go
variable {T:Nat→Type} {C:wB T} {P:Program} {σ:Lk} {H H':List (zT T)} {w:World} {G:Nat→Option (List (V T))} {R:Type}
structure Fr(S0:List Nat)(H H':List (zT T)):Prop where
 len:H.length≤H'.length
 get:∀o,o<H.length→o∉S0→H'[o]? =H[o]?
def wx(S0:List Nat)(H H':List (zT T))(S:List Nat):Prop:=S=[]→Fr S0 H H'
theorem Fr.refl{S0:List Nat}:Fr S0 H H:=⟨Nat.le_refl _,fun _ _ _ =>rfl⟩
theorem Fr.trans{S0:List Nat}{H2:List (zT T)}(h:Fr S0 H H')(k:Fr S0 H' H2):Fr S0 H H2:=
 ⟨Nat.le_trans h.len k.len,fun o ho hn=>(k.get o (Nat.lt_of_lt_of_le ho h.len) hn).trans (h.get o ho hn)⟩
theorem Fr.mono{S0 S1:List Nat}(h:Fr S0 H H')(hs:∀o∈S0,o∈S1):Fr S1 H H':=⟨h.len,fun o ho hn=>h.get o ho fun hm=>hn (hs o hm)⟩
theorem Fr.app{S0:List Nat}(l:List (zT T)):Fr S0 H (H++l):=⟨by simp,fun o ho _ =>List.getElem?_append_left ho⟩
theorem Fr.set{S0:List Nat}{o:Nat}{x:zT T}(ho:o∈S0):Fr S0 H (H.set o x):=
 ⟨by simp,fun i hi hn=>List.getElem?_set_ne fun e=>hn (by rw [←e];exact ho)⟩
theorem Fr.zDN{S0:List Nat}{o:Nat}(ho:o∈S0):Fr S0 H (Ev.zDN o H):=by
 unfold Ev.zDN;split
 ·exact Fr.set ho
 ·exact Fr.refl
theorem wq{o:Nat}:∀{l:List (AV T)},o∈qH l↔∃x∈l,o∈refs x
 |[]=>by simp [qH]
 |x::l=>by simp [qH,wq (l:=l)]
theorem zV8(x:Value):refs (zJZ (T:=T) x)=[]:=by
 unfold zJZ;split<;>rfl
theorem zaW(x:Value):refs (ofConst (T:=T) x)=[]:=by
 unfold ofConst;split
 ·rename_i cs
  simp only [refs];apply List.eq_nil_iff_forall_not_mem.2;intro o ho;obtain⟨y,hy,h⟩:=wq.1 ho;obtain⟨z,_,rfl⟩:=List.mem_map.1 hy;rw [zV8]at h;cases h
 ·exact zV8 x
theorem zE9{x:AV T}{cs:List (AV T)}(h:zJV x=some cs):qH cs=refs x:=by
 cases x<;>simp only [zJV,Option.some.injEq,reduceCtorEq]at h<;>subst h<;>simp [refs,qH]
theorem zUU{t:Nat}{z:List (AV T)}(h:zEJ P t=some z):qH z=[]:=by
 unfold zEJ at h;split at h
 ·rw [zE9 h,zaW]
 ·cases h
theorem zSp{place:Nat→Option (Nat×Nat)}:∀(parts:List (Nat×AV T)) (cells cs:List (AV T)),zMN place cells parts=some cs→∀o∈qH cs,o∈qH cells∨∃p∈parts,o∈refs p.2
 |[],cells,cs,h,o,ho=>by cases h;exact .inl ho
 |(i,x)::rest,cells,cs,h,o,ho=>by
  simp only [zMN]at h;split at h
  ·rename_i off n c1 _ hc
   generalize (Nat.beq c1.length n&&Nat.ble (off+c1.length) cells.length)=b at h;cases b
   ·cases h
   ·rcases zSp rest _ cs h o ho with h1|⟨p,hp,h1⟩
    ·obtain⟨y,hy,h2⟩:=wq.1 h1
     simp only [yS,List.mem_append]at hy;rcases hy with(hy|hy)|hy
     ·exact .inl (wq.2 ⟨y,List.mem_of_mem_take hy,h2⟩)
     ·refine .inr ⟨(i,x),by simp, ?_⟩
      rw [←zE9 hc];exact wq.2 ⟨y,hy,h2⟩
     ·exact .inl (wq.2 ⟨y,List.mem_of_mem_drop hy,h2⟩)
    ·exact .inr ⟨p,by simp [hp],h1⟩
  ·cases h
theorem zVi{l:List (AV T)}(h:qH l=[]):∀n,qH (gR l n)=[]
 |0=>rfl
 |n+1=>by
  apply List.eq_nil_iff_forall_not_mem.2;intro o ho;obtain⟨x,hx,h1⟩:=wq.1 ho;simp only [gR,List.mem_append]at hx;rcases hx with hx|hx
  ·have:=wq.2 ⟨x,hx,h1⟩;rw [h]at this;cases this
  ·have:=wq.2 ⟨x,hx,h1⟩;rw [zVi h n]at this;cases this
theorem zKa{S0:List Nat}:∀(l:List (AV T)) (H:List (zT T)) (K K':List (V T)→List (zT T)→Option R),(∀o∈qH l,o∈S0)→
  (∀vs H',Fr S0 H H'→K vs H'=K' vs H')→vsK l H K=vsK l H K'
 |[],H,K,K',_,h=>h _ _ Fr.refl
 |x::l,H,K,K',hs,h=>by
  have hs':∀o∈qH l,o∈S0:=fun o ho=>hs o (by simp [qH,ho])
  cases x with
  |v x=>exact zKa l H _ _ hs' fun vs H' hf=>h _ _ hf
  |qG=>exact zKa l H _ _ hs' fun vs H' hf=>h _ _ hf
  |z0=>exact zKa l H _ _ hs' fun vs H' hf=>h _ _ hf
  |own o=>
   simp only [vsK];split
   ·exact zKa l _ _ _ hs' fun vs H' hf=>h _ _ ((Fr.zDN (hs o (by simp [qH,refs]))).trans hf)
   ·rfl
  |_ =>rfl
variable {K K':yZ T R} {S0:List Nat}
theorem zbv{e:Nat}(h:∀x H' S,wx S0 H H' S→K x H' S=K' x H' S):zPZ P e H K=zPZ P e H K':=by
 unfold zPZ;split
 ·exact h _ _ _ fun _ =>Fr.app _
 ·rfl
theorem zg7{e:Nat}{x:AV T}(h:∀x H' S,wx S0 H H' S→K x H' S=K' x H' S):zbo e x H K=zbo e x H K':=by
 unfold zbo;split
 ·exact h _ _ _ fun _ =>Fr.app _
 ·rfl
theorem zTr{t n:Nat}{parts:List (Nat×AV T)}(hs:∀p∈parts,∀o∈refs p.2,o∈S0)(h:∀x H' S,wx S0 H H' S→K x H' S=K' x H' S):
  kU C P t n parts H K=kU C P t n parts H K':=by
 unfold kU;split
 ·split
  ·rename_i m z _ hz
   generalize (_ &&_)=b;cases b
   ·rfl
   ·simp only [cond_true]
    split
    ·rename_i cs hcs
     cases C.typed _
     ·exact h _ _ _ fun _ =>Fr.app _
     ·simp only [cond_true]
      generalize Nat.beq _ _ =b;cases b
      ·rfl
      ·refine zKa (S0:=S0) cs H _ _ (fun o ho=> ?_) fun vs H' hf=> ?_
       ·rcases zSp _ _ _ hcs o ho with h1|⟨p,hp,h1⟩
        ·rw [zVi (zUU hz)]at h1;cases h1
        ·exact hs p hp o h1
       ·cases zdw C _ n vs with
        |none=>rfl
        |some l=>exact h _ _ _ fun _ =>hf.trans (Fr.app _)
    ·rfl
  ·rfl
 ·rfl
theorem zbn{t:Nat}{a x:AV T}(ha:∀o∈refs a,o∈S0)(hx:∀o∈refs x,o∈S0)(h:∀x H' S,wx S0 H H' S→K x H' S=K' x H' S):zPL C P t a x H K=zPL C P t a x H K':=by
 unfold zPL;split
 ·rename_i n cs _ hcs
  generalize (_ &&_)=b;cases b
  ·rfl
  ·simp only [cond_true]
   split
   ·split
    ·rename_i o off _ _ _ l _
     generalize Nat.ble _ _ =b;cases b
     ·rfl
     ·exact h _ _ _ fun _ =>Fr.set (ha o (by simp [refs]))
    ·rfl
   ·rename_i o i off
    refine zKa (S0:=S0) cs H _ _ (fun q hq=>hx q (zE9 hcs▸hq)) fun vs H' hf=> ?_
    split
    ·split
     ·generalize Nat.ble _ _ =b
      cases b
      ·rfl
      ·simp only [cond_true]
       cases C.dec _ _ with
       |none=>rfl
       |some z=>exact h _ _ _ fun _ =>hf.trans (Fr.set (ha o (by simp [refs])))
     ·rfl
    ·rfl
   ·rfl
 ·rfl
theorem zVR{t:Nat}{a b:AV T}(h:∀x H' S,wx S0 H H' S→K x H' S=K' x H' S):xe C P t a b H K=xe C P t a b H K':=by
 unfold xe;split
 ·split
  ·rename_i hz _
   generalize (_ &&_)=b;cases b
   ·rfl
   ·refine zKa (S0:=S0) _ H _ _ (fun o ho=> ?_) fun vs H' hf=> ?_
    ·rw [zUU ‹zEJ P _ =_›]at ho;cases ho
    ·cases C.dec _ _ with
     |none=>rfl
     |some l=>exact h _ _ _ fun _ =>hf.trans (Fr.app _)
  ·rfl
 ·rfl
theorem zd5{s d:Nat}{a:AV T}(h:∀x H' S,wx S0 H H' S→K x H' S=K' x H' S):zBY C P s d a H K=zBY C P s d a H K':=by
 unfold zBY;split
 ·exact h _ _ _ fun _ =>Fr.refl
 ·exact h _ _ _ fun _ =>Fr.refl
 ·exact h _ _ _ fun _ =>Fr.refl
 ·split
  ·generalize (_ &&_)=b
   cases b
   ·rfl
   ·exact h _ _ _ fun _ =>Fr.app _
  ·rfl
 ·split
  ·generalize (_ &&_)=b
   cases b
   ·rfl
   ·exact h _ _ _ fun _ =>Fr.refl
  ·rfl
 ·split
  ·generalize liesAt _ _ _ _ _ _ _ =b
   cases b
   ·rfl
   ·exact h _ _ _ fun _ =>Fr.refl
  ·rfl
 ·split
  ·generalize Nat.beq _ _ =b
   cases b
   ·rfl
   ·simp only [cond_true]
    split
    ·exact h _ _ _ fun _ =>Fr.refl
    ·rfl
  ·rfl
 ·rfl
theorem zcP{t:Nat}{a:AV T}{lo hi mx:Option (AV T)}(ha:∀o∈refs a,o∈S0)(h:∀x H' S,wx S0 H H' S→K x H' S=K' x H' S):jg C P t a lo hi mx H K=jg C P t a lo hi mx H K':=by
 unfold jg;split
 ·split
  ·cases isNone mx
   ·rfl
   ·simp only [cond_true]
    split
    ·generalize (_ &&_)=b
     cases b
     ·rfl
     ·exact h _ _ _ fun _ =>Fr.refl
    ·rfl
  ·rfl
 ·split
  ·generalize (_ &&_)=b
   cases b
   ·rfl
   ·exact h _ _ _ fun _ =>Fr.refl
  ·generalize Nat.beq _ _ =b
   cases b
   ·rfl
   ·simp only [cond_true]
    split
    ·split
     ·generalize (_ &&_)=b
      cases b
      ·rfl
      ·refine h _ _ _ fun _ => ?_
       cases a<;>first|exact Fr.refl|exact Fr.zDN (ha _ (by simp [refs]))
     ·rfl
    ·rfl
 ·rfl
theorem zbl{t:Nat}{a:AV T}(h:∀x H' S,wx S0 H H' S→K x H' S=K' x H' S):zOQ P t a H K=zOQ P t a H K':=by
 unfold zOQ;split
 ·exact h _ _ _ fun _ =>Fr.app _
 ·rfl
theorem zdE{a:AV T}{b:Bool}(ha:∀o∈refs a,o∈S0)(h:∀x H' S,wx S0 H H' S→K x H' S=K' x H' S):zVZ a b H K=zVZ a b H K':=by
 unfold zVZ;split
 ·split
  ·generalize Nat.blt _ _ =b
   cases b
   ·exact h _ _ _ fun _ =>Fr.refl
   ·exact h _ _ _ fun _ =>Fr.set (ha _ (by simp [refs]))
  ·rfl
 ·rfl
theorem zgX{t:Nat}{a:AV T}(h:∀x H' S,wx S0 H H' S→K x H' S=K' x H' S):zR0 P t a H K=zR0 P t a H K':=by
 unfold zR0;split<;>first
  |rfl
  |exact h _ _ _ fun _ =>Fr.refl
  |(split<;>first|rfl|exact h _ _ _ fun _ =>Fr.refl)
theorem zZo{t u:Nat}{a b:AV T}(h:∀x H' S,wx S0 H H' S→K x H' S=K' x H' S):zF0 C P t u a b H K=zF0 C P t u a b H K':=by
 unfold zF0;split
 ·split
  ·generalize (_ &&_)=b
   cases b
   ·rfl
   ·simp only [cond_true]
    split
    ·generalize Nat.ble _ _ =b
     cases b
     ·rfl
     ·exact h _ _ _ fun _ =>Fr.app _
    ·generalize zaJ _ =b
     cases b
     ·simp only [cond_false]
      generalize Nat.ble _ _ =b;cases b
      ·rfl
      ·exact h _ _ _ fun _ =>Fr.app _
     ·exact h _ _ _ fun _ =>Fr.refl
    ·split
     ·split
      ·generalize Nat.ble _ _ =b
       cases b
       ·rfl
       ·exact h _ _ _ fun he=>by cases he
      ·rfl
     ·rfl
    ·rfl
  ·rfl
 ·rfl
theorem zgY{t:Nat}{a:AV T}(h:∀x H' S,wx S0 H H' S→K x H' S=K' x H' S):zWC P t a H K=zWC P t a H K':=by
 exact zgX h
theorem zZ8{t u:Nat}{a b:AV T}(h:∀x H' S,wx S0 H H' S→K x H' S=K' x H' S):zFr P t u a b H K=zFr P t u a b H K':=by
 unfold zFr;split
 ·split
  ·split
   ·split
    ·generalize (_ &&_)=b
     cases b
     ·rfl
     ·exact h _ _ _ fun _ =>Fr.app _
    ·rfl
   ·rfl
  ·rfl
 ·rfl
theorem zZj{t u:Nat}{a b:AV T}(h:∀x H' S,wx S0 H H' S→K x H' S=K' x H' S):zFl C P t u a b H K=zFl C P t u a b H K':=by
 unfold zFl;split
 ·exact zZ8 h
 ·exact zZo h
theorem zbt{t:Nat}{a:AV T}{lo hi mx:Option (AV T)}(ha:∀o∈refs a,o∈S0)(h:∀x H' S,wx S0 H H' S→K x H' S=K' x H' S):vp C P t a lo hi mx H K=vp C P t a lo hi mx H K':=by
 unfold vp;split
 ·split
  ·split
   ·generalize (_ &&_)=b
    cases b
    ·rfl
    ·exact h _ _ _ fun _ =>Fr.refl
   ·rfl
  ·rfl
 ·exact zcP ha h
theorem zeS{t:Nat}{a b:AV T}(ha:∀o∈refs a,o∈S0)(h:∀x H' S,wx S0 H H' S→K x H' S=K' x H' S):zVw C P t a b H K=zVw C P t a b H K':=by
 unfold zVw;split
 ·split
  ·split
   ·generalize Nat.beq _ _ =b
    cases b
    ·rfl
    ·simp only [cond_true]
     split
     ·exact h _ _ _ fun _ =>Fr.set (ha _ (by simp [refs]))
     ·rfl
   ·rfl
  ·rfl
 ·rfl
theorem zH8{ty:Nat}{a:AV T}(h:∀x H' S,wx S0 H H' S→K x H' S=K' x H' S):gx P ty a H K=gx P ty a H K':=by
 unfold gx;split
 ·split
  ·split
   ·exact h _ _ _ fun _ =>Fr.refl
   ·rfl
  ·exact h _ _ _ fun _ =>Fr.app _
  ·rfl
 ·rfl
theorem zYF{pt:Nat}{p n:AV T}(h:∀x H' S,wx S0 H H' S→K x H' S=K' x H' S):zCc C P pt p n H K=zCc C P pt p n H K':=by
 unfold zCc;split
 ·split
  ·split
   ·generalize (_ &&_)=b
    cases b
    ·rfl
    ·exact h _ _ _ fun he=>by cases he
   ·rfl
  ·generalize (decide ((_ :Int)=0))=b
   cases b
   ·rfl
   ·exact h _ _ _ fun _ =>Fr.refl
  ·rfl
 ·rfl
theorem zg3{o:Oper}{env:Env T}(hq:vR P env o=true){Kp Kp':AV T→List (zT T)→Option R}:vV C P G o env H K Kp=vV C P G o env H K Kp':=by
 unfold vR at hq;unfold vV;cases hop:o.op<;>rw [hop]at hq<;>try simp only at hq
 case call c=>obtain⟨callee,args,at_⟩:=c;cases callee<;>rfl
 all_goals first|rfl|(cases hq;done)
theorem zgh{o:Oper}{env:Env T}{Kp:AV T→List (zT T)→Option R}(h:∀x H' S,wx (jB env o) H H' S→K x H' S=K' x H' S):vV C P G o env H K Kp=vV C P G o env H K' Kp:=by
 cases hq:vR P env o
 ·have hx:∀x∈o.op.operands,∀i∈refs (w8 env x),i∈jB env o:=fun x hx i hi=>List.mem_flatMap.2 ⟨x,Array.mem_toList_iff.2 hx,hi⟩
  generalize jB env o=S0 at hx h;unfold vR at hq;unfold vV;cases hop:o.op<;>rw [hop]at hq hx<;>simp only [Op.operands]at hq hx⊢<;>first
   |(cases hq;done)
   |exact zbv h
   |exact zg7 h
   |exact zbn (hx _ (by simp)) (hx _ (by simp)) h
   |exact zVR h
   |exact zd5 h
   |exact zbt (hx _ (by simp)) h
   |exact zbl h
   |exact zdE (hx _ (by simp)) h
   |rfl
   |skip
  case buildSlice t n parts=>
   refine zTr (fun p hp i hi=> ?_) h;obtain⟨q,hq',rfl⟩:=List.mem_map.1 hp;exact hx q.2 (by
    simp only [List.mem_toArray];exact List.mem_map.2 ⟨q,hq',rfl⟩) i hi
  case call c=>
   obtain⟨callee,args,at_⟩:=c;cases callee with
   |builtin b=>
    simp only [Call.operands]at hq hx
    show vT C P b o.type at_ (args.toList.map (w8 env)) H K=vT C P b o.type at_ (args.toList.map (w8 env)) H K';unfold vT;split<;>first
     |exact zgY h
     |exact zZj h
     |exact zH8 h
     |exact zYF h
     |rfl
     |skip
    ·rename_i a x xs h1 h2
     refine zeS (fun i hi=> ?_) h;have:a∈args.toList.map (w8 env):=by rw [h2];simp
     obtain⟨y,hy,rfl⟩:=List.mem_map.1 this;exact hx y (by simpa using hy) i hi
    ·cases hq
    ·cases hq
   |value f=>rfl
   |invoke r m=>rfl
 ·
  have key:∀K:yZ T R,vV C P G o env H K Kp=(vV C P G o env H qO (fun _ _ =>none)).bind fun z=>K z.1 H []:=by
   intro K;rw [zg3 hq (Kp':=fun _ _ =>none)];have h2:=zdk (C:=C) (P:=P) (G:=G) (H:=H) (H':=H) (o:=o) hq (fun _ _ _ =>rfl);cases hz:vV C P G o env H qO (fun _ _ =>none)with
   |none=>
    cases hk:vV C P G o env H K (fun _ _ =>none)with
    |none=>rfl
    |some r=>
     obtain⟨z,h3,_⟩:=zYy hq hk;rw [hz]at h3;cases h3
   |some z=>
    rw [hz]at h2;have hz2:z=(z.1,H,[]):=by simpa [um] using h2
    have h4:vV C P G o env H K (fun _ _ =>none)=(vV C P G o env H qO (fun _ _ =>none)).bind (bQ K):=zVo hq;rw [h4,hz];rw [hz2];rfl
  rw [key K,key K'];congr 1;funext z;exact h _ _ _ fun _ =>Fr.refl
end Go.Proofs.YtdoifigogbdodaaGreatDoor.Ev
