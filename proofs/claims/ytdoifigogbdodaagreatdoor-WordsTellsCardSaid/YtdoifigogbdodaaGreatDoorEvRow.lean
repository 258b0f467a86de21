import Derived.Test.YtdoifigogbdodaaGreatDoorEvKnownTwo
import Derived.Handed
import Derived.SizedLaws
import Derived.Shelf.Vars
import Derived.Lib.LaidU8
import Derived.Test.YtdoifigogbdodaaGreatDoorRows
import Derived.Test.YtdoifigogbdodaaGreatDoorShelf
set_option linter.unusedVariables false
set_option linter.unusedSimpArgs false
set_option maxHeartbeats 1000000
namespace Go.Proofs.YtdoifigogbdodaaGreatDoor.Ev.Seat
open Go Ev Go.RowKit Go.Lib Go.Proofs Go.Proofs.YtdoifigogbdodaaGreatDoor
theorem zEl{H:Type}{enc:TypeId×Value→H}{a:Assume}{C:Checked}{os:Os}{f:FuncId}{fn:Func}{s:ChangeSpec}{conds:List PathCond}{apart fresh handsOn again:Bool}{X:World→Array Value→Prop}
  (hX:∀(w w':World) (args:Array Value),w.heap=w'.heap→X w args→X w' args)
  (own:ownKnob C.prog.godebug=none) (started:os.Started) (noInit:C.prog.inits.idxOf? f=none) (hfn:C.prog.funcs[f]? =some fn)
  (witness:∃(w:World) (tape:Tape) (i:Input),w.os=os∧(w.forCall tape i).Shaped C.prog∧i.vars=[]∧Input.okWide C.prog (w.forCall tape i) .any w.heap.size f i∧
   ((s.pre enc C.prog fn conds apart (w.forCall tape i).memory i.args∧X (w.forCall tape i).memory i.args)∧sizedMet enc C.prog fn (OpenSpec.ofChange s) apart (w.forCall tape i).memory i.args)∧a.holds C.prog (lone (Frame.enter C.prog f i.args .normal) [] (w.forCall tape i)))
  (contract:∀(W:World) (base:Nat) (args:Array Value) (ds gs:List (DataW H)) (before:List MemPlace),
   (∀(j:Nat) t v,fn.params[j]? =some t→args[j]? =some v→Value.okWide C.prog W .any base t v)→
   DataW.Whole enc C.prog fn.params.toList s.vars apart W args.toList ds gs before→
   conds.all (PathCond.test C.prog ⟨fn.params.toList,ds,s.plain.varTypes C.prog,gs⟩)=true→
   (DataW.weightsEach C.prog (fn.params.toList++s.plain.varTypes C.prog) (ds++gs)).all (· ≤reachBytes)=true→X W args→W.ShapedOpen C.prog→
   a.holds C.prog (lone (Frame.enter C.prog f args .normal) [] W)→
   Calls C.prog f args W fun e W'=>∃v,e= .returned v∧s.post enc C.prog fn apart fresh handsOn again W args v W'):
  ReturnsInHanded a C os f .any (fun w args=>(s.pre enc C.prog fn conds apart w args∧X w args)∧sizedMet enc C.prog fn (OpenSpec.ofChange s) apart w args) (s.post enc C.prog fn apart fresh handsOn again):=by
 refine returnsInHanded_of_calls own started noInit witness ?_;intro w tape i _ hsh _ hok hpre hholds;obtain⟨_,_,_,fn',hfn',_,_,_,_,zPn⟩:=hok;have e:fn'=fn:=Option.some.inj (hfn'.symm.trans hfn);subst e;obtain⟨⟨⟨ds,gs,before,hw,hc⟩,hx⟩,hz⟩:=hpre;have hw':=DataW.Whole.of_heap (w':=w.forCall tape i) (by rfl) hw;refine(contract (w.forCall tape i) w.heap.size i.args ds gs before zPn hw' hc (hz.weights hw) (hX _ _ _ (by rfl) hx) hsh hholds).mono fun e W' ⟨v,he,hp⟩=> ?_
 subst he;exact ChangeSpec.post_blind hp
theorem zYu{W:World}(h:W.ShapedOpen Tryz.prog):∃m,W.cell? ⟨0,0,none⟩=some (.int .i64 m):=
 cell_of_shapedOpen_int (zero:= #[.int .i64 0]) h (of_decide_eq_true (by kernel_rfl)) (by kernel_rfl) (by kernel_rfl) (by kernel_rfl) (by kernel_rfl) Tryz.underlying3
theorem zWq{W:World}{l:List (String×DataW Unit)}(hL:laidMet Tryz.prog l W)(h1:("unicode/utf8.first",Rows.laid_unicode_utf8_first)∈l)(h2:("unicode/utf8.acceptRanges",Rows.laid_unicode_utf8_acceptRanges)∈l):Lib.Utf8Tabs 4 5 W:=
 utf8Tabs_of_reads Tryz.lays260 ⟨by kernel_rfl,by kernel_rfl,by kernel_rfl,by kernel_rfl,by kernel_rfl,by kernel_rfl,by kernel_rfl⟩ ((show Rows.laid_unicode_utf8_first=firstData by kernel_rfl)▸laidMet.reads hL h1) ((show(Rows.laid_unicode_utf8_acceptRanges:DataW Unit)=acceptData by kernel_rfl)▸laidMet.reads hL h2)
theorem zQo{H:Type}{enc:TypeId×Value→H}{W:World}{base:Nat}{sp:Nat→Bool}{held:Bool}{fuel:Nat}{cs:List Value}{t:TypeId}{ms:Array (String×TypeId)}{x:DataW H×List MemPlace}(ht:Tryz.prog.underlying t=some (.interface ms))(h:DataW.trod enc Tryz.prog W base sp held fuel t cs=some x):∃ev,cs=[ev]∧(ev= .nilIface∨∃te pe,ev= .iface te pe):=by
 cases fuel with
 |zero=>simp [DataW.trod]at h
 |succ n=>
  unfold DataW.trod at h;rw [ht]at h;split at h<;>simp_all
theorem zcT{W:World}{l:List (String×DataW Unit)}(hL:laidMet Tryz.prog l W)(h1:("strconv.ErrSyntax",Rows.laid_strconv_ErrSyntax)∈l):∃ev,W.cell? ⟨2,0,none⟩=some ev∧(ev= .nilIface∨∃te pe,ev= .iface te pe):=by
 obtain⟨g1,t1,cs1,f1,p1,n1,ty1,v1,r1⟩:=laidMet.reads hL h1;obtain rfl:=Option.some.inj ((show Tryz.prog.globalNamed "strconv.ErrSyntax"=some 2 by kernel_rfl).symm.trans n1);obtain rfl:=Option.some.inj ((show(Tryz.prog.globals[2]?).map (·.type)=some 97 by kernel_rfl).symm.trans ty1);obtain⟨e2,hc2,hi2⟩:=zQo Tryz.underlying97 r1;refine⟨e2, ?_,hi2⟩;have:=World.var?_cell n1 v1 0;rw [this,←Array.getElem?_toList,hc2];rfl
theorem zb5{W:World}{l:List (String×DataW Unit)}(hL:laidMet Tryz.prog l W)(h1:("strconv.ErrRange",Rows.laid_strconv_ErrRange)∈l):∃ev,W.cell? ⟨3,0,none⟩=some ev∧(ev= .nilIface∨∃te pe,ev= .iface te pe):=by
 obtain⟨g1,t1,cs1,f1,p1,n1,ty1,v1,r1⟩:=laidMet.reads hL h1;obtain rfl:=Option.some.inj ((show Tryz.prog.globalNamed "strconv.ErrRange"=some 3 by kernel_rfl).symm.trans n1);obtain rfl:=Option.some.inj ((show(Tryz.prog.globals[3]?).map (·.type)=some 97 by kernel_rfl).symm.trans ty1);obtain⟨e2,hc2,hi2⟩:=zQo Tryz.underlying97 r1;refine⟨e2, ?_,hi2⟩;have:=World.var?_cell n1 v1 0;rw [this,←Array.getElem?_toList,hc2];rfl
theorem zZZ{W:World}{l:List (String×DataW Unit)}(hL:laidMet Tryz.prog l W)(h1:("internal/strconv.uint64pow10",Rows.laid_internal_strconv_uint64pow10)∈l):∀j z,Lib.pow10Tab[j]? =some z→W.cell? ⟨1,j,none⟩=some (.int .u64 z):=by
 obtain⟨g1,t1,cs1,f1,p1,n1,ty1,v1,r1⟩:=laidMet.reads hL h1;obtain rfl:=Option.some.inj ((show Tryz.prog.globalNamed "internal/strconv.uint64pow10"=some 1 by kernel_rfl).symm.trans n1);obtain rfl:=Option.some.inj ((show(Tryz.prog.globals[1]?).map (·.type)=some 151 by kernel_rfl).symm.trans ty1);have hp:=cells_of_tab (zs:=Lib.pow10Tab) (k:= .u64) Tryz.underlying151 Tryz.underlying23 (by kernel_rfl) (by kernel_rfl) r1;intro j z hz;have:=World.var?_cell n1 v1 j;rw [this,←Array.getElem?_toList,hp,List.getElem?_map,hz];rfl
theorem zdS{I X R:Type}{s:Spec T I X}{f:I→Option X}{args:List (AV T)}{H:List (zT T)}{k:Out T→Option R}{i:I}{x:X}{r:Option R}(h1:s.dcI args H=some i)(h2:f i=some x)(h3:s.goO R x k=r):(s.entry f) R args H k=r:=by
 unfold Spec.entry;rw [h1,Option.bind_some,h2,Option.bind_some,h3]
theorem xh{W:World}{b off:Nat}{x:Value}(h:W.cell? ⟨b,off,none⟩=some x):Cell C ⟨fun _ =>none,fun _ _ =>False⟩ ([]:List (zT T)) W b off x:=⟨⟨fun h=>h,fun i o hi=>by simp at hi⟩,h⟩
theorem zYQ{W:World}{m:Int}(hT:Lib.Utf8Tabs 4 5 W)(hm:W.cell? ⟨0,0,none⟩=some (.int .i64 m))(hP:∀j z,Lib.pow10Tab[j]? =some z→W.cell? ⟨1,j,none⟩=some (.int .u64 z))(hS:∃ev,W.cell? ⟨2,0,none⟩=some ev∧(ev= .nilIface∨∃te pe,ev= .iface te pe))(hE:∃ev,W.cell? ⟨3,0,none⟩=some ev∧(ev= .nilIface∨∃te pe,ev= .iface te pe)):∀g l,G m g=some l→zQV C (Cell C ⟨fun _ =>none,fun _ _ =>False⟩ ([]:List (zT T)) W) l g 0:=by
 intro g l hg j v hj;unfold G at hg;by_cases hk0:g=0
 ·subst hk0
  cases hg
  match j,hj with
  |0,hj=>
   cases hj;exact⟨_,xh hm,.i _ _⟩
  |j+1,hj=>simp at hj
 by_cases hk1:g=1
 ·subst hk1
  cases hg;have hj:zTm[j]? =some v:=hj;unfold zTm at hj;rw [List.getElem?_map]at hj;obtain⟨z,hz,rfl⟩:=Option.map_eq_some_iff.1 hj;exact⟨_,xh (by rw [Nat.zero_add];exact hP j z hz),.i _ _⟩
 by_cases hk2:g=2
 ·subst hk2
  cases hg
  match j,hj with
  |0,hj=>
   cases hj;obtain⟨ev,e1,e2⟩:=hS;exact⟨_,xh e1,.ifx _ e2⟩
  |j+1,hj=>simp at hj
 by_cases hk3:g=3
 ·subst hk3
  cases hg
  match j,hj with
  |0,hj=>
   cases hj;obtain⟨ev,e1,e2⟩:=hE;exact⟨_,xh e1,.ifx _ e2⟩
  |j+1,hj=>simp at hj
 by_cases hk4:g=4
 ·subst hk4
  cases hg;have hj:firstTab[j]? =some v:=hj;unfold firstTab at hj;rw [List.getElem?_map]at hj;obtain⟨c,hc,rfl⟩:=Option.map_eq_some_iff.1 hj;have hlt:j<256:=by have:=(List.getElem?_eq_some_iff.1 hc).1;simpa using this
  rw [List.getElem?_range hlt]at hc;cases hc;exact⟨_,xh (by rw [Nat.zero_add];exact hT.1 j hlt),.i _ _⟩
 by_cases hk5:g=5
 ·subst hk5
  cases hg;have hj:zK2[j]? =some v:=hj;unfold zK2 at hj;rw [List.getElem?_map]at hj;obtain⟨c,hc,rfl⟩:=Option.map_eq_some_iff.1 hj;have hlt:j<32:=by have:=(List.getElem?_eq_some_iff.1 hc).1;simpa using this
  rw [List.getElem?_range hlt]at hc;cases hc;by_cases he:j%2=0
  ·have e:Nat.beq (j%2) 0=true:=by rw [he];rfl
   rw [e];have:=(hT.2 (j/2) (by omega)).1;rw [show 2*(j/2)=j by omega]at this;exact⟨_,xh (by rw [Nat.zero_add];exact this),.i _ _⟩
  ·have e:Nat.beq (j%2) 0=false:=by rw [show j%2=1 by omega];rfl
   rw [e];have:=(hT.2 (j/2) (by omega)).2;rw [show 2*(j/2)+1=j by omega]at this;exact⟨_,xh (by rw [Nat.zero_add];exact this),.i _ _⟩
 ·exfalso
  have:∀k,g≠k→Nat.beq g k=false:=fun k hk=>by
   cases hb:Nat.beq g k
   ·rfl
   ·exact absurd (Nat.eq_of_beq_eq_true hb) hk
  simp only [this 0 hk0,cond_false,this 1 hk1,cond_false,this 2 hk2,cond_false,this 3 hk3,cond_false,this 4 hk4,cond_false,this 5 hk5,cond_false]at hg;cases hg
end Go.Proofs.YtdoifigogbdodaaGreatDoor.Ev.Seat
