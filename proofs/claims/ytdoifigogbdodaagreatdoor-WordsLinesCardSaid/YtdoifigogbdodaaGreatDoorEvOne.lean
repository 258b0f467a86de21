import Derived.Tactics
import Derived.Orders
import Derived.Recover
import Derived.Laws.World
import Derived.KernelRfl
import Derived.Laws.StructEq
import Derived.Laws.Cells
import Derived.Lib.FrozenHead
import Derived.ChangeKeysEq
import Derived.LaidEql
import Derived.IntWalk
set_option linter.unusedVariables false
set_option linter.unusedSimpArgs false
set_option maxHeartbeats 1000000
namespace Go.Proofs.YtdoifigogbdodaaGreatDoor.Ev
open Go
inductive V(T:Nat→Type):Type
 |b (x:Bool)
 |i (k:IntKind) (n:Int)
 |s (x:ByteArray)
 |sl (t:Nat) (l:List (T t))
 |pn
 |fn0
 |if0
 |ifx
 |nl
inductive AV(T:Nat→Type):Type
 |any
 |v (x:V T)
 |agg (l:List (AV T))
 |tup (l:List (AV T))
 |ptr (o off:Nat)
 |rptr (o i off:Nat)
 |cptr (t:Nat) (x:T t) (off:Nat)
 |gptr (g off:Nat)
 |own (o:Nat)
 |sp (o:Nat)
 |slc (o off len cap:Nat)
 |cap0
 |z0
 |fn (f:Fn) (first cap:List (AV T))
 |ifc (t:Nat) (x:AV T)
inductive AObj(T:Nat→Type):Type
 |cells (e:Nat) (g:Option Nat) (l:List (AV T))
 |row (t:Nat) (l:List (T t)) (m:Bool)
 |siter (s:ByteArray) (pos:Nat)
 |dead
structure Cdc(T:Nat→Type) where
 enc:(t:Nat)→T t→List (V T)
 dec:(t:Nat)→List (V T)→Option (T t)
 size:Nat→Nat
 typed:Nat→Bool
 bt:Nat
 ofB:Int→T bt
 toB:T bt→Int
def Finer{T:Nat→Type}(a b:V T):Prop:=b=a∨(a= .nl∧∃t,b= .sl t [])
structure CdcOk{T:Nat→Type}(C:Cdc T):Prop where
 len:∀t x,(C.enc t x).length=C.size t
 dec:∀t cs x,C.dec t cs=some x→∀(j:Nat) a b,cs[j]? =some a→(C.enc t x)[j]? =some b→Finer a b
 decLen:∀t cs x,C.dec t cs=some x→cs.length=C.size t
 pos:∀t,0<C.size t
 encB:∀x,C.enc C.bt x=[.i .u8 (C.toB x)]
 ofB:∀n,C.toB (C.ofB n)=n
variable {T:Nat→Type}
def ofLeaf:Value→AV T
 | .bool x=> .v (.b x)
 | .int k n=> .v (.i k n)
 | .string x=> .v (.s x)
 | .pointer none=> .v .pn
 | .nilFunc=> .v .fn0
 | .nilIface=> .v .if0
 | .slice none 0 0=> .cap0
 | .func f ⟨[]⟩ ⟨[]⟩=> .fn f [] []
 |_ => .any
def ofConst:Value→AV T
 | .agg cs=> .agg (cs.toList.map ofLeaf)
 |x=>ofLeaf x
abbrev Env(T:Nat→Type):=Nat→AV T
def upd(env:Env T)(t:Nat)(x:AV T):Env T:=fun u=>bif Nat.beq u t then x else env u
def evO(env:Env T):Operand→AV T
 | .tmp t=>env t
 | .const x=>ofConst x
 | .global g=> .gptr g 0
 | .func f=> .fn (.func f) [] []
def cellsA:AV T→Option (List (AV T))
 | .agg l=>some l
 | .tup _ | .any=>none
 |x=>some [x]
def isLeaf:AV T→Bool
 | .agg _ | .tup _ | .any=>false
 |_ =>true
mutual
def purge(S:List Nat):AV T→AV T
 | .own o=>bif S.elem o then .any else .own o
 | .sp o=>bif S.elem o then .any else .sp o
 | .agg l=> .agg (purgeL S l)
 | .tup l=> .tup (purgeL S l)
 | .fn f a b=> .fn f (purgeL S a) (purgeL S b)
 | .ifc t x=> .ifc t (purge S x)
 | .any=> .any
 | .v x=> .v x
 | .ptr o k=>bif S.elem o then .any else .ptr o k
 | .rptr o i k=>bif S.elem o then .any else .rptr o i k
 | .cptr t x k=> .cptr t x k
 | .gptr g k=> .gptr g k
 | .slc o k n c=>bif S.elem o then .any else .slc o k n c
 | .cap0=> .cap0
 | .z0=> .z0
def purgeL(S:List Nat):List (AV T)→List (AV T)
 |[]=>[]
 |x::l=>purge S x::purgeL S l
end
def purgeO(S:List Nat):AObj T→AObj T
 | .cells e g l=> .cells e g (purgeL S l)
 |x=>x
mutual
def below(n:Nat):AV T→Bool
 | .ptr o _ =>Nat.blt o n
 | .rptr o _ _ =>Nat.blt o n
 | .own o=>Nat.blt o n
 | .sp o=>Nat.blt o n
 | .slc o _ _ _ =>Nat.blt o n
 | .agg l=>belowL n l
 | .tup l=>belowL n l
 | .fn _ a b=>belowL n a&&belowL n b
 | .ifc _ x=>below n x
 | .any| .v _ | .cptr _ _ _ | .gptr _ _ | .cap0| .z0=>true
def belowL(n:Nat):List (AV T)→Bool
 |[]=>true
 |x::l=>below n x&&belowL n l
end
section types
variable (P:Program)
def sizeT(t:Nat):Option Nat:=(P.info? t).map (·.size)
def bytesT(t:Nat):Option Nat:=(P.info? t).map (·.bytes)
def zeroT(t:Nat):Option (List (AV T)):=
 match(P.info? t).bind (·.zero)with
 |some z=>cellsA (ofConst z)
 |none=>none
def aggT(t:Nat):Option Bool:=
 match P.underlying t with
 |some (.struct _)|some (.array _ _)=>some true
 |some _ =>some false
 |none=>none
def fieldT(t f:Nat):Option (Nat×Nat):=
 match P.underlying t with
 |some (.struct fs)=>(fs[f]?).map fun x=>(x.offset,x.type)
 |_ =>none
def elemT(t:Nat):Option Nat:=
 match P.underlying t with
 |some (.slice e)=>some e
 |_ =>none
end types
def setRange{α:Type}(l:List α)(off:Nat)(vs:List α):List α:=l.take off++vs++l.drop (off+vs.length)
def whole{R:Type}(ag:Bool)(n:Nat)(cs:List (AV T))(K:AV T→Option R):Option R:=
 bif ag then(bif Nat.beq cs.length n then K (.agg cs)else none)
 else match cs with
  |[x]=>K x
  |_ =>none
def cellsAt(C:Cdc T)(G:Nat→Option (List (AV T)))(H:List (AObj T))(a:AV T)(n:Nat):Option (List (AV T)):=
 match a with
 | .ptr o off=>match H[o]? with
  |some (.cells _ _ l)=>some ((l.drop off).take n)
  |_ =>none
 | .cptr t x off=>some ((((C.enc t x).map .v).drop off).take n)
 | .rptr o i off=>match H[o]? with
  |some (.row t l _)=>(l[i]?).map fun x=>(((C.enc t x).map AV.v).drop off).take n
  |_ =>none
 | .gptr g off=>(G g).map fun l=>(l.drop off).take n
 |_ =>none
end Go.Proofs.YtdoifigogbdodaaGreatDoor.Ev

namespace Go.Proofs.YtdoifigogbdodaaGreatDoor.Ev
open Go
variable {T:Nat→Type}
def live:AObj T→Bool
 | .dead=>false
 |_ =>true
def isRow:AObj T→Bool
 | .row _ _ _ =>true
 |_ =>false
def svO(C:Cdc T):AObj T→Option (Nat×Nat)
 | .row t l _ =>some (l.length,C.size t)
 |_ =>none
def svH(C:Cdc T)(H:List (AObj T))(o:Nat):Option (Nat×Nat):=(H[o]?).bind (svO C)
theorem svH_row{C:Cdc T}{H:List (AObj T)}{o t:Nat}{l:List (T t)}{m:Bool}(h:H[o]? =some (.row t l m)):svH C H o=some (l.length,C.size t):=by
 unfold svH;rw [h];rfl
def foot(C:Cdc T):AObj T→Nat→Prop
 | .cells _ _ _,_ =>True
 | .row t l m,off=>m=true∨l.length*C.size t≤off
 | .siter _ _,_ =>True
 | .dead,_ =>False
structure Lk where
 f:Nat→Option Nat
 F:Nat→Nat→Prop
instance:CoeFun Lk (fun _ =>Nat→Option Nat):=⟨Lk.f⟩
def Okc(C:Cdc T)(σ:Lk)(H:List (AObj T))(b off:Nat):Prop:=¬σ.F b off∧∀i o,H[i]? =some o→σ i=some b→¬foot C o off
def Cell(C:Cdc T)(σ:Lk)(H:List (AObj T))(w:World)(b off:Nat)(x:Value):Prop:=Okc C σ H b off∧w.cell? ⟨b,off,none⟩=some x
inductive RepW(enc:(t:Nat)→T t→List (V T))(size:Nat→Nat)(cell:Nat→Nat→Value→Prop):V T→Value→Prop
 |b (x:Bool):RepW enc size cell (.b x) (.bool x)
 |i (k:IntKind) (n:Int):RepW enc size cell (.i k n) (.int k n)
 |s (x:ByteArray):RepW enc size cell (.s x) (.string x)
 |sl0 (t:Nat) (A:Option Addr) (c:Nat):RepW enc size cell (.sl t []) (.slice A 0 c)
 |sl (t:Nat) (l:List (T t)) (blk off c:Nat) (xs:Nat→Nat→Value) (hc:l.length≤c)
   (h1:∀(i:Nat) (hi:i<l.length) (j:Nat),j<(enc t l[i]).length→cell blk (off+i*size t+j) (xs i j))
   (h2:∀(i:Nat) (hi:i<l.length) (j:Nat) (hj:j<(enc t l[i]).length),RepW enc size cell ((enc t l[i])[j]) (xs i j)):
   RepW enc size cell (.sl t l) (.slice (some ⟨blk,off,none⟩) l.length c)
 |pn:RepW enc size cell .pn (.pointer none)
 |fn0:RepW enc size cell .fn0 .nilFunc
 |if0:RepW enc size cell .if0 .nilIface
 |ifx (y:Value) (h:y= .nilIface∨∃te pe,y= .iface te pe):RepW enc size cell .ifx y
 |nl (A:Option Addr) (c:Nat):RepW enc size cell .nl (.slice A 0 c)
abbrev RepV(C:Cdc T)(cell:Nat→Nat→Value→Prop):V T→Value→Prop:=RepW C.enc C.size cell
theorem RepV.mono{C:Cdc T}{cell cell':Nat→Nat→Value→Prop}(h:∀b off x,cell b off x→cell' b off x){v:V T}{y:Value}
  (r:RepV C cell v y):RepV C cell' v y:=by
 induction r with
 |b x=>exact .b x
 |i k n=>exact .i k n
 |s x=>exact .s x
 |sl0 t A c=>exact .sl0 t A c
 |sl t l blk off c xs hc h1 _ ih=>exact .sl t l blk off c xs hc (fun i hi j hj=>h _ _ _ (h1 i hi j hj)) ih
 |pn=>exact .pn
 |fn0=>exact .fn0
 |if0=>exact .if0
 |ifx y h=>exact .ifx y h
 |nl A c=>exact .nl A c
def RepCs(C:Cdc T)(cell:Nat→Nat→Value→Prop)(vs:List (V T))(b off:Nat):Prop:=
 ∀j v,vs[j]? =some v→∃y,cell b (off+j) y∧RepV C cell v y
theorem RepCs.mono{C:Cdc T}{cell cell':Nat→Nat→Value→Prop}(h:∀b off x,cell b off x→cell' b off x){vs:List (V T)}{b off:Nat}
  (r:RepCs C cell vs b off):RepCs C cell' vs b off:=fun j v hj=>by
 obtain⟨y,h1,h2⟩:=r j v hj;exact⟨y,h _ _ _ h1,h2.mono h⟩
section
variable (C:Cdc T) (σ:Lk) (H:List (AObj T)) (w:World)
mutual
def RepA:AV T→Value→Prop
 | .any,_ =>True
 | .v x,y=>RepV C (Cell C σ H w) x y
 | .agg l,y=>∃vs,y= .agg vs∧RepL l vs.toList
 | .tup l,y=>∃vs,y= .tuple vs∧RepL l vs.toList
 | .ptr o off,y=>o<H.length∧∃b,σ o=some b∧y= .pointer (some ⟨b,off,none⟩)
 | .rptr o i off,y=>o<H.length∧(∃a,y= .pointer (some a))∧∃b,σ o=some b∧∀n s,svH C H o=some (n,s)→y= .pointer (some ⟨b,i*s+off,none⟩)
 | .cptr t x off,y=>∃b k,y= .pointer (some ⟨b,k+off,none⟩)∧RepCs C (Cell C σ H w) (C.enc t x) b k
 | .gptr g off,y=>y= .pointer (some ⟨g,off,none⟩)
 | .own o,y=>o<H.length∧(∃A n c,y= .slice A n c)∧∀n s,svH C H o=some (n,s)→(σ o=none∧y= .slice none 0 0)∨
   ∃b c cs e fz,σ o=some b∧y= .slice (some ⟨b,0,none⟩) n c∧w.heap[b]? =some (.cells cs e fz)∧cs.size=c*s
 | .sp o,y=>o<H.length∧(∃q,y= .pointer q)∧∀n s,svH C H o=some (n,s)→0<n→∃b,σ o=some b∧y= .pointer (some ⟨b,0,none⟩)
 | .slc o off n c,y=>o<H.length∧∃b,σ o=some b∧∃d,y= .slice (some ⟨b,off,none⟩) n d∧(n≤c→d=c)∧n≤d
 | .cap0,y=>y= .slice none 0 0
 | .z0,y=>∃A,y= .slice A 0 0
 | .fn f first cap,y=>∃a b,y= .func f a b∧RepL first a.toList∧RepL cap b.toList
 | .ifc t x,y=>∃z,y= .iface t z∧RepA x z
def RepL:List (AV T)→List Value→Prop
 |[],ys=>ys=[]
 |x::l,ys=>∃y ys',ys=y::ys'∧RepA x y∧RepL l ys'
end
end
structure Move(C:Cdc T)(S:List Nat)(σ:Lk)(H:List (AObj T))(w:World)(σ':Lk)(H':List (AObj T))(w':World):Prop where
 cell:∀b off x,Cell C σ H w b off x→Cell C σ' H' w' b off x
 len:H.length≤H'.length
 sig:∀o,o<H.length→o∉S→σ' o=σ o
 row:∀o,o<H.length→o∉S→∀n s,svH C H' o=some (n,s)→svH C H o=some (n,s)∧
  ∀b,σ o=some b→∀cs e fz,w.heap[b]? =some (.cells cs e fz)→∃cs' e' fz',w'.heap[b]? =some (.cells cs' e' fz')∧cs'.size=cs.size
section
variable {C:Cdc T} {S:List Nat} {σ:Lk} {H:List (AObj T)} {w:World} {σ':Lk} {H':List (AObj T)} {w':World}
mutual
theorem RepA.move(M:Move C S σ H w σ' H' w'):∀(x:AV T) (y:Value),RepA C σ H w x y→RepA C σ' H' w' (purge S x) y
 | .any,_,_ =>trivial
 | .v _,_,h=>h.mono M.cell
 | .agg l,_,⟨vs,h1,h2⟩=>⟨vs,h1,RepL.move M l _ h2⟩
 | .tup l,_,⟨vs,h1,h2⟩=>⟨vs,h1,RepL.move M l _ h2⟩
 | .ptr o off,y,⟨h0,b,h1,h2⟩=>by
  show RepA C σ' H' w' (bif S.elem o then .any else .ptr o off) y;cases hs:S.elem o
  ·have hn:o∉S:=by simpa using hs
   exact⟨Nat.lt_of_lt_of_le h0 M.len,b,(M.sig o h0 hn).trans h1,h2⟩
  ·trivial
 | .rptr o i off,y,⟨h0,hp,b,h1,h2⟩=>by
  show RepA C σ' H' w' (bif S.elem o then .any else .rptr o i off) y;cases hs:S.elem o
  ·have hn:o∉S:=by simpa using hs
   refine⟨Nat.lt_of_lt_of_le h0 M.len,hp,b,(M.sig o h0 hn).trans h1,fun n s h=> ?_⟩;exact h2 n s (M.row o h0 hn n s h).1
  ·trivial
 | .cptr t x off,_,⟨b,k,h1,h2⟩=>⟨b,k,h1,h2.mono M.cell⟩
 | .gptr _ _,_,h=>h
 | .own o,y,⟨h0,hp,h⟩=>by
  show RepA C σ' H' w' (bif S.elem o then .any else .own o) y;cases hs:S.elem o
  ·have hn:o∉S:=by simpa using hs
   refine⟨Nat.lt_of_lt_of_le h0 M.len,hp,fun n s hr=> ?_⟩;obtain⟨h3,h5⟩:=M.row o h0 hn n s hr;rcases h n s h3 with⟨h6,h7⟩|⟨b,c,cs,e,fz,h6,h7,h8,h9⟩
   ·exact .inl ⟨(M.sig o h0 hn).trans h6,h7⟩
   ·obtain⟨cs',e',fz',h10,h11⟩:=h5 b h6 cs e fz h8
    exact .inr ⟨b,c,cs',e',fz',(M.sig o h0 hn).trans h6,h7,h10,h11.trans h9⟩
  ·trivial
 | .sp o,y,⟨h0,hp,h⟩=>by
  show RepA C σ' H' w' (bif S.elem o then .any else .sp o) y;cases hs:S.elem o
  ·have hn:o∉S:=by simpa using hs
   refine⟨Nat.lt_of_lt_of_le h0 M.len,hp,fun n s hr h1=> ?_⟩;obtain⟨b,h2,h3⟩:=h n s (M.row o h0 hn n s hr).1 h1;exact⟨b,(M.sig o h0 hn).trans h2,h3⟩
  ·trivial
 | .slc o off n c,y,⟨h0,b,h1,h2⟩=>by
  show RepA C σ' H' w' (bif S.elem o then .any else .slc o off n c) y;cases hs:S.elem o
  ·have hn:o∉S:=by simpa using hs
   exact⟨Nat.lt_of_lt_of_le h0 M.len,b,(M.sig o h0 hn).trans h1,h2⟩
  ·trivial
 | .cap0,_,h=>h
 | .z0,_,h=>h
 | .fn f a b,_,⟨x,y,h1,h2,h3⟩=>⟨x,y,h1,RepL.move M a _ h2,RepL.move M b _ h3⟩
 | .ifc t x,_,⟨z,h1,h2⟩=>⟨z,h1,RepA.move M x z h2⟩
theorem RepL.move(M:Move C S σ H w σ' H' w'):∀(l:List (AV T)) (ys:List Value),RepL C σ H w l ys→RepL C σ' H' w' (purgeL S l) ys
 |[],_,h=>h
 |x::l,_,⟨y,ys',h1,h2,h3⟩=>⟨y,ys',h1,RepA.move M x y h2,RepL.move M l ys' h3⟩
end
mutual
theorem purge_nil:∀(x:AV T),purge [] x=x
 | .any| .v _ | .cptr _ _ _ | .gptr _ _ | .cap0| .z0=>rfl
 | .ptr _ _ | .rptr _ _ _ | .own _ | .sp _ | .slc _ _ _ _ =>rfl
 | .agg l=>congrArg AV.agg (purgeL_nil l)
 | .tup l=>congrArg AV.tup (purgeL_nil l)
 | .fn f a b=>by show AV.fn f (purgeL [] a) (purgeL [] b)=_;rw [purgeL_nil a,purgeL_nil b]
 | .ifc t x=>congrArg (AV.ifc t) (purge_nil x)
theorem purgeL_nil:∀(l:List (AV T)),purgeL [] l=l
 |[]=>rfl
 |x::l=>by show purge [] x::purgeL [] l=_;rw [purge_nil x,purgeL_nil l]
end
theorem RepA.move0(M:Move C [] σ H w σ' H' w'){x:AV T}{y:Value}(h:RepA C σ H w x y):RepA C σ' H' w' x y:=by
 have:=RepA.move M x y h
 rwa [purge_nil]at this
theorem RepL.move0(M:Move C [] σ H w σ' H' w'){x:List (AV T)}{y:List Value}(h:RepL C σ H w x y):RepL C σ' H' w' x y:=by
 have:=RepL.move M x y h
 rwa [purgeL_nil]at this
end
section
variable (C:Cdc T) (σ:Lk) (H:List (AObj T)) (w:World)
def fzOk(cs:Array Value)(fz:Nat×Nat):Prop:=∀off,off<cs.size→¬(fz.1≤off∧off<fz.2)
def RepO(i:Nat):AObj T→Prop
 | .cells e none l=>∃b cs,σ i=some b∧w.heap[b]? =some (.cells cs e (0,0))∧RepL C σ H w l cs.toList
 | .cells e (some _) l=>∃b cs ys rest,σ i=some b∧w.heap[b]? =some (.cells cs e (0,0))∧cs.toList=ys++rest∧RepL C σ H w l ys
 | .row t l _ =>(l=[]∧σ i=none)∨∃b cs fz cap,σ i=some b∧w.heap[b]? =some (.cells cs t fz)∧fzOk cs fz∧cs.size=cap*C.size t∧l.length≤cap∧
   ∀(j:Nat) (h:j<l.length) (k:Nat) (v:V T),(C.enc t l[j])[k]? =some v→∃y,cs[j*C.size t+k]? =some y∧RepV C (Cell C σ H w) v y
 | .siter s pos=>∃b,σ i=some b∧w.heap[b]? =some (.stringIter s pos)
 | .dead=>True
structure Rp(G:Nat→Option (List (V T))):Prop where
 inj:∀i j oi oj b,H[i]? =some oi→H[j]? =some oj→live oi=true→live oj=true→σ i=some b→σ j=some b→i=j
 lt:∀i o b,H[i]? =some o→live o=true→σ i=some b→b<w.heap.size
 obj:∀i o,H[i]? =some o→RepO C σ H w i o
 glob:∀g l,G g=some l→RepCs C (Cell C σ H w) l g 0
 free:∀i o b,H[i]? =some o→live o=true→σ i=some b→∀off,¬σ.F b off
 fb:∀b off,σ.F b off→b<w.heap.size
end
structure Anc(C:Cdc T)(σ:Lk)(H:List (AObj T))(w:World)(σ':Lk)(H':List (AObj T))(w':World):Prop where
 F:σ'.F=σ.F
 os:w'.os=w.os
 tape:w'.tape=w.tape
 output:w'.output=w.output
 size:w.heap.size≤w'.heap.size
 len:H.length≤H'.length
 okc:∀b off,b<w.heap.size→Okc C σ H b off→Okc C σ' H' b off
 same:∀b off,b<w.heap.size→Okc C σ H b off→w'.cell? ⟨b,off,none⟩=w.cell? ⟨b,off,none⟩
 block:∀b,b<w.heap.size→(∀i o,H[i]? =some o→live o=true→σ i≠some b)→w'.heap[b]? =w.heap[b]?
 sig:∀i o,H[i]? =some o→isRow o=false→σ' i=σ i
 fresh:∀i o b,H'[i]? =some o→live o=true→σ' i=some b→(∃o',H[i]? =some o'∧live o'=true∧σ i=some b)∨w.heap.size≤b
 kind:∀(i:Nat) (o o':AObj T),H[i]? =some o→H'[i]? =some o'→isRow o=false→isRow o'=false
theorem cell_lt{w:World}{b off:Nat}{x:Value}(h:w.cell? ⟨b,off,none⟩=some x):b<w.heap.size:=by
 unfold World.cell? at h;split at h
 ·rename_i hb
  exact(Array.getElem?_eq_some_iff.1 hb).1
 ·cases h
theorem Anc.refl(C:Cdc T)(σ:Lk)(H:List (AObj T))(w:World):Anc C σ H w σ H w:=
 ⟨rfl,rfl,rfl,rfl,Nat.le_refl _,Nat.le_refl _,fun _ _ _ h=>h,fun _ _ _ _ =>rfl,fun _ _ _ =>rfl,fun _ _ _ _ =>rfl,fun _ o _ h1 h2 h3=> .inl ⟨o,h1,h2,h3⟩,fun _ o o' h h' hr=>by rw [h]at h';cases h';exact hr⟩
theorem Anc.trans{C:Cdc T}{σ σ' σ'':Lk}{H H' H'':List (AObj T)}{w w' w'':World}(h:Anc C σ H w σ' H' w')(k:Anc C σ' H' w' σ'' H'' w''):
  Anc C σ H w σ'' H'' w'':=by
 have hget:∀(i:Nat) (o:AObj T),H[i]? =some o→∃o',H'[i]? =some o':=fun i o hi=>
  ⟨_,List.getElem?_eq_getElem (Nat.lt_of_lt_of_le (List.getElem?_eq_some_iff.1 hi).1 h.len)⟩
 refine⟨k.F.trans h.F,k.os.trans h.os,k.tape.trans h.tape,k.output.trans h.output,Nat.le_trans h.size k.size,Nat.le_trans h.len k.len, ?_, ?_, ?_, ?_, ?_, ?_⟩
 ·exact fun b off hb ho=>k.okc b off (Nat.lt_of_lt_of_le hb h.size) (h.okc b off hb ho)
 ·exact fun b off hb ho=>(k.same b off (Nat.lt_of_lt_of_le hb h.size) (h.okc b off hb ho)).trans (h.same b off hb ho)
 ·intro b hb hn
  refine(k.block b (Nat.lt_of_lt_of_le hb h.size) fun i o h1 h2 h3=> ?_).trans (h.block b hb hn);rcases h.fresh i o b h1 h2 h3 with⟨o',h4,h5,h6⟩|h4
  ·exact hn i o' h4 h5 h6
  ·omega
 ·intro i o hi hr
  obtain⟨o',ho'⟩:=hget i o hi;exact(k.sig i o' ho' (h.kind i o o' hi ho' hr)).trans (h.sig i o hi hr)
 ·intro i o b hi hl hs
  rcases k.fresh i o b hi hl hs with⟨o',h1,h2,h3⟩|h1
  ·exact h.fresh i o' b h1 h2 h3
  ·exact .inr (Nat.le_trans h.size h1)
 ·intro i o o'' hi hi'' hr
  obtain⟨o',ho'⟩:=hget i o hi;exact k.kind i o' o'' ho' hi'' (h.kind i o o' hi ho' hr)
end Go.Proofs.YtdoifigogbdodaaGreatDoor.Ev

namespace Go.Proofs.YtdoifigogbdodaaGreatDoor.Ev
open Go
variable {T:Nat→Type} {C:Cdc T} {S:List Nat} {σ σ':Lk} {H H':List (AObj T)} {w w':World} {G:Nat→Option (List (V T))}
theorem purgeO_nil(o:AObj T):purgeO [] o=o:=by
 cases o<;>simp [purgeO,purgeL_nil]
theorem purgeH_nil(H:List (AObj T)):H.map (purgeO [])=H:=by
 rw [List.map_congr_left (g:=id) (fun o _ =>purgeO_nil o)];simp
theorem live_purgeO(o:AObj T):live (purgeO S o)=live o:=by cases o<;>rfl
theorem isRow_purgeO(o:AObj T):isRow (purgeO S o)=isRow o:=by
 cases o with
 |cells e g l=>cases g<;>rfl
 |_ =>rfl
theorem foot_purgeO(o:AObj T)(off:Nat):foot C (purgeO S o) off↔foot C o off:=by cases o<;>exact Iff.rfl
theorem cell_of_block{w w':World}{b off:Nat}(h:w'.heap[b]? =w.heap[b]?):w'.cell? ⟨b,off,none⟩=w.cell? ⟨b,off,none⟩:=by
 unfold World.cell?;simp only [h]
theorem cell_blk{w:World}{b off:Nat}{cs:Array Value}{e:TypeId}{fz:Nat×Nat}(h:w.heap[b]? =some (.cells cs e fz)):
  w.cell? ⟨b,off,none⟩=cs[off]? :=by
 unfold World.cell?;simp [h]
theorem svH_some{o:Nat}{p:Nat×Nat}(h:svH C H o=some p):∃x,H[o]? =some x∧svO C x=some p:=Option.bind_eq_some_iff.1 h
theorem svH_of{o:Nat}{x:AObj T}{p:Nat×Nat}(h:H[o]? =some x)(hx:svO C x=some p):svH C H o=some p:=by unfold svH;rw [h];exact hx
theorem svO_row{x:AObj T}{p:Nat×Nat}(h:svO C x=some p):isRow x=true∧live x=true:=by
 cases x with
 |cells e g l=>cases h
 |row t l m=>exact⟨rfl,rfl⟩
 |siter=>cases h
 |dead=>cases h
theorem RepO.cellsD{i e:Nat}{g:Option Nat}{l:List (AV T)}(h:RepO C σ H w i (.cells e g l)):∃b cs ys rest,σ i=some b∧w.heap[b]? =some (.cells cs e (0,0))∧cs.toList=ys++rest∧RepL C σ H w l ys∧
  ∀(σ':Lk) (H':List (AObj T)) (w':World) (cs':Array Value) (ys':List Value) (l':List (AV T)),σ' i=some b→w'.heap[b]? =some (.cells cs' e (0,0))→cs'.toList=ys'++rest→ys'.length=ys.length→l'.length=l.length→RepL C σ' H' w' l' ys'→
   RepO C σ' H' w' i (.cells e g l'):=by
 cases g with
 |none=>
  obtain⟨b,cs,h1,h2,h4⟩:=h;refine⟨b,cs,cs.toList,[],h1,h2,by simp,h4,fun σ' H' w' cs' ys' l' k1 k2 k3 _ _ k4=>⟨b,cs',k1,k2, ?_⟩⟩;rw [List.append_nil]at k3;rw [k3];exact k4
 |some s=>
  obtain⟨b,cs,ys,rest,h1,h2,h3,h4⟩:=h;exact⟨b,cs,ys,rest,h1,h2,h3,h4,fun σ' H' w' cs' ys' l' k1 k2 k3 k4 k5 k6=>⟨b,cs',ys',rest,k1,k2,k3,k6⟩⟩
theorem svO_purge(o:AObj T):∀n s,svO C (purgeO S o)=some (n,s)→svO C o=some (n,s):=by
 intro n s h;cases o with
 |cells e g l=>cases h
 |row t l m=>exact h
 |siter=>cases h
 |dead=>cases h
theorem RepO.move{j:Nat}(M:Move C S σ H w σ' H' w')(hs:σ' j=σ j)(hb:∀b,σ j=some b→w'.heap[b]? =w.heap[b]?){o:AObj T}
  (h:RepO C σ H w j o):RepO C σ' H' w' j (purgeO S o):=by
 cases o with
 |cells e g l=>
  cases g with
  |none=>
   obtain⟨b,cs,h1,h2,h4⟩:=h;exact⟨b,cs,hs.trans h1,(hb b h1).trans h2,h4.move M⟩
  |some s=>
   obtain⟨b,cs,ys,rest,h1,h2,h3,h4⟩:=h;exact⟨b,cs,ys,rest,hs.trans h1,(hb b h1).trans h2,h3,h4.move M⟩
 |row t l m=>
  rcases h with⟨h1,h2⟩|⟨b,cs,fz,cap,h1,h2,h3,h4,h5,h6⟩
  ·exact .inl ⟨h1,hs.trans h2⟩
  ·refine .inr ⟨b,cs,fz,cap,hs.trans h1,(hb b h1).trans h2,h3,h4,h5,fun j hj k v hv=> ?_⟩
   obtain⟨y,h7,h8⟩:=h6 j hj k v hv;exact⟨y,h7,h8.mono M.cell⟩
 |siter s pos=>
  obtain⟨b,h1,h2⟩:=h;exact⟨b,hs.trans h1,(hb b h1).trans h2⟩
 |dead=>trivial
structure Step(C:Cdc T)(G:Nat→Option (List (V T)))(S:List Nat)(σ:Lk)(H:List (AObj T))(w:World)(σ':Lk)(H':List (AObj T))(w':World):Prop where
 rp:Rp C σ' H' w' G
 anc:Anc C σ H w σ' H' w'
 move:Move C S σ H w σ' H' w'
def add(σ:Lk)(n:Nat)(b:Option Nat):Lk:={σ with f:=fun i=>if i=n then b else σ i}
theorem step_add(hR:Rp C σ H w G)(o:AObj T)(nb:Option Nat)(w':World)(hos:w'.os=w.os)(htp:w'.tape=w.tape)(hout:w'.output=w.output)
  (hsz:w.heap.size≤w'.heap.size) (hblk:∀b,b<w.heap.size→w'.heap[b]? =w.heap[b]?) (hnb:∀b,nb=some b→w.heap.size≤b∧b<w'.heap.size)
  (hob:Move C [] σ H w (add σ H.length nb) (H++[o]) w'→RepO C (add σ H.length nb) (H++[o]) w' H.length o):
  Step C G [] σ H w (add σ H.length nb) (H++[o]) w':=by
 have hget:∀i o',(H++[o])[i]? =some o'→(i<H.length∧H[i]? =some o'∧add σ H.length nb i=σ i)∨(i=H.length∧o'=o∧add σ H.length nb i=nb):=by
  intro i o' hi;rcases Nat.lt_trichotomy i H.length with h|h|h
  ·rw [List.getElem?_append_left h]at hi
   exact .inl ⟨h,hi,by simp [add];omega⟩
  ·subst h;simp at hi;exact .inr ⟨rfl,hi.symm,by simp [add]⟩
  ·rw [List.getElem?_eq_none (by simp;omega)]at hi;cases hi
 have hokc:∀b off,b<w.heap.size→Okc C σ H b off→Okc C (add σ H.length nb) (H++[o]) b off:=by
  intro b off hb ho;refine⟨ho.1,fun i o' hi hs=> ?_⟩;rcases hget i o' hi with⟨h1,h2,h3⟩|⟨h1,h2,h3⟩
  ·exact ho.2 i o' h2 (h3▸hs)
  ·rw [h3]at hs;have:=hnb b hs;omega
 have hcell:∀b off x,Cell C σ H w b off x→Cell C (add σ H.length nb) (H++[o]) w' b off x:=by
  intro b off x ⟨h1,h2⟩;have hb:=cell_lt h2;exact⟨hokc b off hb h1,(cell_of_block (hblk b hb)).trans h2⟩
 have hM:Move C [] σ H w (add σ H.length nb) (H++[o]) w':=by
  refine⟨hcell,by simp,fun i hi _ =>by simp [add];omega,fun i hi _ n s h=> ?_⟩;have h':svH C H i=some (n,s):=by unfold svH at h⊢;rwa [List.getElem?_append_left hi]at h
  refine⟨h',fun b _ cs e fz hcs=> ?_⟩;have hb:b<w.heap.size:=(Array.getElem?_eq_some_iff.1 hcs).1;exact⟨cs,e,fz,(hblk b hb).trans hcs,rfl⟩
 refine⟨⟨?_, ?_, ?_,fun g l hg=>(hR.glob g l hg).mono hcell,fun i oi b hi hli hsi off hF=> ?_,fun b off hF=>Nat.lt_of_lt_of_le (hR.fb b off hF) hsz⟩,⟨rfl,hos,htp,hout,hsz,by simp,hokc, ?_,fun b hb _ =>hblk b hb, ?_, ?_, ?_⟩,hM⟩
 ·intro i j oi oj b hi hj hli hlj hsi hsj
  rcases hget i oi hi with⟨h1,h2,h3⟩|⟨h1,h2,h3⟩<;>rcases hget j oj hj with⟨k1,k2,k3⟩|⟨k1,k2,k3⟩
  ·exact hR.inj i j oi oj b h2 k2 hli hlj (h3▸hsi) (k3▸hsj)
  ·rw [h3]at hsi;rw [k3]at hsj;have:=hR.lt i oi b h2 hli hsi;have:=hnb b hsj;omega
  ·rw [h3]at hsi;rw [k3]at hsj;have:=hR.lt j oj b k2 hlj hsj;have:=hnb b hsi;omega
  ·omega
 ·intro i oi b hi hli hsi
  rcases hget i oi hi with⟨h1,h2,h3⟩|⟨h1,h2,h3⟩
  ·exact Nat.lt_of_lt_of_le (hR.lt i oi b h2 hli (h3▸hsi)) hsz
  ·exact(hnb b (h3▸hsi)).2
 ·intro i oi hi
  rcases hget i oi hi with⟨h1,h2,h3⟩|⟨h1,h2,h3⟩
  ·by_cases hl:live oi=true
   ·have:=RepO.move hM h3 (fun b hb=>hblk b (hR.lt i oi b h2 hl hb)) (hR.obj i oi h2)
    rwa [purgeO_nil]at this
   ·cases oi<;>simp [live]at hl
    trivial
  ·subst h1;subst h2;exact hob hM
 ·rcases hget i oi hi with⟨h1,h2,h3⟩|⟨h1,h2,h3⟩
  ·exact hR.free i oi b h2 hli (h3▸hsi) off hF
  ·have:=(hnb b (h3▸hsi)).1;have:=hR.fb b off hF;omega
 ·intro b off hb _;exact cell_of_block (hblk b hb)
 ·intro i oi hi _
  have:=(List.getElem?_eq_some_iff.1 hi).1;simp [add];omega
 ·intro i oi b hi hl hs
  rcases hget i oi hi with⟨h1,h2,h3⟩|⟨h1,h2,h3⟩
  ·exact .inl ⟨oi,h2,hl,h3▸hs⟩
  ·exact .inr (hnb b (h3▸hs)).1
 ·intro i oi o' hi hi' hr
  have hlt:=(List.getElem?_eq_some_iff.1 hi).1;rw [List.getElem?_append_left hlt,hi]at hi';cases hi';exact hr
theorem getElem?_set_map{α:Type}(f:α→α)(l:List α)(i:Nat)(x:α)(j:Nat)(y:α)(h:((l.set i x).map f)[j]? =some y):
  (j=i∧i<l.length∧y=f x)∨(j≠i∧∃z,l[j]? =some z∧y=f z):=by
 rw [List.getElem?_map,List.getElem?_set]at h;by_cases hij:i=j
 ·subst hij
  rw [if_pos rfl]at h;by_cases hl:i<l.length
  ·rw [if_pos hl]at h;exact .inl ⟨rfl,hl,by simpa using h.symm⟩
  ·rw [if_neg hl]at h;cases h
 ·rw [if_neg hij]at h
  refine .inr ⟨fun e=>hij e.symm, ?_⟩;cases hz:l[j]? with
  |none=>rw [hz]at h;cases h
  |some z=>rw [hz]at h;exact⟨z,rfl,by simpa using h.symm⟩
theorem step_modW(hR:Rp C σ H w G){i:Nat}{o o':AObj T}(nb:Option Nat)(w':World)(hi:H[i]? =some o)(hlo:live o=true)(hkind:isRow o=false→isRow o'=false)
  (hos:w'.os=w.os) (htp:w'.tape=w.tape) (hout:w'.output=w.output) (hsz:w.heap.size≤w'.heap.size)
  (hblk:∀b,b<w.heap.size→σ i≠some b→w'.heap[b]? =w.heap[b]?)
  (hnb:∀b,live o'=true→nb=some b→(σ i=some b∧∀off,foot C o' off→foot C o off)∨(w.heap.size≤b∧b<w'.heap.size))
  (hsame:∀b off,σ i=some b→¬foot C o off→w'.cell? ⟨b,off,none⟩=w.cell? ⟨b,off,none⟩)
  (hsig:i∈S∨nb=σ i) (hrow:isRow o=false→nb=σ i)
  (hS:i∈S∨∀n s,svO C o'=some (n,s)→svO C o=some (n,s)∧
   ∀b,σ i=some b→∀cs e fz,w.heap[b]? =some (.cells cs e fz)→∃cs' e' fz',w'.heap[b]? =some (.cells cs' e' fz')∧cs'.size=cs.size)
  (hob:Move C S σ H w (add σ i nb) ((H.set i o').map (purgeO S)) w'→RepO C (add σ i nb) ((H.set i o').map (purgeO S)) w' i (purgeO S o')):
  Step C G S σ H w (add σ i nb) ((H.set i o').map (purgeO S)) w':=by
 have hlen:i<H.length:=(List.getElem?_eq_some_iff.1 hi).1;have hadd:∀j,j≠i→add σ i nb j=σ j:=fun j hj=>by simp [add,hj]
 have haddi:add σ i nb i=nb:=by simp [add]
 have hget:=fun j y h=>getElem?_set_map (purgeO S) H i o' j y h
 have hokc:∀b off,b<w.heap.size→Okc C σ H b off→Okc C (add σ i nb) ((H.set i o').map (purgeO S)) b off:=by
  intro b off hb ho;refine⟨ho.1,fun j y hj hs=> ?_⟩;rcases hget j y hj with⟨h1,_,h3⟩|⟨h1,z,h2,h3⟩
  ·subst h1;subst h3
   rw [haddi]at hs;rw [foot_purgeO];intro hf;have hl':live o'=true:=by cases o'<;>first|rfl|exact hf.elim
   rcases hnb b hl' hs with⟨h4,h5⟩|⟨h4,h5⟩
   ·exact ho.2 _ o hi h4 (h5 off hf)
   ·omega
  ·subst h3
   rw [foot_purgeO];exact ho.2 j z h2 (hadd j h1▸hs)
 have hsame':∀b off,b<w.heap.size→Okc C σ H b off→w'.cell? ⟨b,off,none⟩=w.cell? ⟨b,off,none⟩:=by
  intro b off hb ho;by_cases hs:σ i=some b
  ·exact hsame b off hs (ho.2 i o hi hs)
  ·exact cell_of_block (hblk b hb hs)
 have hcell:∀b off x,Cell C σ H w b off x→Cell C (add σ i nb) ((H.set i o').map (purgeO S)) w' b off x:=fun b off x ⟨h1,h2⟩=>
  ⟨hokc b off (cell_lt h2) h1,(hsame' b off (cell_lt h2) h1).trans h2⟩
 have hother:∀j oj b,H[j]? =some oj→j≠i→live oj=true→σ j=some b→w'.heap[b]? =w.heap[b]? :=fun j oj b hj hji hl hs=>
  hblk b (hR.lt j oj b hj hl hs) fun hs'=>hji (hR.inj j i oj o b hj hi hl hlo hs hs')
 have hM:Move C S σ H w (add σ i nb) ((H.set i o').map (purgeO S)) w':=by
  refine⟨hcell,by simp,fun j _ hjS=> ?_,fun j hj hjS n s h=> ?_⟩
  ·by_cases hji:j=i
   ·subst hji;rw [haddi];exact hsig.resolve_left hjS
   ·exact hadd j hji
  ·obtain⟨x,hx,hxs⟩:=Option.bind_eq_some_iff.1 (show _ =some (n,s)from h)
   rcases hget j _ hx with⟨h1,_,h3⟩|⟨h1,z,h2,h3⟩
   ·subst h1;subst h3
    obtain⟨h4,h6⟩:=hS.resolve_left hjS n s (svO_purge o' n s hxs);exact⟨by unfold svH;rw [hi];exact h4,h6⟩
   ·subst h3
    have hz:=svO_purge z n s hxs;refine⟨by unfold svH;rw [h2];exact hz,fun b hb cs e fz hcs=>⟨cs,e,fz, ?_,rfl⟩⟩;have hlz:live z=true:=by cases z<;>first|rfl|(cases hz;done)
    exact(hother j _ b h2 h1 hlz hb).trans hcs
 refine⟨⟨?_, ?_, ?_,fun g l hg=>(hR.glob g l hg).mono hcell,fun j oj b hj hlj hsj off hF=> ?_,fun b off hF=>Nat.lt_of_lt_of_le (hR.fb b off hF) hsz⟩,⟨rfl,hos,htp,hout,hsz,by simp,hokc,hsame', ?_, ?_, ?_, ?_⟩,hM⟩
 ·intro j k oj ok b hj hk hlj hlk hsj hsk
  rcases hget j oj hj with⟨h1,_,h3⟩|⟨h1,z,h2,h3⟩<;>rcases hget k ok hk with⟨k1,_,k3⟩|⟨k1,z',k2,k3⟩
  ·omega
  ·subst h1
   rw [haddi]at hsj;rw [hadd k k1]at hsk;rw [h3,live_purgeO]at hlj;rw [k3,live_purgeO]at hlk;rcases hnb b hlj hsj with⟨h4,_⟩|⟨h4,_⟩
   ·exact hR.inj _ k o z' b hi k2 hlo hlk h4 hsk
   ·have:=hR.lt k z' b k2 hlk hsk;omega
  ·subst k1
   rw [haddi]at hsk;rw [hadd j h1]at hsj;rw [k3,live_purgeO]at hlk;rw [h3,live_purgeO]at hlj;rcases hnb b hlk hsk with⟨h4,_⟩|⟨h4,_⟩
   ·exact hR.inj j _ z o b h2 hi hlj hlo hsj h4
   ·have:=hR.lt j z b h2 hlj hsj;omega
  ·rw [hadd j h1]at hsj;rw [hadd k k1]at hsk
   rw [h3,live_purgeO]at hlj;rw [k3,live_purgeO]at hlk;exact hR.inj j k z z' b h2 k2 hlj hlk hsj hsk
 ·intro j oj b hj hlj hsj
  rcases hget j oj hj with⟨h1,_,h3⟩|⟨h1,z,h2,h3⟩
  ·subst h1
   rw [haddi]at hsj;rw [h3,live_purgeO]at hlj;rcases hnb b hlj hsj with⟨h4,_⟩|⟨_,h4⟩
   ·exact Nat.lt_of_lt_of_le (hR.lt _ o b hi hlo h4) hsz
   ·exact h4
  ·rw [hadd j h1]at hsj;rw [h3,live_purgeO]at hlj
   exact Nat.lt_of_lt_of_le (hR.lt j z b h2 hlj hsj) hsz
 ·intro j oj hj
  rcases hget j oj hj with⟨h1,_,h3⟩|⟨h1,z,h2,h3⟩
  ·subst h1;rw [h3];exact hob hM
  ·rw [h3]
   by_cases hl:live z=true
   ·exact RepO.move hM (hadd j h1) (fun b hb=>hother j z b h2 h1 hl hb) (hR.obj j z h2)
   ·cases z<;>simp [live]at hl
    trivial
 ·rcases hget j oj hj with⟨h1,_,h3⟩|⟨h1,z,h2,h3⟩
  ·subst h1
   rw [haddi]at hsj;rw [h3,live_purgeO]at hlj;rcases hnb b hlj hsj with⟨h4,_⟩|⟨h4,_⟩
   ·exact hR.free _ o b hi hlo h4 off hF
   ·have h5:b<w.heap.size:=hR.fb b off hF
    omega
  ·rw [hadd j h1]at hsj;rw [h3,live_purgeO]at hlj
   exact hR.free j z b h2 hlj hsj off hF
 ·intro b hb hn
  exact hblk b hb (hn i o hi hlo)
 ·intro j oj hj hr
  by_cases hji:j=i
  ·subst hji;rw [haddi];rw [hi]at hj;cases hj;exact hrow hr
  ·exact hadd j hji
 ·intro j oj b hj hl hs
  rcases hget j oj hj with⟨h1,_,h3⟩|⟨h1,z,h2,h3⟩
  ·subst h1
   rw [haddi]at hs;rw [h3,live_purgeO]at hl;rcases hnb b hl hs with⟨h4,_⟩|⟨h4,_⟩
   ·exact .inl ⟨o,hi,hlo,h4⟩
   ·exact .inr h4
  ·rw [hadd j h1]at hs;rw [h3,live_purgeO]at hl
   exact .inl ⟨z,h2,hl,hs⟩
 ·intro j oj oj' hj hj' hr
  rcases hget j oj' hj' with⟨h1,_,h3⟩|⟨h1,z,h2,h3⟩
  ·subst h1;rw [hi]at hj;cases hj
   rw [h3,isRow_purgeO];exact hkind hr
  ·rw [h2]at hj;cases hj
   rw [h3,isRow_purgeO];exact hr
theorem step_mod(hR:Rp C σ H w G){i:Nat}{o o':AObj T}(nb:Option Nat)(w':World)(hi:H[i]? =some o)(hlo:live o=true)(hkind:isRow o=isRow o')
  (hos:w'.os=w.os) (htp:w'.tape=w.tape) (hout:w'.output=w.output) (hsz:w.heap.size≤w'.heap.size)
  (hblk:∀b,b<w.heap.size→σ i≠some b→w'.heap[b]? =w.heap[b]?)
  (hnb:∀b,live o'=true→nb=some b→(σ i=some b∧∀off,foot C o' off→foot C o off)∨(w.heap.size≤b∧b<w'.heap.size))
  (hsame:∀b off,σ i=some b→¬foot C o off→w'.cell? ⟨b,off,none⟩=w.cell? ⟨b,off,none⟩)
  (hsig:i∈S∨nb=σ i) (hrow:isRow o=false→nb=σ i)
  (hS:i∈S∨∀n s,svO C o'=some (n,s)→svO C o=some (n,s)∧
   ∀b,σ i=some b→∀cs e fz,w.heap[b]? =some (.cells cs e fz)→∃cs' e' fz',w'.heap[b]? =some (.cells cs' e' fz')∧cs'.size=cs.size)
  (hob:Move C S σ H w (add σ i nb) ((H.set i o').map (purgeO S)) w'→RepO C (add σ i nb) ((H.set i o').map (purgeO S)) w' i (purgeO S o')):
  Step C G S σ H w (add σ i nb) ((H.set i o').map (purgeO S)) w':=
 step_modW hR nb w' hi hlo (fun h=>by rw [←hkind];exact h) hos htp hout hsz hblk hnb hsame hsig hrow hS hob
end Go.Proofs.YtdoifigogbdodaaGreatDoor.Ev

namespace Go.Proofs.YtdoifigogbdodaaGreatDoor.Ev
open Go
variable {T:Nat→Type}
def seq(a b:ByteArray):Bool:=a.data.toList==b.data.toList
def slt(a b:ByteArray):Bool:=Op.bytesLess a.data.toList b.data.toList
def maxI:Nat:=9223372036854775807
def room(bytes:Nat):Nat:=140737488355328/bytes
def eqFs(P:Program)(eq:Nat→AV T→AV T→Option Bool)(xs ys:List (AV T)):List Field→Option Bool
 |[]=>some true
 |f::fs=>
  match sizeT P f.type,aggT P f.type with
  |some n,some ag=>
   bif decide (f.name="_")then none else
   match whole ag n ((xs.drop f.offset).take n) some,whole ag n ((ys.drop f.offset).take n) some with
   |some a,some b=>match eq f.type a b with
    |some r=>match fs with
     |[]=>some r
     |_ =>(eqFs P eq xs ys fs).map fun s=>r&&s
    |none=>none
   |_,_ =>none
  |_,_ =>none
def eqA(P:Program):Nat→Nat→AV T→AV T→Option Bool
 |0,_,_,_ =>none
 |d+1,t,x,y=>
  match P.underlying t,x,y with
  |some .bool,.v (.b a),.v (.b b)=>some (a==b)
  |some (.int _),.v (.i k a),.v (.i k' b)=>bif k==k' then some (a==b)else none
  |some .string,.v (.s a),.v (.s b)=>some (seq a b)
  |some (.struct fs),.agg xs,.agg ys=>bif P.stoodInHeld t then none else eqFs P (eqA P d) xs ys fs.toList
  |some (.interface _),.v .if0,.v .if0=>some true
  |some (.interface _),.v .if0,.ifc _ _ =>some false
  |some (.interface _),.ifc _ _,.v .if0=>some false
  |some (.pointer _),.v .pn,.v .pn=>some true
  |some (.pointer _),.v .pn,.ptr _ _ =>some false
  |some (.pointer _),.ptr _ _,.v .pn=>some false
  |some (.pointer e),.ptr o k,.ptr o' k'=>bif Nat.beq o o'&&Nat.beq k k'&&(match sizeT P e with|some (_ +1)=>true|_ =>false)then some true else none
  |some (.pointer _),.v .pn,.cptr _ _ _ =>some false
  |some (.pointer _),.cptr _ _ _,.v .pn=>some false
  |some (.func _ _ _),.v .fn0,.v .fn0=>some true
  |some (.func _ _ _),.v .fn0,.fn _ _ _ =>some false
  |some (.func _ _ _),.fn _ _ _,.v .fn0=>some false
  |_,_,_ =>none
def nilOk(P:Program)(t:Nat)(x y:Operand)(a b:AV T):Bool:=
 match a,b with
 | .v .if0,.v .if0=>(x matches .const _)||(y matches .const _)
 | .agg _,.agg _ => !P.eqGuardType P.depth t
 |_,_ =>true
section ops
variable {R:Type} (C:Cdc T) (P:Program) (G:Nat→Option (List (V T)))
def binInt(op:BinOp)(k:IntKind)(a b:Int)(K:AV T→Option R):Option R:=
 match op with
 | .add=>K (.v (.i k (k.wrap (a+b))))
 | .sub=>K (.v (.i k (k.wrap (a-b))))
 | .mul=>K (.v (.i k (k.wrap (a*b))))
 | .quo=>bif decide (b=0)then none else K (.v (.i k (k.wrap (a.tdiv b))))
 | .rem=>bif decide (b=0)then none else K (.v (.i k (a.tmod b)))
 | .and=>K (.v (.i k (k.wrap (BitVec.ofInt k.bits a&&&BitVec.ofInt k.bits b).toNat)))
 | .or=>K (.v (.i k (k.wrap (BitVec.ofInt k.bits a|||BitVec.ofInt k.bits b).toNat)))
 | .xor=>K (.v (.i k (k.wrap (BitVec.ofInt k.bits a^^^BitVec.ofInt k.bits b).toNat)))
 | .andNot=>K (.v (.i k (k.wrap (BitVec.ofInt k.bits a&&& ~~~(BitVec.ofInt k.bits b)).toNat)))
 | .eql=>K (.v (.b (a==b)))
 | .neq=>K (.v (.b (a !=b)))
 | .lss=>K (.v (.b (decide (a<b))))
 | .leq=>K (.v (.b (decide (a≤b))))
 | .gtr=>K (.v (.b (decide (a>b))))
 | .geq=>K (.v (.b (decide (a≥b))))
 |_ =>none
def shiftA(op:BinOp)(k:IntKind)(a b:Int)(K:AV T→Option R):Option R:=
 bif decide (b<0)then none else
 match op with
 | .shl=>K (.v (.i k (k.wrap (a*2^(min b.toNat k.bits)))))
 | .shr=>K (.v (.i k (a.fdiv (2^(min b.toNat k.bits)))))
 |_ =>none
def binStr(op:BinOp)(a b:ByteArray)(K:AV T→Option R):Option R:=
 match op with
 | .add=>bif Nat.ble (a.size+b.size) maxI then K (.v (.s (a++b)))else none
 | .eql=>K (.v (.b (seq a b)))
 | .neq=>K (.v (.b (!seq a b)))
 | .lss=>K (.v (.b (slt a b)))
 | .leq=>K (.v (.b (slt a b||seq a b)))
 | .gtr=>K (.v (.b (!(slt a b||seq a b))))
 | .geq=>K (.v (.b (!slt a b)))
 |_ =>none
def isSh:BinOp→Bool
 | .shl| .shr=>true
 |_ =>false
def binA(op:BinOp)(t:Nat)(x y:Operand)(a b:AV T)(K:AV T→Option R):Option R:=
 match a,b with
 | .v (.i k a),.v (.i k' b)=>bif isSh op then shiftA op k a b K else bif k==k' then binInt op k a b K else none
 | .v (.s a),.v (.s b)=>binStr op a b K
 |a,b=>bif nilOk P t x y a b then
   match op with
   | .eql=>(eqA P 6 t a b).bind fun r=>K (.v (.b r))
   | .neq=>(eqA P 6 t a b).bind fun r=>K (.v (.b (!r)))
   |_ =>none
  else none
def unA(op:UnOp)(a:AV T)(K:AV T→Option R):Option R:=
 match op,a with
 | .neg,.v (.i k n)=>K (.v (.i k (k.wrap (0-n))))
 | .xor,.v (.i k n)=>K (.v (.i k (k.wrap (BitVec.ofInt k.bits (if k.signed then-1 else k.max)^^^BitVec.ofInt k.bits n).toNat)))
 | .not,.v (.b x)=>K (.v (.b (!x)))
 |_,_ =>none
def placeT(t:Nat):Nat→Option (Nat×Nat):=
 match P.underlying t with
 |some (.struct fs)=>fun i=>(fs[i]?).bind fun f=>(sizeT P f.type).map fun n=>(f.offset,n)
 |some (.array _ e)=>fun i=>(sizeT P e).map fun n=>(i*n,n)
 |_ =>fun _ =>none
def sizedT(t:Nat):Bool:=
 match P.underlying t with
 |some (.struct fs)=>fs.toList.all fun f=>match sizeT P f.type with|some _ =>true|none=>false
 |some (.array _ e)=>match sizeT P e with|some _ =>true|none=>false
 |_ =>false
def repL{α:Type}(l:List α):Nat→List α
 |0=>[]
 |k+1=>l++repL l k
def fillA(place:Nat→Option (Nat×Nat))(cells:List (AV T)):List (Nat×AV T)→Option (List (AV T))
 |[]=>some cells
 |(i,x)::rest=>
  match place i,cellsA x with
  |some (off,n),some cs=>bif Nat.beq cs.length n&&Nat.ble (off+cs.length) cells.length then fillA place (setRange cells off cs) rest else none
  |_,_ =>none
def contentA(H:List (AObj T))(e:Nat):AV T→Option (List (T e))
 | .v (.sl t l)=>if h:t=e then some (h▸l)else none
 | .own o=>match H[o]? with
  |some (.row t l _)=>if h:t=e then some (h▸l)else none
  |_ =>none
 | .v .nl=>some []
 | .cap0=>some []
 | .z0=>some []
 |_ =>none
def lend(o:Nat)(H:List (AObj T)):List (AObj T):=
 match H[o]? with
 |some (.row t l _)=>H.set o (.row t l false)
 |_ =>H
def vsK:List (AV T)→List (AObj T)→(List (V T)→List (AObj T)→Option R)→Option R
 |[],H,K=>K [] H
 | .v x::l,H,K=>vsK l H fun vs H=>K (x::vs) H
 | .cap0::l,H,K=>vsK l H fun vs H=>K (.nl::vs) H
 | .z0::l,H,K=>vsK l H fun vs H=>K (.nl::vs) H
 | .own o::l,H,K=>match H[o]? with
  |some (.row t c _)=>vsK l (lend o H) fun vs H=>K (.sl t c::vs) H
  |_ =>none
 |_ ::_,_,_ =>none
def decN(e:Nat):Nat→List (V T)→Option (List (T e))
 |0,_ =>some []
 |k+1,vs=>(C.dec e (vs.take (C.size e))).bind fun x=>(decN e k (vs.drop (C.size e))).bind fun l=>some (x::l)
abbrev Kont(T:Nat→Type)(R:Type):=AV T→List (AObj T)→List Nat→Option R
def allocA(e:Nat)(H:List (AObj T))(K:Kont T R):Option R:=
 match zeroT P e with
 |some z=>K (.ptr H.length 0) (H++[.cells e none z]) []
 |none=>none
def boxA(e:Nat)(x:AV T)(H:List (AObj T))(K:Kont T R):Option R:=
 match cellsA x with
 |some cs=>K (.ptr H.length 0) (H++[.cells e none cs]) []
 |none=>none
def buildA(t:Nat)(parts:List (Nat×AV T))(H:List (AObj T))(K:Kont T R):Option R:=
 match zeroT P t with
 |some z=>bif sizedT P t then match fillA (placeT P t) z parts with
  |some cs=>K (.agg cs) H []
  |none=>none
  else none
 |none=>none
def buildSliceA(t len:Nat)(parts:List (Nat×AV T))(H:List (AObj T))(K:Kont T R):Option R:=
 match elemT P t with
 |some e=>match sizeT P e,zeroT P e with
  |some n,some z=>bif Nat.beq z.length n&&Nat.ble (len*n) 16777216&&Nat.ble 1 n then
    match fillA (fun i=>some (i*n,n)) (repL z len) parts with
    |some cs=>bif C.typed e then
       bif Nat.beq (C.size e) n then vsK cs H fun vs H=>(decN C e len vs).bind fun l=>K (.own H.length) (H++[.row e l true]) []else none
      else K (.slc H.length 0 len len) (H++[.cells e none cs]) []
    |none=>none
   else none
  |_,_ =>none
 |none=>none
def loadA(t:Nat)(a:AV T)(H:List (AObj T))(K:Kont T R):Option R:=
 match sizeT P t,aggT P t with
 |some n,some ag=>match cellsAt C (fun g=>(G g).map fun l=>l.map AV.v) H a n with
  |some cs=>whole ag n cs fun x=>K x H []
  |none=>none
 |_,_ =>none
def loadB(t:Nat)(a:AV T)(H:List (AObj T))(K:Kont T R):Option R:=
 match a with
 | .rptr o i off=>match sizeT P t,aggT P t with
  |some n,some ag=>match H[o]? with
   |some (.row u l _)=>(l[i]?).bind fun x=>whole ag n ((((C.enc u x).map AV.v).drop off).take n) fun x=>K x H []
   |_ =>none
  |_,_ =>none
 |a=>loadA C P G t a H K
theorem loadB_eq{t:Nat}{a:AV T}{H:List (AObj T)}{K:Kont T R}:loadB C P G t a H K=loadA C P G t a H K:=by
 cases a<;>try rfl
 rename_i o i off;simp only [loadB,loadA,cellsAt];cases sizeT P t<;>cases aggT P t<;>try rfl
 simp only;cases ho:H[o]? with
 |none=>rfl
 |some x=>
  cases x<;>try rfl
  rename_i u l m;simp only;cases l[i]? <;>rfl
def allLeaf:List (AV T)→Bool
 |[]=>true
 |x::l=>isLeaf x&&allLeaf l
def storeA(t:Nat)(a x:AV T)(H:List (AObj T))(K:Kont T R):Option R:=
 match sizeT P t,cellsA x with
 |some n,some cs=>bif Nat.beq cs.length n&&allLeaf cs then
   match a with
   | .ptr o off=>match H[o]? with
    |some (.cells e g l)=>bif Nat.ble (off+cs.length) l.length then K .any (H.set o (.cells e g (setRange l off cs))) []else none
    |_ =>none
   | .rptr o i off=>vsK cs H fun vs H=>match H[o]? with
    |some (.row e l true)=>match l[i]? with
     |some y=>bif Nat.ble (off+vs.length) (C.size e)then
       (C.dec e (setRange (C.enc e y) off vs)).bind fun z=>K .any (H.set o (.row e (l.set i z) true)) []
      else none
     |none=>none
    |_ =>none
   |_ =>none
  else none
 |_,_ =>none
def fieldAddrA(s f:Nat)(a:AV T)(H:List (AObj T))(K:Kont T R):Option R:=
 match fieldT P s f with
 |some (off,t)=>match sizeT P t with
  |some (_ +1)=>match a with
   | .ptr o k=>K (.ptr o (k+off)) H []
   | .rptr o i k=>K (.rptr o i (k+off)) H []
   | .cptr e x k=>K (.cptr e x (k+off)) H []
   | .gptr g k=>K (.gptr g (k+off)) H []
   |_ =>none
  |_ =>none
 |none=>none
def fieldA(s f:Nat)(a:AV T)(H:List (AObj T))(K:Kont T R):Option R:=
 match fieldT P s f,a with
 |some (off,t),.agg cs=>match sizeT P t,aggT P t with
  |some n,some ag=>whole ag n ((cs.drop off).take n) fun x=>K x H []
  |_,_ =>none
 |_,_ =>none
def indexAddrA(t:Nat)(a i:AV T)(H:List (AObj T))(K:Kont T R):Option R:=
 match P.underlying t,i with
 |some (.slice e),.v (.i _ n)=>match sizeT P e with
  |some k=>match a with
   | .own o=>match H[o]? with
    |some (.row e' l _)=>bif Nat.beq k (C.size e')&&decide (0≤n)&&Nat.blt n.toNat l.length then K (.rptr o n.toNat 0) H []else none
    |_ =>none
   | .v (.sl e' l)=>bif Nat.beq k (C.size e')&&decide (0≤n)then(l[n.toNat]?).bind fun x=>K (.cptr e' x 0) H []else none
   | .slc o off len _ =>bif decide (0≤n)&&Nat.blt n.toNat len then K (.ptr o (off+n.toNat*k)) H []else none
   |_ =>none
  |none=>none
 |some (.array len e),.v (.i _ n)=>match sizeT P e with
  |some k=>bif decide (0≤n)&&Nat.blt n.toNat len then
    match a with
    | .ptr o off=>K (.ptr o (off+n.toNat*k)) H []
    | .gptr g off=>K (.gptr g (off+n.toNat*k)) H []
    | .cptr e' x off=>K (.cptr e' x (off+n.toNat*k)) H []
    |_ =>none
   else none
  |none=>none
 |_,_ =>none
def indexA(t:Nat)(a i:AV T)(H:List (AObj T))(K:Kont T R):Option R:=
 match P.underlying t,a,i with
 |some .string,.v (.s s),.v (.i _ n)=>bif decide (0≤n)then(s.data.toList[n.toNat]?).bind fun b=>K (.v (.i .u8 b.toNat)) H []else none
 |some (.array len e),.agg cs,.v (.i _ n)=>match sizeT P e,aggT P e with
  |some k,some ag=>bif decide (0≤n)&&Nat.blt n.toNat len then whole ag k ((cs.drop (n.toNat*k)).take k) fun x=>K x H []else none
  |_,_ =>none
 |_,_,_ =>none
def boundA(d:Int):Option (AV T)→Option Int
 |none=>some d
 |some (.v (.i _ n))=>some n
 |_ =>none
def isNone{α:Type}:Option α→Bool
 |none=>true
 |_ =>false
def zeroB:Option (AV T)→Bool
 |some (.v (.i _ n))=>decide (n=0)
 |_ =>false
def isSl:AV T→Bool
 | .v (.sl _ _)| .v .nl| .own _ | .cap0| .z0| .slc _ _ _ _ =>true
 |_ =>false
def sliceA(t:Nat)(a:AV T)(lo hi mx:Option (AV T))(H:List (AObj T))(K:Kont T R):Option R:=
 match P.underlying t with
 |some .string=>match a with
  | .v (.s s)=>bif isNone mx then match boundA 0 lo,boundA s.size hi with
    |some l,some h=>bif decide (0≤h)&&decide (h≤(s.size:Int))&&decide (0≤l)&&decide (l≤h)then K (.v (.s (s.extract l.toNat h.toNat))) H []else none
    |_,_ =>none
   else none
  |_ =>none
 |some (.slice e)=>match mx with
  |some m=>bif zeroB (some m)&&isNone lo&&zeroB hi&&isSl a&& !isNone (sizeT P e)then K .z0 H []else none
  |none=>bif Nat.beq ((sizeT P e).getD 0) (C.size e)then match contentA H e a with
    |some c=>match boundA 0 lo,boundA c.length hi with
     |some l,some h=>bif decide (0≤h)&&decide (h≤(c.length:Int))&&decide (0≤l)&&decide (l≤h)then
       K (.v (.sl e ((c.take h.toNat).drop l.toNat))) (match a with| .own o=>lend o H|_ =>H) []else none
     |_,_ =>none
    |none=>none
   else none
 |_ =>none
def nilCheckA(a:AV T)(H:List (AObj T))(K:Kont T R):Option R:=
 match a with
 | .ptr o k=>K (.ptr o k) H []
 | .rptr o i k=>K (.rptr o i k) H []
 | .cptr t x k=>K (.cptr t x k) H []
 | .gptr g k=>K (.gptr g k) H []
 | .fn (.func f) x y=>K (.fn (.func f) x y) H []
 |_ =>none
def convA(src dst:Nat)(a:AV T)(H:List (AObj T))(K:Kont T R):Option R:=
 match P.underlying src,P.underlying dst,a with
 |some (.int _),some (.int k),.v (.i _ n)=>K (.v (.i k (k.wrap n))) H []
 |some (.int _),some .string,.v (.i _ n)=>K (.v (.s (Utf8.encode n))) H []
 |some .string,some .string,.v (.s x)=>K (.v (.s x)) H []
 |some .string,some (.slice e),.v (.s x)=>match P.underlying e with
  |some (.int .u8)=>bif Nat.beq e C.bt&&Nat.beq ((sizeT P e).getD 0) 1&&Nat.beq (C.size e) 1&&Nat.ble x.size maxI then
    K (.own H.length) (H++[.row C.bt (x.data.toList.map fun b=>C.ofB b.toNat) true]) []else none
  |_ =>none
 |some (.pointer t),some .unsafePointer,.ptr o k=>match H[o]?,P.info? t with
  |some (.cells _ none l),some j=>bif !Nat.beq j.size 0&&Nat.blt k l.length then K (.ptr o k) H []else none
  |_,_ =>none
 |some .unsafePointer,some (.pointer u),.ptr o k=>match H[o]?,P.info? u with
  |some (.cells e none l),some _ =>bif liesAt P P.depth e (l.length/P.cellsOf e) k u 1 then K (.ptr o k) H []else none
  |_,_ =>none
 |some (.slice e),some .string,a=>match P.underlying e with
  |some (.int .u8)=>bif Nat.beq (C.size C.bt) 1 then match contentA H C.bt a with
    |some l=>K (.v (.s ⟨(l.map fun x=>UInt8.ofNat (C.toB x).toNat).toArray⟩)) H []
    |none=>none
   else none
  |_ =>none
 |_,_,_ =>none
def assertA(a:AV T)(asserted:Nat)(ok:Bool)(H:List (AObj T))(K:Kont T R):Option R:=
 match P.underlying asserted with
 |some (.interface want)=>match a with
  | .ifc t x=>match P.info? t with
   |some i=>match Instr.missingMethod want i.methods with
    |none=>K (bif ok then .tup [.ifc t x,.v (.b true)]else .ifc t x) H []
    |some _ =>bif ok then match(P.info? asserted).bind (·.zero)with
      |some z=>K (.tup [ofConst z,.v (.b false)]) H []
      |none=>none
     else none
   |none=>none
  |_ =>none
 |some _ =>match a with
  | .ifc t x=>bif Nat.beq t asserted then K (bif ok then .tup [x,.v (.b true)]else x) H []
    else bif ok then match(P.info? asserted).bind (·.zero)with
     |some z=>K (.tup [ofConst z,.v (.b false)]) H []
     |none=>none
    else none
  | .v .if0=>bif ok then match(P.info? asserted).bind (·.zero)with
     |some z=>K (.tup [ofConst z,.v (.b false)]) H []
     |none=>none
    else none
  |_ =>none
 |none=>none
def rangeA(t:Nat)(a:AV T)(H:List (AObj T))(K:Kont T R):Option R:=
 match P.underlying t,a with
 |some .string,.v (.s s)=>K (.ptr H.length 0) (H++[.siter s 0]) []
 |_,_ =>none
def nextA(it:AV T)(isString:Bool)(H:List (AObj T))(K:Kont T R):Option R:=
 match isString,it with
 |true,.ptr o 0=>match H[o]? with
  |some (.siter s pos)=>bif Nat.blt pos s.size then
    K (.tup [.v (.b true),.v (.i .i64 pos),.v (.i .i32 (Utf8.decode s pos).1)]) (H.set o (.siter s (pos+(Utf8.decode s pos).2))) []
   else K (.tup [.v (.b false)]) H []
  |_ =>none
 |_,_ =>none
def makeSliceA(t:Nat)(len cap:AV T)(H:List (AObj T))(K:Kont T R):Option R:=
 match elemT P t,len,cap with
 |some e,.v (.i _ n),.v (.i _ c)=>match sizeT P e,zeroT P e,bytesT P e with
  |some k,some z,some bytes=>bif Nat.beq k (C.size e)&&Nat.beq z.length k&&decide (0≤n)&&decide (n≤c)&&decide ((bytes:Int)*c≤140737488355328)&&decide (c≤140737488355328)then
    vsK z H fun vs H=>(C.dec e vs).bind fun x=>K (.own H.length) (H++[.row e (List.replicate n.toNat x) true]) []
   else none
  |_,_,_ =>none
 |_,_,_ =>none
def lenA(t:Nat)(a:AV T)(H:List (AObj T))(K:Kont T R):Option R:=
 match P.underlying t,a with
 |some .string,.v (.s s)=>K (.v (.i .i64 s.size)) H []
 |some (.slice _),.v (.sl _ l)=>K (.v (.i .i64 l.length)) H []
 |some (.slice _),.own o=>match H[o]? with
  |some (.row _ l _)=>K (.v (.i .i64 l.length)) H []
  |_ =>none
 |some (.slice _),.slc _ _ n _ =>K (.v (.i .i64 n)) H []
 |some (.slice _),.cap0=>K (.v (.i .i64 0)) H []
 |some (.slice _),.z0=>K (.v (.i .i64 0)) H []
 |some (.slice _),.v .nl=>K (.v (.i .i64 0)) H []
 |some (.array n _),_ =>K (.v (.i .i64 n)) H []
 |_,_ =>none
def appended(H:List (AObj T))(e:Nat)(a:AV T):Option (List (T e)):=
 match a with
 | .v (.s x)=>if h:C.bt=e then some (h▸x.data.toList.map fun b=>C.ofB b.toNat)else none
 |a=>contentA H e a
def isSrc(t:Nat):Bool:=
 match P.underlying t with
 |some (.slice _)|some .string=>true
 |_ =>false
def isNilL{α:Type}:List α→Bool
 |[]=>true
 |_ =>false
def appendA(st xt:Nat)(a x:AV T)(H:List (AObj T))(K:Kont T R):Option R:=
 match elemT P st with
 |some e=>match sizeT P e,bytesT P e,isSrc P xt,appended C H e x,zeroT (T:=T) P e with
  |some n,some (bytes+1),true,some l2,some z=>bif Nat.beq n (C.size e)&&Nat.beq z.length n then
    match a with
    | .cap0=>bif Nat.ble l2.length (room (bytes+1))then K (.own H.length) (H++[.row e l2 true]) []else none
    | .z0=>bif isNilL l2 then K .z0 H []else bif Nat.ble l2.length (room (bytes+1))then K (.own H.length) (H++[.row e l2 true]) []else none
    | .own o=>match H[o]? with
     |some (.row t l m)=>if h:t=e then bif Nat.ble (l.length+l2.length) (room (bytes+1))then K (.own o) ((H.set o (.row e ((h▸l)++l2) m)).map (purgeO [o])) [o]else none else none
     |_ =>none
    |_ =>none
   else none
  |_,_,_,_,_ =>none
 |none=>none
def copyA(dt:Nat)(a x:AV T)(H:List (AObj T))(K:Kont T R):Option R:=
 match elemT P dt with
 |some e=>match sizeT P e,appended C H e x,a with
  |some n,some l2,.own o=>match H[o]? with
   |some (.row t l true)=>bif Nat.beq n (C.size e)then if h:t=e then
     K (.v (.i .i64 ((min l2.length l.length:Nat):Int))) (H.set o (.row e (l2.take l.length++(h▸l:List (T e)).drop l2.length) true)) []else none else none
   |_ =>none
  |_,_,_ =>none
 |none=>none
def minMaxA(mx:Bool)(args:List (AV T))(H:List (AObj T))(K:Kont T R):Option R:=
 match args with
 |[.v (.i k a),.v (.i _ b)]=>K (.v (.i k (bif mx then(if b>a then b else a)else(if b<a then b else a)))) H []
 |_ =>none
def sliceDataA(ty:Nat)(a:AV T)(H:List (AObj T))(K:Kont T R):Option R:=
 match P.underlying ty with
 |some (.pointer _)=>match a with
  | .own o=>match H[o]? with
   |some (.row _ _ _)=>K (.sp o) H []
   |_ =>none
  | .cap0=>K (.sp H.length) (H++[.dead]) []
  |_ =>none
 |_ =>none
def bytesOfA(l:List (T C.bt)):ByteArray:=⟨(l.map fun x=>UInt8.ofNat (C.toB x).toNat).toArray⟩
def uStringA(pt:Nat)(p n:AV T)(H:List (AObj T))(K:Kont T R):Option R:=
 match P.underlying pt,p,n with
 |some (.pointer e),.sp o,.v (.i .i64 k)=>match H[o]? with
  |some (.row t l _)=>if h:t=C.bt then
    bif Nat.beq e t&&Nat.beq (P.cellsOf e) 1&&Nat.beq (C.size C.bt) 1&&decide (k=(l.length:Int))&&Nat.ble l.length maxI then
     K (.v (.s (bytesOfA C (h▸l)))) ((H.set o .dead).map (purgeO [o])) [o]else none else none
  |some .dead=>bif decide (k=0)then K (.v (.s ⟨#[]⟩)) H []else none
  |_ =>none
 |_,_,_ =>none
def lenX(t:Nat)(a:AV T)(H:List (AObj T))(K:Kont T R):Option R:=lenA P t a H K
def indexAddrX(t:Nat)(a i:AV T)(H:List (AObj T))(K:Kont T R):Option R:=indexAddrA C P t a i H K
def sliceX(t:Nat)(a:AV T)(lo hi mx:Option (AV T))(H:List (AObj T))(K:Kont T R):Option R:=
 match a,mx with
 | .slc o off n c,none=>match P.underlying t with
  |some (.slice e)=>match sizeT P e,boundA 0 lo,boundA n hi with
   |some k,some l,some h=>bif decide (0≤h)&&decide (h≤(n:Int))&&decide (0≤l)&&decide (l≤h)&&Nat.blt l.toNat c&&Nat.ble n c then K (.slc o (off+l.toNat*k) (h.toNat-l.toNat) (c-l.toNat)) H []else none
   |_,_,_ =>none
  |_ =>none
 |a,mx=>sliceA C P t a lo hi mx H K
def rowCells(H:List (AObj T))(k:Nat):AV T→Option (List (AV T))
 | .slc o off n _ =>match H[o]? with
  |some (.cells _ _ l)=>bif Nat.ble (off+n*k) l.length then some ((l.drop off).take (n*k))else none
  |_ =>none
 |_ =>none
def slT(t:Nat):Bool:=match P.underlying t with|some (.slice _)=>true|_ =>false
def appendC(st xt:Nat)(a x:AV T)(H:List (AObj T))(K:Kont T R):Option R:=
 match elemT P st with
 |some e=>match sizeT P e,bytesT P e,zeroT (T:=T) P e with
  |some (k+1),some (bytes+1),some z=>match a,x with
   | .slc o off n c,.slc o2 off2 m c2=>match rowCells H (k+1) (.slc o off n c),rowCells H (k+1) (.slc o2 off2 m c2)with
    |some l1,some l2=>bif Nat.beq n c&&Nat.blt 0 m&&Nat.beq z.length (k+1)&&Nat.ble (n+m) (room (bytes+1))&&allLeaf l2&&isSrc P xt&&slT P xt then K (.slc H.length 0 (n+m) 0) (H++[.cells e (some 0) (l1++l2)]) []else none
    |_,_ =>none
   |_,_ =>none
  |_,_,_ =>none
 |none=>none
def appendX(st xt:Nat)(a x:AV T)(H:List (AObj T))(K:Kont T R):Option R:=
 match a with
 | .slc o off n c=>appendC P st xt (.slc o off n c) x H K
 |a=>appendA C P st xt a x H K
def builtinA(b:Builtin)(ty:Nat)(argTypes:Array TypeId)(args:List (AV T))(H:List (AObj T))(K:Kont T R):Option R:=
 match b,argTypes.toList,args with
 | .len,t::_,a::_ =>lenX P t a H K
 | .append,[t,t2],[a,x]=>appendX C P t t2 a x H K
 | .copy,t::_,a::x::_ =>copyA C P t a x H K
 | .min,_,args=>minMaxA false args H K
 | .max,_,args=>minMaxA true args H K
 | .unsafeSliceData,_,[a]=>sliceDataA P ty a H K
 | .unsafeString,[pt,_],[p,n]=>uStringA C P pt p n H K
 |_,_,_ =>none
def evOp(o:Oper)(env:Env T)(H:List (AObj T))(K:Kont T R)(Kp:AV T→List (AObj T)→Option R):Option R:=
 match o.op with
 | .move x| .assign x=>K (evO env x) H []
 | .pick c a b=>match evO env c with
  | .v (.b c)=>bif c then K (evO env a) H []else K (evO env b) H []
  |_ =>none
 | .alloc e=>allocA P e H K
 | .box e x=>boxA e (evO env x) H K
 | .build t parts=>buildA P t (parts.toList.map fun p=>(p.1,evO env p.2)) H K
 | .buildSlice t n parts=>buildSliceA C P t n (parts.toList.map fun p=>(p.1,evO env p.2)) H K
 | .load t a=>loadB C P G t (evO env a) H K
 | .store t a x=>storeA C P t (evO env a) (evO env x) H K
 | .nilCheck x=>nilCheckA (evO env x) H K
 | .binOp op t x y _ =>binA P op t x y (evO env x) (evO env y) fun v=>K v H []
 | .unOp op _ x=>unA op (evO env x) fun v=>K v H []
 | .convert s d x=>convA C P s d (evO env x) H K
 | .makeInterface t x=>match P.underlying t with
  |some (.interface _)=>none
  |some _ =>K (.ifc t (evO env x)) H []
  |none=>none
 | .makeFunc f first cap=>K (.fn f (first.toList.map (evO env)) (cap.toList.map (evO env))) H []
 | .makeSlice t l c=>makeSliceA C P t (evO env l) (evO env c) H K
 | .slice t x lo hi mx=>sliceX C P t (evO env x) (lo.map (evO env)) (hi.map (evO env)) (mx.map (evO env)) H K
 | .fieldAddr s x f=>fieldAddrA P s f (evO env x) H K
 | .field s x f=>fieldA P s f (evO env x) H K
 | .indexAddr t x i=>indexAddrX C P t (evO env x) (evO env i) H K
 | .index t x i=>indexA P t (evO env x) (evO env i) H K
 | .range t x=>rangeA P t (evO env x) H K
 | .next it s=>nextA (evO env it) s H K
 | .typeAssert x _ as ok=>assertA P (evO env x) as ok H K
 | .extract t i=>match evO env t with
  | .tup l=>match l[i]? with
   |some x=>K x H []
   |none=>none
  |_ =>none
 | .call {callee:= .builtin b,args,argTypes}=>builtinA C P b o.type argTypes (args.toList.map (evO env)) H K
 | .panic x=>match evO env x with
  | .ifc t y=>Kp (.ifc t y) H
  |_ =>none
 |_ =>none
end ops
end Go.Proofs.YtdoifigogbdodaaGreatDoor.Ev

namespace Go.Proofs.YtdoifigogbdodaaGreatDoor.Ev
open Go
variable {T:Nat→Type} {C:Cdc T} {P:Program} {σ:Lk} {H:List (AObj T)} {w:World} {G:Nat→Option (List (V T))} {R:Type}
theorem rep_ofLeaf(x:Value):RepA C σ H w (ofLeaf x) x:=by
 unfold ofLeaf;split
 ·exact .b _
 ·exact .i _ _
 ·exact .s _
 ·exact .pn
 ·exact .fn0
 ·exact .if0
 ·rfl
 ·exact⟨_,_,rfl,rfl,rfl⟩
 ·trivial
theorem rep_ofLeafs:∀(l:List Value),RepL C σ H w (l.map ofLeaf) l
 |[]=>rfl
 |x::l=>⟨x,l,rfl,rep_ofLeaf x,rep_ofLeafs l⟩
theorem rep_ofConst(x:Value):RepA C σ H w (ofConst x) x:=by
 unfold ofConst;split
 ·exact⟨_,rfl,rep_ofLeafs _⟩
 ·exact rep_ofLeaf _
def RepE(C:Cdc T)(σ:Lk)(H:List (AObj T))(w:World)(env:Env T)(a:Act):Prop:=∀t,RepA C σ H w (env t) (a.tmps.getD t undef)
theorem rep_evO{env:Env T}{a:Act}(h:RepE C σ H w env a)(x:Operand):RepA C σ H w (evO env x) (a.eval x):=by
 cases x with
 |tmp t=>exact h t
 |const v=>exact rep_ofConst v
 |global g=>exact rfl
 |func f=>exact⟨#[],#[],rfl,rfl,rfl⟩
theorem rep_evOs{env:Env T}{a:Act}(h:RepE C σ H w env a):∀(l:List Operand),RepL C σ H w (l.map (evO env)) (l.map a.eval)
 |[]=>rfl
 |x::l=>⟨_,_,rfl,rep_evO h x,rep_evOs h l⟩
theorem RepL.length:∀{l:List (AV T)} {ys:List Value},RepL C σ H w l ys→ys.length=l.length
 |[],_,h=>by cases h;rfl
 |_ ::_,_,⟨_,_,h,_,h2⟩=>by subst h;simp [RepL.length h2]
theorem RepL.get:∀{l:List (AV T)} {ys:List Value},RepL C σ H w l ys→∀(j:Nat) (x:AV T),l[j]? =some x→∃y,ys[j]? =some y∧RepA C σ H w x y
 |[],_,_,j,x,h=>by simp at h
 |a::l,_,⟨y,ys,h,h1,h2⟩,0,x,hj=>by subst h;simp at hj;subst hj;exact⟨y,rfl,h1⟩
 |a::l,_,⟨y,ys,h,h1,h2⟩,j+1,x,hj=>by subst h;simp at hj;exact RepL.get h2 j x hj
theorem RepL.of_get:∀{l:List (AV T)} {ys:List Value},ys.length=l.length→(∀(j:Nat) (x:AV T) (y:Value),l[j]? =some x→ys[j]? =some y→RepA C σ H w x y)→RepL C σ H w l ys
 |[],ys,h,_ =>by cases ys with|nil=>rfl|cons=>simp at h
 |x::l,[],h,_ =>by simp at h
 |x::l,y::ys,h,h1=>⟨y,ys,rfl,h1 0 x y rfl rfl,RepL.of_get (by simpa using h) fun j a b hj hb=>h1 (j+1) a b hj hb⟩
theorem RepL.drop{l:List (AV T)}{ys:List Value}(h:RepL C σ H w l ys)(n:Nat):RepL C σ H w (l.drop n) (ys.drop n):=
 RepL.of_get (by simp [h.length]) fun j x y hj hy=>by
  simp at hj hy;obtain⟨z,h1,h2⟩:=h.get _ x hj;rw [h1]at hy;cases hy;exact h2
theorem RepL.take{l:List (AV T)}{ys:List Value}(h:RepL C σ H w l ys)(n:Nat):RepL C σ H w (l.take n) (ys.take n):=
 RepL.of_get (by simp [h.length]) fun j x y hj hy=>by
  rw [List.getElem?_take]at hj hy;split at hj
  ·rename_i hlt
   rw [if_pos hlt]at hy;obtain⟨z,h1,h2⟩:=h.get _ x hj;rw [h1]at hy;cases hy;exact h2
  ·cases hj
theorem RepL.append:∀{l m:List (AV T)} {ys zs:List Value},RepL C σ H w l ys→RepL C σ H w m zs→RepL C σ H w (l++m) (ys++zs)
 |[],_,_,_,h,k=>by cases h;exact k
 |_ ::_,_,_,_,⟨y,ys,h,h1,h2⟩,k=>by subst h;exact⟨y,_,rfl,h1,RepL.append h2 k⟩
def Good(P:Program)(C:Cdc T)(G:Nat→Option (List (V T)))(σ:Lk)(H:List (AObj T))(w:World)(run:Result Next)(K:Kont T R)(Kp:AV T→List (AObj T)→Option R)(r:R):Prop:=
 (∃x H' S v σ' w',K x H' S=some r∧(run= .ok (.value v) w'∨(run= .ok .skip w'∧v=undef))∧Step C G S σ H w σ' H' w'∧RepA C σ' H' w' x v)∨
 ∃p H' v σ' w',Kp p H'=some r∧run= .halt (.panic v) w'∧Step C G [] σ H w σ' H' w'∧RepA C σ' H' w' p v
theorem Move.refl(C:Cdc T)(σ:Lk)(H:List (AObj T))(w:World):Move C [] σ H w σ H w:=
 ⟨fun _ _ _ h=>h,Nat.le_refl _,fun _ _ _ =>rfl,fun _ _ _ n s h=>⟨h,fun _ _ cs e fz h=>⟨cs,e,fz,h,rfl⟩⟩⟩
theorem Step.refl(hR:Rp C σ H w G):Step C G [] σ H w σ H w:=⟨hR,Anc.refl C σ H w,Move.refl C σ H w⟩
theorem cell_heap{w w':World}(h:w'.heap=w.heap)(a:Addr):w'.cell? a=w.cell? a:=by unfold World.cell?;rw [h]
theorem Step.heap{w':World}(hR:Rp C σ H w G)(h:w'.heap=w.heap)(hos:w'.os=w.os)(ht:w'.tape=w.tape)(ho:w'.output=w.output):Step C G [] σ H w σ H w':=by
 have hc:∀b off x,Cell C σ H w b off x→Cell C σ H w' b off x:=fun b off x ⟨h1,h2⟩=>⟨h1,(cell_heap h _).trans h2⟩
 have hM:Move C [] σ H w σ H w':=⟨hc,Nat.le_refl _,fun _ _ _ =>rfl,fun _ _ _ n s hl=>⟨hl,fun _ _ cs e fz hb=>⟨cs,e,fz,by rw [h];exact hb,rfl⟩⟩⟩
 refine⟨⟨hR.inj,fun i o b h1 h2 h3=>by rw [h];exact hR.lt i o b h1 h2 h3,fun i o hi=> ?_,fun g l hg=>(hR.glob g l hg).mono hc,hR.free,fun b off hF=>by rw [h];exact hR.fb b off hF⟩,⟨rfl,hos,ht,ho,by rw [h];exact Nat.le_refl _,Nat.le_refl _,fun _ _ _ h=>h,fun _ _ _ _ =>cell_heap h _,fun _ _ _ =>by rw [h],fun _ _ _ _ =>rfl,fun _ o _ h1 h2 h3=> .inl ⟨o,h1,h2,h3⟩,fun _ o o' h h' hr=>by rw [h]at h';cases h';exact hr⟩,hM⟩;have:=RepO.move hM rfl (fun b _ =>by rw [h]) (hR.obj i o hi)
 rwa [purgeO_nil]at this
def GoodQ(C:Cdc T)(σ:Lk)(H:List (AObj T))(w:World)(run:Result Next)(K:Kont T R)(r:R):Prop:=
 ∃x v,K x H []=some r∧run= .ok (.value v) w∧RepA C σ H w x v
theorem good_q{run:Result Next}{K:Kont T R}{r:R}{x:AV T}{v:Value}(hK:K x H []=some r)
  (hrun:run= .ok (.value v) w) (hx:RepA C σ H w x v):GoodQ C σ H w run K r:=⟨x,v,hK,hrun,hx⟩
theorem GoodQ.good{run:Result Next}{K:Kont T R}{Kp:AV T→List (AObj T)→Option R}{r:R}(hR:Rp C σ H w G)(h:GoodQ C σ H w run K r):Good P C G σ H w run K Kp r:=by
 obtain⟨x,v,h1,h2,h3⟩:=h;exact .inl ⟨x,H,[],v,σ,w,h1,.inl h2,Step.refl hR,h3⟩
theorem good_val{run:Result Next}{K:Kont T R}{Kp:AV T→List (AObj T)→Option R}{r:R}(hR:Rp C σ H w G){x:AV T}{v:Value}(hK:K x H []=some r)
  (hrun:run= .ok (.value v) w) (hx:RepA C σ H w x v):Good P C G σ H w run K Kp r:=
 .inl ⟨x,H,[],v,σ,w,hK,.inl hrun,Step.refl hR,hx⟩
theorem rep_i{k:IntKind}{n:Int}{y:Value}(h:RepA C σ H w (.v (.i k n)) y):y= .int k n:=by
 have h':RepV C (Cell C σ H w) (.i k n) y:=h;cases h';rfl
theorem rep_b{n:Bool}{y:Value}(h:RepA C σ H w (.v (.b n)) y):y= .bool n:=by
 have h':RepV C (Cell C σ H w) (.b n) y:=h;cases h';rfl
theorem rep_s{n:ByteArray}{y:Value}(h:RepA C σ H w (.v (.s n)) y):y= .string n:=by
 have h':RepV C (Cell C σ H w) (.s n) y:=h;cases h';rfl
theorem mk_i(k:IntKind)(n:Int):RepA C σ H w (.v (.i k n)) (.int k n):=RepW.i k n
theorem mk_b(n:Bool):RepA C σ H w (.v (.b n)) (.bool n):=RepW.b n
theorem mk_s(n:ByteArray):RepA C σ H w (.v (.s n)) (.string n):=RepW.s n
theorem binInt_ok{op:BinOp}{k:IntKind}{a b:Int}{K:AV T→Option R}{r:R}(hs:isSh op=false)(h:binInt op k a b K=some r):
  ∃z v,K z=some r∧(∀w,(binOp op 0 (.int k a) (.int k b)).run P w= .ok v w)∧∀w,RepA C σ H w z v:=by
 cases op<;>simp only [binInt]at h<;>simp [isSh]at hs
 case quo=>
  by_cases hb:b=0
  ·subst hb;simp at h
  ·simp [hb]at h
   exact⟨_,_,h,fun w=>by simp [binOp,Op.intDiv,hb],fun w=>mk_i _ _⟩
 case rem=>
  by_cases hb:b=0
  ·subst hb;simp at h
  ·simp [hb]at h
   exact⟨_,_,h,fun w=>by simp [binOp,Op.intDiv,hb],fun w=>mk_i _ _⟩
 all_goals first
  |exact⟨_,_,h,fun w=>by simp only [binOp,ne_eq,not_true,if_false];rfl,fun w=>mk_i _ _⟩
  |exact⟨_,_,h,fun w=>by simp only [binOp,ne_eq,not_true,if_false];rfl,fun w=>mk_b _⟩
  |cases h
theorem shift_ok{op:BinOp}{k k':IntKind}{a b:Int}{K:AV T→Option R}{r:R}(h:shiftA op k a b K=some r)(hs:isSh op=true):
  ∃z v,K z=some r∧(∀t w,(binOp op t (.int k a) (.int k' b)).run P w= .ok v w)∧∀w,RepA C σ H w z v:=by
 unfold shiftA at h;by_cases hb:b<0
 ·simp [hb]at h
 ·simp only [hb,decide_false,cond_false]at h
  cases op<;>simp [isSh]at hs<;>exact⟨_,_,h,fun t w=>by simp [binOp,Op.shift,hb],fun w=>mk_i _ _⟩
theorem seq_eq(a b:ByteArray):(a.toList==b.toList)=seq a b:=by rw [ByteArray.toList_eq,ByteArray.toList_eq];rfl
theorem slt_eq(a b:ByteArray):Op.bytesLess a.toList b.toList=slt a b:=by rw [ByteArray.toList_eq,ByteArray.toList_eq];rfl
theorem binStr_ok{op:BinOp}{a b:ByteArray}{K:AV T→Option R}{r:R}(h:binStr op a b K=some r):
  ∃z v,K z=some r∧(∀t w,(binOp op t (.string a) (.string b)).run P w= .ok v w)∧∀w,RepA C σ H w z v:=by
 cases op<;>simp only [binStr]at h
 case add=>
  cases hb:Nat.ble (a.size+b.size) maxI
  ·rw [hb]at h;cases h
  ·rw [hb]at h
   have hle:=Nat.le_of_ble_eq_true hb;refine⟨_,_,h,fun t w=> ?_,fun w=>mk_s _⟩;unfold maxI at hle;have:¬(((a.size+b.size:Nat):Int)>IntKind.i64.max):=by
    have:IntKind.i64.max=9223372036854775807:=by decide
    omega
   simp [binOp,Op.stringOp]
   simpa using this
 all_goals first
  |exact⟨_,_,h,fun t w=>by simp only [binOp,Op.stringOp,seq_eq,slt_eq,Sem.run_pure],fun w=>mk_b _⟩
  |cases h
end Go.Proofs.YtdoifigogbdodaaGreatDoor.Ev

namespace Go.Proofs.YtdoifigogbdodaaGreatDoor.Ev
open Go
variable {T:Nat→Type} {C:Cdc T} {P:Program} {σ:Lk} {H:List (AObj T)} {w:World} {G:Nat→Option (List (V T))} {R:Type}
theorem run_isAgg'{t:Nat}{ag:Bool}(h:aggT P t=some ag)(w:World):(isAgg t).run P w= .ok ag w:=by
 unfold aggT at h;cases hu:P.underlying t with
 |none=>rw [hu]at h;cases h
 |some d=>
  rw [hu]at h;simp only [isAgg,Sem.run_bind,run_underlying hu,Result.andThen_ok];cases d<;>(simp at h;subst h;rfl)
theorem run_sizeOf'{t n:Nat}(h:sizeT P t=some n)(w:World):(sizeOf t).run P w= .ok n w:=by
 unfold sizeT at h;cases hi:P.info? t with
 |none=>rw [hi]at h;cases h
 |some i=>rw [hi]at h;simp at h;subst h;simp only [sizeOf,Sem.run_bind,run_typeInfo w hi,Result.andThen_ok,Sem.run_pure]
theorem take_one{α:Type}{l:List α}{off n:Nat}{x:α}(h:(l.drop off).take n=[x]):l[off]? =some x:=by
 have h0:((l.drop off).take n)[0]? =some x:=by rw [h];rfl
 rw [List.getElem?_take]at h0;split at h0
 ·simpa using h0
 ·cases h0
theorem whole_some{ag:Bool}{n:Nat}{cs:List (AV T)}{K:AV T→Option R}{r:R}(h:whole ag n cs K=some r):
  (ag=true∧cs.length=n∧K (.agg cs)=some r)∨(ag=false∧∃x,cs=[x]∧K x=some r):=by
 unfold whole at h;cases ag
 ·simp only [cond_false]at h
  split at h
  ·exact .inr ⟨rfl,_,rfl,h⟩
  ·cases h
 ·simp only [cond_true]at h
  cases hb:Nat.beq cs.length n
  ·rw [hb]at h;cases h
  ·rw [hb]at h
   exact .inl ⟨rfl,Nat.eq_of_beq_eq_true hb,h⟩
theorem part_ok{t n off:Nat}{ag:Bool}(hn:sizeT P t=some n)(ha:aggT P t=some ag){cs:List (AV T)}{ys:Array Value}(hr:RepL C σ H w cs ys.toList)
  {K:AV T→Option R} {r:R} (h:whole ag n ((cs.drop off).take n) K=some r):
  ∃x v,K x=some r∧(∀w',(part t ys off).run P w'= .ok v w')∧RepA C σ H w x v:=by
 rcases whole_some h with⟨rfl,hl,hK⟩|⟨rfl,x,hx,hK⟩
 ·refine⟨_,.agg (ys.extract off (off+n)),hK,fun w'=> ?_,_,rfl, ?_⟩
  ·simp only [part,Sem.run_bind,run_isAgg' ha,Result.andThen_ok,if_true,run_sizeOf' hn,Sem.run_pure]
  ·have:=(hr.drop off).take n
   rwa [show(ys.extract off (off+n)).toList=(ys.toList.drop off).take n by simp [Array.toList_extract]]
 ·have h1:=take_one hx
  obtain⟨y,h2,h3⟩:=hr.get off x h1;refine⟨x,y,hK,fun w'=> ?_,h3⟩;simp only [part,Sem.run_bind,run_isAgg' ha,Result.andThen_ok,Bool.false_eq_true,if_false];rw [show ys[off]? =some y by simpa using h2];rfl
theorem fieldsOf_eq{t:Nat}{fs:Array Field}(h:P.underlying t=some (.struct fs)):P.fieldsOf t=fs:=by simp [Program.fieldsOf,h]
theorem eqFs_ok{eq:Nat→AV T→AV T→Option Bool}{D:Nat}(heq:∀t x y b vx vy,eq t x y=some b→RepA C σ H w x vx→RepA C σ H w y vy→∀w',(Op.equalIn D t vx vy).run P w'= .ok b w')
  {xs ys:List (AV T)} {us vs:Array Value} (hx:RepL C σ H w xs us.toList) (hy:RepL C σ H w ys vs.toList):
  ∀(fs:List Field) (b:Bool),eqFs P eq xs ys fs=some b→∀w',(Op.eqFields D us vs fs).run P w'= .ok b w':=by
 intro fs
 induction fs with
 |nil=>intro b h w';simp [eqFs]at h;subst h;rfl
 |cons f fs ih=>
  intro b h w';simp only [eqFs]at h;split at h
  ·rename_i n ag hn ha
   by_cases hname:f.name="_"
   ·simp [hname]at h
   ·simp only [hname,decide_false,cond_false]at h
    split at h
    ·rename_i a c hwa hwc
     obtain⟨x,v,hx1,hx2,hx3⟩:=part_ok hn ha hx hwa;obtain⟨y,u,hy1,hy2,hy3⟩:=part_ok hn ha hy hwc;cases hx1;cases hy1;split at h
     ·rename_i r hr
      have hrun:=heq f.type _ _ r v u hr hx3 hy3;simp only [Op.eqFields,hname,ne_eq,not_false_eq_true,if_true,Sem.run_bind,hx2,hy2,Result.andThen_ok,hrun];cases fs with
      |nil=>
       simp only [Option.some.injEq]at h;subst h;cases r<;>rfl
      |cons g gs=>
       cases hs:eqFs P eq xs ys (g::gs)with
       |none=>simp only [hs,Option.map_none]at h;cases h
       |some s=>
        simp only [hs,Option.map_some,Option.some.injEq]at h;subst h;cases r
        ·rfl
        ·exact ih s hs w'
     ·cases h
    ·cases h
  ·cases h
theorem eqA_ok:∀(d t:Nat) (x y:AV T) (b:Bool) (vx vy:Value),eqA P d t x y=some b→RepA C σ H w x vx→RepA C σ H w y vy→
  ∀D,d≤D→∀w',(Op.equalIn D t vx vy).run P w'= .ok b w':=by
 intro d
 induction d with
 |zero=>intro t x y b vx vy h;simp [eqA]at h
 |succ d ih=>
  intro t x y b vx vy h hx hy D hD w';obtain⟨D,rfl⟩:∃k,D=k+1:=⟨D-1,by omega⟩
  have hD':d≤D:=by omega
  simp only [eqA]at h;split at h
  ·rename_i hu;cases h;have:=rep_b hx;have:=rep_b hy;subst_vars
   exact run_equalIn_bool' w' D t _ _ hu
  ·rename_i k₀ k a k' b' hu
   cases hk:k==k'
   ·rw [hk]at h;cases h
   ·rw [hk]at h;cases h
    have:=eq_of_beq hk;have:=rep_i hx;have:=rep_i hy;subst_vars;exact run_equalIn_int w' D t _ _ _ _ hu
  ·rename_i hu;cases h;have:=rep_s hx;have:=rep_s hy;subst_vars
   rw [run_equalIn_string w' D t _ _ hu,seq_eq]
  ·rename_i fs xs ys hu
   cases hst:P.stoodInHeld t
   ·rw [hst]at h
    simp only [cond_false]at h;obtain⟨us,rfl,h1⟩:=hx;obtain⟨vs,rfl,h2⟩:=hy;have hf:=fieldsOf_eq hu;rw [run_equalIn_struct w' D t us vs (by rw [hf];exact hu) hst,hf];exact eqFs_ok (fun t x y b vx vy h hx hy w'=>ih t x y b vx vy h hx hy D hD' w') h1 h2 fs.toList b h w'
   ·rw [hst]at h;cases h
  all_goals first
   |(cases h;done)
   |(rename_i e o k o' k' hu
     generalize hb:(Nat.beq o o'&&Nat.beq k k'&&(match sizeT P e with|some (_ +1)=>true|_ =>false))=bb at h;cases bb
     ·cases h
     ·cases h
      simp only [Bool.and_eq_true]at hb;obtain⟨⟨h1,h2⟩,h3⟩:=hb;have:=Nat.eq_of_beq_eq_true h1;have:=Nat.eq_of_beq_eq_true h2
      subst_vars
      obtain⟨_,b1,q1,rfl⟩:=hx;obtain⟨_,b2,q2,rfl⟩:=hy;rw [q1]at q2;cases q2;split at h3
      ·rename_i n hn
       have hs:=run_sizeOf' (P:=P) (w:=w') hn;simp [Op.equalIn,run_underlying hu,hs,run_sameAddr_same]
      ·cases h3)
   |(rename_i hu;cases h
     first
     |(cases(show RepV C (Cell C σ H w) _ _ from hx);cases(show RepV C (Cell C σ H w) _ _ from hy);simp [Op.equalIn,run_underlying hu];done)
     |(cases(show RepV C (Cell C σ H w) _ _ from hx);obtain⟨_,rfl,_⟩:=hy;simp [Op.equalIn,run_underlying hu];done)
     |(cases(show RepV C (Cell C σ H w) _ _ from hy);obtain⟨_,rfl,_⟩:=hx;simp [Op.equalIn,run_underlying hu];done)
     |(cases(show RepV C (Cell C σ H w) _ _ from hx);obtain⟨_,_,_,rfl⟩:=hy;simp [Op.equalIn,run_underlying hu];done)
     |(cases(show RepV C (Cell C σ H w) _ _ from hy);obtain⟨_,_,_,rfl⟩:=hx;simp [Op.equalIn,run_underlying hu];done)
     |(cases(show RepV C (Cell C σ H w) _ _ from hx);obtain⟨_,_,rfl,_⟩:=hy;simp [Op.equalIn,run_underlying hu];done)
     |(cases(show RepV C (Cell C σ H w) _ _ from hy);obtain⟨_,_,rfl,_⟩:=hx;simp [Op.equalIn,run_underlying hu];done))
theorem nilOk_run{op:BinOp}{t:Nat}{x y:Operand}{a b:AV T}{va vb:Value}(h:nilOk P t x y a b=true)(ha:RepA C σ H w a va)(hb:RepA C σ H w b vb)
  (hd:∀r d,eqA P (d+1) t a b=some r→True) (w':World) (hk:(∃r,eqA P 6 t a b=some r)):(eqGuard op t x y va vb).run P w'= .ok () w':=by
 obtain⟨r,hk⟩:=hk;unfold nilOk at h;split at h
 ·cases(show RepV C (Cell C σ H w) _ _ from ha);cases(show RepV C (Cell C σ H w) _ _ from hb)
  unfold eqGuard;cases x<;>cases y<;>first
   |(cases h;done)
   |(cases op<;>rfl)
 ·obtain⟨us,rfl,_⟩:=ha
  obtain⟨vs,rfl,_⟩:=hb;exact run_eqGuard_agg w' op t x y us vs (by simpa using h)
 ·rename_i h1 h2
  have key:(∀us vs,va= .agg us→vb= .agg vs→False)∧(va= .nilIface→vb= .nilIface→False):=by
   simp only [eqA]at hk;split at hk<;>first
    |(cases hk;done)
    |(refine⟨fun us vs h3 h4=> ?_,fun h3 h4=> ?_⟩<;>subst h3<;>subst h4<;>first
      |(exact(h1 rfl rfl).elim)
      |(exact(h2 _ _ rfl rfl).elim)
      |(cases(show RepV C (Cell C σ H w) _ _ from ha);done)
      |(cases(show RepV C (Cell C σ H w) _ _ from hb);done)
      |(obtain⟨_,h5,_⟩:=ha;cases h5;done)
      |(obtain⟨_,h5,_⟩:=hb;cases h5;done)
      |(obtain⟨_,_,_,h5⟩:=ha;cases h5;done)
      |(obtain⟨_,_,_,h5⟩:=hb;cases h5;done)
      |(obtain⟨_,_,h5,_⟩:=ha;cases h5;done)
      |(obtain⟨_,_,h5,_⟩:=hb;cases h5;done))
  have fin:(match va,vb with
    | .nilIface,.nilIface=>False
    | .agg _,.agg _ =>False
    |_,_ =>True):=by
   cases va<;>cases vb<;>first
    |exact trivial
    |exact(key.2 rfl rfl).elim
    |exact(key.1 _ _ rfl rfl).elim
  unfold eqGuard;cases va<;>cases vb<;>first
   |(exact fin.elim)
   |(cases op<;>rfl)
theorem binA_good(hR:Rp C σ H w G){op:BinOp}{t:Nat}{x y:Operand}{a b:AV T}{va vb:Value}(ha:RepA C σ H w a va)(hb:RepA C σ H w b vb)
  {K:AV T→Option R} {r:R} (h:binA P op t x y a b K=some r):
  ∃z v,K z=some r∧((do eqGuard op t x y va vb;binOp op t va vb:Sem Value)).run P w= .ok v w∧RepA C σ H w z v:=by
 have guardInt:∀k a k' b,(eqGuard op t x y (.int k a) (.int k' b)).run P w= .ok () w:=fun k a k' b=>by
  cases op<;>rfl
 have guardStr:∀a b,(eqGuard op t x y (.string a) (.string b)).run P w= .ok () w:=fun a b=>by
  cases op<;>rfl
 unfold binA at h;split at h
 ·rename_i k a k' b
  have:=rep_i ha;have:=rep_i hb;subst_vars;cases hs:isSh op
  ·rw [hs]at h
   simp only [cond_false]at h;cases hk:k==k'
   ·rw [hk]at h;cases h
   ·rw [hk]at h
    have:=eq_of_beq hk;subst this;obtain⟨z,v,h1,h2,h3⟩:=binInt_ok (C:=C) (P:=P) (σ:=σ) (H:=H) hs h;refine⟨z,v,h1, ?_,h3 w⟩;simp only [Sem.run_bind,guardInt,Result.andThen_ok];have:binOp op t (.int k a) (.int k b)=binOp op 0 (.int k a) (.int k b):=by cases op<;>first|rfl|(simp [isSh]at hs)
    rw [this];exact h2 w
  ·rw [hs]at h
   obtain⟨z,v,h1,h2,h3⟩:=shift_ok (C:=C) (P:=P) (σ:=σ) (H:=H) (k':=k') h hs;exact⟨z,v,h1,by simp only [Sem.run_bind,guardInt,Result.andThen_ok];exact h2 t w,h3 w⟩
 ·have:=rep_s ha;have:=rep_s hb;subst_vars
  obtain⟨z,v,h1,h2,h3⟩:=binStr_ok (C:=C) (P:=P) (σ:=σ) (H:=H) h;exact⟨z,v,h1,by simp only [Sem.run_bind,guardStr,Result.andThen_ok];exact h2 t w,h3 w⟩
 ·rename_i h1 h2
  cases hn:nilOk P t x y a b
  ·rw [hn]at h;cases h
  ·rw [hn]at h
   simp only [cond_true]at h;have fin:∀e,eqA P 6 t a b=some e→(eqGuard op t x y va vb).run P w= .ok () w∧(Op.equal t va vb).run P w= .ok e w:=fun e he=>
    ⟨nilOk_run hn ha hb (fun _ _ _ =>trivial) w ⟨e,he⟩,eqA_ok 6 t a b e va vb he ha hb Op.maxDepth (by decide) w⟩
   have notint:∀k n,va≠.int k n∨∀k' n',vb≠.int k' n':=by
    intro k n;by_cases hva:va= .int k n
    ·refine .inr fun k' n' hvb=> ?_
     subst hva;subst hvb;cases hop:op<;>rw [hop]at h<;>first
      |(cases h;done)
      |(obtain⟨e,he,_⟩:=Option.bind_eq_some_iff.1 h
        simp only [eqA]at he;split at he<;>first
        |(cases he;done)
        |(exact h1 _ _ _ _ rfl rfl)
        |(cases(show RepV C (Cell C σ H w) _ _ from ha);done)
        |(obtain⟨_,h5,_⟩:=ha;cases h5;done)
        |(obtain⟨_,_,_,h5⟩:=ha;cases h5;done)
        |(obtain⟨_,_,h5,_⟩:=ha;cases h5;done)
        |(cases(show RepV C (Cell C σ H w) _ _ from hb);done))
    ·exact .inl hva
   have gen:(∀e,eqA P 6 t a b=some e→((binOp .eql t va vb).run P w= .ok (.bool e) w)∧(binOp .neq t va vb).run P w= .ok (.bool (!e)) w):=by
    intro e he;have h3:=(fin e he).2;have hcases:(binOp .eql t va vb=(do pure (.bool (←Op.equal t va vb))))∧(binOp .neq t va vb=(do pure (.bool (!(←Op.equal t va vb))))):=by
     simp only [eqA]at he;split at he<;>first
      |(cases he;done)
      |(exact(h1 _ _ _ _ rfl rfl).elim)
      |(exact(h2 _ _ rfl rfl).elim)
      |(have:=rep_b ha;have:=rep_b hb;subst_vars;exact⟨rfl,rfl⟩)
      |(obtain⟨_,rfl,_⟩:=ha;obtain⟨_,rfl,_⟩:=hb;exact⟨rfl,rfl⟩)
      |(obtain⟨_,_,_,rfl⟩:=ha;obtain⟨_,_,_,rfl⟩:=hb;exact⟨rfl,rfl⟩)
      |(cases(show RepV C (Cell C σ H w) _ _ from ha);cases(show RepV C (Cell C σ H w) _ _ from hb);exact⟨rfl,rfl⟩)
      |(cases(show RepV C (Cell C σ H w) _ _ from ha);obtain⟨_,rfl,_⟩:=hb;exact⟨rfl,rfl⟩)
      |(cases(show RepV C (Cell C σ H w) _ _ from hb);obtain⟨_,rfl,_⟩:=ha;exact⟨rfl,rfl⟩)
      |(cases(show RepV C (Cell C σ H w) _ _ from ha);obtain⟨_,_,_,rfl⟩:=hb;exact⟨rfl,rfl⟩)
      |(cases(show RepV C (Cell C σ H w) _ _ from hb);obtain⟨_,_,_,rfl⟩:=ha;exact⟨rfl,rfl⟩)
      |(cases(show RepV C (Cell C σ H w) _ _ from ha);obtain⟨_,_,rfl,_⟩:=hb;exact⟨rfl,rfl⟩)
      |(cases(show RepV C (Cell C σ H w) _ _ from hb);obtain⟨_,_,rfl,_⟩:=ha;exact⟨rfl,rfl⟩)
    rw [hcases.1,hcases.2];simp only [Sem.run_bind,h3,Result.andThen_ok,Sem.run_pure,and_self]
   cases hop:op<;>rw [hop]at h<;>first
    |(cases h;done)
    |(obtain⟨e,he,hK⟩:=Option.bind_eq_some_iff.1 h
      have h4:=(fin e he).1;rw [hop]at h4;refine⟨_,_,hK, ?_,mk_b _⟩;simp only [Sem.run_bind,h4,Result.andThen_ok]
      first|exact(gen e he).1|exact(gen e he).2)
theorem unA_ok{op:UnOp}{a:AV T}{va:Value}(ha:RepA C σ H w a va){K:AV T→Option R}{r:R}(h:unA op a K=some r):
  ∃z v,K z=some r∧(Op.unary op va).run P w= .ok v w∧RepA C σ H w z v:=by
 unfold unA at h;split at h
 ·have:=rep_i ha;subst this;exact⟨_,_,h,rfl,mk_i _ _⟩
 ·have:=rep_i ha;subst this;exact⟨_,_,h,rfl,mk_i _ _⟩
 ·have:=rep_b ha;subst this;exact⟨_,_,h,rfl,mk_b _⟩
 ·cases h
end Go.Proofs.YtdoifigogbdodaaGreatDoor.Ev

namespace Go.Proofs.YtdoifigogbdodaaGreatDoor.Ev
open Go
variable {T:Nat→Type} {C:Cdc T} {P:Program} {σ:Lk} {H:List (AObj T)} {w:World} {G:Nat→Option (List (V T))} {R:Type}
theorem add_none(b off j:Nat):(⟨b,off,none⟩:Addr).add j=⟨b,off+j,none⟩:=by unfold Addr.add;split<;>simp_all
theorem leaf_one{x:AV T}{y:Value}(h:isLeaf x=true)(hr:RepA C σ H w x y):y.oneCell'=true:=by
 cases x with
 |any=>cases h
 |v x=>cases(show RepV C (Cell C σ H w) _ _ from hr)with
  |ifx _ h=>rcases h with rfl|⟨_,_,rfl⟩<;>rfl
  |_ =>rfl
 |agg l=>cases h
 |tup l=>cases h
 |ptr o k=>obtain⟨_,_,_,rfl⟩:=hr;rfl
 |rptr o i k=>obtain⟨_,⟨_,rfl⟩,_⟩:=hr;rfl
 |cptr t x k=>obtain⟨_,_,rfl,_⟩:=hr;rfl
 |gptr g k=>cases(show y=_ from hr);rfl
 |own o=>obtain⟨_,⟨_,_,_,rfl⟩,_⟩:=hr;rfl
 |sp o=>obtain⟨_,⟨q,rfl⟩,_⟩:=hr;cases q<;>rfl
 |slc o k n c=>obtain⟨_,_,_,_,rfl,_⟩:=hr;rfl
 |cap0=>cases(show y=_ from hr);rfl
 |z0=>obtain⟨_,rfl⟩:=hr;rfl
 |fn f a b=>obtain⟨_,_,rfl,_⟩:=hr;rfl
 |ifc t x=>obtain⟨_,rfl,_⟩:=hr;rfl
theorem cells_one{y:Value}(h:y.oneCell'=true):y.cells= #[y]:=by cases y<;>first|rfl|cases h
theorem cellsA_rep{x:AV T}{y:Value}{cs:List (AV T)}(h:cellsA x=some cs)(hr:RepA C σ H w x y):RepL C σ H w cs y.cells.toList:=by
 cases hl:isLeaf x
 ·cases x<;>first|(cases hl;done)|(cases h;done)|skip
  obtain⟨vs,rfl,h1⟩:=hr;cases h;exact h1
 ·have:cs=[x]:=by cases x<;>first|(cases hl;done)|(cases h;rfl)
  subst this;rw [cells_one (leaf_one hl hr)];exact⟨y,[],rfl,hr,rfl⟩
theorem allLeaf_one:∀{cs:List (AV T)} {ys:List Value},allLeaf cs=true→RepL C σ H w cs ys→∀v∈ys,v.oneCell'=true
 |[],_,_,h,v,hv=>by cases h;cases hv
 |x::l,_,h,⟨y,ys,hy,h1,h2⟩,v,hv=>by
  subst hy;simp only [allLeaf,Bool.and_eq_true]at h;rcases List.mem_cons.1 hv with rfl|hv
  ·exact leaf_one h.1 h1
  ·exact allLeaf_one h.2 h2 v hv
theorem alloc_old(w:World)(o:Obj)(b:Nat)(h:b<w.heap.size):(w.alloc o).heap[b]? =w.heap[b]? :=by
 show(w.heap.push o)[b]? =_;rw [Array.getElem?_push,if_neg (by omega)]
theorem alloc_new(w:World)(o:Obj):(w.alloc o).heap[w.heap.size]? =some o:=by
 show(w.heap.push o)[w.heap.size]? =_;simp
theorem step_alloc(hR:Rp C σ H w G)(o:AObj T)(ob:Obj)
  (hob:Move C [] σ H w (add σ H.length (some w.heap.size)) (H++[o]) (w.alloc ob)→RepO C (add σ H.length (some w.heap.size)) (H++[o]) (w.alloc ob) H.length o):
  Step C G [] σ H w (add σ H.length (some w.heap.size)) (H++[o]) (w.alloc ob):=
 step_add hR o (some w.heap.size) (w.alloc ob) rfl rfl rfl (by simp) (fun b hb=>alloc_old w ob b hb) (fun b hb=>by cases hb;simp) hob
theorem add_self(σ:Lk)(n:Nat)(b:Option Nat):add σ n b n=b:=by simp [add]
theorem fz0(cs:Array Value):fzOk cs (0,0):=fun off _ h=>by simp at h
theorem step_cells_new(hR:Rp C σ H w G){l:List (AV T)}{cs:Array Value}(e:TypeId)(h:RepL C σ H w l cs.toList):
  Step C G [] σ H w (add σ H.length (some w.heap.size)) (H++[.cells e none l]) (w.alloc (.cells cs e)):=
 step_alloc hR (.cells e none l) (.cells cs e) fun M=>⟨w.heap.size,cs,add_self _ _ _,alloc_new w _,h.move0 M⟩
theorem ptr_new{w':World}{o:AObj T}(b:Nat):RepA C (add σ H.length (some b)) (H++[o]) w' (.ptr H.length 0) (.pointer (some ⟨b,0,none⟩)):=
 ⟨by simp,b,add_self _ _ _,rfl⟩
theorem run_zero{t:Nat}{z:Value}(h:(P.info? t).bind (·.zero)=some z)(w:World):(zeroValue t).run P w= .ok z w:=by
 cases hi:P.info? t with
 |none=>rw [hi]at h;cases h
 |some i=>
  rw [hi]at h;simp only [Option.bind_some]at h;simp only [zeroValue,Sem.run_bind,run_typeInfo w hi,Result.andThen_ok,h,Sem.run_pure]
theorem zeroT_ok{t:Nat}{z:List (AV T)}(h:zeroT P t=some z):∃zv,(P.info? t).bind (·.zero)=some zv∧∀{σ:Lk} {H:List (AObj T)} {w:World},RepL C σ H w z zv.cells.toList:=by
 unfold zeroT at h;split at h
 ·rename_i zv hz;exact⟨zv,hz,fun{σ H w}=>cellsA_rep h (rep_ofConst zv)⟩
 ·cases h
theorem allocA_good(hR:Rp C σ H w G){e:Nat}{K:Kont T R}{Kp:AV T→List (AObj T)→Option R}{r:R}(h:allocA P e H K=some r):
  Good P C G σ H w (((do pure (.value (←Instr.alloc e true (.tuple #[]))):Sem Next)).run P w) K Kp r:=by
 unfold allocA at h;split at h
 ·rename_i z hz
  obtain⟨zv,h1,h2⟩:=zeroT_ok (C:=C) hz;refine .inl ⟨_,_,[],.pointer (some ⟨w.heap.size,0,none⟩),_,_,h,.inl ?_,step_cells_new hR e h2,ptr_new _⟩;simp only [Instr.alloc,Sem.run_bind,run_zero h1,Result.andThen_ok,newVar,newRow,run_newObj,Sem.run_pure];rfl
 ·cases h
theorem boxA_good(hR:Rp C σ H w G){e:Nat}{x:AV T}{y:Value}(hx:RepA C σ H w x y){K:Kont T R}{Kp:AV T→List (AObj T)→Option R}{r:R}(h:boxA e x H K=some r):
  Good P C G σ H w (((do pure (.value (←Instr.box e y)):Sem Next)).run P w) K Kp r:=by
 unfold boxA at h;split at h
 ·rename_i cs hcs
  refine .inl ⟨_,_,[],.pointer (some ⟨w.heap.size,0,none⟩),_,_,h,.inl ?_,step_cells_new hR e (cellsA_rep hcs hx),ptr_new _⟩;simp only [Instr.box,Sem.run_bind,Result.andThen_ok,newVar,newRow,run_newObj,Sem.run_pure];rfl
 ·cases h
theorem RepL.setRange{l cs:List (AV T)}{ys vs:List Value}(h:RepL C σ H w l ys)(k:RepL C σ H w cs vs)(off:Nat):RepL C σ H w (setRange l off cs) (setRange ys off vs):=by
 unfold Ev.setRange;rw [k.length];exact((h.take off).append k).append (h.drop _)
theorem setRange_length{α:Type}{l vs:List α}{off:Nat}(h:off+vs.length≤l.length):(setRange l off vs).length=l.length:=by
 unfold setRange;simp;omega
theorem setRange_cons{α:Type}(l:List α)(off:Nat)(v:α)(vs:List α)(h:off+(v::vs).length≤l.length):setRange (l.set off v) (off+1) vs=setRange l off (v::vs):=by
 have hl:off<l.length:=by simp at h;omega
 have e:l.set off v=l.take off++v::l.drop (off+1):=by
  rw [List.set_eq_take_append_cons_drop,if_pos hl]
 have ht:(l.take off).length=off:=by simp;omega
 have e1:(l.set off v).take (off+1)=l.take off++[v]:=by
  rw [e,List.take_append,List.take_of_length_le (by omega),ht];simp
 have e2:(l.set off v).drop (off+1+vs.length)=l.drop (off+(v::vs).length):=by
  rw [e,List.drop_append,ht,List.drop_of_length_le (by omega),show off+1+vs.length-off=vs.length+1 by omega];simp only [List.nil_append,List.drop_succ_cons,List.drop_drop,List.length_cons];congr 1;omega
 unfold setRange;rw [e1,e2];simp
theorem foldl_set:∀(vs:List Value) (k off:Nat) (cells:Array Value),off+k+vs.length≤cells.size→
  ((vs.zipIdx k).foldl (fun(cs:Array Value) (p:Value×Nat)=>cs.setIfInBounds (off+p.2) p.1) cells)=(setRange cells.toList (off+k) vs).toArray
 |[],k,off,cells,h=>by simp [setRange]
 |v::vs,k,off,cells,h=>by
  simp only [List.length_cons]at h;simp only [List.zipIdx_cons,List.foldl_cons];rw [foldl_set vs (k+1) off _ (by simp;omega)];congr 1;rw [Array.toList_setIfInBounds,←Nat.add_assoc];exact setRange_cons cells.toList (off+k) v vs (by simp;omega)
inductive RepP(C:Cdc T)(σ:Lk)(H:List (AObj T))(w:World):List (Nat×AV T)→List (Nat×Value)→Prop
 |nil:RepP C σ H w [] []
 |cons {i:Nat} {x:AV T} {y:Value} {l:List (Nat×AV T)} {ys:List (Nat×Value)}:RepA C σ H w x y→RepP C σ H w l ys→RepP C σ H w ((i,x)::l) ((i,y)::ys)
theorem fillA_ok{place place':Nat→Option (Nat×Nat)}(hp:∀i x,place i=some x→place' i=some x):∀(parts:List (Nat×AV T)) (pv:List (Nat×Value)) (l:List (AV T)) (ys:Array Value) (cs:List (AV T)),
  RepP C σ H w parts pv→RepL C σ H w l ys.toList→fillA place l parts=some cs→∃ys',Instr.fill place' ys pv=some ys'∧RepL C σ H w cs ys'.toList
 |_,_,l,ys,cs,.nil,h,hf=>by cases hf;exact⟨ys,rfl,h⟩
 |_,_,l,ys,cs,.cons (i:=i) (x:=x) (y:=y) hx hr,h,hf=>by
  simp only [fillA]at hf;split at hf
  ·rename_i off n xs hpl hcs
   cases hb:Nat.beq xs.length n&&Nat.ble (off+xs.length) l.length
   ·rw [hb]at hf;cases hf
   ·rw [hb]at hf
    simp only [cond_true]at hf;simp only [Bool.and_eq_true]at hb;have h1:xs.length=n:=Nat.eq_of_beq_eq_true hb.1;have h2:=Nat.le_of_ble_eq_true hb.2;have hc:=cellsA_rep hcs hx;have hsz:y.cells.size=n:=by rw [←Array.length_toList,hc.length,h1]
    have hsy:ys.size=l.length:=by rw [←Array.length_toList,h.length]
    have hfold:(y.cells.zipIdx.foldl (fun(cs:Array Value) (p:Value×Nat)=>cs.setIfInBounds (off+p.2) p.1) ys)=(setRange ys.toList off y.cells.toList).toArray:=by
     have:=foldl_set y.cells.toList 0 off ys (by simp;omega);rw [Nat.add_zero]at this;rw [←this,←Array.foldl_toList];simp
    obtain⟨ys',h3,h4⟩:=fillA_ok hp _ _ _ (setRange ys.toList off y.cells.toList).toArray cs hr (by simpa using h.setRange hc off) hf;refine⟨ys', ?_,h4⟩;simp only [Instr.fill,hp i _ hpl];rw [if_neg (by simp;omega)];rw [←h3,←hfold]
  ·cases hf
theorem run_mapM_sizes(P:Program)(w:World):∀(fs:List Field),(fs.all fun f=>match sizeT P f.type with|some _ =>true|none=>false)=true→
  (fs.mapM fun f=>(do pure (f.offset,←sizeOf f.type):Sem (Nat×Nat))).run P w= .ok (fs.map fun f=>(f.offset,(sizeT P f.type).getD 0)) w
 |[],_ =>rfl
 |f::fs,h=>by
  simp only [List.all_cons,Bool.and_eq_true]at h;rw [List.mapM_cons];cases hn:sizeT P f.type with
  |none=>rw [hn]at h;exact absurd h.1 (by simp)
  |some n=>simp only [Sem.run_bind,run_sizeOf' hn,Result.andThen_ok,Sem.run_pure,run_mapM_sizes P w fs h.2,List.map_cons,hn,Option.getD_some]
theorem buildA_good(hR:Rp C σ H w G){t:Nat}{parts:List (Nat×AV T)}{pv:Array (Nat×Value)}(hp:RepP C σ H w parts pv.toList){K:Kont T R}{r:R}
  (h:buildA P t parts H K=some r):GoodQ C σ H w (((do pure (.value (←Instr.build t pv)):Sem Next)).run P w) K r:=by
 unfold buildA at h;split at h
 ·rename_i z hz
  obtain⟨zv,h1,h2⟩:=zeroT_ok (C:=C) hz;cases hs:sizedT P t
  ·rw [hs]at h;cases h
  ·rw [hs]at h
   simp only [cond_true]at h;split at h
   ·rename_i cs hf
    unfold sizedT at hs;split at hs
    ·rename_i fs hu
     obtain⟨ys,h3,h4⟩:=fillA_ok (place':=fun i=>(fs.map fun f=>(f.offset,(sizeT P f.type).getD 0))[i]?) (by
      intro i x hx;simp only [placeT,hu]at hx;rw [Array.getElem?_map];cases hfi:fs[i]? with
      |none=>rw [hfi]at hx;cases hx
      |some f=>
       rw [hfi]at hx;simp only [Option.bind_some,Option.map_some]at hx⊢;cases hsz:sizeT P f.type with
       |none=>rw [hsz]at hx;cases hx
       |some n=>rw [hsz]at hx;simpa using hx) parts pv.toList z zv.cells cs hp h2 hf
     refine good_q h ?_ ⟨ys,rfl,h4⟩;have hm:(fs.mapM fun f=>(do pure (f.offset,←sizeOf f.type):Sem (Nat×Nat))).run P w= .ok (fs.map fun f=>(f.offset,(sizeT P f.type).getD 0)) w:=by
      rw [Array.mapM_eq_mapM_toList,Sem.run_map,run_mapM_sizes P w fs.toList hs,Result.andThen_ok];congr 1;apply Array.ext';simp
     simp only [Instr.build,Sem.run_bind,run_zero h1,Result.andThen_ok,run_underlying hu,hm,h3,Sem.run_pure]
    ·rename_i n e hu
     split at hs
     ·rename_i m hm
      obtain⟨ys,h3,h4⟩:=fillA_ok (place':=fun i=>some (i*m,m)) (by
       intro i x hx;simp only [placeT,hu,hm]at hx
       simpa using hx) parts pv.toList z zv.cells cs hp h2 hf
      refine good_q h ?_ ⟨ys,rfl,h4⟩;simp only [Instr.build,Sem.run_bind,run_zero h1,Result.andThen_ok,run_underlying hu,run_sizeOf' hm,h3,Sem.run_pure]
     ·cases hs
    ·cases hs
   ·cases h
 ·cases h
end Go.Proofs.YtdoifigogbdodaaGreatDoor.Ev

namespace Go.Proofs.YtdoifigogbdodaaGreatDoor.Ev
open Go
variable {T:Nat→Type} {C:Cdc T} {P:Program} {σ:Lk} {H:List (AObj T)} {w:World} {G:Nat→Option (List (V T))} {R:Type}
theorem add_same(σ:Lk)(i:Nat):add σ i (σ i)=σ:=by
 obtain⟨f,F⟩:=σ;simp only [add];congr 1;funext j;split
 ·subst_vars;rfl
 ·rfl
theorem step_set(hR:Rp C σ H w G){i:Nat}{o o':AObj T}(w':World)(hi:H[i]? =some o)(hlo:live o=true)(hkind:isRow o=isRow o')
  (hos:w'.os=w.os) (htp:w'.tape=w.tape) (hout:w'.output=w.output) (hsz:w.heap.size≤w'.heap.size)
  (hblk:∀b,b<w.heap.size→σ i≠some b→w'.heap[b]? =w.heap[b]?)
  (hfoot:∀off,foot C o' off→foot C o off)
  (hsame:∀b off,σ i=some b→¬foot C o off→w'.cell? ⟨b,off,none⟩=w.cell? ⟨b,off,none⟩)
  (hS:∀n s,svO C o'=some (n,s)→svO C o=some (n,s)∧
   ∀b,σ i=some b→∀cs e fz,w.heap[b]? =some (.cells cs e fz)→∃cs' e' fz',w'.heap[b]? =some (.cells cs' e' fz')∧cs'.size=cs.size)
  (hob:Move C [] σ H w σ (H.set i o') w'→RepO C σ (H.set i o') w' i o'):
  Step C G [] σ H w σ (H.set i o') w':=by
 have:=step_mod (S:=[]) hR (o':=o') (σ i) w' hi hlo hkind hos htp hout hsz hblk
  (fun b _ hb=> .inl ⟨hb,hfoot⟩) hsame (.inr rfl) (fun _ =>rfl) (.inr hS) (by
   rw [add_same,purgeH_nil,purgeO_nil];exact hob)
 rwa [add_same,purgeH_nil]at this
theorem step_lend(hR:Rp C σ H w G){o t:Nat}{l:List (T t)}{m:Bool}(ho:H[o]? =some (.row t l m)):Step C G [] σ H w σ (H.set o (.row t l false)) w:=by
 refine step_set hR w ho rfl rfl rfl rfl rfl (Nat.le_refl _) (fun _ _ _ =>rfl) (fun off h=> ?_) (fun _ _ _ _ =>rfl) (fun n s h=> ?_) (fun M=> ?_)
 ·rcases h with h|h
  ·cases h
  ·exact .inr h
 ·exact⟨h,fun b _ cs e fz h=>⟨cs,e,fz,h,rfl⟩⟩
 ·have:=RepO.move M rfl (fun _ _ =>rfl) (hR.obj o _ ho)
  rw [purgeO_nil]at this;exact this
theorem lend_eq{o t:Nat}{l:List (T t)}{m:Bool}(ho:H[o]? =some (.row t l m)):lend o H=H.set o (.row t l false):=by
 unfold lend;rw [ho]
theorem lend_get{o t:Nat}{l:List (T t)}{m:Bool}(ho:H[o]? =some (.row t l m)):(H.set o (.row t l false))[o]? =some (.row t l false):=by
 have:=(List.getElem?_eq_some_iff.1 ho).1;simp [this]
theorem idx_lt{n s i k:Nat}(hi:i<n)(hk:k<s):i*s+k<n*s:=
 Nat.lt_of_lt_of_le (by rw [Nat.succ_mul];omega) (Nat.mul_le_mul_right s hi:(i+1)*s≤n*s)
theorem row_sl(hC:CdcOk C)(hR:Rp C σ H w G){o t:Nat}{l:List (T t)}(ho:H[o]? =some (.row t l false)){y:Value}(hy:RepA C σ H w (.own o) y):RepV C (Cell C σ H w) (.sl t l) y:=by
 obtain⟨_,_,h⟩:=hy;rcases h _ _ (svH_row ho)with⟨h1,rfl⟩|⟨b,c,cs,e,fz,h1,rfl,h2,h3⟩
 ·rcases hR.obj o _ ho with⟨rfl,_⟩|⟨b,_,_,_,hb,_⟩
  ·exact .sl0 t none 0
  ·rw [h1]at hb;cases hb
 ·rcases hR.obj o _ ho with⟨rfl,_⟩|⟨b',cs',fz',cap,hb,h4,h5,h6,h7,h8⟩
  ·exact .sl0 t _ c
  ·rw [h1]at hb;cases hb
   rw [h2]at h4;cases h4;have hs:=hC.pos t;have hcap:cap=c:=Nat.eq_of_mul_eq_mul_right hs (h6.symm.trans h3);subst hcap;have hcell:∀(i:Nat) (hi:i<l.length) (j:Nat) (hj:j<(C.enc t l[i]).length),cs[i*C.size t+j]? =some ((cs[i*C.size t+j]?).getD undef)∧
     RepV C (Cell C σ H w) ((C.enc t l[i])[j]) ((cs[i*C.size t+j]?).getD undef):=fun i hi j hj=>by
    obtain⟨y,h9,h10⟩:=h8 i hi j _ (List.getElem?_eq_getElem hj);rw [h9];exact⟨rfl,h10⟩
   refine .sl t l b 0 cap (fun i j=>(cs[i*C.size t+j]?).getD undef) h7 (fun i hi j hj=>⟨⟨hR.free o _ b ho rfl h1 _,fun i' o' hi' hs' hf=> ?_⟩, ?_⟩) (fun i hi j hj=>(hcell i hi j hj).2)
   ·by_cases hl:live o'=true
    ·have:i'=o:=hR.inj i' o o' _ b hi' ho hl rfl hs' h1
     subst this;rw [ho]at hi';cases hi';rcases hf with hf|hf
     ·cases hf
     ·rw [hC.len]at hj
      have:=idx_lt hi hj;omega
    ·cases o'<;>simp [live]at hl
     exact hf
   ·rw [cell_blk h2,Nat.zero_add];exact(hcell i hi j hj).1
def Rows(C:Cdc T)(cell:Nat→Nat→Value→Prop)(t:Nat)(l:List (T t))(ys:List Value):Prop:=
 ys.length=l.length*C.size t∧∀(i:Nat) (h:i<l.length) (k:Nat) (v:V T),(C.enc t l[i])[k]? =some v→∃y,ys[i*C.size t+k]? =some y∧RepV C cell v y
theorem enc_lt(hC:CdcOk C){t:Nat}{x:T t}{k:Nat}{v:V T}(h:(C.enc t x)[k]? =some v):k<C.size t:=by
 rw [←hC.len t x];exact(List.getElem?_eq_some_iff.1 h).1
theorem Rows.nil(cell:Nat→Nat→Value→Prop)(t:Nat):Rows C cell t [] []:=⟨by simp,fun i h=>by simp at h⟩
theorem Rows.mono{cell cell':Nat→Nat→Value→Prop}(h:∀b off x,cell b off x→cell' b off x){t:Nat}{l:List (T t)}{ys:List Value}(r:Rows C cell t l ys):Rows C cell' t l ys:=
 ⟨r.1,fun i hi k v hv=>let ⟨y,h1,h2⟩:=r.2 i hi k v hv;⟨y,h1,h2.mono h⟩⟩
theorem Rows.append(hC:CdcOk C){cell:Nat→Nat→Value→Prop}{t:Nat}{l m:List (T t)}{ys zs:List Value}(h:Rows C cell t l ys)(k:Rows C cell t m zs):Rows C cell t (l++m) (ys++zs):=by
 refine⟨by rw [List.length_append,h.1,k.1,List.length_append,Nat.add_mul],fun i hi j v hv=> ?_⟩;have hj:=enc_lt hC hv;by_cases hil:i<l.length
 ·rw [List.getElem_append_left hil]at hv
  obtain⟨y,h1,h2⟩:=h.2 i hil j v hv;exact⟨y,by rw [List.getElem?_append_left (by rw [h.1];exact idx_lt hil hj)];exact h1,h2⟩
 ·have hil':l.length≤i:=Nat.le_of_not_lt hil
  rw [List.getElem_append_right hil']at hv;simp at hi;obtain⟨y,h1,h2⟩:=k.2 (i-l.length) (by omega) j v hv;have hmul:l.length*C.size t≤i*C.size t:=Nat.mul_le_mul_right _ hil';refine⟨y, ?_,h2⟩;rw [List.getElem?_append_right (by rw [h.1];omega),h.1];rw [Nat.sub_mul]at h1;rw [←h1];congr 1;omega
theorem Rows.cons(hC:CdcOk C){cell:Nat→Nat→Value→Prop}{t:Nat}{x:T t}{l:List (T t)}{ys zs:List Value}(h:ys.length=C.size t)(h1:∀(k:Nat) (v:V T),(C.enc t x)[k]? =some v→∃y,ys[k]? =some y∧RepV C cell v y)
  (k:Rows C cell t l zs):Rows C cell t (x::l) (ys++zs):=by
 have:Rows C cell t [x] ys:=⟨by simp [h],fun i hi k v hv=>by
  have:i=0:=by simp at hi;exact hi
  subst this
  simpa using h1 k v (by simpa using hv)⟩
 exact Rows.append hC this k
theorem Rows.take(hC:CdcOk C){cell:Nat→Nat→Value→Prop}{t:Nat}{l:List (T t)}{ys:List Value}(h:Rows C cell t l ys)(n:Nat):Rows C cell t (l.take n) (ys.take (n*C.size t)):=by
 refine⟨by rw [List.length_take,List.length_take,h.1,Nat.mul_min_mul_right],fun i hi j v hv=> ?_⟩;have hj:=enc_lt hC hv;rw [List.length_take]at hi;have hin:i<n:=by omega
 rw [List.getElem_take]at hv;obtain⟨y,h1,h2⟩:=h.2 i (by omega) j v hv;exact⟨y,by rw [List.getElem?_take,if_pos (idx_lt hin hj)];exact h1,h2⟩
theorem Rows.drop{cell:Nat→Nat→Value→Prop}{t:Nat}{l:List (T t)}{ys:List Value}(h:Rows C cell t l ys)(n:Nat):Rows C cell t (l.drop n) (ys.drop (n*C.size t)):=by
 refine⟨by rw [List.length_drop,List.length_drop,h.1,Nat.sub_mul],fun i hi j v hv=> ?_⟩;simp only [List.length_drop]at hi;rw [List.getElem_drop]at hv;obtain⟨y,h1,h2⟩:=h.2 (n+i) (by omega) j v hv;exact⟨y,by rw [List.getElem?_drop,←Nat.add_assoc,←Nat.add_mul];exact h1,h2⟩
theorem repO_rows(hC:CdcOk C){t:Nat}{l:List (T t)}{cs:Array Value}{cap:Nat}(h1:cs.size=cap*C.size t)(h2:l.length≤cap)
  (h:∀(j:Nat) (h:j<l.length) (k:Nat) (v:V T),(C.enc t l[j])[k]? =some v→∃y,cs[j*C.size t+k]? =some y∧RepV C (Cell C σ H w) v y):
  Rows C (Cell C σ H w) t l (cs.toList.take (l.length*C.size t)):=by
 have:l.length*C.size t≤cap*C.size t:=Nat.mul_le_mul_right _ h2;refine⟨by simp;omega,fun i hi k v hv=> ?_⟩;obtain⟨y,h3,h4⟩:=h i hi k v hv;exact⟨y,by rw [List.getElem?_take,if_pos (idx_lt hi (enc_lt hC hv))];simpa using h3,h4⟩
theorem rows_repO{t:Nat}{l:List (T t)}{cs:Array Value}{ys zs:List Value}(he:cs.toList=ys++zs)(h:Rows C (Cell C σ H w) t l ys):
  ∀(j:Nat) (h:j<l.length) (k:Nat) (v:V T),(C.enc t l[j])[k]? =some v→∃y,cs[j*C.size t+k]? =some y∧RepV C (Cell C σ H w) v y:=by
 intro j hj k v hv;obtain⟨y,h1,h2⟩:=h.2 j hj k v hv;refine⟨y, ?_,h2⟩;rw [←Array.getElem?_toList,he,List.getElem?_append_left (List.getElem?_eq_some_iff.1 h1).1];exact h1
theorem step_row_new(hC:CdcOk C)(hR:Rp C σ H w G){t:Nat}{l:List (T t)}{cs:Array Value}(fz:Nat×Nat){ys zs:List Value}{cap:Nat}(he:cs.toList=ys++zs)(h:Rows C (Cell C σ H w) t l ys)
  (hcap:cs.size=cap*C.size t) (hfz:fzOk cs fz) (m:Bool):
  Step C G [] σ H w (add σ H.length (some w.heap.size)) (H++[.row t l m]) (w.alloc (.cells cs t fz)):=by
 refine step_alloc hR (.row t l m) (.cells cs t fz) fun M=> .inr ⟨w.heap.size,cs,fz,cap,add_self _ _ _,alloc_new w _,hfz,hcap, ?_,rows_repO he (h.mono M.cell)⟩
 have h1:cs.size=ys.length+zs.length:=by rw [←Array.length_toList,he,List.length_append]
 have h2:l.length*C.size t≤cap*C.size t:=by rw [←h.1,←hcap];omega
 exact Nat.le_of_mul_le_mul_right h2 (hC.pos t)
theorem own_new{w':World}{t:Nat}{l:List (T t)}{m:Bool}{cs:Array Value}{e:TypeId}{fz:Nat×Nat}{cap b:Nat}(hb:w'.heap[b]? =some (.cells cs e fz))(hcap:cs.size=cap*C.size t):
  RepA C (add σ H.length (some b)) (H++[.row t l m]) w' (.own H.length) (.slice (some ⟨b,0,none⟩) l.length cap):=by
 refine⟨by simp,⟨_,_,_,rfl⟩,fun n s h=> ?_⟩;rw [svH_row (t:=t) (l:=l) (m:=m) (by simp)]at h;cases h;exact .inr ⟨b,cap,cs,e,fz,add_self _ _ _,rfl,hb,hcap⟩
theorem vsK_ok(hC:CdcOk C):∀(l:List (AV T)) (H:List (AObj T)) (K:List (V T)→List (AObj T)→Option R) (r:R) (ys:List Value),Rp C σ H w G→RepL C σ H w l ys→vsK l H K=some r→
  ∃vs H',K vs H'=some r∧Step C G [] σ H w σ H' w∧H'.length=H.length∧vs.length=l.length∧∀(j:Nat) (v:V T),vs[j]? =some v→∃y,ys[j]? =some y∧RepV C (Cell C σ H' w) v y:=by
 intro l
 induction l with
 |nil=>intro H K r ys hR hy h;exact⟨[],H,h,Step.refl hR,rfl,rfl,fun j v hv=>by simp at hv⟩
 |cons x l ih=>
  intro H K r ys hR hy h;obtain⟨y,ys,rfl,hy1,hy2⟩:=hy;have fin:∀(H1:List (AObj T)) (v:V T) (K':List (V T)→List (AObj T)→Option R),Step C G [] σ H w σ H1 w→H1.length=H.length→RepV C (Cell C σ H1 w) v y→(∀vs H,K' vs H=K (v::vs) H)→vsK l H1 K'=some r→
    ∃vs H',K vs H'=some r∧Step C G [] σ H w σ H' w∧H'.length=H.length∧vs.length=(x::l).length∧∀(j:Nat) (v:V T),vs[j]? =some v→∃y',(y::ys)[j]? =some y'∧RepV C (Cell C σ H' w) v y':=by
   intro H1 v K' hst hl1 hv hK' h;obtain⟨vs,H',h1,h2,h3,h4,h5⟩:=ih H1 K' r ys hst.rp (hy2.move0 hst.move) h;refine⟨v::vs,H',(hK' vs H')▸h1,⟨h2.rp,hst.anc.trans h2.anc,⟨fun b off x hx=>h2.move.cell b off x (hst.move.cell b off x hx),Nat.le_trans hst.move.len h2.move.len,fun _ _ _ =>rfl,fun o ho hS n s hr=> ?_⟩⟩,h3.trans hl1,by simp [h4],fun j u hu=> ?_⟩
   ·obtain⟨k1,k3⟩:=h2.move.row o (by rw [hl1];exact ho) hS n s hr
    obtain⟨k4,k6⟩:=hst.move.row o ho hS n s k1;exact⟨k4,fun b hb cs e fz hcs=>⟨cs,e,fz,hcs,rfl⟩⟩
   ·cases j with
    |zero=>simp at hu;subst hu;exact⟨y,rfl,hv.mono h2.move.cell⟩
    |succ j=>simp at hu;simpa using h5 j u hu
  cases x with
  |v x=>exact fin H x _ (Step.refl hR) rfl hy1 (fun _ _ =>rfl) h
  |cap0=>cases(show y=_ from hy1);exact fin H .nl _ (Step.refl hR) rfl (.nl none 0) (fun _ _ =>rfl) h
  |z0=>obtain⟨A,rfl⟩:=hy1;exact fin H .nl _ (Step.refl hR) rfl (.nl A 0) (fun _ _ =>rfl) h
  |own o=>
   simp only [vsK]at h;split at h
   ·rename_i t c m ho
    rw [lend_eq ho]at h;have hst:=step_lend hR ho;exact fin _ (.sl t c) _ hst (by simp) (row_sl hC hst.rp (lend_get ho) (RepA.move0 hst.move hy1)) (fun _ _ =>rfl) h
   ·cases h
  |_ =>cases h
theorem Step.trans0{σ' σ'':Lk}{H' H'':List (AObj T)}{w' w'':World}(h:Step C G [] σ H w σ' H' w')(k:Step C G [] σ' H' w' σ'' H'' w''):Step C G [] σ H w σ'' H'' w'':=by
 refine⟨k.rp,h.anc.trans k.anc,⟨fun b off x hx=>k.move.cell b off x (h.move.cell b off x hx),Nat.le_trans h.move.len k.move.len,fun o ho hS=> ?_,fun o ho hS n s hr=> ?_⟩⟩
 ·exact(k.move.sig o (Nat.lt_of_lt_of_le ho h.move.len) hS).trans (h.move.sig o ho hS)
 ·obtain⟨k1,k3⟩:=k.move.row o (Nat.lt_of_lt_of_le ho h.move.len) hS n s hr
  obtain⟨k4,k6⟩:=h.move.row o ho hS n s k1;refine⟨k4,fun b hb cs e fz hcs=> ?_⟩;obtain⟨cs1,e1,fz1,h1,h2⟩:=k6 b hb cs e fz hcs;obtain⟨cs2,e2,fz2,h3,h4⟩:=k3 b ((h.move.sig o ho hS).trans hb) cs1 e1 fz1 h1;exact⟨cs2,e2,fz2,h3,h4.trans h2⟩
theorem finer_rep{cell:Nat→Nat→Value→Prop}{a b:V T}{y:Value}(h:Finer a b)(hr:RepV C cell a y):RepV C cell b y:=by
 rcases h with rfl|⟨rfl,t,rfl⟩
 ·exact hr
 ·cases hr;exact .sl0 _ _ _
theorem dec_rep(hC:CdcOk C){cell:Nat→Nat→Value→Prop}{t:Nat}{vs:List (V T)}{x:T t}(h:C.dec t vs=some x){ys:List Value}(hy:∀(j:Nat) (v:V T),vs[j]? =some v→∃y,ys[j]? =some y∧RepV C cell v y):
  ∀(k:Nat) (v:V T),(C.enc t x)[k]? =some v→∃y,ys[k]? =some y∧RepV C cell v y:=by
 intro k v hv;have hk:k<vs.length:=by rw [hC.decLen t vs x h];exact enc_lt hC hv
 obtain⟨y,h1,h2⟩:=hy k _ (List.getElem?_eq_getElem hk);exact⟨y,h1,finer_rep (hC.dec t vs x h k _ v (List.getElem?_eq_getElem hk) hv) h2⟩
theorem decN_ok(hC:CdcOk C){cell:Nat→Nat→Value→Prop}{e:Nat}:∀(n:Nat) (vs:List (V T)) (l:List (T e)) (ys:List Value),decN C e n vs=some l→ys.length=n*C.size e→(∀(j:Nat) (v:V T),vs[j]? =some v→∃y,ys[j]? =some y∧RepV C cell v y)→
  Rows C cell e l ys∧l.length=n
 |0,vs,l,ys,h,hl,hy=>by
  cases h;have:ys=[]:=by simpa using hl
  subst this;exact⟨Rows.nil _ _,rfl⟩
 |n+1,vs,l,ys,h,hl,hy=>by
  simp only [decN]at h;obtain⟨x,hx,h⟩:=Option.bind_eq_some_iff.1 h;obtain⟨l',hl',h⟩:=Option.bind_eq_some_iff.1 h;cases h;rw [Nat.succ_mul]at hl;have hd:=decN_ok hC n _ l' (ys.drop (C.size e)) hl' (by simp [hl]) (fun j v hv=>by
   rw [List.getElem?_drop]at hv⊢;exact hy _ v hv)
  have hx':=dec_rep hC (ys:=ys.take (C.size e)) hx (fun j v hv=>by
   rw [List.getElem?_take]at hv⊢;split at hv
   ·rename_i hj;rw [if_pos hj];exact hy j v hv
   ·cases hv)
  refine⟨?_,by simp [hd.2]⟩;have:=Rows.cons hC (ys:=ys.take (C.size e)) (by simp;omega) hx' hd.1
  rwa [List.take_append_drop]at this
end Go.Proofs.YtdoifigogbdodaaGreatDoor.Ev

namespace Go.Proofs.YtdoifigogbdodaaGreatDoor.Ev
open Go
variable {T:Nat→Type} {C:Cdc T} {P:Program} {σ:Lk} {H:List (AObj T)} {w:World} {G:Nat→Option (List (V T))} {R:Type}
theorem elemT_ok{t e:Nat}(h:elemT P t=some e):P.underlying t=some (.slice e):=by
 unfold elemT at h;split at h
 ·rename_i hu;cases h;exact hu
 ·cases h
theorem repL_length{α:Type}(l:List α):∀n,(repL l n).length=n*l.length
 |0=>by simp [repL]
 |n+1=>by simp [repL,repL_length l n,Nat.succ_mul];omega
theorem repL_rep{z:List (AV T)}{ys:List Value}(h:RepL C σ H w z ys):∀n,RepL C σ H w (repL z n) (repL ys n)
 |0=>rfl
 |n+1=>h.append (repL_rep h n)
theorem repL_get{α:Type}(l:List α):∀(n j:Nat),(repL l n)[j]? =if j<n*l.length then l[j%l.length]? else none
 |0,j=>by simp [repL]
 |n+1,j=>by
  simp only [repL];by_cases hj:j<l.length
  ·rw [List.getElem?_append_left hj,Nat.mod_eq_of_lt hj,if_pos (by rw [Nat.succ_mul];omega)]
  ·rw [List.getElem?_append_right (by omega),repL_get l n,Nat.succ_mul]
   have:(j-l.length)%l.length=j%l.length:=by
    rw [←Nat.mod_eq_sub_mod (by omega)]
   rw [this];by_cases h2:j<n*l.length+l.length
   ·rw [if_pos (by omega),if_pos h2]
   ·rw [if_neg (by omega),if_neg h2]
theorem zeros_eq(z:Array Value)(n m:Nat)(hz:0<z.size)(hm:m=n*z.size):((Array.range m).map (z[· %z.size]!)).toList=repL z.toList n:=by
 apply List.ext_getElem?;intro j;rw [repL_get];simp only [Array.toList_map,Array.toList_range,List.getElem?_map,List.getElem?_range',Array.length_toList];by_cases hj:j<m
 ·rw [if_pos (by omega),List.getElem?_range hj]
  have:j%z.size<z.size:=Nat.mod_lt _ hz;simp [this]
 ·rw [if_neg (by omega),List.getElem?_eq_none (by simp;omega)];rfl
theorem buildSliceA_good(hC:CdcOk C)(hR:Rp C σ H w G){t len:Nat}{parts:List (Nat×AV T)}{pv:Array (Nat×Value)}(hp:RepP C σ H w parts pv.toList){K:Kont T R}{Kp:AV T→List (AObj T)→Option R}{r:R}
  (h:buildSliceA C P t len parts H K=some r):Good P C G σ H w (((do pure (.value (←Instr.buildSlice t len pv)):Sem Next)).run P w) K Kp r:=by
 unfold buildSliceA at h;split at h
 ·rename_i e he
  have hu:=elemT_ok he;split at h
  ·rename_i n z hn hz
   obtain⟨zv,h1,h2⟩:=zeroT_ok (C:=C) hz;cases hb:Nat.beq z.length n&&Nat.ble (len*n) 16777216&&Nat.ble 1 n
   ·rw [hb]at h;cases h
   ·rw [hb]at h
    simp only [cond_true]at h;simp only [Bool.and_eq_true]at hb;have hzl:z.length=n:=Nat.eq_of_beq_eq_true hb.1.1;have hle:=Nat.le_of_ble_eq_true hb.1.2;have hn1:=Nat.le_of_ble_eq_true hb.2;split at h
    ·rename_i cs hf
     have hzs:zv.cells.size=n:=by rw [←Array.length_toList,(h2 (σ:=σ) (H:=H) (w:=w)).length,hzl]
     have hzero:∃(zc:Array Value),((len*n=0∧zc= #[])∨(len*n≠0∧zc=zv.cells))∧
       ((Array.range (len*n)).map (zc[· %zc.size]!)).toList=repL zv.cells.toList len:=by
      by_cases h0:len*n=0
      ·refine⟨#[],.inl ⟨h0,rfl⟩, ?_⟩
       have:len=0:=by rcases Nat.mul_eq_zero.1 h0 with h|h<;>omega
       subst this;simp [repL]
      ·refine⟨zv.cells,.inr ⟨h0,rfl⟩, ?_⟩
       exact zeros_eq zv.cells len (len*n) (by omega) (by rw [hzs])
     obtain⟨zc,hz1,hz2⟩:=hzero;obtain⟨ys,h3,h4⟩:=fillA_ok (place':=fun i=>some (i*n,n)) (fun i x hx=>hx) parts pv.toList (repL z len) ((Array.range (len*n)).map (zc[· %zc.size]!)) cs hp (by rw [hz2];exact repL_rep h2 len) hf;have hrun:∀{v:Value},v= .slice (some ⟨w.heap.size,0,none⟩) len len→(((do pure (.value (←Instr.buildSlice t len pv)):Sem Next)).run P w)= .ok (.value v) (w.alloc (.cells ys e)):=by
      intro v hv;subst hv;rcases hz1 with⟨h0,hz1⟩|⟨h0,hz1⟩
      ·subst hz1
       simp only [Instr.buildSlice,Sem.run_bind,run_underlying hu,Result.andThen_ok,run_sizeOf' hn,Sem.run_ite,if_neg (show¬len*n>2^24 by omega),Sem.run_pure,if_pos h0,h3,newRow,run_newObj];rfl
      ·subst hz1
       simp only [Instr.buildSlice,Sem.run_bind,run_underlying hu,Result.andThen_ok,run_sizeOf' hn,Sem.run_ite,if_neg (show¬len*n>2^24 by omega),Sem.run_pure,if_neg h0,run_zero h1,h3,newRow,run_newObj];rfl
     have hlen:ys.size=len*n:=by
      rw [←Array.length_toList,h4.length];have hfl:∀(pl:Nat→Option (Nat×Nat)) (parts:List (Nat×AV T)) (l cs:List (AV T)),fillA pl l parts=some cs→cs.length=l.length:=by
       intro pl parts
       induction parts with
       |nil=>intro l cs h;cases h;rfl
       |cons p parts ih=>
        intro l cs h;obtain⟨i,x⟩:=p;simp only [fillA]at h;split at h
        ·rename_i off m xs _ _
         cases hb:Nat.beq xs.length m&&Nat.ble (off+xs.length) l.length
         ·rw [hb]at h;cases h
         ·rw [hb]at h
          simp only [Bool.and_eq_true]at hb;rw [ih _ _ h,setRange_length (Nat.le_of_ble_eq_true hb.2)]
        ·cases h
      rw [hfl _ _ _ _ hf,repL_length,hzl]
     cases hty:C.typed e
     ·rw [hty]at h
      simp only [cond_false]at h;have hst:=step_cells_new hR e h4;refine .inl ⟨_,_,[],_,_,_,h,.inl (hrun rfl),hst, ?_⟩;exact⟨by simp,w.heap.size,add_self _ _ _,_,rfl,fun _ =>rfl,Nat.le_refl _⟩
     ·rw [hty]at h
      simp only [cond_true]at h;cases hsz:Nat.beq (C.size e) n
      ·rw [hsz]at h;cases h
      ·rw [hsz]at h
       simp only [cond_true]at h;have hsz':C.size e=n:=Nat.eq_of_beq_eq_true hsz;obtain⟨vs,H',k1,k2,k3,k4,k5⟩:=vsK_ok hC cs H _ r ys.toList hR h4 h;obtain⟨l,hl,k1⟩:=Option.bind_eq_some_iff.1 k1;obtain⟨h6,h7⟩:=decN_ok hC len vs l ys.toList hl (by rw [Array.length_toList,hlen,hsz']) k5;have hst:=step_row_new hC k2.rp (zs:=[]) (cap:=len) (0,0) (List.append_nil _).symm h6 (by rw [hlen,hsz']) (fz0 _) true;refine .inl ⟨_,_,[],.slice (some ⟨w.heap.size,0,none⟩) l.length len,_,_,k1,.inl (hrun (by rw [h7])),k2.trans0 hst, ?_⟩;exact own_new (alloc_new w _) (by rw [hlen,hsz'])
    ·cases h
  ·cases h
 ·cases h
theorem choose_list{Q:Nat→Value→Prop}:∀(vs:List (V T)) (_ :∀(j:Nat) (v:V T),vs[j]? =some v→∃y,Q j y∧RepV C (Cell C σ H w) v y),
  ∃ys,RepL C σ H w (vs.map .v) ys∧∀(j:Nat) (y:Value),ys[j]? =some y→Q j y
 |[],_ =>⟨[],rfl,fun j y h=>by simp at h⟩
 |v::vs,h=>by
  obtain⟨y,h1,h2⟩:=h 0 v rfl;obtain⟨ys,h3,h4⟩:=choose_list (Q:=fun j=>Q (j+1)) vs (fun j v hv=>h (j+1) v (by simpa using hv));exact⟨y::ys,⟨y,ys,rfl,h2,h3⟩,fun j z hz=>by
   cases j with
   |zero=>simp at hz;subst hz;exact h1
   |succ j=>exact h4 j z (by simpa using hz)⟩
theorem map_drop_take(l:List (V T))(off n:Nat):((l.map (AV.v (T:=T))).drop off).take n=((l.drop off).take n).map .v:=by
 rw [←List.map_drop,←List.map_take]
theorem cellsAt_ok(hR:Rp C σ H w G){x:AV T}{y:Value}{n:Nat}{cs:List (AV T)}(hx:RepA C σ H w x y)(h:cellsAt C (fun g=>(G g).map fun l=>l.map AV.v) H x n=some cs):
  ∃a ys,y= .pointer (some a)∧RepL C σ H w cs ys∧∀(j:Nat) (v:Value),ys[j]? =some v→w.cell? (a.add j)=some v:=by
 have key:∀(vs:List (V T)) (b k off:Nat),(∀(j:Nat) (v:V T),vs[j]? =some v→∃y,w.cell? ⟨b,k+j,none⟩=some y∧RepV C (Cell C σ H w) v y)→
   ∃ys,RepL C σ H w (((vs.map .v).drop off).take n) ys∧∀(j:Nat) (v:Value),ys[j]? =some v→w.cell? ((⟨b,k+off,none⟩:Addr).add j)=some v:=by
  intro vs b k off hv;rw [map_drop_take];obtain⟨ys,h1,h2⟩:=choose_list (C:=C) (σ:=σ) (H:=H) (w:=w) (Q:=fun j y=>w.cell? ⟨b,k+off+j,none⟩=some y) ((vs.drop off).take n) (fun j v hj=>by
   rw [List.getElem?_take]at hj;split at hj
   ·rw [List.getElem?_drop]at hj
    obtain⟨y,h1,h2⟩:=hv _ v hj;exact⟨y,by rw [Nat.add_assoc];exact h1,h2⟩
   ·cases hj)
  exact⟨ys,h1,fun j v hj=>by rw [add_none];exact h2 j v hj⟩
 unfold cellsAt at h;split at h
 ·rename_i o off
  split at h
  ·rename_i e g l ho
   cases h;obtain⟨_,b,hb,rfl⟩:=hx;obtain⟨b',cs,ys,rest,h1,h2,h3,h4,_⟩:=(hR.obj o _ ho).cellsD;rw [hb]at h1;cases h1;refine⟨_,_,rfl,(h4.drop off).take n,fun j v hj=> ?_⟩;rw [List.getElem?_take]at hj;split at hj
   ·rw [List.getElem?_drop]at hj
    rw [add_none,cell_blk h2,←Array.getElem?_toList,h3,List.getElem?_append_left (List.getElem?_eq_some_iff.1 hj).1];exact hj
   ·cases hj
  ·cases h
 ·rename_i t x off
  cases h;obtain⟨b,k,rfl,h1⟩:=hx;obtain⟨ys,h2,h3⟩:=key (C.enc t x) b k off (fun j v hj=>let ⟨y,h4,h5⟩:=h1 j v hj;⟨y,h4.2,h5⟩);exact⟨_,ys,rfl,h2,h3⟩
 ·rename_i o i off
  split at h
  ·rename_i t l m ho
   obtain⟨_,_,b,hb,h1⟩:=hx;have hy:=h1 _ _ (svH_row ho);subst hy;cases hi:l[i]? with
   |none=>rw [hi]at h;cases h
   |some z=>
    rw [hi]at h;cases h;obtain⟨hlt,hz⟩:=List.getElem?_eq_some_iff.1 hi;rcases hR.obj o _ ho with⟨rfl,_⟩|⟨b',cs,fz,cap,h2,h3,h4,h5,h6,h7⟩
    ·simp at hlt
    ·rw [hb]at h2;cases h2
     obtain⟨ys,h8,h9⟩:=key (C.enc t z) b (i*C.size t) off (fun j v hj=>by
      obtain⟨y,h10,h11⟩:=h7 i hlt j v (by rw [hz];exact hj);exact⟨y,by rw [cell_blk h3];exact h10,h11⟩)
     exact⟨_,ys,rfl,h8,h9⟩
  ·cases h
 ·rename_i g off
  dsimp only at h;cases hg:G g with
  |none=>rw [hg]at h;cases h
  |some l=>
   rw [hg]at h;cases h;cases(show y=_ from hx);obtain⟨ys,h1,h2⟩:=key l g 0 off (fun j v hj=>let ⟨y,h3,h4⟩:=hR.glob g l hg j v hj;⟨y,h3.2,h4⟩);exact⟨_,ys,rfl,h1,fun j v hj=>by have:=h2 j v hj;rwa [Nat.zero_add]at this⟩
 ·cases h
theorem loadA_good(hR:Rp C σ H w G){t:Nat}{x:AV T}{y:Value}(hx:RepA C σ H w x y){K:Kont T R}{r:R}(h:loadA C P G t x H K=some r):
  GoodQ C σ H w (((do pure (.value (←Instr.loadAt t y)):Sem Next)).run P w) K r:=by
 unfold loadA at h;split at h
 ·rename_i n ag hn ha
  split at h
  ·rename_i cs hcs
   obtain⟨a,ys,rfl,h1,h2⟩:=cellsAt_ok hR hx hcs;rcases whole_some h with⟨rfl,hl,hK⟩|⟨rfl,z,hz,hK⟩
   ·refine good_q hK (v:= .agg ys.toArray) ?_ ⟨_,rfl,by simpa using h1⟩
    have h3:ys.length=n:=by rw [h1.length,hl]
    have:=run_loadCells_list (P:=P) w a ys h2;rw [h3]at this;simp only [Instr.loadAt,Instr.sureAddr,loadVar,Sem.run_bind,Sem.run_pure,Result.andThen_ok,run_isAgg' ha,if_true,run_sizeOf' hn,this]
   ·subst hz
    obtain⟨v,ys',rfl,h3,h4⟩:=h1;have hc:=h2 0 v rfl;have h0:a.add 0=a:=by simp [Addr.add]
    rw [h0]at hc;refine good_q hK (v:=v) ?_ h3;simp only [Instr.loadAt,Instr.sureAddr,loadVar,Sem.run_bind,Sem.run_pure,Result.andThen_ok,run_isAgg' ha,Bool.false_eq_true,if_false,run_load,hc]
  ·cases h
 ·cases h
theorem fieldT_ok{s f off t:Nat}(h:fieldT P s f=some (off,t)):∃fs x,P.underlying s=some (.struct fs)∧fs[f]? =some x∧x.offset=off∧x.type=t:=by
 unfold fieldT at h;split at h
 ·rename_i fs hu
  cases hx:fs[f]? with
  |none=>rw [hx]at h;cases h
  |some x=>rw [hx]at h;cases h;exact⟨fs,x,hu,hx,rfl,rfl⟩
 ·cases h
theorem run_fieldAt{s f off t m:Nat}(h:fieldT P s f=some (off,t))(hn:sizeT P t=some (m+1))(a:Addr)(w:World):
  (Instr.fieldAt s (.pointer (some a)) f).run P w= .ok (.pointer (some (a.add off))) w:=by
 obtain⟨fs,x,hu,hx,rfl,rfl⟩:=fieldT_ok h;simp only [Instr.fieldAt,Sem.run_bind,run_underlying hu,Result.andThen_ok,hx,Instr.sureAddr,Sem.run_pure,fieldPlace,run_sizeOf' hn];rw [if_neg (by omega)];rfl
theorem fieldAddrA_good(hR:Rp C σ H w G){s f:Nat}{x:AV T}{y:Value}(hx:RepA C σ H w x y){K:Kont T R}{r:R}(h:fieldAddrA P s f x H K=some r):
  GoodQ C σ H w (((do pure (.value (←Instr.fieldAt s y f)):Sem Next)).run P w) K r:=by
 unfold fieldAddrA at h;split at h
 ·rename_i off t hf
  split at h
  ·rename_i m hn
   split at h
   ·obtain⟨h0,b,h1,rfl⟩:=hx
    refine good_q h (v:= .pointer (some ⟨b,_ +off,none⟩)) ?_ ⟨h0,b,h1,rfl⟩;simp only [Sem.run_bind,run_fieldAt hf hn,Result.andThen_ok,Sem.run_pure,add_none]
   ·rename_i o i k
    obtain⟨h0,⟨a,rfl⟩,b,h1,h2⟩:=hx;refine good_q h (v:= .pointer (some (a.add off))) ?_ ⟨h0,⟨_,rfl⟩,b,h1,fun t l hl=> ?_⟩
    ·simp only [Sem.run_bind,run_fieldAt hf hn,Result.andThen_ok,Sem.run_pure]
    ·have:=h2 t l hl
     cases this;rw [add_none,Nat.add_assoc]
   ·obtain⟨b,k,rfl,h1⟩:=hx
    refine good_q h (v:= .pointer (some ⟨b,k+(_ +off),none⟩)) ?_ ⟨b,k,rfl,h1⟩;simp only [Sem.run_bind,run_fieldAt hf hn,Result.andThen_ok,Sem.run_pure,add_none,Nat.add_assoc]
   ·cases(show y=_ from hx)
    refine good_q h (v:= .pointer (some ⟨_,_ +off,none⟩)) ?_ rfl;simp only [Sem.run_bind,run_fieldAt hf hn,Result.andThen_ok,Sem.run_pure,add_none]
   ·cases h
  ·cases h
 ·cases h
theorem fieldA_good(hR:Rp C σ H w G){s f:Nat}{x:AV T}{y:Value}(hx:RepA C σ H w x y){K:Kont T R}{r:R}(h:fieldA P s f x H K=some r):
  GoodQ C σ H w (((do pure (.value (←Instr.field s y f)):Sem Next)).run P w) K r:=by
 unfold fieldA at h;split at h
 ·rename_i off t cs hf
  obtain⟨fs,z,hu,hz,rfl,rfl⟩:=fieldT_ok hf;split at h
  ·rename_i n ag hn ha
   obtain⟨ys,rfl,h1⟩:=hx;obtain⟨u,v,h2,h3,h4⟩:=part_ok hn ha h1 h;refine good_q h2 ?_ h4;simp only [Instr.field,Sem.run_bind,run_underlying hu,Result.andThen_ok,hz,asAgg,Sem.run_pure,h3]
  ·cases h
 ·cases h
end Go.Proofs.YtdoifigogbdodaaGreatDoor.Ev

namespace Go.Proofs.YtdoifigogbdodaaGreatDoor.Ev
open Go
variable {T:Nat→Type} {C:Cdc T} {P:Program} {σ:Lk} {H:List (AObj T)} {w:World} {G:Nat→Option (List (V T))} {R:Type}
theorem run_storeCells_fz(P:Program)(b off:Nat)(e:TypeId)(fz:Nat×Nat):∀(vs:List Value) (i:Nat) (cur:Array Value) (w:World),w.heap[b]? =some (.cells cur e fz)→fzOk cur fz→
  off+i+vs.length≤cur.size→(∀v∈vs,v.oneCell'=true)→(storeCells ⟨b,off,none⟩ vs i).run P w= .ok () (w.setRow b (setRange cur.toList (off+i) vs).toArray)
 |[],i,cur,w,hg,_,_,_ =>by
  simp only [storeCells,setRange,List.append_nil,List.length_nil,Nat.add_zero,List.take_append_drop,Array.toArray_toList];rw [setRow_self w b cur e fz hg];rfl
 |v::rest,i,cur,w,hg,hfz,hl,h1=>by
  have hi:off+i<cur.size:=by simp at hl;omega
  have hcell:w.cell? ⟨b,off+i,none⟩=some cur[off+i]:=by rw [cell_blk hg];simp [hi]
  have hfro:w.frozen? ⟨b,off+i,none⟩=false:=by
   have:=hfz (off+i) hi;simp only [World.frozen?,hg]
   simpa using this
  have hst:(store ((⟨b,off,none⟩:Addr).add i) v).run P w= .ok () (w.setRow b (cur.setIfInBounds (off+i) v)):=by
   rw [add_none,run_store P w _ v _ (h1 v (by simp)),hcell];simp [hfro,setCell_eq_setRow w b (off+i) cur e fz v hg]
  have ih:=run_storeCells_fz P b off e fz rest (i+1) (cur.setIfInBounds (off+i) v) (w.setRow b (cur.setIfInBounds (off+i) v)) (setRow_heap w b cur _ e _ hg)
   (fun k hk=>hfz k (by simpa using hk)) (by simp at hl⊢;omega) (fun x hx=>h1 x (by simp [hx]))
  simp only [storeCells,Sem.run_bind,hst,Result.andThen_ok,ih,setRow_setRow];congr 3;rw [Array.toList_setIfInBounds,←Nat.add_assoc];exact setRange_cons cur.toList (off+i) v rest (by simp at hl⊢;omega)
theorem setRange_get{α:Type}(l vs:List α)(off k:Nat)(h:off+vs.length≤l.length):(setRange l off vs)[k]? =if off≤k∧k<off+vs.length then vs[k-off]? else l[k]? :=by
 unfold setRange;have ht:(l.take off).length=off:=by simp;omega
 by_cases h1:k<off
 ·rw [List.append_assoc,List.getElem?_append_left (by omega),List.getElem?_take,if_pos h1,if_neg (by omega)]
 ·by_cases h2:k<off+vs.length
  ·rw [List.append_assoc,List.getElem?_append_right (by omega),ht,List.getElem?_append_left (by omega),if_pos ⟨by omega,h2⟩]
  ·rw [List.getElem?_append_right (by simp;omega),if_neg (by omega)]
   rw [List.getElem?_drop];congr 1;simp;omega
theorem setRow_blk{w:World}{b:Nat}{cs cs':Array Value}{e:TypeId}{fz:Nat×Nat}(h:w.heap[b]? =some (.cells cs e fz)):(w.setRow b cs').heap[b]? =some (.cells cs' e fz):=setRow_heap w b cs cs' e fz h
theorem storeA_good(hC:CdcOk C)(hR:Rp C σ H w G){t:Nat}{x z:AV T}{y u:Value}(hx:RepA C σ H w x y)(hz:RepA C σ H w z u){K:Kont T R}{Kp:AV T→List (AObj T)→Option R}{r:R}(h:storeA C P t x z H K=some r):
  Good P C G σ H w (((do Instr.storeAt t y u;pure .skip:Sem Next)).run P w) K Kp r:=by
 unfold storeA at h;split at h
 ·rename_i n cs hn hcs
  cases hb:Nat.beq cs.length n&&allLeaf cs
  ·rw [hb]at h;cases h
  ·rw [hb]at h
   simp only [cond_true]at h;simp only [Bool.and_eq_true]at hb;have hl:cs.length=n:=Nat.eq_of_beq_eq_true hb.1;have hrep:=cellsA_rep hcs hz;have hone:=allLeaf_one hb.2 hrep;have hsz:u.cells.size=n:=by rw [←Array.length_toList,hrep.length,hl]
   have hlenu:u.cells.toList.length=cs.length:=hrep.length;have run:∀(b off:Nat) (cur:Array Value) (e:TypeId) (fz:Nat×Nat),w.heap[b]? =some (.cells cur e fz)→fzOk cur fz→off+cs.length≤cur.size→y= .pointer (some ⟨b,off,none⟩)→
     ((do Instr.storeAt t y u;pure .skip:Sem Next)).run P w= .ok .skip (w.setRow b (setRange cur.toList off u.cells.toList).toArray):=by
    intro b off cur e fz hblk hfz hle hy;subst hy;have:=run_storeCells_fz P b off e fz u.cells.toList 0 cur w hblk hfz (by rw [hlenu];omega) hone;simp only [Instr.storeAt,Instr.sureAddr,storeVar,Sem.run_bind,Sem.run_pure,Result.andThen_ok,run_sizeOf' hn,hsz,ne_eq,not_true,if_false,this];rfl
   split at h
   ·rename_i o off
    split at h
    ·rename_i ety g l ho
     cases hle:Nat.ble (off+cs.length) l.length
     ·rw [hle]at h;cases h
     ·rw [hle]at h
      simp only [cond_true]at h;have hle':=Nat.le_of_ble_eq_true hle;obtain⟨h0,b,hb1,hy⟩:=hx;obtain⟨b',cur,ys,rest,h2,h3,h4,h5,hmk⟩:=(hR.obj o _ ho).cellsD;rw [hb1]at h2;cases h2;have hcl:l.length≤cur.size:=by rw [←Array.length_toList,h4,List.length_append,h5.length];omega
      have hyl:=h5.length;have hsl:=setRange_length (l:=cur.toList) (vs:=u.cells.toList) (off:=off) (by rw [hlenu];simp;omega);have hspl:setRange cur.toList off u.cells.toList=setRange ys off u.cells.toList++rest:=by
       unfold setRange;rw [h4,List.take_append_of_le_length (by omega),List.append_assoc _ _ rest];congr 1;rw [List.drop_append_of_le_length (by omega)]
      refine .inl ⟨_,_,[],undef,σ,_,h,.inr ⟨run b off cur ety (0,0) h3 (fz0 _) (by omega) hy,rfl⟩, ?_,trivial⟩;refine step_set hR _ ho rfl (by cases g<;>rfl) rfl rfl rfl (by simp) (fun k hk hne=> ?_) (fun _ _ =>trivial) (fun k off hk hnf=>(hnf trivial).elim) (fun n2 s2 he=> ?_) (fun M=> ?_)
      ·exact setRow_other w b k _ (fun hkb=>hne (by rw [hkb];exact hb1))
      ·have hll:=setRange_length (l:=l) (vs:=cs) (off:=off) (by omega)
       refine⟨?_,fun b2 hb2 cs2 e2 fz2 hc2=> ?_⟩
       ·cases he
       ·rw [hb1]at hb2;cases hb2
        rw [h3]at hc2;cases hc2;exact⟨_,ety,(0,0),setRow_blk h3,by simpa using hsl⟩
      ·refine hmk _ _ _ _ (setRange ys off u.cells.toList) _ hb1 (setRow_blk h3) (by simpa using hspl) (setRange_length (by rw [hlenu];omega)) (setRange_length (by omega)) ((h5.setRange hrep off).move0 M)
    ·cases h
   ·rename_i o i off
    obtain⟨vs,H',k1,k2,k3,k4,k5⟩:=vsK_ok hC cs H _ r u.cells.toList hR hrep h;split at k1
    ·rename_i e l ho
     split at k1
     ·rename_i yy hi
      cases hle:Nat.ble (off+vs.length) (C.size e)
      ·rw [hle]at k1;cases k1
      ·rw [hle]at k1
       simp only [cond_true]at k1;have hle':=Nat.le_of_ble_eq_true hle;obtain⟨zz,hzz,k1⟩:=Option.bind_eq_some_iff.1 k1;have hx':=RepA.move0 k2.move hx;obtain⟨h0,_,b,hb1,hyp⟩:=hx';have hy:=hyp _ _ (svH_row ho);obtain⟨hlt,hiy⟩:=List.getElem?_eq_some_iff.1 hi;rcases k2.rp.obj o _ ho with⟨rfl,_⟩|⟨b',cur,fz,cap,h2,h3,h4,h5,h6,h7⟩
       ·simp at hlt
       ·rw [hb1]at h2;cases h2
        have hic:i*C.size e+C.size e≤cap*C.size e:=by
         rw [←Nat.succ_mul];exact Nat.mul_le_mul_right _ (by omega)
        have hsr:=setRange_length (l:=cur.toList) (vs:=u.cells.toList) (off:=i*C.size e+off) (by rw [hlenu,←k4];simp;omega);have hlenc:(setRange cur.toList (i*C.size e+off) u.cells.toList).toArray.size=cur.size:=by simpa using hsr
        refine .inl ⟨_,_,[],undef,σ,_,k1,.inr ⟨run b (i*C.size e+off) cur e fz h3 h4 (by rw [←k4];omega) hy,rfl⟩,k2.trans0 ?_,trivial⟩;refine step_set k2.rp _ ho rfl rfl rfl rfl rfl (by simp) (fun k hk hne=> ?_) (fun _ _ => .inl rfl) (fun k off hk hnf=>(hnf (.inl rfl)).elim) (fun n2 s2 he=> ?_) (fun M=> ?_)
        ·exact setRow_other w b k _ (fun hkb=>hne (by rw [hkb];exact hb1))
        ·refine⟨by simpa [svO] using he,fun b2 hb2 cs2 e2 fz2 hc2=> ?_⟩
         rw [hb1]at hb2;cases hb2;rw [h3]at hc2;cases hc2;exact⟨_,e,fz,setRow_blk h3,hlenc⟩
        ·refine .inr ⟨b,_,fz,cap,hb1,setRow_blk h3,fun k hk=>h4 k (by rw [hlenc]at hk;exact hk),by rw [hlenc];exact h5,by simpa using h6, ?_⟩
         intro j hj k v hv;have hjl:j<l.length:=by simpa using hj
         have hk:=enc_lt hC hv;have hget:=setRange_get cur.toList u.cells.toList (i*C.size e+off) (j*C.size e+k) (by rw [hlenu,←k4];simp;omega);by_cases hji:j=i
         ·subst hji
          rw [List.getElem_set_self]at hv;obtain⟨yv,h8,h9⟩:=dec_rep hC (cell:=Cell C σ H' w) hzz (ys:=(setRange cur.toList (j*C.size e+off) u.cells.toList).drop (j*C.size e)) (fun q v' hv'=>by
           have hencl:=hC.len e yy;rw [setRange_get _ _ _ _ (by omega)]at hv';rw [List.getElem?_drop,setRange_get _ _ _ _ (by rw [hlenu,←k4];simp;omega)];rw [hlenu,←k4];split at hv'
           ·rename_i hq
            rw [if_pos (by omega)];obtain⟨yv,h8,h9⟩:=k5 _ v' hv';exact⟨yv,by rw [←h8];congr 1;omega,h9⟩
           ·rename_i hq
            rw [if_neg (by omega)];obtain⟨yv,h8,h9⟩:=h7 j hjl q v' (by rw [hiy];exact hv');exact⟨yv,by rw [Array.getElem?_toList];exact h8,h9⟩) k v hv
          refine⟨yv, ?_,h9.mono M.cell⟩;rw [List.getElem?_drop]at h8
          simpa using h8
         ·rw [List.getElem_set_ne (by omega)]at hv
          obtain⟨yv,h8,h9⟩:=h7 j hjl k v hv;refine⟨yv, ?_,h9.mono M.cell⟩;have:(setRange cur.toList (i*C.size e+off) u.cells.toList)[j*C.size e+k]? =cur.toList[j*C.size e+k]? :=by
           rw [hget,if_neg];rw [hlenu,←k4];rcases Nat.lt_or_ge j i with hlt2|hge
           ·have:(j+1)*C.size e≤i*C.size e:=Nat.mul_le_mul_right _ hlt2
            rw [Nat.succ_mul]at this;omega
           ·have:(i+1)*C.size e≤j*C.size e:=Nat.mul_le_mul_right _ (by omega)
            rw [Nat.succ_mul]at this;omega
          simpa [this] using h8
     ·cases k1
    ·cases k1
   ·cases h
 ·cases h
end Go.Proofs.YtdoifigogbdodaaGreatDoor.Ev

namespace Go.Proofs.YtdoifigogbdodaaGreatDoor.Ev
open Go
variable {T:Nat→Type} {C:Cdc T} {P:Program} {σ:Lk} {H:List (AObj T)} {w:World} {G:Nat→Option (List (V T))} {R:Type}
theorem repV_sl{cell:Nat→Nat→Value→Prop}{t:Nat}{l:List (T t)}{y:Value}(h:RepV C cell (.sl t l) y):
  ∃A c,y= .slice A l.length c∧l.length≤c∧(l=[]∨∃b off,A=some ⟨b,off,none⟩∧∀(i:Nat) (hi:i<l.length) (k:Nat) (v:V T),(C.enc t l[i])[k]? =some v→∃u,cell b (off+i*C.size t+k) u∧RepV C cell v u):=by
 cases h with
 |sl0 _ A c=>exact⟨A,c,rfl,Nat.zero_le _,.inl rfl⟩
 |sl _ _ blk off c xs hc h1 h2=>
  refine⟨_,c,rfl,hc,.inr ⟨blk,off,rfl,fun i hi k v hv=> ?_⟩⟩;obtain⟨hk,hkv⟩:=List.getElem?_eq_some_iff.1 hv;exact⟨xs i k,h1 i hi k hk,by rw [←hkv];exact h2 i hi k hk⟩
theorem mk_sl{cell:Nat→Nat→Value→Prop}{t:Nat}{l:List (T t)}{b off c:Nat}(hc:l.length≤c)
  (h:∀(i:Nat) (hi:i<l.length) (k:Nat) (v:V T),(C.enc t l[i])[k]? =some v→∃u,cell b (off+i*C.size t+k) u∧RepV C cell v u):
  RepV C cell (.sl t l) (.slice (some ⟨b,off,none⟩) l.length c):=by
 have hch:∀i k,∃u,∀(hi:i<l.length) (v:V T),(C.enc t l[i])[k]? =some v→cell b (off+i*C.size t+k) u∧RepV C cell v u:=fun i k=>by
  by_cases hi:i<l.length
  ·by_cases hk:k<(C.enc t l[i]).length
   ·obtain⟨u,h1,h2⟩:=h i hi k _ (List.getElem?_eq_getElem hk)
    exact⟨u,fun _ v hv'=>by rw [List.getElem?_eq_getElem hk]at hv';cases hv';exact⟨h1,h2⟩⟩
   ·exact⟨undef,fun _ v hv'=>by rw [List.getElem?_eq_none (by omega)]at hv';cases hv'⟩
  ·exact⟨undef,fun hi'=>(hi hi').elim⟩
 refine .sl t l b off c (fun i k=>Classical.choose (hch i k)) hc (fun i hi k hk=> ?_) (fun i hi k hk=> ?_)
 ·exact(Classical.choose_spec (hch i k) hi _ (List.getElem?_eq_getElem hk)).1
 ·exact(Classical.choose_spec (hch i k) hi _ (List.getElem?_eq_getElem hk)).2
def lentH(a:AV T)(H:List (AObj T)):List (AObj T):=match a with| .own o=>lend o H|_ =>H
theorem content_sl(hC:CdcOk C)(hR:Rp C σ H w G){e:Nat}{x:AV T}{y:Value}{c:List (T e)}(h:contentA H e x=some c)(hx:RepA C σ H w x y):
  Step C G [] σ H w σ (lentH x H) w∧RepV C (Cell C σ (lentH x H) w) (.sl e c) y:=by
 unfold contentA at h;split at h
 ·rename_i t l
  split at h
  ·rename_i he;subst he;cases h;exact⟨Step.refl hR,hx⟩
  ·cases h
 ·rename_i o
  split at h
  ·rename_i t l m ho
   split at h
   ·rename_i he;subst he;cases h
    have hst:=step_lend hR ho;have he2:lentH (.own o) H=H.set o (.row t l false):=lend_eq ho;rw [he2];exact⟨hst,row_sl hC hst.rp (lend_get ho) (RepA.move0 hst.move hx)⟩
   ·cases h
  ·cases h
 ·cases h;cases(show RepV C (Cell C σ H w) _ _ from hx);exact⟨Step.refl hR,.sl0 _ _ _⟩
 ·cases h;cases(show y=_ from hx);exact⟨Step.refl hR,.sl0 _ _ _⟩
 ·cases h;obtain⟨A,rfl⟩:=hx;exact⟨Step.refl hR,.sl0 _ _ _⟩
 ·cases h
theorem nilCheckA_good(hR:Rp C σ H w G){x:AV T}{y:Value}(hx:RepA C σ H w x y){K:Kont T R}{r:R}(h:nilCheckA x H K=some r):
  (∃a,y= .pointer (some a))∧K x H []=some r∨(∃f a b,y= .func (.func f) a b)∧K x H []=some r:=by
 unfold nilCheckA at h;split at h
 ·obtain⟨_,b,_,rfl⟩:=hx;exact .inl ⟨⟨_,rfl⟩,h⟩
 ·obtain⟨_,⟨a,rfl⟩,_⟩:=hx;exact .inl ⟨⟨_,rfl⟩,h⟩
 ·obtain⟨b,k,rfl,_⟩:=hx;exact .inl ⟨⟨_,rfl⟩,h⟩
 ·cases(show y=_ from hx);exact .inl ⟨⟨_,rfl⟩,h⟩
 ·obtain⟨a,b,rfl,_⟩:=hx;exact .inr ⟨⟨_,_,_,rfl⟩,h⟩
 ·cases h
theorem run_asIntOf(k:IntKind)(n:Int)(w:World):(asIntOf (.int k n)).run P w= .ok (k,n) w:=rfl
theorem indexAddrA_good(hR:Rp C σ H w G){t:Nat}{x i:AV T}{y u:Value}(hx:RepA C σ H w x y)(hi:RepA C σ H w i u)
  {K:Kont T R} {r:R} (h:indexAddrA C P t x i H K=some r):
  GoodQ C σ H w (((do pure (.value (←Instr.indexAt t y u)):Sem Next)).run P w) K r:=by
 unfold indexAddrA at h;split at h
 ·rename_i e kk n hu
  have:=rep_i hi;subst this;split at h
  ·rename_i k hk
   have run:∀(a:Addr) (len cap:Nat),y= .slice (some a) len cap→0≤n→n<len→
     ((do pure (.value (←Instr.indexAt t y (.int kk n))):Sem Next)).run P w= .ok (.value (.pointer (some (a.add (n.toNat*k))))) w:=by
    intro a len cap hy h0 h1;subst hy;simp only [Instr.indexAt,Sem.run_bind,run_asIntOf,Result.andThen_ok,run_underlying hu,Sem.run_pure,Sem.run_ite,if_pos (And.intro h0 h1),run_sizeOf' hk]
   split at h
   ·rename_i o
    split at h
    ·rename_i e' l m ho
     cases hb:Nat.beq k (C.size e')&&decide (0≤n)&&Nat.blt n.toNat l.length
     ·rw [hb]at h;cases h
     ·rw [hb]at h
      simp only [cond_true]at h;simp only [Bool.and_eq_true,decide_eq_true_eq]at hb;have hks:k=C.size e':=Nat.eq_of_beq_eq_true hb.1.1;have hlt:n.toNat<l.length:=by have:=Nat.le_of_ble_eq_true hb.2;omega
      obtain⟨h0,_,h1⟩:=hx;rcases h1 _ _ (svH_row ho)with⟨h2,_⟩|⟨b,c,cs,ee,fz,h2,h3,h4,h5⟩
      ·rcases hR.obj o _ ho with⟨rfl,_⟩|⟨b,_,_,_,hb2,_⟩
       ·simp at hlt
       ·rw [h2]at hb2;cases hb2
      ·refine good_q h (run ⟨b,0,none⟩ l.length c h3 hb.1.2 (by omega)) ⟨h0,⟨_,rfl⟩,b,h2,fun t' l' ho'=> ?_⟩
       rw [svH_row ho]at ho';cases ho';rw [add_none,hks];simp
    ·cases h
   ·rename_i e' l
    cases hb:Nat.beq k (C.size e')&&decide (0≤n)
    ·rw [hb]at h;cases h
    ·rw [hb]at h
     simp only [cond_true]at h;simp only [Bool.and_eq_true,decide_eq_true_eq]at hb;have hks:k=C.size e':=Nat.eq_of_beq_eq_true hb.1;obtain⟨z,hz,h⟩:=Option.bind_eq_some_iff.1 h;obtain⟨hlt,hzv⟩:=List.getElem?_eq_some_iff.1 hz;obtain⟨A,c,h1,h2,h3⟩:=repV_sl (show RepV C (Cell C σ H w) _ _ from hx);rcases h3 with rfl|⟨b,off,rfl,h4⟩
     ·simp at hlt
     ·refine good_q h (run ⟨b,off,none⟩ l.length c h1 hb.2 (by omega)) ⟨b,off+n.toNat*k,by rw [add_none,Nat.add_zero],fun j v hj=> ?_⟩
      rw [hks];exact h4 n.toNat hlt j v (by rw [hzv];exact hj)
   ·rename_i o off len cap
    cases hb:decide (0≤n)&&Nat.blt n.toNat len
    ·rw [hb]at h;cases h
    ·rw [hb]at h
     simp only [cond_true]at h;simp only [Bool.and_eq_true,decide_eq_true_eq]at hb;have hlt:n.toNat<len:=by have:=Nat.le_of_ble_eq_true hb.2;omega
     obtain⟨h0,b,h1,d,h2,_⟩:=hx;exact good_q h (run ⟨b,off,none⟩ len d h2 hb.1 (by omega)) ⟨h0,b,h1,by rw [add_none]⟩
   ·cases h
  ·cases h
 ·rename_i len e kk n hu
  have:=rep_i hi;subst this;split at h
  ·rename_i k hk
   cases hb:decide (0≤n)&&Nat.blt n.toNat len
   ·rw [hb]at h;cases h
   ·rw [hb]at h
    simp only [cond_true]at h;simp only [Bool.and_eq_true,decide_eq_true_eq]at hb;have hlt:n.toNat<len:=by have:=Nat.le_of_ble_eq_true hb.2;omega
    have run:∀(a:Addr),y= .pointer (some a)→((do pure (.value (←Instr.indexAt t y (.int kk n))):Sem Next)).run P w= .ok (.value (.pointer (some (a.add (n.toNat*k))))) w:=by
     intro a hy;subst hy;simp only [Instr.indexAt,Sem.run_bind,run_asIntOf,Result.andThen_ok,run_underlying hu,Instr.sureAddr,Sem.run_pure,Sem.run_ite,if_pos (And.intro hb.1 (show n<(len:Int)by omega)),run_sizeOf' hk]
    split at h
    ·obtain⟨h0,b,h1,h2⟩:=hx
     exact good_q h (run _ h2) ⟨h0,b,h1,by rw [add_none]⟩
    ·exact good_q h (run _ hx) (by rw [add_none];rfl)
    ·obtain⟨b,k',h1,h2⟩:=hx
     exact good_q h (run _ h1) ⟨b,k',by rw [add_none,Nat.add_assoc],h2⟩
    ·cases h
  ·cases h
 ·cases h
theorem indexA_good(hR:Rp C σ H w G){t:Nat}{x i:AV T}{y u:Value}(hx:RepA C σ H w x y)(hi:RepA C σ H w i u)
  {K:Kont T R} {r:R} (h:indexA P t x i H K=some r):
  GoodQ C σ H w (((do pure (.value (←Instr.index t y u)):Sem Next)).run P w) K r:=by
 unfold indexA at h;split at h
 ·rename_i s kk n hu
  have:=rep_i hi;subst this;have:=rep_s hx;subst this;cases hb:decide (0≤n)
  ·rw [hb]at h;cases h
  ·rw [hb]at h
   simp only [cond_true]at h;simp only [decide_eq_true_eq]at hb;obtain⟨z,hz,h⟩:=Option.bind_eq_some_iff.1 h;refine good_q h ?_ (mk_i _ _);have hz':s[n.toNat]? =some z:=by
    obtain⟨h1,h2⟩:=List.getElem?_eq_some_iff.1 hz;have h3:n.toNat<s.size:=by show n.toNat<s.data.size;simpa using h1
    rw [getElem?_pos s n.toNat h3];congr 1
   simp only [Instr.index,Sem.run_bind,run_asIntOf,Result.andThen_ok,run_underlying hu,if_pos hb,hz',Sem.run_pure]
 ·rename_i len e cs kk n hu
  have:=rep_i hi;subst this;split at h
  ·rename_i k ag hk ha
   cases hb:decide (0≤n)&&Nat.blt n.toNat len
   ·rw [hb]at h;cases h
   ·rw [hb]at h
    simp only [cond_true]at h;simp only [Bool.and_eq_true,decide_eq_true_eq]at hb;have hlt:n.toNat<len:=by have:=Nat.le_of_ble_eq_true hb.2;omega
    obtain⟨ys,rfl,h1⟩:=hx;obtain⟨z,v,h2,h3,h4⟩:=part_ok hk ha h1 h;refine good_q h2 ?_ h4;simp only [Instr.index,Sem.run_bind,run_asIntOf,Result.andThen_ok,run_underlying hu,Sem.run_ite,if_pos (And.intro hb.1 (show n<(len:Int)by omega)),run_sizeOf' hk,h3,Sem.run_pure]
  ·cases h
 ·cases h
theorem boundA_ok{d n:Int}{x:Option (AV T)}{y:Option Value}(h:boundA d x=some n)(hxy:∀a,x=some a→∃v,y=some v∧RepA C σ H w a v)(hn:x=none→y=none):
  (y=none∧n=d)∨∃k,y=some (.int k n):=by
 unfold boundA at h;split at h
 ·exact .inl ⟨hn rfl,by cases h;rfl⟩
 ·cases h
  obtain⟨v,h1,h2⟩:=hxy _ rfl;have:=rep_i h2;subst this;exact .inr ⟨_,h1⟩
 ·cases h
theorem run_sliceBound(k:IntKind)(n:Int)(y:Nat)(code:BoundsCode)(h0:0≤n)(h1:n≤y)(w:World):(Instr.sliceBound (.int k n) y code).run P w= .ok n.toNat w:=by
 simp only [Instr.sliceBound,Sem.run_bind,run_asIntOf,Result.andThen_ok,Sem.run_ite,if_pos (And.intro h0 h1),Sem.run_pure]
theorem run_sliceBounds(isS:Bool)(len cap:Nat){lo hi:Option Value}{l h:Int}(hl:(lo=none∧l=0)∨∃k,lo=some (.int k l))(hh:(hi=none∧h=len)∨∃k,hi=some (.int k h))
  (h0:0≤l) (h1:l≤h) (h2:h≤len) (h3:len≤cap) (w:World):(Instr.sliceBounds isS len cap lo hi none).run P w= .ok (l.toNat,h.toNat,cap) w:=by
 have e1:((h.toNat:Nat):Int)=h:=by omega
 rcases hl with⟨rfl,rfl⟩|⟨k,rfl⟩<;>rcases hh with⟨rfl,rfl⟩|⟨k',rfl⟩
 ·simp [Instr.sliceBounds]
 ·simp only [Instr.sliceBounds,Sem.run_bind,Sem.run_pure,Result.andThen_ok,run_sliceBound k' h cap _ (by omega) (by omega)];rfl
 ·simp only [Instr.sliceBounds,Sem.run_bind,Sem.run_pure,Result.andThen_ok,run_sliceBound k l len _ h0 (by omega)];rfl
 ·simp only [Instr.sliceBounds,Sem.run_bind,Sem.run_pure,Result.andThen_ok,run_sliceBound k' h cap _ (by omega) (by omega),run_sliceBound k l h.toNat _ h0 (by omega)]
theorem sliceA_good(hC:CdcOk C)(hR:Rp C σ H w G){t:Nat}{x:AV T}{y:Value}{lo hi mx:Option (AV T)}{lo' hi' mx':Option Value}(hx:RepA C σ H w x y)
  (hlo:∀a,lo=some a→∃v,lo'=some v∧RepA C σ H w a v) (hlon:lo=none→lo'=none) (hhi:∀a,hi=some a→∃v,hi'=some v∧RepA C σ H w a v) (hhin:hi=none→hi'=none)
  (hmx:∀a,mx=some a→∃v,mx'=some v∧RepA C σ H w a v) (hmxn:mx=none→mx'=none)
  {K:Kont T R} {Kp:AV T→List (AObj T)→Option R} {r:R} (h:sliceA C P t x lo hi mx H K=some r):
  Good P C G σ H w (((do pure (.value (←Instr.sliceAt t y lo' hi' mx')):Sem Next)).run P w) K Kp r:=by
 unfold sliceA at h;split at h
 ·rename_i hu
  split at h
  ·rename_i s
   have:=rep_s hx;subst this;cases mx with
   |some _ =>cases h
   |none=>
    rw [hmxn rfl];simp only [isNone,cond_true]at h;split at h
    ·rename_i l hh hbl hbh
     cases hb:decide (0≤hh)&&decide (hh≤(s.size:Int))&&decide (0≤l)&&decide (l≤hh)
     ·rw [hb]at h;cases h
     ·rw [hb]at h
      simp only [cond_true]at h;simp only [Bool.and_eq_true,decide_eq_true_eq]at hb;refine good_val hR h ?_ (mk_s _);simp only [Instr.sliceAt,Sem.run_bind,run_underlying hu,Result.andThen_ok,Instr.slice,Option.isSome_none,Bool.false_eq_true,if_false,
       run_sliceBounds false s.size s.size (boundA_ok hbl hlo hlon) (boundA_ok hbh hhi hhin) hb.1.2 hb.2 hb.1.1.2 (Nat.le_refl _),Sem.run_pure]
    ·cases h
  ·cases h
 ·rename_i e hu
  have zb:∀(z:Option (AV T)) (z':Option Value),zeroB z=true→(∀a,z=some a→∃v,z'=some v∧RepA C σ H w a v)→∃k,z'=some (.int k 0):=by
   intro z z' hz hzz;unfold zeroB at hz;split at hz
   ·obtain⟨v,h1,h2⟩:=hzz _ rfl
    have:=rep_i h2;subst this;simp at hz;subst hz;exact⟨_,h1⟩
   ·cases hz
  split at h
  ·rename_i m
   cases hb:zeroB (some m)&&isNone lo&&zeroB hi&&isSl x&& !isNone (sizeT P e)
   ·rw [hb]at h;cases h
   ·rw [hb]at h
    simp only [cond_true]at h;simp only [Bool.and_eq_true]at hb;obtain⟨k1,hk1⟩:=zb _ _ hb.1.1.1.1 hmx;obtain⟨k2,hk2⟩:=zb _ _ hb.1.1.2 hhi;have hk3:lo'=none:=hlon (by cases lo with|none=>rfl|some _ =>have:=hb.1.1.1.2;simp [isNone]at this);obtain⟨q,hq⟩:∃q,sizeT P e=some q:=by cases hs:sizeT P e with|none=>have:=hb.2;rw [hs]at this;simp [isNone]at this|some q=>exact⟨q,rfl⟩
    have hy:∃A n c,y= .slice A n c:=by
     have hx1:=hb.1.2;unfold isSl at hx1;split at hx1
     ·obtain⟨A,c,h1,_⟩:=repV_sl (show RepV C (Cell C σ H w) _ _ from hx);exact⟨A,_,c,h1⟩
     ·cases(show RepV C (Cell C σ H w) _ _ from hx);exact⟨_,_,_,rfl⟩
     ·exact hx.2.1
     ·exact⟨_,_,_,hx⟩
     ·obtain⟨A,h1⟩:=hx;exact⟨A,_,_,h1⟩
     ·obtain⟨_,b,_,_,h1,_⟩:=hx;exact⟨_,_,_,h1⟩
     ·cases hx1
    obtain⟨A,n,c,rfl⟩:=hy;subst hk1;subst hk2;subst hk3;refine good_val hR h (v:= .slice (if 0=0 then A else A.map (·.add (0*q))) (0-0) (0-0)) ?_ ⟨_,rfl⟩;have e1:∀(c:Nat),((0:Int)≤(c:Int)):=fun c=>by omega
    simp only [Instr.sliceAt,Sem.run_bind,run_underlying hu,Result.andThen_ok,Instr.slice,Instr.sliceBounds];simp only [Sem.run_bind,run_sliceBound k1 0 c _ (Int.le_refl 0) (e1 c),Result.andThen_ok,run_sliceBound k2 0 _ _ (Int.le_refl 0) (e1 _),Sem.run_pure,run_sizeOf' hq];rfl
  ·cases hsz:Nat.beq ((sizeT P e).getD 0) (C.size e)
   ·rw [hsz]at h;cases h
   ·rw [hsz]at h
    simp only [cond_true]at h;have hsz':=Nat.eq_of_beq_eq_true hsz;have hn:sizeT P e=some (C.size e):=by
     cases hs:sizeT P e with
     |none=>rw [hs]at hsz';have:=hC.pos e;simp at hsz';omega
     |some m=>rw [hs]at hsz';simp at hsz';rw [hsz']
    split at h
    ·rename_i c hc
     split at h
     ·rename_i l hh hbl hbh
      cases hb:decide (0≤hh)&&decide (hh≤(c.length:Int))&&decide (0≤l)&&decide (l≤hh)
      ·rw [hb]at h;cases h
      ·rw [hb]at h
       simp only [cond_true]at h;simp only [Bool.and_eq_true,decide_eq_true_eq]at hb;obtain⟨hst,hsl⟩:=content_sl hC hR hc hx;have h:K (.v (.sl e ((c.take hh.toNat).drop l.toNat))) (lentH x H) []=some r:=h;obtain⟨A,cp,rfl,h2,h3⟩:=repV_sl hsl;have hrun:((do pure (.value (←Instr.sliceAt t (.slice A c.length cp) lo' hi' mx')):Sem Next)).run P w=
         .ok (.value (.slice (if cp=l.toNat then A else A.map (·.add (l.toNat*C.size e))) (hh.toNat-l.toNat) (cp-l.toNat))) w:=by
        rw [hmxn rfl];simp only [Instr.sliceAt,Sem.run_bind,run_underlying hu,Result.andThen_ok,Instr.slice,
         run_sliceBounds true c.length cp (boundA_ok hbl hlo hlon) (boundA_ok hbh hhi hhin) hb.1.2 hb.2 hb.1.1.2 h2,run_sizeOf' hn,Sem.run_pure]
       refine .inl ⟨_,_,[],_,σ,w,h,.inl hrun,hst, ?_⟩;have hlen:((c.take hh.toNat).drop l.toNat).length=hh.toNat-l.toNat:=by simp;omega
       show RepV C (Cell C σ (lentH x H) w) _ _;by_cases hlh:hh.toNat-l.toNat=0
       ·have:(c.take hh.toNat).drop l.toNat=[]:=List.eq_nil_of_length_eq_zero (by rw [hlen];exact hlh)
        rw [this,hlh];exact .sl0 _ _ _
       ·rcases h3 with rfl|⟨b,off,rfl,h4⟩
        ·simp at hlen hlh;simp at hb;omega
        ·rw [if_neg (by omega),Option.map_some,add_none,←hlen]
         refine mk_sl (by rw [hlen];omega) (fun i hi k v hv=> ?_);rw [hlen]at hi;rw [List.getElem_drop,List.getElem_take]at hv;have:=h4 (l.toNat+i) (by omega) k v hv;rw [Nat.add_mul]at this
         rwa [show off+l.toNat*C.size e+i*C.size e+k=off+(l.toNat*C.size e+i*C.size e)+k by omega]
     ·cases h
    ·cases h
 ·cases h
theorem sliceA_q(hC:CdcOk C)(hR:Rp C σ H w G){t:Nat}{x:AV T}{y:Value}(hno:∀o,x≠.own o){lo hi mx:Option (AV T)}{lo' hi' mx':Option Value}(hx:RepA C σ H w x y)
  (hlo:∀a,lo=some a→∃v,lo'=some v∧RepA C σ H w a v) (hlon:lo=none→lo'=none) (hhi:∀a,hi=some a→∃v,hi'=some v∧RepA C σ H w a v) (hhin:hi=none→hi'=none)
  (hmx:∀a,mx=some a→∃v,mx'=some v∧RepA C σ H w a v) (hmxn:mx=none→mx'=none)
  {K:Kont T R} {r:R} (h:sliceA C P t x lo hi mx H K=some r):
  GoodQ C σ H w (((do pure (.value (←Instr.sliceAt t y lo' hi' mx')):Sem Next)).run P w) K r:=by
 unfold sliceA at h;split at h
 ·rename_i hu
  split at h
  ·rename_i s
   have:=rep_s hx;subst this;cases mx with
   |some _ =>cases h
   |none=>
    rw [hmxn rfl];simp only [isNone,cond_true]at h;split at h
    ·rename_i l hh hbl hbh
     cases hb:decide (0≤hh)&&decide (hh≤(s.size:Int))&&decide (0≤l)&&decide (l≤hh)
     ·rw [hb]at h;cases h
     ·rw [hb]at h
      simp only [cond_true]at h;simp only [Bool.and_eq_true,decide_eq_true_eq]at hb;refine good_q h ?_ (mk_s _);simp only [Instr.sliceAt,Sem.run_bind,run_underlying hu,Result.andThen_ok,Instr.slice,Option.isSome_none,Bool.false_eq_true,if_false,
       run_sliceBounds false s.size s.size (boundA_ok hbl hlo hlon) (boundA_ok hbh hhi hhin) hb.1.2 hb.2 hb.1.1.2 (Nat.le_refl _),Sem.run_pure]
    ·cases h
  ·cases h
 ·rename_i e hu
  have zb:∀(z:Option (AV T)) (z':Option Value),zeroB z=true→(∀a,z=some a→∃v,z'=some v∧RepA C σ H w a v)→∃k,z'=some (.int k 0):=by
   intro z z' hz hzz;unfold zeroB at hz;split at hz
   ·obtain⟨v,h1,h2⟩:=hzz _ rfl
    have:=rep_i h2;subst this;simp at hz;subst hz;exact⟨_,h1⟩
   ·cases hz
  split at h
  ·rename_i m
   cases hb:zeroB (some m)&&isNone lo&&zeroB hi&&isSl x&& !isNone (sizeT P e)
   ·rw [hb]at h;cases h
   ·rw [hb]at h
    simp only [cond_true]at h;simp only [Bool.and_eq_true]at hb;obtain⟨k1,hk1⟩:=zb _ _ hb.1.1.1.1 hmx;obtain⟨k2,hk2⟩:=zb _ _ hb.1.1.2 hhi;have hk3:lo'=none:=hlon (by cases lo with|none=>rfl|some _ =>have:=hb.1.1.1.2;simp [isNone]at this);obtain⟨q,hq⟩:∃q,sizeT P e=some q:=by cases hs:sizeT P e with|none=>have:=hb.2;rw [hs]at this;simp [isNone]at this|some q=>exact⟨q,rfl⟩
    have hy:∃A n c,y= .slice A n c:=by
     have hx1:=hb.1.2;unfold isSl at hx1;split at hx1
     ·obtain⟨A,c,h1,_⟩:=repV_sl (show RepV C (Cell C σ H w) _ _ from hx);exact⟨A,_,c,h1⟩
     ·cases(show RepV C (Cell C σ H w) _ _ from hx);exact⟨_,_,_,rfl⟩
     ·exact hx.2.1
     ·exact⟨_,_,_,hx⟩
     ·obtain⟨A,h1⟩:=hx;exact⟨A,_,_,h1⟩
     ·obtain⟨_,b,_,_,h1,_⟩:=hx;exact⟨_,_,_,h1⟩
     ·cases hx1
    obtain⟨A,n,c,rfl⟩:=hy;subst hk1;subst hk2;subst hk3;refine good_q h (v:= .slice (if 0=0 then A else A.map (·.add (0*q))) (0-0) (0-0)) ?_ ⟨_,rfl⟩;have e1:∀(c:Nat),((0:Int)≤(c:Int)):=fun c=>by omega
    simp only [Instr.sliceAt,Sem.run_bind,run_underlying hu,Result.andThen_ok,Instr.slice,Instr.sliceBounds];simp only [Sem.run_bind,run_sliceBound k1 0 c _ (Int.le_refl 0) (e1 c),Result.andThen_ok,run_sliceBound k2 0 _ _ (Int.le_refl 0) (e1 _),Sem.run_pure,run_sizeOf' hq];rfl
  ·cases hsz:Nat.beq ((sizeT P e).getD 0) (C.size e)
   ·rw [hsz]at h;cases h
   ·rw [hsz]at h
    simp only [cond_true]at h;have hsz':=Nat.eq_of_beq_eq_true hsz;have hn:sizeT P e=some (C.size e):=by
     cases hs:sizeT P e with
     |none=>rw [hs]at hsz';have:=hC.pos e;simp at hsz';omega
     |some m=>rw [hs]at hsz';simp at hsz';rw [hsz']
    split at h
    ·rename_i c hc
     split at h
     ·rename_i l hh hbl hbh
      cases hb:decide (0≤hh)&&decide (hh≤(c.length:Int))&&decide (0≤l)&&decide (l≤hh)
      ·rw [hb]at h;cases h
      ·rw [hb]at h
       simp only [cond_true]at h;simp only [Bool.and_eq_true,decide_eq_true_eq]at hb;obtain⟨hst,hsl⟩:=content_sl hC hR hc hx;have hlent:lentH x H=H:=by cases x<;>first|rfl|(exact(hno _ rfl).elim)
       have h:K (.v (.sl e ((c.take hh.toNat).drop l.toNat))) H []=some r:=by
        first
         |exact h
         |(have h2:K (.v (.sl e ((c.take hh.toNat).drop l.toNat))) (lentH x H) []=some r:=h
           rwa [hlent]at h2)
       rw [hlent]at hsl;obtain⟨A,cp,rfl,h2,h3⟩:=repV_sl hsl;have hrun:((do pure (.value (←Instr.sliceAt t (.slice A c.length cp) lo' hi' mx')):Sem Next)).run P w=
         .ok (.value (.slice (if cp=l.toNat then A else A.map (·.add (l.toNat*C.size e))) (hh.toNat-l.toNat) (cp-l.toNat))) w:=by
        rw [hmxn rfl];simp only [Instr.sliceAt,Sem.run_bind,run_underlying hu,Result.andThen_ok,Instr.slice,
         run_sliceBounds true c.length cp (boundA_ok hbl hlo hlon) (boundA_ok hbh hhi hhin) hb.1.2 hb.2 hb.1.1.2 h2,run_sizeOf' hn,Sem.run_pure]
       refine⟨_,_,h,hrun, ?_⟩;have hlen:((c.take hh.toNat).drop l.toNat).length=hh.toNat-l.toNat:=by simp;omega
       show RepV C (Cell C σ H w) _ _;by_cases hlh:hh.toNat-l.toNat=0
       ·have:(c.take hh.toNat).drop l.toNat=[]:=List.eq_nil_of_length_eq_zero (by rw [hlen];exact hlh)
        rw [this,hlh];exact .sl0 _ _ _
       ·rcases h3 with rfl|⟨b,off,rfl,h4⟩
        ·simp at hlen hlh;simp at hb;omega
        ·rw [if_neg (by omega),Option.map_some,add_none,←hlen]
         refine mk_sl (by rw [hlen];omega) (fun i hi k v hv=> ?_);rw [hlen]at hi;rw [List.getElem_drop,List.getElem_take]at hv;have:=h4 (l.toNat+i) (by omega) k v hv;rw [Nat.add_mul]at this
         rwa [show off+l.toNat*C.size e+i*C.size e+k=off+(l.toNat*C.size e+i*C.size e)+k by omega]
     ·cases h
    ·cases h
 ·cases h
end Go.Proofs.YtdoifigogbdodaaGreatDoor.Ev
