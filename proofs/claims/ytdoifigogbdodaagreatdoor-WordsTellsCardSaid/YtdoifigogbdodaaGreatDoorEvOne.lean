import Derived.Tactics
import Derived.Orders
import Derived.Recover
import Derived.Laws.World
import Derived.KernelRfl
import Derived.Laws.StructEq
import Derived.Laws.Cells
import Derived.Lib.FrozenHead
import Derived.ChangeKeysEq
import Derived.LaidEql
import Derived.IntWalk
set_option linter.unusedVariables false
set_option linter.unusedSimpArgs false
set_option maxHeartbeats 1000000
namespace Go.Proofs.YtdoifigogbdodaaGreatDoor.Ev
open Go
inductive V(T:Nat→Type):Type
 |b (x:Bool)
 |i (k:IntKind) (n:Int)
 |s (x:ByteArray)
 |sl (t:Nat) (l:List (T t))
 |pn
 |fn0
 |if0
 |ifx
 |nl
inductive AV(T:Nat→Type):Type
 |any
 |v (x:V T)
 |agg (l:List (AV T))
 |qu (l:List (AV T))
 |ptr (o off:Nat)
 |wu (o i off:Nat)
 |wU (t:Nat) (x:T t) (off:Nat)
 |vA (g off:Nat)
 |own (o:Nat)
 |sp (o:Nat)
 |yB (o off len cap:Nat)
 |qG
 |z0
 |fn (f:Fn) (first cap:List (AV T))
 |q9 (t:Nat) (x:AV T)
inductive zT(T:Nat→Type):Type
 |cells (e:Nat) (g:Option Nat) (l:List (AV T))
 |row (t:Nat) (l:List (T t)) (m:Bool)
 |j6 (s:ByteArray) (pos:Nat)
 |dead
structure wB(T:Nat→Type) where
 enc:(t:Nat)→T t→List (V T)
 dec:(t:Nat)→List (V T)→Option (T t)
 size:Nat→Nat
 typed:Nat→Bool
 bt:Nat
 ofB:Int→T bt
 toB:T bt→Int
def zUY{T:Nat→Type}(a b:V T):Prop:=b=a∨(a= .nl∧∃t,b= .sl t [])
structure yj{T:Nat→Type}(C:wB T):Prop where
 len:∀t x,(C.enc t x).length=C.size t
 dec:∀t cs x,C.dec t cs=some x→∀(j:Nat) a b,cs[j]? =some a→(C.enc t x)[j]? =some b→zUY a b
 zkx:∀t cs x,C.dec t cs=some x→cs.length=C.size t
 pos:∀t,0<C.size t
 zaK:∀x,C.enc C.bt x=[.i .u8 (C.toB x)]
 ofB:∀n,C.toB (C.ofB n)=n
variable {T:Nat→Type}
def zJZ:Value→AV T
 | .bool x=> .v (.b x)
 | .int k n=> .v (.i k n)
 | .string x=> .v (.s x)
 | .pointer none=> .v .pn
 | .nilFunc=> .v .fn0
 | .nilIface=> .v .if0
 | .slice none 0 0=> .qG
 | .func f ⟨[]⟩ ⟨[]⟩=> .fn f [] []
 |_ => .any
def ofConst:Value→AV T
 | .agg cs=> .agg (cs.toList.map zJZ)
 |x=>zJZ x
abbrev Env(T:Nat→Type):=Nat→AV T
def kT(env:Env T)(t:Nat)(x:AV T):Env T:=fun u=>bif Nat.beq u t then x else env u
def w8(env:Env T):Operand→AV T
 | .tmp t=>env t
 | .const x=>ofConst x
 | .global g=> .vA g 0
 | .func f=> .fn (.func f) [] []
def zJV:AV T→Option (List (AV T))
 | .agg l=>some l
 | .qu _ | .any=>none
 |x=>some [x]
def zZ4:AV T→Bool
 | .agg _ | .qu _ | .any=>false
 |_ =>true
mutual
def zH3(S:List Nat):AV T→AV T
 | .own o=>bif S.elem o then .any else .own o
 | .sp o=>bif S.elem o then .any else .sp o
 | .agg l=> .agg (jQ S l)
 | .qu l=> .qu (jQ S l)
 | .fn f a b=> .fn f (jQ S a) (jQ S b)
 | .q9 t x=> .q9 t (zH3 S x)
 | .any=> .any
 | .v x=> .v x
 | .ptr o k=>bif S.elem o then .any else .ptr o k
 | .wu o i k=>bif S.elem o then .any else .wu o i k
 | .wU t x k=> .wU t x k
 | .vA g k=> .vA g k
 | .yB o k n c=>bif S.elem o then .any else .yB o k n c
 | .qG=> .qG
 | .z0=> .z0
def jQ(S:List Nat):List (AV T)→List (AV T)
 |[]=>[]
 |x::l=>zH3 S x::jQ S l
end
def wI(S:List Nat):zT T→zT T
 | .cells e g l=> .cells e g (jQ S l)
 |x=>x
mutual
def below(n:Nat):AV T→Bool
 | .ptr o _ =>Nat.blt o n
 | .wu o _ _ =>Nat.blt o n
 | .own o=>Nat.blt o n
 | .sp o=>Nat.blt o n
 | .yB o _ _ _ =>Nat.blt o n
 | .agg l=>xE n l
 | .qu l=>xE n l
 | .fn _ a b=>xE n a&&xE n b
 | .q9 _ x=>below n x
 | .any| .v _ | .wU _ _ _ | .vA _ _ | .qG| .z0=>true
def xE(n:Nat):List (AV T)→Bool
 |[]=>true
 |x::l=>below n x&&xE n l
end
section types
variable (P:Program)
def qF(t:Nat):Option Nat:=(P.info? t).map (·.size)
def zUN(t:Nat):Option Nat:=(P.info? t).map (·.bytes)
def zEJ(t:Nat):Option (List (AV T)):=
 match(P.info? t).bind (·.zero)with
 |some z=>zJV (ofConst z)
 |none=>none
def zUO(t:Nat):Option Bool:=
 match P.underlying t with
 |some (.struct _)|some (.array _ _)=>some true
 |some _ =>some false
 |none=>none
def zTZ(t f:Nat):Option (Nat×Nat):=
 match P.underlying t with
 |some (.struct fs)=>(fs[f]?).map fun x=>(x.offset,x.type)
 |_ =>none
def zUa(t:Nat):Option Nat:=
 match P.underlying t with
 |some (.slice e)=>some e
 |_ =>none
end types
def yS{α:Type}(l:List α)(off:Nat)(vs:List α):List α:=l.take off++vs++l.drop (off+vs.length)
def whole{R:Type}(ag:Bool)(n:Nat)(cs:List (AV T))(K:AV T→Option R):Option R:=
 bif ag then(bif Nat.beq cs.length n then K (.agg cs)else none)
 else match cs with
  |[x]=>K x
  |_ =>none
def uY(C:wB T)(G:Nat→Option (List (AV T)))(H:List (zT T))(a:AV T)(n:Nat):Option (List (AV T)):=
 match a with
 | .ptr o off=>match H[o]? with
  |some (.cells _ _ l)=>some ((l.drop off).take n)
  |_ =>none
 | .wU t x off=>some ((((C.enc t x).map .v).drop off).take n)
 | .wu o i off=>match H[o]? with
  |some (.row t l _)=>(l[i]?).map fun x=>(((C.enc t x).map AV.v).drop off).take n
  |_ =>none
 | .vA g off=>(G g).map fun l=>(l.drop off).take n
 |_ =>none
end Go.Proofs.YtdoifigogbdodaaGreatDoor.Ev

namespace Go.Proofs.YtdoifigogbdodaaGreatDoor.Ev
open Go
variable {T:Nat→Type}
def live:zT T→Bool
 | .dead=>false
 |_ =>true
def vr:zT T→Bool
 | .row _ _ _ =>true
 |_ =>false
def svO(C:wB T):zT T→Option (Nat×Nat)
 | .row t l _ =>some (l.length,C.size t)
 |_ =>none
def svH(C:wB T)(H:List (zT T))(o:Nat):Option (Nat×Nat):=(H[o]?).bind (svO C)
theorem vM{C:wB T}{H:List (zT T)}{o t:Nat}{l:List (T t)}{m:Bool}(h:H[o]? =some (.row t l m)):svH C H o=some (l.length,C.size t):=by
 unfold svH;rw [h];rfl
def zER(C:wB T):zT T→Nat→Prop
 | .cells _ _ _,_ =>True
 | .row t l m,off=>m=true∨l.length*C.size t≤off
 | .j6 _ _,_ =>True
 | .dead,_ =>False
structure Lk where
 f:Nat→Option Nat
 F:Nat→Nat→Prop
instance:CoeFun Lk (fun _ =>Nat→Option Nat):=⟨Lk.f⟩
def Okc(C:wB T)(σ:Lk)(H:List (zT T))(b off:Nat):Prop:=¬σ.F b off∧∀i o,H[i]? =some o→σ i=some b→¬zER C o off
def Cell(C:wB T)(σ:Lk)(H:List (zT T))(w:World)(b off:Nat)(x:Value):Prop:=Okc C σ H b off∧w.cell? ⟨b,off,none⟩=some x
inductive zGt(enc:(t:Nat)→T t→List (V T))(size:Nat→Nat)(cell:Nat→Nat→Value→Prop):V T→Value→Prop
 |b (x:Bool):zGt enc size cell (.b x) (.bool x)
 |i (k:IntKind) (n:Int):zGt enc size cell (.i k n) (.int k n)
 |s (x:ByteArray):zGt enc size cell (.s x) (.string x)
 |sl0 (t:Nat) (A:Option Addr) (c:Nat):zGt enc size cell (.sl t []) (.slice A 0 c)
 |sl (t:Nat) (l:List (T t)) (blk off c:Nat) (xs:Nat→Nat→Value) (hc:l.length≤c)
   (h1:∀(i:Nat) (hi:i<l.length) (j:Nat),j<(enc t l[i]).length→cell blk (off+i*size t+j) (xs i j))
   (h2:∀(i:Nat) (hi:i<l.length) (j:Nat) (hj:j<(enc t l[i]).length),zGt enc size cell ((enc t l[i])[j]) (xs i j)):
   zGt enc size cell (.sl t l) (.slice (some ⟨blk,off,none⟩) l.length c)
 |pn:zGt enc size cell .pn (.pointer none)
 |fn0:zGt enc size cell .fn0 .nilFunc
 |if0:zGt enc size cell .if0 .nilIface
 |ifx (y:Value) (h:y= .nilIface∨∃te pe,y= .iface te pe):zGt enc size cell .ifx y
 |nl (A:Option Addr) (c:Nat):zGt enc size cell .nl (.slice A 0 c)
abbrev qI(C:wB T)(cell:Nat→Nat→Value→Prop):V T→Value→Prop:=zGt C.enc C.size cell
theorem qI.mono{C:wB T}{cell cell':Nat→Nat→Value→Prop}(h:∀b off x,cell b off x→cell' b off x){v:V T}{y:Value}
  (r:qI C cell v y):qI C cell' v y:=by
 induction r with
 |b x=>exact .b x
 |i k n=>exact .i k n
 |s x=>exact .s x
 |sl0 t A c=>exact .sl0 t A c
 |sl t l blk off c xs hc h1 _ ih=>exact .sl t l blk off c xs hc (fun i hi j hj=>h _ _ _ (h1 i hi j hj)) ih
 |pn=>exact .pn
 |fn0=>exact .fn0
 |if0=>exact .if0
 |ifx y h=>exact .ifx y h
 |nl A c=>exact .nl A c
def zQV(C:wB T)(cell:Nat→Nat→Value→Prop)(vs:List (V T))(b off:Nat):Prop:=
 ∀j v,vs[j]? =some v→∃y,cell b (off+j) y∧qI C cell v y
theorem zQV.mono{C:wB T}{cell cell':Nat→Nat→Value→Prop}(h:∀b off x,cell b off x→cell' b off x){vs:List (V T)}{b off:Nat}
  (r:zQV C cell vs b off):zQV C cell' vs b off:=fun j v hj=>by
 obtain⟨y,h1,h2⟩:=r j v hj;exact⟨y,h _ _ _ h1,h2.mono h⟩
section
variable (C:wB T) (σ:Lk) (H:List (zT T)) (w:World)
mutual
def zr:AV T→Value→Prop
 | .any,_ =>True
 | .v x,y=>qI C (Cell C σ H w) x y
 | .agg l,y=>∃vs,y= .agg vs∧yW l vs.toList
 | .qu l,y=>∃vs,y= .tuple vs∧yW l vs.toList
 | .ptr o off,y=>o<H.length∧∃b,σ o=some b∧y= .pointer (some ⟨b,off,none⟩)
 | .wu o i off,y=>o<H.length∧(∃a,y= .pointer (some a))∧∃b,σ o=some b∧∀n s,svH C H o=some (n,s)→y= .pointer (some ⟨b,i*s+off,none⟩)
 | .wU t x off,y=>∃b k,y= .pointer (some ⟨b,k+off,none⟩)∧zQV C (Cell C σ H w) (C.enc t x) b k
 | .vA g off,y=>y= .pointer (some ⟨g,off,none⟩)
 | .own o,y=>o<H.length∧(∃A n c,y= .slice A n c)∧∀n s,svH C H o=some (n,s)→(σ o=none∧y= .slice none 0 0)∨
   ∃b c cs e fz,σ o=some b∧y= .slice (some ⟨b,0,none⟩) n c∧w.heap[b]? =some (.cells cs e fz)∧cs.size=c*s
 | .sp o,y=>o<H.length∧(∃q,y= .pointer q)∧∀n s,svH C H o=some (n,s)→0<n→∃b,σ o=some b∧y= .pointer (some ⟨b,0,none⟩)
 | .yB o off n c,y=>o<H.length∧∃b,σ o=some b∧∃d,y= .slice (some ⟨b,off,none⟩) n d∧(n≤c→d=c)∧n≤d
 | .qG,y=>y= .slice none 0 0
 | .z0,y=>∃A,y= .slice A 0 0
 | .fn f first cap,y=>∃a b,y= .func f a b∧yW first a.toList∧yW cap b.toList
 | .q9 t x,y=>∃z,y= .iface t z∧zr x z
def yW:List (AV T)→List Value→Prop
 |[],ys=>ys=[]
 |x::l,ys=>∃y ys',ys=y::ys'∧zr x y∧yW l ys'
end
end
structure Move(C:wB T)(S:List Nat)(σ:Lk)(H:List (zT T))(w:World)(σ':Lk)(H':List (zT T))(w':World):Prop where
 cell:∀b off x,Cell C σ H w b off x→Cell C σ' H' w' b off x
 len:H.length≤H'.length
 sig:∀o,o<H.length→o∉S→σ' o=σ o
 row:∀o,o<H.length→o∉S→∀n s,svH C H' o=some (n,s)→svH C H o=some (n,s)∧
  ∀b,σ o=some b→∀cs e fz,w.heap[b]? =some (.cells cs e fz)→∃cs' e' fz',w'.heap[b]? =some (.cells cs' e' fz')∧cs'.size=cs.size
section
variable {C:wB T} {S:List Nat} {σ:Lk} {H:List (zT T)} {w:World} {σ':Lk} {H':List (zT T)} {w':World}
mutual
theorem zr.move(M:Move C S σ H w σ' H' w'):∀(x:AV T) (y:Value),zr C σ H w x y→zr C σ' H' w' (zH3 S x) y
 | .any,_,_ =>trivial
 | .v _,_,h=>h.mono M.cell
 | .agg l,_,⟨vs,h1,h2⟩=>⟨vs,h1,yW.move M l _ h2⟩
 | .qu l,_,⟨vs,h1,h2⟩=>⟨vs,h1,yW.move M l _ h2⟩
 | .ptr o off,y,⟨h0,b,h1,h2⟩=>by
  show zr C σ' H' w' (bif S.elem o then .any else .ptr o off) y;cases hs:S.elem o
  ·have hn:o∉S:=by simpa using hs
   exact⟨Nat.lt_of_lt_of_le h0 M.len,b,(M.sig o h0 hn).trans h1,h2⟩
  ·trivial
 | .wu o i off,y,⟨h0,hp,b,h1,h2⟩=>by
  show zr C σ' H' w' (bif S.elem o then .any else .wu o i off) y;cases hs:S.elem o
  ·have hn:o∉S:=by simpa using hs
   refine⟨Nat.lt_of_lt_of_le h0 M.len,hp,b,(M.sig o h0 hn).trans h1,fun n s h=> ?_⟩;exact h2 n s (M.row o h0 hn n s h).1
  ·trivial
 | .wU t x off,_,⟨b,k,h1,h2⟩=>⟨b,k,h1,h2.mono M.cell⟩
 | .vA _ _,_,h=>h
 | .own o,y,⟨h0,hp,h⟩=>by
  show zr C σ' H' w' (bif S.elem o then .any else .own o) y;cases hs:S.elem o
  ·have hn:o∉S:=by simpa using hs
   refine⟨Nat.lt_of_lt_of_le h0 M.len,hp,fun n s hr=> ?_⟩;obtain⟨h3,h5⟩:=M.row o h0 hn n s hr;rcases h n s h3 with⟨h6,h7⟩|⟨b,c,cs,e,fz,h6,h7,h8,h9⟩
   ·exact .inl ⟨(M.sig o h0 hn).trans h6,h7⟩
   ·obtain⟨cs',e',fz',h10,h11⟩:=h5 b h6 cs e fz h8
    exact .inr ⟨b,c,cs',e',fz',(M.sig o h0 hn).trans h6,h7,h10,h11.trans h9⟩
  ·trivial
 | .sp o,y,⟨h0,hp,h⟩=>by
  show zr C σ' H' w' (bif S.elem o then .any else .sp o) y;cases hs:S.elem o
  ·have hn:o∉S:=by simpa using hs
   refine⟨Nat.lt_of_lt_of_le h0 M.len,hp,fun n s hr h1=> ?_⟩;obtain⟨b,h2,h3⟩:=h n s (M.row o h0 hn n s hr).1 h1;exact⟨b,(M.sig o h0 hn).trans h2,h3⟩
  ·trivial
 | .yB o off n c,y,⟨h0,b,h1,h2⟩=>by
  show zr C σ' H' w' (bif S.elem o then .any else .yB o off n c) y;cases hs:S.elem o
  ·have hn:o∉S:=by simpa using hs
   exact⟨Nat.lt_of_lt_of_le h0 M.len,b,(M.sig o h0 hn).trans h1,h2⟩
  ·trivial
 | .qG,_,h=>h
 | .z0,_,h=>h
 | .fn f a b,_,⟨x,y,h1,h2,h3⟩=>⟨x,y,h1,yW.move M a _ h2,yW.move M b _ h3⟩
 | .q9 t x,_,⟨z,h1,h2⟩=>⟨z,h1,zr.move M x z h2⟩
theorem yW.move(M:Move C S σ H w σ' H' w'):∀(l:List (AV T)) (ys:List Value),yW C σ H w l ys→yW C σ' H' w' (jQ S l) ys
 |[],_,h=>h
 |x::l,_,⟨y,ys',h1,h2,h3⟩=>⟨y,ys',h1,zr.move M x y h2,yW.move M l ys' h3⟩
end
mutual
theorem zPC:∀(x:AV T),zH3 [] x=x
 | .any| .v _ | .wU _ _ _ | .vA _ _ | .qG| .z0=>rfl
 | .ptr _ _ | .wu _ _ _ | .own _ | .sp _ | .yB _ _ _ _ =>rfl
 | .agg l=>congrArg AV.agg (vI l)
 | .qu l=>congrArg AV.qu (vI l)
 | .fn f a b=>by show AV.fn f (jQ [] a) (jQ [] b)=_;rw [vI a,vI b]
 | .q9 t x=>congrArg (AV.q9 t) (zPC x)
theorem vI:∀(l:List (AV T)),jQ [] l=l
 |[]=>rfl
 |x::l=>by show zH3 [] x::jQ [] l=_;rw [zPC x,vI l]
end
theorem zr.gV(M:Move C [] σ H w σ' H' w'){x:AV T}{y:Value}(h:zr C σ H w x y):zr C σ' H' w' x y:=by
 have:=zr.move M x y h
 rwa [zPC]at this
theorem yW.gV(M:Move C [] σ H w σ' H' w'){x:List (AV T)}{y:List Value}(h:yW C σ H w x y):yW C σ' H' w' x y:=by
 have:=yW.move M x y h
 rwa [vI]at this
end
section
variable (C:wB T) (σ:Lk) (H:List (zT T)) (w:World)
def zet(cs:Array Value)(fz:Nat×Nat):Prop:=∀off,off<cs.size→¬(fz.1≤off∧off<fz.2)
def dq(i:Nat):zT T→Prop
 | .cells e none l=>∃b cs,σ i=some b∧w.heap[b]? =some (.cells cs e (0,0))∧yW C σ H w l cs.toList
 | .cells e (some _) l=>∃b cs ys rest,σ i=some b∧w.heap[b]? =some (.cells cs e (0,0))∧cs.toList=ys++rest∧yW C σ H w l ys
 | .row t l _ =>(l=[]∧σ i=none)∨∃b cs fz cap,σ i=some b∧w.heap[b]? =some (.cells cs t fz)∧zet cs fz∧cs.size=cap*C.size t∧l.length≤cap∧
   ∀(j:Nat) (h:j<l.length) (k:Nat) (v:V T),(C.enc t l[j])[k]? =some v→∃y,cs[j*C.size t+k]? =some y∧qI C (Cell C σ H w) v y
 | .j6 s pos=>∃b,σ i=some b∧w.heap[b]? =some (.stringIter s pos)
 | .dead=>True
structure Rp(G:Nat→Option (List (V T))):Prop where
 inj:∀i j oi oj b,H[i]? =some oi→H[j]? =some oj→live oi=true→live oj=true→σ i=some b→σ j=some b→i=j
 lt:∀i o b,H[i]? =some o→live o=true→σ i=some b→b<w.heap.size
 obj:∀i o,H[i]? =some o→dq C σ H w i o
 zDJ:∀g l,G g=some l→zQV C (Cell C σ H w) l g 0
 free:∀i o b,H[i]? =some o→live o=true→σ i=some b→∀off,¬σ.F b off
 fb:∀b off,σ.F b off→b<w.heap.size
end
structure Anc(C:wB T)(σ:Lk)(H:List (zT T))(w:World)(σ':Lk)(H':List (zT T))(w':World):Prop where
 F:σ'.F=σ.F
 os:w'.os=w.os
 tape:w'.tape=w.tape
 output:w'.output=w.output
 size:w.heap.size≤w'.heap.size
 len:H.length≤H'.length
 wP:∀b off,b<w.heap.size→Okc C σ H b off→Okc C σ' H' b off
 same:∀b off,b<w.heap.size→Okc C σ H b off→w'.cell? ⟨b,off,none⟩=w.cell? ⟨b,off,none⟩
 block:∀b,b<w.heap.size→(∀i o,H[i]? =some o→live o=true→σ i≠some b)→w'.heap[b]? =w.heap[b]?
 sig:∀i o,H[i]? =some o→vr o=false→σ' i=σ i
 fresh:∀i o b,H'[i]? =some o→live o=true→σ' i=some b→(∃o',H[i]? =some o'∧live o'=true∧σ i=some b)∨w.heap.size≤b
 kind:∀(i:Nat) (o o':zT T),H[i]? =some o→H'[i]? =some o'→vr o=false→vr o'=false
theorem uW{w:World}{b off:Nat}{x:Value}(h:w.cell? ⟨b,off,none⟩=some x):b<w.heap.size:=by
 unfold World.cell? at h;split at h
 ·rename_i hb
  exact(Array.getElem?_eq_some_iff.1 hb).1
 ·cases h
theorem Anc.refl(C:wB T)(σ:Lk)(H:List (zT T))(w:World):Anc C σ H w σ H w:=
 ⟨rfl,rfl,rfl,rfl,Nat.le_refl _,Nat.le_refl _,fun _ _ _ h=>h,fun _ _ _ _ =>rfl,fun _ _ _ =>rfl,fun _ _ _ _ =>rfl,fun _ o _ h1 h2 h3=> .inl ⟨o,h1,h2,h3⟩,fun _ o o' h h' hr=>by rw [h]at h';cases h';exact hr⟩
theorem Anc.trans{C:wB T}{σ σ' σ'':Lk}{H H' H'':List (zT T)}{w w' w'':World}(h:Anc C σ H w σ' H' w')(k:Anc C σ' H' w' σ'' H'' w''):
  Anc C σ H w σ'' H'' w'':=by
 have hget:∀(i:Nat) (o:zT T),H[i]? =some o→∃o',H'[i]? =some o':=fun i o hi=>
  ⟨_,List.getElem?_eq_getElem (Nat.lt_of_lt_of_le (List.getElem?_eq_some_iff.1 hi).1 h.len)⟩
 refine⟨k.F.trans h.F,k.os.trans h.os,k.tape.trans h.tape,k.output.trans h.output,Nat.le_trans h.size k.size,Nat.le_trans h.len k.len, ?_, ?_, ?_, ?_, ?_, ?_⟩
 ·exact fun b off hb ho=>k.wP b off (Nat.lt_of_lt_of_le hb h.size) (h.wP b off hb ho)
 ·exact fun b off hb ho=>(k.same b off (Nat.lt_of_lt_of_le hb h.size) (h.wP b off hb ho)).trans (h.same b off hb ho)
 ·intro b hb hn
  refine(k.block b (Nat.lt_of_lt_of_le hb h.size) fun i o h1 h2 h3=> ?_).trans (h.block b hb hn);rcases h.fresh i o b h1 h2 h3 with⟨o',h4,h5,h6⟩|h4
  ·exact hn i o' h4 h5 h6
  ·omega
 ·intro i o hi hr
  obtain⟨o',ho'⟩:=hget i o hi;exact(k.sig i o' ho' (h.kind i o o' hi ho' hr)).trans (h.sig i o hi hr)
 ·intro i o b hi hl hs
  rcases k.fresh i o b hi hl hs with⟨o',h1,h2,h3⟩|h1
  ·exact h.fresh i o' b h1 h2 h3
  ·exact .inr (Nat.le_trans h.size h1)
 ·intro i o o'' hi hi'' hr
  obtain⟨o',ho'⟩:=hget i o hi;exact k.kind i o' o'' ho' hi'' (h.kind i o o' hi ho' hr)
end Go.Proofs.YtdoifigogbdodaaGreatDoor.Ev

namespace Go.Proofs.YtdoifigogbdodaaGreatDoor.Ev
open Go
variable {T:Nat→Type} {C:wB T} {S:List Nat} {σ σ':Lk} {H H':List (zT T)} {w w':World} {G:Nat→Option (List (V T))}
theorem vd(o:zT T):wI [] o=o:=by
 cases o<;>simp [wI,vI]
theorem zUf(H:List (zT T)):H.map (wI [])=H:=by
 rw [List.map_congr_left (g:=id) (fun o _ =>vd o)];simp
theorem y8(o:zT T):live (wI S o)=live o:=by cases o<;>rfl
theorem zDd(o:zT T):vr (wI S o)=vr o:=by
 cases o with
 |cells e g l=>cases g<;>rfl
 |_ =>rfl
theorem zBP(o:zT T)(off:Nat):zER C (wI S o) off↔zER C o off:=by cases o<;>exact Iff.rfl
theorem wj{w w':World}{b off:Nat}(h:w'.heap[b]? =w.heap[b]?):w'.cell? ⟨b,off,none⟩=w.cell? ⟨b,off,none⟩:=by
 unfold World.cell?;simp only [h]
theorem j8{w:World}{b off:Nat}{cs:Array Value}{e:TypeId}{fz:Nat×Nat}(h:w.heap[b]? =some (.cells cs e fz)):
  w.cell? ⟨b,off,none⟩=cs[off]? :=by
 unfold World.cell?;simp [h]
theorem zMO{o:Nat}{p:Nat×Nat}(h:svH C H o=some p):∃x,H[o]? =some x∧svO C x=some p:=Option.bind_eq_some_iff.1 h
theorem zWp{o:Nat}{x:zT T}{p:Nat×Nat}(h:H[o]? =some x)(hx:svO C x=some p):svH C H o=some p:=by unfold svH;rw [h];exact hx
theorem zbO{x:zT T}{p:Nat×Nat}(h:svO C x=some p):vr x=true∧live x=true:=by
 cases x with
 |cells e g l=>cases h
 |row t l m=>exact⟨rfl,rfl⟩
 |j6=>cases h
 |dead=>cases h
theorem dq.cellsD{i e:Nat}{g:Option Nat}{l:List (AV T)}(h:dq C σ H w i (.cells e g l)):∃b cs ys rest,σ i=some b∧w.heap[b]? =some (.cells cs e (0,0))∧cs.toList=ys++rest∧yW C σ H w l ys∧
  ∀(σ':Lk) (H':List (zT T)) (w':World) (cs':Array Value) (ys':List Value) (l':List (AV T)),σ' i=some b→w'.heap[b]? =some (.cells cs' e (0,0))→cs'.toList=ys'++rest→ys'.length=ys.length→l'.length=l.length→yW C σ' H' w' l' ys'→
   dq C σ' H' w' i (.cells e g l'):=by
 cases g with
 |none=>
  obtain⟨b,cs,h1,h2,h4⟩:=h;refine⟨b,cs,cs.toList,[],h1,h2,by simp,h4,fun σ' H' w' cs' ys' l' k1 k2 k3 _ _ k4=>⟨b,cs',k1,k2, ?_⟩⟩;rw [List.append_nil]at k3;rw [k3];exact k4
 |some s=>
  obtain⟨b,cs,ys,rest,h1,h2,h3,h4⟩:=h;exact⟨b,cs,ys,rest,h1,h2,h3,h4,fun σ' H' w' cs' ys' l' k1 k2 k3 k4 k5 k6=>⟨b,cs',ys',rest,k1,k2,k3,k6⟩⟩
theorem zPq(o:zT T):∀n s,svO C (wI S o)=some (n,s)→svO C o=some (n,s):=by
 intro n s h;cases o with
 |cells e g l=>cases h
 |row t l m=>exact h
 |j6=>cases h
 |dead=>cases h
theorem dq.move{j:Nat}(M:Move C S σ H w σ' H' w')(hs:σ' j=σ j)(hb:∀b,σ j=some b→w'.heap[b]? =w.heap[b]?){o:zT T}
  (h:dq C σ H w j o):dq C σ' H' w' j (wI S o):=by
 cases o with
 |cells e g l=>
  cases g with
  |none=>
   obtain⟨b,cs,h1,h2,h4⟩:=h;exact⟨b,cs,hs.trans h1,(hb b h1).trans h2,h4.move M⟩
  |some s=>
   obtain⟨b,cs,ys,rest,h1,h2,h3,h4⟩:=h;exact⟨b,cs,ys,rest,hs.trans h1,(hb b h1).trans h2,h3,h4.move M⟩
 |row t l m=>
  rcases h with⟨h1,h2⟩|⟨b,cs,fz,cap,h1,h2,h3,h4,h5,h6⟩
  ·exact .inl ⟨h1,hs.trans h2⟩
  ·refine .inr ⟨b,cs,fz,cap,hs.trans h1,(hb b h1).trans h2,h3,h4,h5,fun j hj k v hv=> ?_⟩
   obtain⟨y,h7,h8⟩:=h6 j hj k v hv;exact⟨y,h7,h8.mono M.cell⟩
 |j6 s pos=>
  obtain⟨b,h1,h2⟩:=h;exact⟨b,hs.trans h1,(hb b h1).trans h2⟩
 |dead=>trivial
structure Step(C:wB T)(G:Nat→Option (List (V T)))(S:List Nat)(σ:Lk)(H:List (zT T))(w:World)(σ':Lk)(H':List (zT T))(w':World):Prop where
 rp:Rp C σ' H' w' G
 anc:Anc C σ H w σ' H' w'
 move:Move C S σ H w σ' H' w'
def add(σ:Lk)(n:Nat)(b:Option Nat):Lk:={σ with f:=fun i=>if i=n then b else σ i}
theorem zLj(hR:Rp C σ H w G)(o:zT T)(nb:Option Nat)(w':World)(hos:w'.os=w.os)(htp:w'.tape=w.tape)(hout:w'.output=w.output)
  (w9:w.heap.size≤w'.heap.size) (hblk:∀b,b<w.heap.size→w'.heap[b]? =w.heap[b]?) (hnb:∀b,nb=some b→w.heap.size≤b∧b<w'.heap.size)
  (hob:Move C [] σ H w (add σ H.length nb) (H++[o]) w'→dq C (add σ H.length nb) (H++[o]) w' H.length o):
  Step C G [] σ H w (add σ H.length nb) (H++[o]) w':=by
 have hget:∀i o',(H++[o])[i]? =some o'→(i<H.length∧H[i]? =some o'∧add σ H.length nb i=σ i)∨(i=H.length∧o'=o∧add σ H.length nb i=nb):=by
  intro i o' hi;rcases Nat.lt_trichotomy i H.length with h|h|h
  ·rw [List.getElem?_append_left h]at hi
   exact .inl ⟨h,hi,by simp [add];omega⟩
  ·subst h;simp at hi;exact .inr ⟨rfl,hi.symm,by simp [add]⟩
  ·rw [List.getElem?_eq_none (by simp;omega)]at hi;cases hi
 have hokc:∀b off,b<w.heap.size→Okc C σ H b off→Okc C (add σ H.length nb) (H++[o]) b off:=by
  intro b off hb ho;refine⟨ho.1,fun i o' hi hs=> ?_⟩;rcases hget i o' hi with⟨h1,h2,h3⟩|⟨h1,h2,h3⟩
  ·exact ho.2 i o' h2 (h3▸hs)
  ·rw [h3]at hs;have:=hnb b hs;omega
 have hcell:∀b off x,Cell C σ H w b off x→Cell C (add σ H.length nb) (H++[o]) w' b off x:=by
  intro b off x ⟨h1,h2⟩;have hb:=uW h2;exact⟨hokc b off hb h1,(wj (hblk b hb)).trans h2⟩
 have hM:Move C [] σ H w (add σ H.length nb) (H++[o]) w':=by
  refine⟨hcell,by simp,fun i hi _ =>by simp [add];omega,fun i hi _ n s h=> ?_⟩;have h':svH C H i=some (n,s):=by unfold svH at h⊢;rwa [List.getElem?_append_left hi]at h
  refine⟨h',fun b _ cs e fz hcs=> ?_⟩;have hb:b<w.heap.size:=(Array.getElem?_eq_some_iff.1 hcs).1;exact⟨cs,e,fz,(hblk b hb).trans hcs,rfl⟩
 refine⟨⟨?_, ?_, ?_,fun g l hg=>(hR.zDJ g l hg).mono hcell,fun i oi b hi hli hsi off hF=> ?_,fun b off hF=>Nat.lt_of_lt_of_le (hR.fb b off hF) w9⟩,⟨rfl,hos,htp,hout,w9,by simp,hokc, ?_,fun b hb _ =>hblk b hb, ?_, ?_, ?_⟩,hM⟩
 ·intro i j oi oj b hi hj hli hlj hsi hsj
  rcases hget i oi hi with⟨h1,h2,h3⟩|⟨h1,h2,h3⟩<;>rcases hget j oj hj with⟨k1,k2,k3⟩|⟨k1,k2,k3⟩
  ·exact hR.inj i j oi oj b h2 k2 hli hlj (h3▸hsi) (k3▸hsj)
  ·rw [h3]at hsi;rw [k3]at hsj;have:=hR.lt i oi b h2 hli hsi;have:=hnb b hsj;omega
  ·rw [h3]at hsi;rw [k3]at hsj;have:=hR.lt j oj b k2 hlj hsj;have:=hnb b hsi;omega
  ·omega
 ·intro i oi b hi hli hsi
  rcases hget i oi hi with⟨h1,h2,h3⟩|⟨h1,h2,h3⟩
  ·exact Nat.lt_of_lt_of_le (hR.lt i oi b h2 hli (h3▸hsi)) w9
  ·exact(hnb b (h3▸hsi)).2
 ·intro i oi hi
  rcases hget i oi hi with⟨h1,h2,h3⟩|⟨h1,h2,h3⟩
  ·by_cases hl:live oi=true
   ·have:=dq.move hM h3 (fun b hb=>hblk b (hR.lt i oi b h2 hl hb)) (hR.obj i oi h2)
    rwa [vd]at this
   ·cases oi<;>simp [live]at hl
    trivial
  ·subst h1;subst h2;exact hob hM
 ·rcases hget i oi hi with⟨h1,h2,h3⟩|⟨h1,h2,h3⟩
  ·exact hR.free i oi b h2 hli (h3▸hsi) off hF
  ·have:=(hnb b (h3▸hsi)).1;have:=hR.fb b off hF;omega
 ·intro b off hb _;exact wj (hblk b hb)
 ·intro i oi hi _
  have:=(List.getElem?_eq_some_iff.1 hi).1;simp [add];omega
 ·intro i oi b hi hl hs
  rcases hget i oi hi with⟨h1,h2,h3⟩|⟨h1,h2,h3⟩
  ·exact .inl ⟨oi,h2,hl,h3▸hs⟩
  ·exact .inr (hnb b (h3▸hs)).1
 ·intro i oi o' hi hi' hr
  have hlt:=(List.getElem?_eq_some_iff.1 hi).1;rw [List.getElem?_append_left hlt,hi]at hi';cases hi';exact hr
theorem zOL{α:Type}(f:α→α)(l:List α)(i:Nat)(x:α)(j:Nat)(y:α)(h:((l.set i x).map f)[j]? =some y):
  (j=i∧i<l.length∧y=f x)∨(j≠i∧∃z,l[j]? =some z∧y=f z):=by
 rw [List.getElem?_map,List.getElem?_set]at h;by_cases hij:i=j
 ·subst hij
  rw [if_pos rfl]at h;by_cases hl:i<l.length
  ·rw [if_pos hl]at h;exact .inl ⟨rfl,hl,by simpa using h.symm⟩
  ·rw [if_neg hl]at h;cases h
 ·rw [if_neg hij]at h
  refine .inr ⟨fun e=>hij e.symm, ?_⟩;cases hz:l[j]? with
  |none=>rw [hz]at h;cases h
  |some z=>rw [hz]at h;exact⟨z,rfl,by simpa using h.symm⟩
theorem zVm(hR:Rp C σ H w G){i:Nat}{o o':zT T}(nb:Option Nat)(w':World)(hi:H[i]? =some o)(hlo:live o=true)(hkind:vr o=false→vr o'=false)
  (hos:w'.os=w.os) (htp:w'.tape=w.tape) (hout:w'.output=w.output) (w9:w.heap.size≤w'.heap.size)
  (hblk:∀b,b<w.heap.size→σ i≠some b→w'.heap[b]? =w.heap[b]?)
  (hnb:∀b,live o'=true→nb=some b→(σ i=some b∧∀off,zER C o' off→zER C o off)∨(w.heap.size≤b∧b<w'.heap.size))
  (hsame:∀b off,σ i=some b→¬zER C o off→w'.cell? ⟨b,off,none⟩=w.cell? ⟨b,off,none⟩)
  (hsig:i∈S∨nb=σ i) (hrow:vr o=false→nb=σ i)
  (hS:i∈S∨∀n s,svO C o'=some (n,s)→svO C o=some (n,s)∧
   ∀b,σ i=some b→∀cs e fz,w.heap[b]? =some (.cells cs e fz)→∃cs' e' fz',w'.heap[b]? =some (.cells cs' e' fz')∧cs'.size=cs.size)
  (hob:Move C S σ H w (add σ i nb) ((H.set i o').map (wI S)) w'→dq C (add σ i nb) ((H.set i o').map (wI S)) w' i (wI S o')):
  Step C G S σ H w (add σ i nb) ((H.set i o').map (wI S)) w':=by
 have hlen:i<H.length:=(List.getElem?_eq_some_iff.1 hi).1;have hadd:∀j,j≠i→add σ i nb j=σ j:=fun j hj=>by simp [add,hj]
 have haddi:add σ i nb i=nb:=by simp [add]
 have hget:=fun j y h=>zOL (wI S) H i o' j y h
 have hokc:∀b off,b<w.heap.size→Okc C σ H b off→Okc C (add σ i nb) ((H.set i o').map (wI S)) b off:=by
  intro b off hb ho;refine⟨ho.1,fun j y hj hs=> ?_⟩;rcases hget j y hj with⟨h1,_,h3⟩|⟨h1,z,h2,h3⟩
  ·subst h1;subst h3
   rw [haddi]at hs;rw [zBP];intro hf;have hl':live o'=true:=by cases o'<;>first|rfl|exact hf.elim
   rcases hnb b hl' hs with⟨h4,h5⟩|⟨h4,h5⟩
   ·exact ho.2 _ o hi h4 (h5 off hf)
   ·omega
  ·subst h3
   rw [zBP];exact ho.2 j z h2 (hadd j h1▸hs)
 have hsame':∀b off,b<w.heap.size→Okc C σ H b off→w'.cell? ⟨b,off,none⟩=w.cell? ⟨b,off,none⟩:=by
  intro b off hb ho;by_cases hs:σ i=some b
  ·exact hsame b off hs (ho.2 i o hi hs)
  ·exact wj (hblk b hb hs)
 have hcell:∀b off x,Cell C σ H w b off x→Cell C (add σ i nb) ((H.set i o').map (wI S)) w' b off x:=fun b off x ⟨h1,h2⟩=>
  ⟨hokc b off (uW h2) h1,(hsame' b off (uW h2) h1).trans h2⟩
 have hother:∀j oj b,H[j]? =some oj→j≠i→live oj=true→σ j=some b→w'.heap[b]? =w.heap[b]? :=fun j oj b hj hji hl hs=>
  hblk b (hR.lt j oj b hj hl hs) fun hs'=>hji (hR.inj j i oj o b hj hi hl hlo hs hs')
 have hM:Move C S σ H w (add σ i nb) ((H.set i o').map (wI S)) w':=by
  refine⟨hcell,by simp,fun j _ hjS=> ?_,fun j hj hjS n s h=> ?_⟩
  ·by_cases hji:j=i
   ·subst hji;rw [haddi];exact hsig.resolve_left hjS
   ·exact hadd j hji
  ·obtain⟨x,hx,hxs⟩:=Option.bind_eq_some_iff.1 (show _ =some (n,s)from h)
   rcases hget j _ hx with⟨h1,_,h3⟩|⟨h1,z,h2,h3⟩
   ·subst h1;subst h3
    obtain⟨h4,h6⟩:=hS.resolve_left hjS n s (zPq o' n s hxs);exact⟨by unfold svH;rw [hi];exact h4,h6⟩
   ·subst h3
    have hz:=zPq z n s hxs;refine⟨by unfold svH;rw [h2];exact hz,fun b hb cs e fz hcs=>⟨cs,e,fz, ?_,rfl⟩⟩;have hlz:live z=true:=by cases z<;>first|rfl|(cases hz;done)
    exact(hother j _ b h2 h1 hlz hb).trans hcs
 refine⟨⟨?_, ?_, ?_,fun g l hg=>(hR.zDJ g l hg).mono hcell,fun j oj b hj hlj hsj off hF=> ?_,fun b off hF=>Nat.lt_of_lt_of_le (hR.fb b off hF) w9⟩,⟨rfl,hos,htp,hout,w9,by simp,hokc,hsame', ?_, ?_, ?_, ?_⟩,hM⟩
 ·intro j k oj ok b hj hk hlj hlk hsj hsk
  rcases hget j oj hj with⟨h1,_,h3⟩|⟨h1,z,h2,h3⟩<;>rcases hget k ok hk with⟨k1,_,k3⟩|⟨k1,z',k2,k3⟩
  ·omega
  ·subst h1
   rw [haddi]at hsj;rw [hadd k k1]at hsk;rw [h3,y8]at hlj;rw [k3,y8]at hlk;rcases hnb b hlj hsj with⟨h4,_⟩|⟨h4,_⟩
   ·exact hR.inj _ k o z' b hi k2 hlo hlk h4 hsk
   ·have:=hR.lt k z' b k2 hlk hsk;omega
  ·subst k1
   rw [haddi]at hsk;rw [hadd j h1]at hsj;rw [k3,y8]at hlk;rw [h3,y8]at hlj;rcases hnb b hlk hsk with⟨h4,_⟩|⟨h4,_⟩
   ·exact hR.inj j _ z o b h2 hi hlj hlo hsj h4
   ·have:=hR.lt j z b h2 hlj hsj;omega
  ·rw [hadd j h1]at hsj;rw [hadd k k1]at hsk
   rw [h3,y8]at hlj;rw [k3,y8]at hlk;exact hR.inj j k z z' b h2 k2 hlj hlk hsj hsk
 ·intro j oj b hj hlj hsj
  rcases hget j oj hj with⟨h1,_,h3⟩|⟨h1,z,h2,h3⟩
  ·subst h1
   rw [haddi]at hsj;rw [h3,y8]at hlj;rcases hnb b hlj hsj with⟨h4,_⟩|⟨_,h4⟩
   ·exact Nat.lt_of_lt_of_le (hR.lt _ o b hi hlo h4) w9
   ·exact h4
  ·rw [hadd j h1]at hsj;rw [h3,y8]at hlj
   exact Nat.lt_of_lt_of_le (hR.lt j z b h2 hlj hsj) w9
 ·intro j oj hj
  rcases hget j oj hj with⟨h1,_,h3⟩|⟨h1,z,h2,h3⟩
  ·subst h1;rw [h3];exact hob hM
  ·rw [h3]
   by_cases hl:live z=true
   ·exact dq.move hM (hadd j h1) (fun b hb=>hother j z b h2 h1 hl hb) (hR.obj j z h2)
   ·cases z<;>simp [live]at hl
    trivial
 ·rcases hget j oj hj with⟨h1,_,h3⟩|⟨h1,z,h2,h3⟩
  ·subst h1
   rw [haddi]at hsj;rw [h3,y8]at hlj;rcases hnb b hlj hsj with⟨h4,_⟩|⟨h4,_⟩
   ·exact hR.free _ o b hi hlo h4 off hF
   ·have h5:b<w.heap.size:=hR.fb b off hF
    omega
  ·rw [hadd j h1]at hsj;rw [h3,y8]at hlj
   exact hR.free j z b h2 hlj hsj off hF
 ·intro b hb hn
  exact hblk b hb (hn i o hi hlo)
 ·intro j oj hj hr
  by_cases hji:j=i
  ·subst hji;rw [haddi];rw [hi]at hj;cases hj;exact hrow hr
  ·exact hadd j hji
 ·intro j oj b hj hl hs
  rcases hget j oj hj with⟨h1,_,h3⟩|⟨h1,z,h2,h3⟩
  ·subst h1
   rw [haddi]at hs;rw [h3,y8]at hl;rcases hnb b hl hs with⟨h4,_⟩|⟨h4,_⟩
   ·exact .inl ⟨o,hi,hlo,h4⟩
   ·exact .inr h4
  ·rw [hadd j h1]at hs;rw [h3,y8]at hl
   exact .inl ⟨z,h2,hl,hs⟩
 ·intro j oj oj' hj hj' hr
  rcases hget j oj' hj' with⟨h1,_,h3⟩|⟨h1,z,h2,h3⟩
  ·subst h1;rw [hi]at hj;cases hj
   rw [h3,zDd];exact hkind hr
  ·rw [h2]at hj;cases hj
   rw [h3,zDd];exact hr
theorem step_mod(hR:Rp C σ H w G){i:Nat}{o o':zT T}(nb:Option Nat)(w':World)(hi:H[i]? =some o)(hlo:live o=true)(hkind:vr o=vr o')
  (hos:w'.os=w.os) (htp:w'.tape=w.tape) (hout:w'.output=w.output) (w9:w.heap.size≤w'.heap.size)
  (hblk:∀b,b<w.heap.size→σ i≠some b→w'.heap[b]? =w.heap[b]?)
  (hnb:∀b,live o'=true→nb=some b→(σ i=some b∧∀off,zER C o' off→zER C o off)∨(w.heap.size≤b∧b<w'.heap.size))
  (hsame:∀b off,σ i=some b→¬zER C o off→w'.cell? ⟨b,off,none⟩=w.cell? ⟨b,off,none⟩)
  (hsig:i∈S∨nb=σ i) (hrow:vr o=false→nb=σ i)
  (hS:i∈S∨∀n s,svO C o'=some (n,s)→svO C o=some (n,s)∧
   ∀b,σ i=some b→∀cs e fz,w.heap[b]? =some (.cells cs e fz)→∃cs' e' fz',w'.heap[b]? =some (.cells cs' e' fz')∧cs'.size=cs.size)
  (hob:Move C S σ H w (add σ i nb) ((H.set i o').map (wI S)) w'→dq C (add σ i nb) ((H.set i o').map (wI S)) w' i (wI S o')):
  Step C G S σ H w (add σ i nb) ((H.set i o').map (wI S)) w':=
 zVm hR nb w' hi hlo (fun h=>by rw [←hkind];exact h) hos htp hout w9 hblk hnb hsame hsig hrow hS hob
end Go.Proofs.YtdoifigogbdodaaGreatDoor.Ev

namespace Go.Proofs.YtdoifigogbdodaaGreatDoor.Ev
open Go
variable {T:Nat→Type}
def seq(a b:ByteArray):Bool:=a.data.toList==b.data.toList
def slt(a b:ByteArray):Bool:=Op.bytesLess a.data.toList b.data.toList
def qL:Nat:=9223372036854775807
def room(bytes:Nat):Nat:=140737488355328/bytes
def zcv(P:Program)(eq:Nat→AV T→AV T→Option Bool)(xs ys:List (AV T)):List Field→Option Bool
 |[]=>some true
 |f::fs=>
  match qF P f.type,zUO P f.type with
  |some n,some ag=>
   bif decide (f.name="_")then none else
   match whole ag n ((xs.drop f.offset).take n) some,whole ag n ((ys.drop f.offset).take n) some with
   |some a,some b=>match eq f.type a b with
    |some r=>match fs with
     |[]=>some r
     |_ =>(zcv P eq xs ys fs).map fun s=>r&&s
    |none=>none
   |_,_ =>none
  |_,_ =>none
def eqA(P:Program):Nat→Nat→AV T→AV T→Option Bool
 |0,_,_,_ =>none
 |d+1,t,x,y=>
  match P.underlying t,x,y with
  |some .bool,.v (.b a),.v (.b b)=>some (a==b)
  |some (.int _),.v (.i k a),.v (.i k' b)=>bif k==k' then some (a==b)else none
  |some .string,.v (.s a),.v (.s b)=>some (seq a b)
  |some (.struct fs),.agg xs,.agg ys=>bif P.stoodInHeld t then none else zcv P (eqA P d) xs ys fs.toList
  |some (.interface _),.v .if0,.v .if0=>some true
  |some (.interface _),.v .if0,.q9 _ _ =>some false
  |some (.interface _),.q9 _ _,.v .if0=>some false
  |some (.pointer _),.v .pn,.v .pn=>some true
  |some (.pointer _),.v .pn,.ptr _ _ =>some false
  |some (.pointer _),.ptr _ _,.v .pn=>some false
  |some (.pointer e),.ptr o k,.ptr o' k'=>bif Nat.beq o o'&&Nat.beq k k'&&(match qF P e with|some (_ +1)=>true|_ =>false)then some true else none
  |some (.pointer _),.v .pn,.wU _ _ _ =>some false
  |some (.pointer _),.wU _ _ _,.v .pn=>some false
  |some (.func _ _ _),.v .fn0,.v .fn0=>some true
  |some (.func _ _ _),.v .fn0,.fn _ _ _ =>some false
  |some (.func _ _ _),.fn _ _ _,.v .fn0=>some false
  |_,_,_ =>none
def zVv(P:Program)(t:Nat)(x y:Operand)(a b:AV T):Bool:=
 match a,b with
 | .v .if0,.v .if0=>(x matches .const _)||(y matches .const _)
 | .agg _,.agg _ => !P.eqGuardType P.depth t
 |_,_ =>true
section ops
variable {R:Type} (C:wB T) (P:Program) (G:Nat→Option (List (V T)))
def zDq(op:BinOp)(k:IntKind)(a b:Int)(K:AV T→Option R):Option R:=
 match op with
 | .add=>K (.v (.i k (k.wrap (a+b))))
 | .sub=>K (.v (.i k (k.wrap (a-b))))
 | .mul=>K (.v (.i k (k.wrap (a*b))))
 | .quo=>bif decide (b=0)then none else K (.v (.i k (k.wrap (a.tdiv b))))
 | .rem=>bif decide (b=0)then none else K (.v (.i k (a.tmod b)))
 | .and=>K (.v (.i k (k.wrap (BitVec.ofInt k.bits a&&&BitVec.ofInt k.bits b).toNat)))
 | .or=>K (.v (.i k (k.wrap (BitVec.ofInt k.bits a|||BitVec.ofInt k.bits b).toNat)))
 | .xor=>K (.v (.i k (k.wrap (BitVec.ofInt k.bits a^^^BitVec.ofInt k.bits b).toNat)))
 | .andNot=>K (.v (.i k (k.wrap (BitVec.ofInt k.bits a&&& ~~~(BitVec.ofInt k.bits b)).toNat)))
 | .eql=>K (.v (.b (a==b)))
 | .neq=>K (.v (.b (a !=b)))
 | .lss=>K (.v (.b (decide (a<b))))
 | .leq=>K (.v (.b (decide (a≤b))))
 | .gtr=>K (.v (.b (decide (a>b))))
 | .geq=>K (.v (.b (decide (a≥b))))
 |_ =>none
def zDh(op:BinOp)(k:IntKind)(a b:Int)(K:AV T→Option R):Option R:=
 bif decide (b<0)then none else
 match op with
 | .shl=>K (.v (.i k (k.wrap (a*2^(min b.toNat k.bits)))))
 | .shr=>K (.v (.i k (a.fdiv (2^(min b.toNat k.bits)))))
 |_ =>none
def zD5(op:BinOp)(a b:ByteArray)(K:AV T→Option R):Option R:=
 match op with
 | .add=>bif Nat.ble (a.size+b.size) qL then K (.v (.s (a++b)))else none
 | .eql=>K (.v (.b (seq a b)))
 | .neq=>K (.v (.b (!seq a b)))
 | .lss=>K (.v (.b (slt a b)))
 | .leq=>K (.v (.b (slt a b||seq a b)))
 | .gtr=>K (.v (.b (!(slt a b||seq a b))))
 | .geq=>K (.v (.b (!slt a b)))
 |_ =>none
def zWJ:BinOp→Bool
 | .shl| .shr=>true
 |_ =>false
def zWm(op:BinOp)(t:Nat)(x y:Operand)(a b:AV T)(K:AV T→Option R):Option R:=
 match a,b with
 | .v (.i k a),.v (.i k' b)=>bif zWJ op then zDh op k a b K else bif k==k' then zDq op k a b K else none
 | .v (.s a),.v (.s b)=>zD5 op a b K
 |a,b=>bif zVv P t x y a b then
   match op with
   | .eql=>(eqA P 6 t a b).bind fun r=>K (.v (.b r))
   | .neq=>(eqA P 6 t a b).bind fun r=>K (.v (.b (!r)))
   |_ =>none
  else none
def unA(op:UnOp)(a:AV T)(K:AV T→Option R):Option R:=
 match op,a with
 | .neg,.v (.i k n)=>K (.v (.i k (k.wrap (0-n))))
 | .xor,.v (.i k n)=>K (.v (.i k (k.wrap (BitVec.ofInt k.bits (if k.signed then-1 else k.max)^^^BitVec.ofInt k.bits n).toNat)))
 | .not,.v (.b x)=>K (.v (.b (!x)))
 |_,_ =>none
def zaH(t:Nat):Nat→Option (Nat×Nat):=
 match P.underlying t with
 |some (.struct fs)=>fun i=>(fs[i]?).bind fun f=>(qF P f.type).map fun n=>(f.offset,n)
 |some (.array _ e)=>fun i=>(qF P e).map fun n=>(i*n,n)
 |_ =>fun _ =>none
def zUD(t:Nat):Bool:=
 match P.underlying t with
 |some (.struct fs)=>fs.toList.all fun f=>match qF P f.type with|some _ =>true|none=>false
 |some (.array _ e)=>match qF P e with|some _ =>true|none=>false
 |_ =>false
def gR{α:Type}(l:List α):Nat→List α
 |0=>[]
 |k+1=>l++gR l k
def zMN(place:Nat→Option (Nat×Nat))(cells:List (AV T)):List (Nat×AV T)→Option (List (AV T))
 |[]=>some cells
 |(i,x)::rest=>
  match place i,zJV x with
  |some (off,n),some cs=>bif Nat.beq cs.length n&&Nat.ble (off+cs.length) cells.length then zMN place (yS cells off cs) rest else none
  |_,_ =>none
def jz(H:List (zT T))(e:Nat):AV T→Option (List (T e))
 | .v (.sl t l)=>if h:t=e then some (h▸l)else none
 | .own o=>match H[o]? with
  |some (.row t l _)=>if h:t=e then some (h▸l)else none
  |_ =>none
 | .v .nl=>some []
 | .qG=>some []
 | .z0=>some []
 |_ =>none
def zDN(o:Nat)(H:List (zT T)):List (zT T):=
 match H[o]? with
 |some (.row t l _)=>H.set o (.row t l false)
 |_ =>H
def vsK:List (AV T)→List (zT T)→(List (V T)→List (zT T)→Option R)→Option R
 |[],H,K=>K [] H
 | .v x::l,H,K=>vsK l H fun vs H=>K (x::vs) H
 | .qG::l,H,K=>vsK l H fun vs H=>K (.nl::vs) H
 | .z0::l,H,K=>vsK l H fun vs H=>K (.nl::vs) H
 | .own o::l,H,K=>match H[o]? with
  |some (.row t c _)=>vsK l (zDN o H) fun vs H=>K (.sl t c::vs) H
  |_ =>none
 |_ ::_,_,_ =>none
def zdw(e:Nat):Nat→List (V T)→Option (List (T e))
 |0,_ =>some []
 |k+1,vs=>(C.dec e (vs.take (C.size e))).bind fun x=>(zdw e k (vs.drop (C.size e))).bind fun l=>some (x::l)
abbrev yZ(T:Nat→Type)(R:Type):=AV T→List (zT T)→List Nat→Option R
def zPZ(e:Nat)(H:List (zT T))(K:yZ T R):Option R:=
 match zEJ P e with
 |some z=>K (.ptr H.length 0) (H++[.cells e none z]) []
 |none=>none
def zbo(e:Nat)(x:AV T)(H:List (zT T))(K:yZ T R):Option R:=
 match zJV x with
 |some cs=>K (.ptr H.length 0) (H++[.cells e none cs]) []
 |none=>none
def zDj(t:Nat)(parts:List (Nat×AV T))(H:List (zT T))(K:yZ T R):Option R:=
 match zEJ P t with
 |some z=>bif zUD P t then match zMN (zaH P t) z parts with
  |some cs=>K (.agg cs) H []
  |none=>none
  else none
 |none=>none
def kU(t len:Nat)(parts:List (Nat×AV T))(H:List (zT T))(K:yZ T R):Option R:=
 match zUa P t with
 |some e=>match qF P e,zEJ P e with
  |some n,some z=>bif Nat.beq z.length n&&Nat.ble (len*n) 16777216&&Nat.ble 1 n then
    match zMN (fun i=>some (i*n,n)) (gR z len) parts with
    |some cs=>bif C.typed e then
       bif Nat.beq (C.size e) n then vsK cs H fun vs H=>(zdw C e len vs).bind fun l=>K (.own H.length) (H++[.row e l true]) []else none
      else K (.yB H.length 0 len len) (H++[.cells e none cs]) []
    |none=>none
   else none
  |_,_ =>none
 |none=>none
def zCk(t:Nat)(a:AV T)(H:List (zT T))(K:yZ T R):Option R:=
 match qF P t,zUO P t with
 |some n,some ag=>match uY C (fun g=>(G g).map fun l=>l.map AV.v) H a n with
  |some cs=>whole ag n cs fun x=>K x H []
  |none=>none
 |_,_ =>none
def zec(t:Nat)(a:AV T)(H:List (zT T))(K:yZ T R):Option R:=
 match a with
 | .wu o i off=>match qF P t,zUO P t with
  |some n,some ag=>match H[o]? with
   |some (.row u l _)=>(l[i]?).bind fun x=>whole ag n ((((C.enc u x).map AV.v).drop off).take n) fun x=>K x H []
   |_ =>none
  |_,_ =>none
 |a=>zCk C P G t a H K
theorem zCx{t:Nat}{a:AV T}{H:List (zT T)}{K:yZ T R}:zec C P G t a H K=zCk C P G t a H K:=by
 cases a<;>try rfl
 rename_i o i off;simp only [zec,zCk,uY];cases qF P t<;>cases zUO P t<;>try rfl
 simp only;cases ho:H[o]? with
 |none=>rfl
 |some x=>
  cases x<;>try rfl
  rename_i u l m;simp only;cases l[i]? <;>rfl
def zBR:List (AV T)→Bool
 |[]=>true
 |x::l=>zZ4 x&&zBR l
def zPL(t:Nat)(a x:AV T)(H:List (zT T))(K:yZ T R):Option R:=
 match qF P t,zJV x with
 |some n,some cs=>bif Nat.beq cs.length n&&zBR cs then
   match a with
   | .ptr o off=>match H[o]? with
    |some (.cells e g l)=>bif Nat.ble (off+cs.length) l.length then K .any (H.set o (.cells e g (yS l off cs))) []else none
    |_ =>none
   | .wu o i off=>vsK cs H fun vs H=>match H[o]? with
    |some (.row e l true)=>match l[i]? with
     |some y=>bif Nat.ble (off+vs.length) (C.size e)then
       (C.dec e (yS (C.enc e y) off vs)).bind fun z=>K .any (H.set o (.row e (l.set i z) true)) []
      else none
     |none=>none
    |_ =>none
   |_ =>none
  else none
 |_,_ =>none
def vZ(s f:Nat)(a:AV T)(H:List (zT T))(K:yZ T R):Option R:=
 match zTZ P s f with
 |some (off,t)=>match qF P t with
  |some (_ +1)=>match a with
   | .ptr o k=>K (.ptr o (k+off)) H []
   | .wu o i k=>K (.wu o i (k+off)) H []
   | .wU e x k=>K (.wU e x (k+off)) H []
   | .vA g k=>K (.vA g (k+off)) H []
   |_ =>none
  |_ =>none
 |none=>none
def zDP(s f:Nat)(a:AV T)(H:List (zT T))(K:yZ T R):Option R:=
 match zTZ P s f,a with
 |some (off,t),.agg cs=>match qF P t,zUO P t with
  |some n,some ag=>whole ag n ((cs.drop off).take n) fun x=>K x H []
  |_,_ =>none
 |_,_ =>none
def vc(t:Nat)(a i:AV T)(H:List (zT T))(K:yZ T R):Option R:=
 match P.underlying t,i with
 |some (.slice e),.v (.i _ n)=>match qF P e with
  |some k=>match a with
   | .own o=>match H[o]? with
    |some (.row e' l _)=>bif Nat.beq k (C.size e')&&decide (0≤n)&&Nat.blt n.toNat l.length then K (.wu o n.toNat 0) H []else none
    |_ =>none
   | .v (.sl e' l)=>bif Nat.beq k (C.size e')&&decide (0≤n)then(l[n.toNat]?).bind fun x=>K (.wU e' x 0) H []else none
   | .yB o off len _ =>bif decide (0≤n)&&Nat.blt n.toNat len then K (.ptr o (off+n.toNat*k)) H []else none
   |_ =>none
  |none=>none
 |some (.array len e),.v (.i _ n)=>match qF P e with
  |some k=>bif decide (0≤n)&&Nat.blt n.toNat len then
    match a with
    | .ptr o off=>K (.ptr o (off+n.toNat*k)) H []
    | .vA g off=>K (.vA g (off+n.toNat*k)) H []
    | .wU e' x off=>K (.wU e' x (off+n.toNat*k)) H []
    |_ =>none
   else none
  |none=>none
 |_,_ =>none
def zDX(t:Nat)(a i:AV T)(H:List (zT T))(K:yZ T R):Option R:=
 match P.underlying t,a,i with
 |some .string,.v (.s s),.v (.i _ n)=>bif decide (0≤n)then(s.data.toList[n.toNat]?).bind fun b=>K (.v (.i .u8 b.toNat)) H []else none
 |some (.array len e),.agg cs,.v (.i _ n)=>match qF P e,zUO P e with
  |some k,some ag=>bif decide (0≤n)&&Nat.blt n.toNat len then whole ag k ((cs.drop (n.toNat*k)).take k) fun x=>K x H []else none
  |_,_ =>none
 |_,_,_ =>none
def zFW(d:Int):Option (AV T)→Option Int
 |none=>some d
 |some (.v (.i _ n))=>some n
 |_ =>none
def isNone{α:Type}:Option α→Bool
 |none=>true
 |_ =>false
def zH9:Option (AV T)→Bool
 |some (.v (.i _ n))=>decide (n=0)
 |_ =>false
def zev:AV T→Bool
 | .v (.sl _ _)| .v .nl| .own _ | .qG| .z0| .yB _ _ _ _ =>true
 |_ =>false
def jg(t:Nat)(a:AV T)(lo hi mx:Option (AV T))(H:List (zT T))(K:yZ T R):Option R:=
 match P.underlying t with
 |some .string=>match a with
  | .v (.s s)=>bif isNone mx then match zFW 0 lo,zFW s.size hi with
    |some l,some h=>bif decide (0≤h)&&decide (h≤(s.size:Int))&&decide (0≤l)&&decide (l≤h)then K (.v (.s (s.extract l.toNat h.toNat))) H []else none
    |_,_ =>none
   else none
  |_ =>none
 |some (.slice e)=>match mx with
  |some m=>bif zH9 (some m)&&isNone lo&&zH9 hi&&zev a&& !isNone (qF P e)then K .z0 H []else none
  |none=>bif Nat.beq ((qF P e).getD 0) (C.size e)then match jz H e a with
    |some c=>match zFW 0 lo,zFW c.length hi with
     |some l,some h=>bif decide (0≤h)&&decide (h≤(c.length:Int))&&decide (0≤l)&&decide (l≤h)then
       K (.v (.sl e ((c.take h.toNat).drop l.toNat))) (match a with| .own o=>zDN o H|_ =>H) []else none
     |_,_ =>none
    |none=>none
   else none
 |_ =>none
def jV(a:AV T)(H:List (zT T))(K:yZ T R):Option R:=
 match a with
 | .ptr o k=>K (.ptr o k) H []
 | .wu o i k=>K (.wu o i k) H []
 | .wU t x k=>K (.wU t x k) H []
 | .vA g k=>K (.vA g k) H []
 | .fn (.func f) x y=>K (.fn (.func f) x y) H []
 |_ =>none
def zBY(src dst:Nat)(a:AV T)(H:List (zT T))(K:yZ T R):Option R:=
 match P.underlying src,P.underlying dst,a with
 |some (.int _),some (.int k),.v (.i _ n)=>K (.v (.i k (k.wrap n))) H []
 |some (.int _),some .string,.v (.i _ n)=>K (.v (.s (Utf8.encode n))) H []
 |some .string,some .string,.v (.s x)=>K (.v (.s x)) H []
 |some .string,some (.slice e),.v (.s x)=>match P.underlying e with
  |some (.int .u8)=>bif Nat.beq e C.bt&&Nat.beq ((qF P e).getD 0) 1&&Nat.beq (C.size e) 1&&Nat.ble x.size qL then
    K (.own H.length) (H++[.row C.bt (x.data.toList.map fun b=>C.ofB b.toNat) true]) []else none
  |_ =>none
 |some (.pointer t),some .unsafePointer,.ptr o k=>match H[o]?,P.info? t with
  |some (.cells _ none l),some j=>bif !Nat.beq j.size 0&&Nat.blt k l.length then K (.ptr o k) H []else none
  |_,_ =>none
 |some .unsafePointer,some (.pointer u),.ptr o k=>match H[o]?,P.info? u with
  |some (.cells e none l),some _ =>bif liesAt P P.depth e (l.length/P.cellsOf e) k u 1 then K (.ptr o k) H []else none
  |_,_ =>none
 |some (.slice e),some .string,a=>match P.underlying e with
  |some (.int .u8)=>bif Nat.beq (C.size C.bt) 1 then match jz H C.bt a with
    |some l=>K (.v (.s ⟨(l.map fun x=>UInt8.ofNat (C.toB x).toNat).toArray⟩)) H []
    |none=>none
   else none
  |_ =>none
 |_,_,_ =>none
def pZ(a:AV T)(asserted:Nat)(ok:Bool)(H:List (zT T))(K:yZ T R):Option R:=
 match P.underlying asserted with
 |some (.interface want)=>match a with
  | .q9 t x=>match P.info? t with
   |some i=>match Instr.missingMethod want i.methods with
    |none=>K (bif ok then .qu [.q9 t x,.v (.b true)]else .q9 t x) H []
    |some _ =>bif ok then match(P.info? asserted).bind (·.zero)with
      |some z=>K (.qu [ofConst z,.v (.b false)]) H []
      |none=>none
     else none
   |none=>none
  |_ =>none
 |some _ =>match a with
  | .q9 t x=>bif Nat.beq t asserted then K (bif ok then .qu [x,.v (.b true)]else x) H []
    else bif ok then match(P.info? asserted).bind (·.zero)with
     |some z=>K (.qu [ofConst z,.v (.b false)]) H []
     |none=>none
    else none
  | .v .if0=>bif ok then match(P.info? asserted).bind (·.zero)with
     |some z=>K (.qu [ofConst z,.v (.b false)]) H []
     |none=>none
    else none
  |_ =>none
 |none=>none
def zOQ(t:Nat)(a:AV T)(H:List (zT T))(K:yZ T R):Option R:=
 match P.underlying t,a with
 |some .string,.v (.s s)=>K (.ptr H.length 0) (H++[.j6 s 0]) []
 |_,_ =>none
def zVZ(it:AV T)(isString:Bool)(H:List (zT T))(K:yZ T R):Option R:=
 match isString,it with
 |true,.ptr o 0=>match H[o]? with
  |some (.j6 s pos)=>bif Nat.blt pos s.size then
    K (.qu [.v (.b true),.v (.i .i64 pos),.v (.i .i32 (Utf8.decode s pos).1)]) (H.set o (.j6 s (pos+(Utf8.decode s pos).2))) []
   else K (.qu [.v (.b false)]) H []
  |_ =>none
 |_,_ =>none
def xe(t:Nat)(len cap:AV T)(H:List (zT T))(K:yZ T R):Option R:=
 match zUa P t,len,cap with
 |some e,.v (.i _ n),.v (.i _ c)=>match qF P e,zEJ P e,zUN P e with
  |some k,some z,some bytes=>bif Nat.beq k (C.size e)&&Nat.beq z.length k&&decide (0≤n)&&decide (n≤c)&&decide ((bytes:Int)*c≤140737488355328)&&decide (c≤140737488355328)then
    vsK z H fun vs H=>(C.dec e vs).bind fun x=>K (.own H.length) (H++[.row e (List.replicate n.toNat x) true]) []
   else none
  |_,_,_ =>none
 |_,_,_ =>none
def zR0(t:Nat)(a:AV T)(H:List (zT T))(K:yZ T R):Option R:=
 match P.underlying t,a with
 |some .string,.v (.s s)=>K (.v (.i .i64 s.size)) H []
 |some (.slice _),.v (.sl _ l)=>K (.v (.i .i64 l.length)) H []
 |some (.slice _),.own o=>match H[o]? with
  |some (.row _ l _)=>K (.v (.i .i64 l.length)) H []
  |_ =>none
 |some (.slice _),.yB _ _ n _ =>K (.v (.i .i64 n)) H []
 |some (.slice _),.qG=>K (.v (.i .i64 0)) H []
 |some (.slice _),.z0=>K (.v (.i .i64 0)) H []
 |some (.slice _),.v .nl=>K (.v (.i .i64 0)) H []
 |some (.array n _),_ =>K (.v (.i .i64 n)) H []
 |_,_ =>none
def zEh(H:List (zT T))(e:Nat)(a:AV T):Option (List (T e)):=
 match a with
 | .v (.s x)=>if h:C.bt=e then some (h▸x.data.toList.map fun b=>C.ofB b.toNat)else none
 |a=>jz H e a
def zYs(t:Nat):Bool:=
 match P.underlying t with
 |some (.slice _)|some .string=>true
 |_ =>false
def zaJ{α:Type}:List α→Bool
 |[]=>true
 |_ =>false
def zF0(st xt:Nat)(a x:AV T)(H:List (zT T))(K:yZ T R):Option R:=
 match zUa P st with
 |some e=>match qF P e,zUN P e,zYs P xt,zEh C H e x,zEJ (T:=T) P e with
  |some n,some (bytes+1),true,some l2,some z=>bif Nat.beq n (C.size e)&&Nat.beq z.length n then
    match a with
    | .qG=>bif Nat.ble l2.length (room (bytes+1))then K (.own H.length) (H++[.row e l2 true]) []else none
    | .z0=>bif zaJ l2 then K .z0 H []else bif Nat.ble l2.length (room (bytes+1))then K (.own H.length) (H++[.row e l2 true]) []else none
    | .own o=>match H[o]? with
     |some (.row t l m)=>if h:t=e then bif Nat.ble (l.length+l2.length) (room (bytes+1))then K (.own o) ((H.set o (.row e ((h▸l)++l2) m)).map (wI [o])) [o]else none else none
     |_ =>none
    |_ =>none
   else none
  |_,_,_,_,_ =>none
 |none=>none
def zVw(dt:Nat)(a x:AV T)(H:List (zT T))(K:yZ T R):Option R:=
 match zUa P dt with
 |some e=>match qF P e,zEh C H e x,a with
  |some n,some l2,.own o=>match H[o]? with
   |some (.row t l true)=>bif Nat.beq n (C.size e)then if h:t=e then
     K (.v (.i .i64 ((min l2.length l.length:Nat):Int))) (H.set o (.row e (l2.take l.length++(h▸l:List (T e)).drop l2.length) true)) []else none else none
   |_ =>none
  |_,_,_ =>none
 |none=>none
def uZ(mx:Bool)(args:List (AV T))(H:List (zT T))(K:yZ T R):Option R:=
 match args with
 |[.v (.i k a),.v (.i _ b)]=>K (.v (.i k (bif mx then(if b>a then b else a)else(if b<a then b else a)))) H []
 |_ =>none
def gx(ty:Nat)(a:AV T)(H:List (zT T))(K:yZ T R):Option R:=
 match P.underlying ty with
 |some (.pointer _)=>match a with
  | .own o=>match H[o]? with
   |some (.row _ _ _)=>K (.sp o) H []
   |_ =>none
  | .qG=>K (.sp H.length) (H++[.dead]) []
  |_ =>none
 |_ =>none
def uo(l:List (T C.bt)):ByteArray:=⟨(l.map fun x=>UInt8.ofNat (C.toB x).toNat).toArray⟩
def zCc(pt:Nat)(p n:AV T)(H:List (zT T))(K:yZ T R):Option R:=
 match P.underlying pt,p,n with
 |some (.pointer e),.sp o,.v (.i .i64 k)=>match H[o]? with
  |some (.row t l _)=>if h:t=C.bt then
    bif Nat.beq e t&&Nat.beq (P.cellsOf e) 1&&Nat.beq (C.size C.bt) 1&&decide (k=(l.length:Int))&&Nat.ble l.length qL then
     K (.v (.s (uo C (h▸l)))) ((H.set o .dead).map (wI [o])) [o]else none else none
  |some .dead=>bif decide (k=0)then K (.v (.s ⟨#[]⟩)) H []else none
  |_ =>none
 |_,_,_ =>none
def zWC(t:Nat)(a:AV T)(H:List (zT T))(K:yZ T R):Option R:=zR0 P t a H K
def xo(t:Nat)(a i:AV T)(H:List (zT T))(K:yZ T R):Option R:=vc C P t a i H K
def vp(t:Nat)(a:AV T)(lo hi mx:Option (AV T))(H:List (zT T))(K:yZ T R):Option R:=
 match a,mx with
 | .yB o off n c,none=>match P.underlying t with
  |some (.slice e)=>match qF P e,zFW 0 lo,zFW n hi with
   |some k,some l,some h=>bif decide (0≤h)&&decide (h≤(n:Int))&&decide (0≤l)&&decide (l≤h)&&Nat.blt l.toNat c&&Nat.ble n c then K (.yB o (off+l.toNat*k) (h.toNat-l.toNat) (c-l.toNat)) H []else none
   |_,_,_ =>none
  |_ =>none
 |a,mx=>jg C P t a lo hi mx H K
def zLh(H:List (zT T))(k:Nat):AV T→Option (List (AV T))
 | .yB o off n _ =>match H[o]? with
  |some (.cells _ _ l)=>bif Nat.ble (off+n*k) l.length then some ((l.drop off).take (n*k))else none
  |_ =>none
 |_ =>none
def slT(t:Nat):Bool:=match P.underlying t with|some (.slice _)=>true|_ =>false
def zFr(st xt:Nat)(a x:AV T)(H:List (zT T))(K:yZ T R):Option R:=
 match zUa P st with
 |some e=>match qF P e,zUN P e,zEJ (T:=T) P e with
  |some (k+1),some (bytes+1),some z=>match a,x with
   | .yB o off n c,.yB o2 off2 m c2=>match zLh H (k+1) (.yB o off n c),zLh H (k+1) (.yB o2 off2 m c2)with
    |some l1,some l2=>bif Nat.beq n c&&Nat.blt 0 m&&Nat.beq z.length (k+1)&&Nat.ble (n+m) (room (bytes+1))&&zBR l2&&zYs P xt&&slT P xt then K (.yB H.length 0 (n+m) 0) (H++[.cells e (some 0) (l1++l2)]) []else none
    |_,_ =>none
   |_,_ =>none
  |_,_,_ =>none
 |none=>none
def zFl(st xt:Nat)(a x:AV T)(H:List (zT T))(K:yZ T R):Option R:=
 match a with
 | .yB o off n c=>zFr P st xt (.yB o off n c) x H K
 |a=>zF0 C P st xt a x H K
def vT(b:Builtin)(ty:Nat)(argTypes:Array TypeId)(args:List (AV T))(H:List (zT T))(K:yZ T R):Option R:=
 match b,argTypes.toList,args with
 | .len,t::_,a::_ =>zWC P t a H K
 | .append,[t,t2],[a,x]=>zFl C P t t2 a x H K
 | .copy,t::_,a::x::_ =>zVw C P t a x H K
 | .min,_,args=>uZ false args H K
 | .max,_,args=>uZ true args H K
 | .unsafeSliceData,_,[a]=>gx P ty a H K
 | .unsafeString,[pt,_],[p,n]=>zCc C P pt p n H K
 |_,_,_ =>none
def vV(o:Oper)(env:Env T)(H:List (zT T))(K:yZ T R)(Kp:AV T→List (zT T)→Option R):Option R:=
 match o.op with
 | .move x| .assign x=>K (w8 env x) H []
 | .pick c a b=>match w8 env c with
  | .v (.b c)=>bif c then K (w8 env a) H []else K (w8 env b) H []
  |_ =>none
 | .alloc e=>zPZ P e H K
 | .box e x=>zbo e (w8 env x) H K
 | .build t parts=>zDj P t (parts.toList.map fun p=>(p.1,w8 env p.2)) H K
 | .buildSlice t n parts=>kU C P t n (parts.toList.map fun p=>(p.1,w8 env p.2)) H K
 | .load t a=>zec C P G t (w8 env a) H K
 | .store t a x=>zPL C P t (w8 env a) (w8 env x) H K
 | .nilCheck x=>jV (w8 env x) H K
 | .binOp op t x y _ =>zWm P op t x y (w8 env x) (w8 env y) fun v=>K v H []
 | .unOp op _ x=>unA op (w8 env x) fun v=>K v H []
 | .convert s d x=>zBY C P s d (w8 env x) H K
 | .makeInterface t x=>match P.underlying t with
  |some (.interface _)=>none
  |some _ =>K (.q9 t (w8 env x)) H []
  |none=>none
 | .makeFunc f first cap=>K (.fn f (first.toList.map (w8 env)) (cap.toList.map (w8 env))) H []
 | .makeSlice t l c=>xe C P t (w8 env l) (w8 env c) H K
 | .slice t x lo hi mx=>vp C P t (w8 env x) (lo.map (w8 env)) (hi.map (w8 env)) (mx.map (w8 env)) H K
 | .fieldAddr s x f=>vZ P s f (w8 env x) H K
 | .field s x f=>zDP P s f (w8 env x) H K
 | .indexAddr t x i=>xo C P t (w8 env x) (w8 env i) H K
 | .index t x i=>zDX P t (w8 env x) (w8 env i) H K
 | .range t x=>zOQ P t (w8 env x) H K
 | .next it s=>zVZ (w8 env it) s H K
 | .typeAssert x _ as ok=>pZ P (w8 env x) as ok H K
 | .extract t i=>match w8 env t with
  | .qu l=>match l[i]? with
   |some x=>K x H []
   |none=>none
  |_ =>none
 | .call {callee:= .builtin b,args,argTypes}=>vT C P b o.type argTypes (args.toList.map (w8 env)) H K
 | .panic x=>match w8 env x with
  | .q9 t y=>Kp (.q9 t y) H
  |_ =>none
 |_ =>none
end ops
end Go.Proofs.YtdoifigogbdodaaGreatDoor.Ev

namespace Go.Proofs.YtdoifigogbdodaaGreatDoor.Ev
open Go
variable {T:Nat→Type} {C:wB T} {P:Program} {σ:Lk} {H:List (zT T)} {w:World} {G:Nat→Option (List (V T))} {R:Type}
theorem zS8(x:Value):zr C σ H w (zJZ x) x:=by
 unfold zJZ;split
 ·exact .b _
 ·exact .i _ _
 ·exact .s _
 ·exact .pn
 ·exact .fn0
 ·exact .if0
 ·rfl
 ·exact⟨_,_,rfl,rfl,rfl⟩
 ·trivial
theorem zQs:∀(l:List Value),yW C σ H w (l.map zJZ) l
 |[]=>rfl
 |x::l=>⟨x,l,rfl,zS8 x,zQs l⟩
theorem uc(x:Value):zr C σ H w (ofConst x) x:=by
 unfold ofConst;split
 ·exact⟨_,rfl,zQs _⟩
 ·exact zS8 _
def zHf(C:wB T)(σ:Lk)(H:List (zT T))(w:World)(env:Env T)(a:Act):Prop:=∀t,zr C σ H w (env t) (a.tmps.getD t undef)
theorem z7{env:Env T}{a:Act}(h:zHf C σ H w env a)(x:Operand):zr C σ H w (w8 env x) (a.eval x):=by
 cases x with
 |tmp t=>exact h t
 |const v=>exact uc v
 |global g=>exact rfl
 |func f=>exact⟨#[],#[],rfl,rfl,rfl⟩
theorem vN{env:Env T}{a:Act}(h:zHf C σ H w env a):∀(l:List Operand),yW C σ H w (l.map (w8 env)) (l.map a.eval)
 |[]=>rfl
 |x::l=>⟨_,_,rfl,z7 h x,vN h l⟩
theorem yW.length:∀{l:List (AV T)} {ys:List Value},yW C σ H w l ys→ys.length=l.length
 |[],_,h=>by cases h;rfl
 |_ ::_,_,⟨_,_,h,_,h2⟩=>by subst h;simp [yW.length h2]
theorem yW.get:∀{l:List (AV T)} {ys:List Value},yW C σ H w l ys→∀(j:Nat) (x:AV T),l[j]? =some x→∃y,ys[j]? =some y∧zr C σ H w x y
 |[],_,_,j,x,h=>by simp at h
 |a::l,_,⟨y,ys,h,h1,h2⟩,0,x,hj=>by subst h;simp at hj;subst hj;exact⟨y,rfl,h1⟩
 |a::l,_,⟨y,ys,h,h1,h2⟩,j+1,x,hj=>by subst h;simp at hj;exact yW.get h2 j x hj
theorem yW.zW7:∀{l:List (AV T)} {ys:List Value},ys.length=l.length→(∀(j:Nat) (x:AV T) (y:Value),l[j]? =some x→ys[j]? =some y→zr C σ H w x y)→yW C σ H w l ys
 |[],ys,h,_ =>by cases ys with|nil=>rfl|cons=>simp at h
 |x::l,[],h,_ =>by simp at h
 |x::l,y::ys,h,h1=>⟨y,ys,rfl,h1 0 x y rfl rfl,yW.zW7 (by simpa using h) fun j a b hj hb=>h1 (j+1) a b hj hb⟩
theorem yW.drop{l:List (AV T)}{ys:List Value}(h:yW C σ H w l ys)(n:Nat):yW C σ H w (l.drop n) (ys.drop n):=
 yW.zW7 (by simp [h.length]) fun j x y hj hy=>by
  simp at hj hy;obtain⟨z,h1,h2⟩:=h.get _ x hj;rw [h1]at hy;cases hy;exact h2
theorem yW.take{l:List (AV T)}{ys:List Value}(h:yW C σ H w l ys)(n:Nat):yW C σ H w (l.take n) (ys.take n):=
 yW.zW7 (by simp [h.length]) fun j x y hj hy=>by
  rw [List.getElem?_take]at hj hy;split at hj
  ·rename_i hlt
   rw [if_pos hlt]at hy;obtain⟨z,h1,h2⟩:=h.get _ x hj;rw [h1]at hy;cases hy;exact h2
  ·cases hj
theorem yW.append:∀{l m:List (AV T)} {ys zs:List Value},yW C σ H w l ys→yW C σ H w m zs→yW C σ H w (l++m) (ys++zs)
 |[],_,_,_,h,k=>by cases h;exact k
 |_ ::_,_,_,_,⟨y,ys,h,h1,h2⟩,k=>by subst h;exact⟨y,_,rfl,h1,yW.append h2 k⟩
def Good(P:Program)(C:wB T)(G:Nat→Option (List (V T)))(σ:Lk)(H:List (zT T))(w:World)(run:Result Next)(K:yZ T R)(Kp:AV T→List (zT T)→Option R)(r:R):Prop:=
 (∃x H' S v σ' w',K x H' S=some r∧(run= .ok (.value v) w'∨(run= .ok .skip w'∧v=undef))∧Step C G S σ H w σ' H' w'∧zr C σ' H' w' x v)∨
 ∃p H' v σ' w',Kp p H'=some r∧run= .halt (.panic v) w'∧Step C G [] σ H w σ' H' w'∧zr C σ' H' w' p v
theorem Move.refl(C:wB T)(σ:Lk)(H:List (zT T))(w:World):Move C [] σ H w σ H w:=
 ⟨fun _ _ _ h=>h,Nat.le_refl _,fun _ _ _ =>rfl,fun _ _ _ n s h=>⟨h,fun _ _ cs e fz h=>⟨cs,e,fz,h,rfl⟩⟩⟩
theorem Step.refl(hR:Rp C σ H w G):Step C G [] σ H w σ H w:=⟨hR,Anc.refl C σ H w,Move.refl C σ H w⟩
theorem zFy{w w':World}(h:w'.heap=w.heap)(a:Addr):w'.cell? a=w.cell? a:=by unfold World.cell?;rw [h]
theorem Step.heap{w':World}(hR:Rp C σ H w G)(h:w'.heap=w.heap)(hos:w'.os=w.os)(ht:w'.tape=w.tape)(ho:w'.output=w.output):Step C G [] σ H w σ H w':=by
 have hc:∀b off x,Cell C σ H w b off x→Cell C σ H w' b off x:=fun b off x ⟨h1,h2⟩=>⟨h1,(zFy h _).trans h2⟩
 have hM:Move C [] σ H w σ H w':=⟨hc,Nat.le_refl _,fun _ _ _ =>rfl,fun _ _ _ n s hl=>⟨hl,fun _ _ cs e fz hb=>⟨cs,e,fz,by rw [h];exact hb,rfl⟩⟩⟩
 refine⟨⟨hR.inj,fun i o b h1 h2 h3=>by rw [h];exact hR.lt i o b h1 h2 h3,fun i o hi=> ?_,fun g l hg=>(hR.zDJ g l hg).mono hc,hR.free,fun b off hF=>by rw [h];exact hR.fb b off hF⟩,⟨rfl,hos,ht,ho,by rw [h];exact Nat.le_refl _,Nat.le_refl _,fun _ _ _ h=>h,fun _ _ _ _ =>zFy h _,fun _ _ _ =>by rw [h],fun _ _ _ _ =>rfl,fun _ o _ h1 h2 h3=> .inl ⟨o,h1,h2,h3⟩,fun _ o o' h h' hr=>by rw [h]at h';cases h';exact hr⟩,hM⟩;have:=dq.move hM rfl (fun b _ =>by rw [h]) (hR.obj i o hi)
 rwa [vd]at this
def kX(C:wB T)(σ:Lk)(H:List (zT T))(w:World)(run:Result Next)(K:yZ T R)(r:R):Prop:=
 ∃x v,K x H []=some r∧run= .ok (.value v) w∧zr C σ H w x v
theorem yY{run:Result Next}{K:yZ T R}{r:R}{x:AV T}{v:Value}(hK:K x H []=some r)
  (hrun:run= .ok (.value v) w) (hx:zr C σ H w x v):kX C σ H w run K r:=⟨x,v,hK,hrun,hx⟩
theorem kX.zSm{run:Result Next}{K:yZ T R}{Kp:AV T→List (zT T)→Option R}{r:R}(hR:Rp C σ H w G)(h:kX C σ H w run K r):Good P C G σ H w run K Kp r:=by
 obtain⟨x,v,h1,h2,h3⟩:=h;exact .inl ⟨x,H,[],v,σ,w,h1,.inl h2,Step.refl hR,h3⟩
theorem qU{run:Result Next}{K:yZ T R}{Kp:AV T→List (zT T)→Option R}{r:R}(hR:Rp C σ H w G){x:AV T}{v:Value}(hK:K x H []=some r)
  (hrun:run= .ok (.value v) w) (hx:zr C σ H w x v):Good P C G σ H w run K Kp r:=
 .inl ⟨x,H,[],v,σ,w,hK,.inl hrun,Step.refl hR,hx⟩
theorem jc{k:IntKind}{n:Int}{y:Value}(h:zr C σ H w (.v (.i k n)) y):y= .int k n:=by
 have h':qI C (Cell C σ H w) (.i k n) y:=h;cases h';rfl
theorem zEt{n:Bool}{y:Value}(h:zr C σ H w (.v (.b n)) y):y= .bool n:=by
 have h':qI C (Cell C σ H w) (.b n) y:=h;cases h';rfl
theorem zCw{n:ByteArray}{y:Value}(h:zr C σ H w (.v (.s n)) y):y= .string n:=by
 have h':qI C (Cell C σ H w) (.s n) y:=h;cases h';rfl
theorem zAf(k:IntKind)(n:Int):zr C σ H w (.v (.i k n)) (.int k n):=zGt.i k n
theorem zSl(n:Bool):zr C σ H w (.v (.b n)) (.bool n):=zGt.b n
theorem zUy(n:ByteArray):zr C σ H w (.v (.s n)) (.string n):=zGt.s n
theorem zcN{op:BinOp}{k:IntKind}{a b:Int}{K:AV T→Option R}{r:R}(hs:zWJ op=false)(h:zDq op k a b K=some r):
  ∃z v,K z=some r∧(∀w,(binOp op 0 (.int k a) (.int k b)).run P w= .ok v w)∧∀w,zr C σ H w z v:=by
 cases op<;>simp only [zDq]at h<;>simp [zWJ]at hs
 case quo=>
  by_cases hb:b=0
  ·subst hb;simp at h
  ·simp [hb]at h
   exact⟨_,_,h,fun w=>by simp [binOp,Op.intDiv,hb],fun w=>zAf _ _⟩
 case rem=>
  by_cases hb:b=0
  ·subst hb;simp at h
  ·simp [hb]at h
   exact⟨_,_,h,fun w=>by simp [binOp,Op.intDiv,hb],fun w=>zAf _ _⟩
 all_goals first
  |exact⟨_,_,h,fun w=>by simp only [binOp,ne_eq,not_true,if_false];rfl,fun w=>zAf _ _⟩
  |exact⟨_,_,h,fun w=>by simp only [binOp,ne_eq,not_true,if_false];rfl,fun w=>zSl _⟩
  |cases h
theorem zeh{op:BinOp}{k k':IntKind}{a b:Int}{K:AV T→Option R}{r:R}(h:zDh op k a b K=some r)(hs:zWJ op=true):
  ∃z v,K z=some r∧(∀t w,(binOp op t (.int k a) (.int k' b)).run P w= .ok v w)∧∀w,zr C σ H w z v:=by
 unfold zDh at h;by_cases hb:b<0
 ·simp [hb]at h
 ·simp only [hb,decide_false,cond_false]at h
  cases op<;>simp [zWJ]at hs<;>exact⟨_,_,h,fun t w=>by simp [binOp,Op.shift,hb],fun w=>zAf _ _⟩
theorem seq_eq(a b:ByteArray):(a.toList==b.toList)=seq a b:=by rw [ByteArray.toList_eq,ByteArray.toList_eq];rfl
theorem zkZ(a b:ByteArray):Op.bytesLess a.toList b.toList=slt a b:=by rw [ByteArray.toList_eq,ByteArray.toList_eq];rfl
theorem zcG{op:BinOp}{a b:ByteArray}{K:AV T→Option R}{r:R}(h:zD5 op a b K=some r):
  ∃z v,K z=some r∧(∀t w,(binOp op t (.string a) (.string b)).run P w= .ok v w)∧∀w,zr C σ H w z v:=by
 cases op<;>simp only [zD5]at h
 case add=>
  cases hb:Nat.ble (a.size+b.size) qL
  ·rw [hb]at h;cases h
  ·rw [hb]at h
   have hle:=Nat.le_of_ble_eq_true hb;refine⟨_,_,h,fun t w=> ?_,fun w=>zUy _⟩;unfold qL at hle;have:¬(((a.size+b.size:Nat):Int)>IntKind.i64.max):=by
    have:IntKind.i64.max=9223372036854775807:=by decide
    omega
   simp [binOp,Op.stringOp]
   simpa using this
 all_goals first
  |exact⟨_,_,h,fun t w=>by simp only [binOp,Op.stringOp,seq_eq,zkZ,Sem.run_pure],fun w=>zSl _⟩
  |cases h
end Go.Proofs.YtdoifigogbdodaaGreatDoor.Ev

namespace Go.Proofs.YtdoifigogbdodaaGreatDoor.Ev
open Go
variable {T:Nat→Type} {C:wB T} {P:Program} {σ:Lk} {H:List (zT T)} {w:World} {G:Nat→Option (List (V T))} {R:Type}
theorem gq{t:Nat}{ag:Bool}(h:zUO P t=some ag)(w:World):(isAgg t).run P w= .ok ag w:=by
 unfold zUO at h;cases hu:P.underlying t with
 |none=>rw [hu]at h;cases h
 |some d=>
  rw [hu]at h;simp only [isAgg,Sem.run_bind,run_underlying hu,Result.andThen_ok];cases d<;>(simp at h;subst h;rfl)
theorem yg{t n:Nat}(h:qF P t=some n)(w:World):(sizeOf t).run P w= .ok n w:=by
 unfold qF at h;cases hi:P.info? t with
 |none=>rw [hi]at h;cases h
 |some i=>rw [hi]at h;simp at h;subst h;simp only [sizeOf,Sem.run_bind,run_typeInfo w hi,Result.andThen_ok,Sem.run_pure]
theorem take_one{α:Type}{l:List α}{off n:Nat}{x:α}(h:(l.drop off).take n=[x]):l[off]? =some x:=by
 have h0:((l.drop off).take n)[0]? =some x:=by rw [h];rfl
 rw [List.getElem?_take]at h0;split at h0
 ·simpa using h0
 ·cases h0
theorem zJX{ag:Bool}{n:Nat}{cs:List (AV T)}{K:AV T→Option R}{r:R}(h:whole ag n cs K=some r):
  (ag=true∧cs.length=n∧K (.agg cs)=some r)∨(ag=false∧∃x,cs=[x]∧K x=some r):=by
 unfold whole at h;cases ag
 ·simp only [cond_false]at h
  split at h
  ·exact .inr ⟨rfl,_,rfl,h⟩
  ·cases h
 ·simp only [cond_true]at h
  cases hb:Nat.beq cs.length n
  ·rw [hb]at h;cases h
  ·rw [hb]at h
   exact .inl ⟨rfl,Nat.eq_of_beq_eq_true hb,h⟩
theorem zSf{t n off:Nat}{ag:Bool}(hn:qF P t=some n)(ha:zUO P t=some ag){cs:List (AV T)}{ys:Array Value}(hr:yW C σ H w cs ys.toList)
  {K:AV T→Option R} {r:R} (h:whole ag n ((cs.drop off).take n) K=some r):
  ∃x v,K x=some r∧(∀w',(part t ys off).run P w'= .ok v w')∧zr C σ H w x v:=by
 rcases zJX h with⟨rfl,hl,hK⟩|⟨rfl,x,hx,hK⟩
 ·refine⟨_,.agg (ys.extract off (off+n)),hK,fun w'=> ?_,_,rfl, ?_⟩
  ·simp only [part,Sem.run_bind,gq ha,Result.andThen_ok,if_true,yg hn,Sem.run_pure]
  ·have:=(hr.drop off).take n
   rwa [show(ys.extract off (off+n)).toList=(ys.toList.drop off).take n by simp [Array.toList_extract]]
 ·have h1:=take_one hx
  obtain⟨y,h2,h3⟩:=hr.get off x h1;refine⟨x,y,hK,fun w'=> ?_,h3⟩;simp only [part,Sem.run_bind,gq ha,Result.andThen_ok,Bool.false_eq_true,if_false];rw [show ys[off]? =some y by simpa using h2];rfl
theorem zXh{t:Nat}{fs:Array Field}(h:P.underlying t=some (.struct fs)):P.fieldsOf t=fs:=by simp [Program.fieldsOf,h]
theorem zhO{eq:Nat→AV T→AV T→Option Bool}{D:Nat}(heq:∀t x y b vx vy,eq t x y=some b→zr C σ H w x vx→zr C σ H w y vy→∀w',(Op.equalIn D t vx vy).run P w'= .ok b w')
  {xs ys:List (AV T)} {us vs:Array Value} (hx:yW C σ H w xs us.toList) (hy:yW C σ H w ys vs.toList):
  ∀(fs:List Field) (b:Bool),zcv P eq xs ys fs=some b→∀w',(Op.eqFields D us vs fs).run P w'= .ok b w':=by
 intro fs
 induction fs with
 |nil=>intro b h w';simp [zcv]at h;subst h;rfl
 |cons f fs ih=>
  intro b h w';simp only [zcv]at h;split at h
  ·rename_i n ag hn ha
   by_cases hname:f.name="_"
   ·simp [hname]at h
   ·simp only [hname,decide_false,cond_false]at h
    split at h
    ·rename_i a c hwa hwc
     obtain⟨x,v,hx1,hx2,hx3⟩:=zSf hn ha hx hwa;obtain⟨y,u,hy1,hy2,hy3⟩:=zSf hn ha hy hwc;cases hx1;cases hy1;split at h
     ·rename_i r hr
      have hrun:=heq f.type _ _ r v u hr hx3 hy3;simp only [Op.eqFields,hname,ne_eq,not_false_eq_true,if_true,Sem.run_bind,hx2,hy2,Result.andThen_ok,hrun];cases fs with
      |nil=>
       simp only [Option.some.injEq]at h;subst h;cases r<;>rfl
      |cons g gs=>
       cases hs:zcv P eq xs ys (g::gs)with
       |none=>simp only [hs,Option.map_none]at h;cases h
       |some s=>
        simp only [hs,Option.map_some,Option.some.injEq]at h;subst h;cases r
        ·rfl
        ·exact ih s hs w'
     ·cases h
    ·cases h
  ·cases h
theorem zlK:∀(d t:Nat) (x y:AV T) (b:Bool) (vx vy:Value),eqA P d t x y=some b→zr C σ H w x vx→zr C σ H w y vy→
  ∀D,d≤D→∀w',(Op.equalIn D t vx vy).run P w'= .ok b w':=by
 intro d
 induction d with
 |zero=>intro t x y b vx vy h;simp [eqA]at h
 |succ d ih=>
  intro t x y b vx vy h hx hy D hD w';obtain⟨D,rfl⟩:∃k,D=k+1:=⟨D-1,by omega⟩
  have hD':d≤D:=by omega
  simp only [eqA]at h;split at h
  ·rename_i hu;cases h;have:=zEt hx;have:=zEt hy;subst_vars
   exact run_equalIn_bool' w' D t _ _ hu
  ·rename_i k₀ k a k' b' hu
   cases hk:k==k'
   ·rw [hk]at h;cases h
   ·rw [hk]at h;cases h
    have:=eq_of_beq hk;have:=jc hx;have:=jc hy;subst_vars;exact run_equalIn_int w' D t _ _ _ _ hu
  ·rename_i hu;cases h;have:=zCw hx;have:=zCw hy;subst_vars
   rw [run_equalIn_string w' D t _ _ hu,seq_eq]
  ·rename_i fs xs ys hu
   cases hst:P.stoodInHeld t
   ·rw [hst]at h
    simp only [cond_false]at h;obtain⟨us,rfl,h1⟩:=hx;obtain⟨vs,rfl,h2⟩:=hy;have hf:=zXh hu;rw [run_equalIn_struct w' D t us vs (by rw [hf];exact hu) hst,hf];exact zhO (fun t x y b vx vy h hx hy w'=>ih t x y b vx vy h hx hy D hD' w') h1 h2 fs.toList b h w'
   ·rw [hst]at h;cases h
  all_goals first
   |(cases h;done)
   |(rename_i e o k o' k' hu
     generalize hb:(Nat.beq o o'&&Nat.beq k k'&&(match qF P e with|some (_ +1)=>true|_ =>false))=bb at h;cases bb
     ·cases h
     ·cases h
      simp only [Bool.and_eq_true]at hb;obtain⟨⟨h1,h2⟩,h3⟩:=hb;have:=Nat.eq_of_beq_eq_true h1;have:=Nat.eq_of_beq_eq_true h2
      subst_vars
      obtain⟨_,b1,q1,rfl⟩:=hx;obtain⟨_,b2,q2,rfl⟩:=hy;rw [q1]at q2;cases q2;split at h3
      ·rename_i n hn
       have hs:=yg (P:=P) (w:=w') hn;simp [Op.equalIn,run_underlying hu,hs,run_sameAddr_same]
      ·cases h3)
   |(rename_i hu;cases h
     first
     |(cases(show qI C (Cell C σ H w) _ _ from hx);cases(show qI C (Cell C σ H w) _ _ from hy);simp [Op.equalIn,run_underlying hu];done)
     |(cases(show qI C (Cell C σ H w) _ _ from hx);obtain⟨_,rfl,_⟩:=hy;simp [Op.equalIn,run_underlying hu];done)
     |(cases(show qI C (Cell C σ H w) _ _ from hy);obtain⟨_,rfl,_⟩:=hx;simp [Op.equalIn,run_underlying hu];done)
     |(cases(show qI C (Cell C σ H w) _ _ from hx);obtain⟨_,_,_,rfl⟩:=hy;simp [Op.equalIn,run_underlying hu];done)
     |(cases(show qI C (Cell C σ H w) _ _ from hy);obtain⟨_,_,_,rfl⟩:=hx;simp [Op.equalIn,run_underlying hu];done)
     |(cases(show qI C (Cell C σ H w) _ _ from hx);obtain⟨_,_,rfl,_⟩:=hy;simp [Op.equalIn,run_underlying hu];done)
     |(cases(show qI C (Cell C σ H w) _ _ from hy);obtain⟨_,_,rfl,_⟩:=hx;simp [Op.equalIn,run_underlying hu];done))
theorem zci{op:BinOp}{t:Nat}{x y:Operand}{a b:AV T}{va vb:Value}(h:zVv P t x y a b=true)(ha:zr C σ H w a va)(hb:zr C σ H w b vb)
  (hd:∀r d,eqA P (d+1) t a b=some r→True) (w':World) (hk:(∃r,eqA P 6 t a b=some r)):(eqGuard op t x y va vb).run P w'= .ok () w':=by
 obtain⟨r,hk⟩:=hk;unfold zVv at h;split at h
 ·cases(show qI C (Cell C σ H w) _ _ from ha);cases(show qI C (Cell C σ H w) _ _ from hb)
  unfold eqGuard;cases x<;>cases y<;>first
   |(cases h;done)
   |(cases op<;>rfl)
 ·obtain⟨us,rfl,_⟩:=ha
  obtain⟨vs,rfl,_⟩:=hb;exact run_eqGuard_agg w' op t x y us vs (by simpa using h)
 ·rename_i h1 h2
  have key:(∀us vs,va= .agg us→vb= .agg vs→False)∧(va= .nilIface→vb= .nilIface→False):=by
   simp only [eqA]at hk;split at hk<;>first
    |(cases hk;done)
    |(refine⟨fun us vs h3 h4=> ?_,fun h3 h4=> ?_⟩<;>subst h3<;>subst h4<;>first
      |(exact(h1 rfl rfl).elim)
      |(exact(h2 _ _ rfl rfl).elim)
      |(cases(show qI C (Cell C σ H w) _ _ from ha);done)
      |(cases(show qI C (Cell C σ H w) _ _ from hb);done)
      |(obtain⟨_,h5,_⟩:=ha;cases h5;done)
      |(obtain⟨_,h5,_⟩:=hb;cases h5;done)
      |(obtain⟨_,_,_,h5⟩:=ha;cases h5;done)
      |(obtain⟨_,_,_,h5⟩:=hb;cases h5;done)
      |(obtain⟨_,_,h5,_⟩:=ha;cases h5;done)
      |(obtain⟨_,_,h5,_⟩:=hb;cases h5;done))
  have fin:(match va,vb with
    | .nilIface,.nilIface=>False
    | .agg _,.agg _ =>False
    |_,_ =>True):=by
   cases va<;>cases vb<;>first
    |exact trivial
    |exact(key.2 rfl rfl).elim
    |exact(key.1 _ _ rfl rfl).elim
  unfold eqGuard;cases va<;>cases vb<;>first
   |(exact fin.elim)
   |(cases op<;>rfl)
theorem zV3(hR:Rp C σ H w G){op:BinOp}{t:Nat}{x y:Operand}{a b:AV T}{va vb:Value}(ha:zr C σ H w a va)(hb:zr C σ H w b vb)
  {K:AV T→Option R} {r:R} (h:zWm P op t x y a b K=some r):
  ∃z v,K z=some r∧((do eqGuard op t x y va vb;binOp op t va vb:Sem Value)).run P w= .ok v w∧zr C σ H w z v:=by
 have guardInt:∀k a k' b,(eqGuard op t x y (.int k a) (.int k' b)).run P w= .ok () w:=fun k a k' b=>by
  cases op<;>rfl
 have guardStr:∀a b,(eqGuard op t x y (.string a) (.string b)).run P w= .ok () w:=fun a b=>by
  cases op<;>rfl
 unfold zWm at h;split at h
 ·rename_i k a k' b
  have:=jc ha;have:=jc hb;subst_vars;cases hs:zWJ op
  ·rw [hs]at h
   simp only [cond_false]at h;cases hk:k==k'
   ·rw [hk]at h;cases h
   ·rw [hk]at h
    have:=eq_of_beq hk;subst this;obtain⟨z,v,h1,h2,h3⟩:=zcN (C:=C) (P:=P) (σ:=σ) (H:=H) hs h;refine⟨z,v,h1, ?_,h3 w⟩;simp only [Sem.run_bind,guardInt,Result.andThen_ok];have:binOp op t (.int k a) (.int k b)=binOp op 0 (.int k a) (.int k b):=by cases op<;>first|rfl|(simp [zWJ]at hs)
    rw [this];exact h2 w
  ·rw [hs]at h
   obtain⟨z,v,h1,h2,h3⟩:=zeh (C:=C) (P:=P) (σ:=σ) (H:=H) (k':=k') h hs;exact⟨z,v,h1,by simp only [Sem.run_bind,guardInt,Result.andThen_ok];exact h2 t w,h3 w⟩
 ·have:=zCw ha;have:=zCw hb;subst_vars
  obtain⟨z,v,h1,h2,h3⟩:=zcG (C:=C) (P:=P) (σ:=σ) (H:=H) h;exact⟨z,v,h1,by simp only [Sem.run_bind,guardStr,Result.andThen_ok];exact h2 t w,h3 w⟩
 ·rename_i h1 h2
  cases hn:zVv P t x y a b
  ·rw [hn]at h;cases h
  ·rw [hn]at h
   simp only [cond_true]at h;have fin:∀e,eqA P 6 t a b=some e→(eqGuard op t x y va vb).run P w= .ok () w∧(Op.equal t va vb).run P w= .ok e w:=fun e he=>
    ⟨zci hn ha hb (fun _ _ _ =>trivial) w ⟨e,he⟩,zlK 6 t a b e va vb he ha hb Op.maxDepth (by decide) w⟩
   have notint:∀k n,va≠.int k n∨∀k' n',vb≠.int k' n':=by
    intro k n;by_cases hva:va= .int k n
    ·refine .inr fun k' n' hvb=> ?_
     subst hva;subst hvb;cases hop:op<;>rw [hop]at h<;>first
      |(cases h;done)
      |(obtain⟨e,he,_⟩:=Option.bind_eq_some_iff.1 h
        simp only [eqA]at he;split at he<;>first
        |(cases he;done)
        |(exact h1 _ _ _ _ rfl rfl)
        |(cases(show qI C (Cell C σ H w) _ _ from ha);done)
        |(obtain⟨_,h5,_⟩:=ha;cases h5;done)
        |(obtain⟨_,_,_,h5⟩:=ha;cases h5;done)
        |(obtain⟨_,_,h5,_⟩:=ha;cases h5;done)
        |(cases(show qI C (Cell C σ H w) _ _ from hb);done))
    ·exact .inl hva
   have gen:(∀e,eqA P 6 t a b=some e→((binOp .eql t va vb).run P w= .ok (.bool e) w)∧(binOp .neq t va vb).run P w= .ok (.bool (!e)) w):=by
    intro e he;have h3:=(fin e he).2;have hcases:(binOp .eql t va vb=(do pure (.bool (←Op.equal t va vb))))∧(binOp .neq t va vb=(do pure (.bool (!(←Op.equal t va vb))))):=by
     simp only [eqA]at he;split at he<;>first
      |(cases he;done)
      |(exact(h1 _ _ _ _ rfl rfl).elim)
      |(exact(h2 _ _ rfl rfl).elim)
      |(have:=zEt ha;have:=zEt hb;subst_vars;exact⟨rfl,rfl⟩)
      |(obtain⟨_,rfl,_⟩:=ha;obtain⟨_,rfl,_⟩:=hb;exact⟨rfl,rfl⟩)
      |(obtain⟨_,_,_,rfl⟩:=ha;obtain⟨_,_,_,rfl⟩:=hb;exact⟨rfl,rfl⟩)
      |(cases(show qI C (Cell C σ H w) _ _ from ha);cases(show qI C (Cell C σ H w) _ _ from hb);exact⟨rfl,rfl⟩)
      |(cases(show qI C (Cell C σ H w) _ _ from ha);obtain⟨_,rfl,_⟩:=hb;exact⟨rfl,rfl⟩)
      |(cases(show qI C (Cell C σ H w) _ _ from hb);obtain⟨_,rfl,_⟩:=ha;exact⟨rfl,rfl⟩)
      |(cases(show qI C (Cell C σ H w) _ _ from ha);obtain⟨_,_,_,rfl⟩:=hb;exact⟨rfl,rfl⟩)
      |(cases(show qI C (Cell C σ H w) _ _ from hb);obtain⟨_,_,_,rfl⟩:=ha;exact⟨rfl,rfl⟩)
      |(cases(show qI C (Cell C σ H w) _ _ from ha);obtain⟨_,_,rfl,_⟩:=hb;exact⟨rfl,rfl⟩)
      |(cases(show qI C (Cell C σ H w) _ _ from hb);obtain⟨_,_,rfl,_⟩:=ha;exact⟨rfl,rfl⟩)
    rw [hcases.1,hcases.2];simp only [Sem.run_bind,h3,Result.andThen_ok,Sem.run_pure,and_self]
   cases hop:op<;>rw [hop]at h<;>first
    |(cases h;done)
    |(obtain⟨e,he,hK⟩:=Option.bind_eq_some_iff.1 h
      have h4:=(fin e he).1;rw [hop]at h4;refine⟨_,_,hK, ?_,zSl _⟩;simp only [Sem.run_bind,h4,Result.andThen_ok]
      first|exact(gen e he).1|exact(gen e he).2)
theorem zfM{op:UnOp}{a:AV T}{va:Value}(ha:zr C σ H w a va){K:AV T→Option R}{r:R}(h:unA op a K=some r):
  ∃z v,K z=some r∧(Op.unary op va).run P w= .ok v w∧zr C σ H w z v:=by
 unfold unA at h;split at h
 ·have:=jc ha;subst this;exact⟨_,_,h,rfl,zAf _ _⟩
 ·have:=jc ha;subst this;exact⟨_,_,h,rfl,zAf _ _⟩
 ·have:=zEt ha;subst this;exact⟨_,_,h,rfl,zSl _⟩
 ·cases h
end Go.Proofs.YtdoifigogbdodaaGreatDoor.Ev

namespace Go.Proofs.YtdoifigogbdodaaGreatDoor.Ev
open Go
variable {T:Nat→Type} {C:wB T} {P:Program} {σ:Lk} {H:List (zT T)} {w:World} {G:Nat→Option (List (V T))} {R:Type}
theorem qR(b off j:Nat):(⟨b,off,none⟩:Addr).add j=⟨b,off+j,none⟩:=by unfold Addr.add;split<;>simp_all
theorem zXY{x:AV T}{y:Value}(h:zZ4 x=true)(hr:zr C σ H w x y):y.oneCell'=true:=by
 cases x with
 |any=>cases h
 |v x=>cases(show qI C (Cell C σ H w) _ _ from hr)with
  |ifx _ h=>rcases h with rfl|⟨_,_,rfl⟩<;>rfl
  |_ =>rfl
 |agg l=>cases h
 |qu l=>cases h
 |ptr o k=>obtain⟨_,_,_,rfl⟩:=hr;rfl
 |wu o i k=>obtain⟨_,⟨_,rfl⟩,_⟩:=hr;rfl
 |wU t x k=>obtain⟨_,_,rfl,_⟩:=hr;rfl
 |vA g k=>cases(show y=_ from hr);rfl
 |own o=>obtain⟨_,⟨_,_,_,rfl⟩,_⟩:=hr;rfl
 |sp o=>obtain⟨_,⟨q,rfl⟩,_⟩:=hr;cases q<;>rfl
 |yB o k n c=>obtain⟨_,_,_,_,rfl,_⟩:=hr;rfl
 |qG=>cases(show y=_ from hr);rfl
 |z0=>obtain⟨_,rfl⟩:=hr;rfl
 |fn f a b=>obtain⟨_,_,rfl,_⟩:=hr;rfl
 |q9 t x=>obtain⟨_,rfl,_⟩:=hr;rfl
theorem zbx{y:Value}(h:y.oneCell'=true):y.cells= #[y]:=by cases y<;>first|rfl|cases h
theorem zDR{x:AV T}{y:Value}{cs:List (AV T)}(h:zJV x=some cs)(hr:zr C σ H w x y):yW C σ H w cs y.cells.toList:=by
 cases hl:zZ4 x
 ·cases x<;>first|(cases hl;done)|(cases h;done)|skip
  obtain⟨vs,rfl,h1⟩:=hr;cases h;exact h1
 ·have:cs=[x]:=by cases x<;>first|(cases hl;done)|(cases h;rfl)
  subst this;rw [zbx (zXY hl hr)];exact⟨y,[],rfl,hr,rfl⟩
theorem zFU:∀{cs:List (AV T)} {ys:List Value},zBR cs=true→yW C σ H w cs ys→∀v∈ys,v.oneCell'=true
 |[],_,_,h,v,hv=>by cases h;cases hv
 |x::l,_,h,⟨y,ys,hy,h1,h2⟩,v,hv=>by
  subst hy;simp only [zBR,Bool.and_eq_true]at h;rcases List.mem_cons.1 hv with rfl|hv
  ·exact zXY h.1 h1
  ·exact zFU h.2 h2 v hv
theorem alloc_old(w:World)(o:Obj)(b:Nat)(h:b<w.heap.size):(w.alloc o).heap[b]? =w.heap[b]? :=by
 show(w.heap.push o)[b]? =_;rw [Array.getElem?_push,if_neg (by omega)]
theorem vO(w:World)(o:Obj):(w.alloc o).heap[w.heap.size]? =some o:=by
 show(w.heap.push o)[w.heap.size]? =_;simp
theorem zEC(hR:Rp C σ H w G)(o:zT T)(ob:Obj)
  (hob:Move C [] σ H w (add σ H.length (some w.heap.size)) (H++[o]) (w.alloc ob)→dq C (add σ H.length (some w.heap.size)) (H++[o]) (w.alloc ob) H.length o):
  Step C G [] σ H w (add σ H.length (some w.heap.size)) (H++[o]) (w.alloc ob):=
 zLj hR o (some w.heap.size) (w.alloc ob) rfl rfl rfl (by simp) (fun b hb=>alloc_old w ob b hb) (fun b hb=>by cases hb;simp) hob
theorem wa(σ:Lk)(n:Nat)(b:Option Nat):add σ n b n=b:=by simp [add]
theorem fz0(cs:Array Value):zet cs (0,0):=fun off _ h=>by simp at h
theorem zAA(hR:Rp C σ H w G){l:List (AV T)}{cs:Array Value}(e:TypeId)(h:yW C σ H w l cs.toList):
  Step C G [] σ H w (add σ H.length (some w.heap.size)) (H++[.cells e none l]) (w.alloc (.cells cs e)):=
 zEC hR (.cells e none l) (.cells cs e) fun M=>⟨w.heap.size,cs,wa _ _ _,vO w _,h.gV M⟩
theorem zWd{w':World}{o:zT T}(b:Nat):zr C (add σ H.length (some b)) (H++[o]) w' (.ptr H.length 0) (.pointer (some ⟨b,0,none⟩)):=
 ⟨by simp,b,wa _ _ _,rfl⟩
theorem ui{t:Nat}{z:Value}(h:(P.info? t).bind (·.zero)=some z)(w:World):(zeroValue t).run P w= .ok z w:=by
 cases hi:P.info? t with
 |none=>rw [hi]at h;cases h
 |some i=>
  rw [hi]at h;simp only [Option.bind_some]at h;simp only [zeroValue,Sem.run_bind,run_typeInfo w hi,Result.andThen_ok,h,Sem.run_pure]
theorem zCi{t:Nat}{z:List (AV T)}(h:zEJ P t=some z):∃zv,(P.info? t).bind (·.zero)=some zv∧∀{σ:Lk} {H:List (zT T)} {w:World},yW C σ H w z zv.cells.toList:=by
 unfold zEJ at h;split at h
 ·rename_i zv hz;exact⟨zv,hz,fun{σ H w}=>zDR h (uc zv)⟩
 ·cases h
theorem zXl(hR:Rp C σ H w G){e:Nat}{K:yZ T R}{Kp:AV T→List (zT T)→Option R}{r:R}(h:zPZ P e H K=some r):
  Good P C G σ H w (((do pure (.value (←Instr.alloc e true (.tuple #[]))):Sem Next)).run P w) K Kp r:=by
 unfold zPZ at h;split at h
 ·rename_i z hz
  obtain⟨zv,h1,h2⟩:=zCi (C:=C) hz;refine .inl ⟨_,_,[],.pointer (some ⟨w.heap.size,0,none⟩),_,_,h,.inl ?_,zAA hR e h2,zWd _⟩;simp only [Instr.alloc,Sem.run_bind,ui h1,Result.andThen_ok,newVar,newRow,run_newObj,Sem.run_pure];rfl
 ·cases h
theorem zbs(hR:Rp C σ H w G){e:Nat}{x:AV T}{y:Value}(hx:zr C σ H w x y){K:yZ T R}{Kp:AV T→List (zT T)→Option R}{r:R}(h:zbo e x H K=some r):
  Good P C G σ H w (((do pure (.value (←Instr.box e y)):Sem Next)).run P w) K Kp r:=by
 unfold zbo at h;split at h
 ·rename_i cs hcs
  refine .inl ⟨_,_,[],.pointer (some ⟨w.heap.size,0,none⟩),_,_,h,.inl ?_,zAA hR e (zDR hcs hx),zWd _⟩;simp only [Instr.box,Sem.run_bind,Result.andThen_ok,newVar,newRow,run_newObj,Sem.run_pure];rfl
 ·cases h
theorem yW.yS{l cs:List (AV T)}{ys vs:List Value}(h:yW C σ H w l ys)(k:yW C σ H w cs vs)(off:Nat):yW C σ H w (yS l off cs) (yS ys off vs):=by
 unfold Ev.yS;rw [k.length];exact((h.take off).append k).append (h.drop _)
theorem qz{α:Type}{l vs:List α}{off:Nat}(h:off+vs.length≤l.length):(yS l off vs).length=l.length:=by
 unfold yS;simp;omega
theorem zIC{α:Type}(l:List α)(off:Nat)(v:α)(vs:List α)(h:off+(v::vs).length≤l.length):yS (l.set off v) (off+1) vs=yS l off (v::vs):=by
 have hl:off<l.length:=by simp at h;omega
 have e:l.set off v=l.take off++v::l.drop (off+1):=by
  rw [List.set_eq_take_append_cons_drop,if_pos hl]
 have ht:(l.take off).length=off:=by simp;omega
 have e1:(l.set off v).take (off+1)=l.take off++[v]:=by
  rw [e,List.take_append,List.take_of_length_le (by omega),ht];simp
 have e2:(l.set off v).drop (off+1+vs.length)=l.drop (off+(v::vs).length):=by
  rw [e,List.drop_append,ht,List.drop_of_length_le (by omega),show off+1+vs.length-off=vs.length+1 by omega];simp only [List.nil_append,List.drop_succ_cons,List.drop_drop,List.length_cons];congr 1;omega
 unfold yS;rw [e1,e2];simp
theorem zV1:∀(vs:List Value) (k off:Nat) (cells:Array Value),off+k+vs.length≤cells.size→
  ((vs.zipIdx k).foldl (fun(cs:Array Value) (p:Value×Nat)=>cs.setIfInBounds (off+p.2) p.1) cells)=(yS cells.toList (off+k) vs).toArray
 |[],k,off,cells,h=>by simp [yS]
 |v::vs,k,off,cells,h=>by
  simp only [List.length_cons]at h;simp only [List.zipIdx_cons,List.foldl_cons];rw [zV1 vs (k+1) off _ (by simp;omega)];congr 1;rw [Array.toList_setIfInBounds,←Nat.add_assoc];exact zIC cells.toList (off+k) v vs (by simp;omega)
inductive zXi(C:wB T)(σ:Lk)(H:List (zT T))(w:World):List (Nat×AV T)→List (Nat×Value)→Prop
 |nil:zXi C σ H w [] []
 |cons {i:Nat} {x:AV T} {y:Value} {l:List (Nat×AV T)} {ys:List (Nat×Value)}:zr C σ H w x y→zXi C σ H w l ys→zXi C σ H w ((i,x)::l) ((i,y)::ys)
theorem zNf{place place':Nat→Option (Nat×Nat)}(hp:∀i x,place i=some x→place' i=some x):∀(parts:List (Nat×AV T)) (pv:List (Nat×Value)) (l:List (AV T)) (ys:Array Value) (cs:List (AV T)),
  zXi C σ H w parts pv→yW C σ H w l ys.toList→zMN place l parts=some cs→∃ys',Instr.fill place' ys pv=some ys'∧yW C σ H w cs ys'.toList
 |_,_,l,ys,cs,.nil,h,hf=>by cases hf;exact⟨ys,rfl,h⟩
 |_,_,l,ys,cs,.cons (i:=i) (x:=x) (y:=y) hx hr,h,hf=>by
  simp only [zMN]at hf;split at hf
  ·rename_i off n xs hpl hcs
   cases hb:Nat.beq xs.length n&&Nat.ble (off+xs.length) l.length
   ·rw [hb]at hf;cases hf
   ·rw [hb]at hf
    simp only [cond_true]at hf;simp only [Bool.and_eq_true]at hb;have h1:xs.length=n:=Nat.eq_of_beq_eq_true hb.1;have h2:=Nat.le_of_ble_eq_true hb.2;have hc:=zDR hcs hx;have w9:y.cells.size=n:=by rw [←Array.length_toList,hc.length,h1]
    have hsy:ys.size=l.length:=by rw [←Array.length_toList,h.length]
    have hfold:(y.cells.zipIdx.foldl (fun(cs:Array Value) (p:Value×Nat)=>cs.setIfInBounds (off+p.2) p.1) ys)=(yS ys.toList off y.cells.toList).toArray:=by
     have:=zV1 y.cells.toList 0 off ys (by simp;omega);rw [Nat.add_zero]at this;rw [←this,←Array.foldl_toList];simp
    obtain⟨ys',h3,h4⟩:=zNf hp _ _ _ (yS ys.toList off y.cells.toList).toArray cs hr (by simpa using h.yS hc off) hf;refine⟨ys', ?_,h4⟩;simp only [Instr.fill,hp i _ hpl];rw [if_neg (by simp;omega)];rw [←h3,←hfold]
  ·cases hf
theorem zE3(P:Program)(w:World):∀(fs:List Field),(fs.all fun f=>match qF P f.type with|some _ =>true|none=>false)=true→
  (fs.mapM fun f=>(do pure (f.offset,←sizeOf f.type):Sem (Nat×Nat))).run P w= .ok (fs.map fun f=>(f.offset,(qF P f.type).getD 0)) w
 |[],_ =>rfl
 |f::fs,h=>by
  simp only [List.all_cons,Bool.and_eq_true]at h;rw [List.mapM_cons];cases hn:qF P f.type with
  |none=>rw [hn]at h;exact absurd h.1 (by simp)
  |some n=>simp only [Sem.run_bind,yg hn,Result.andThen_ok,Sem.run_pure,zE3 P w fs h.2,List.map_cons,hn,Option.getD_some]
theorem zQY(hR:Rp C σ H w G){t:Nat}{parts:List (Nat×AV T)}{pv:Array (Nat×Value)}(hp:zXi C σ H w parts pv.toList){K:yZ T R}{r:R}
  (h:zDj P t parts H K=some r):kX C σ H w (((do pure (.value (←Instr.build t pv)):Sem Next)).run P w) K r:=by
 unfold zDj at h;split at h
 ·rename_i z hz
  obtain⟨zv,h1,h2⟩:=zCi (C:=C) hz;cases hs:zUD P t
  ·rw [hs]at h;cases h
  ·rw [hs]at h
   simp only [cond_true]at h;split at h
   ·rename_i cs hf
    unfold zUD at hs;split at hs
    ·rename_i fs hu
     obtain⟨ys,h3,h4⟩:=zNf (place':=fun i=>(fs.map fun f=>(f.offset,(qF P f.type).getD 0))[i]?) (by
      intro i x hx;simp only [zaH,hu]at hx;rw [Array.getElem?_map];cases hfi:fs[i]? with
      |none=>rw [hfi]at hx;cases hx
      |some f=>
       rw [hfi]at hx;simp only [Option.bind_some,Option.map_some]at hx⊢;cases w9:qF P f.type with
       |none=>rw [w9]at hx;cases hx
       |some n=>rw [w9]at hx;simpa using hx) parts pv.toList z zv.cells cs hp h2 hf
     refine yY h ?_ ⟨ys,rfl,h4⟩;have hm:(fs.mapM fun f=>(do pure (f.offset,←sizeOf f.type):Sem (Nat×Nat))).run P w= .ok (fs.map fun f=>(f.offset,(qF P f.type).getD 0)) w:=by
      rw [Array.mapM_eq_mapM_toList,Sem.run_map,zE3 P w fs.toList hs,Result.andThen_ok];congr 1;apply Array.ext';simp
     simp only [Instr.build,Sem.run_bind,ui h1,Result.andThen_ok,run_underlying hu,hm,h3,Sem.run_pure]
    ·rename_i n e hu
     split at hs
     ·rename_i m hm
      obtain⟨ys,h3,h4⟩:=zNf (place':=fun i=>some (i*m,m)) (by
       intro i x hx;simp only [zaH,hu,hm]at hx
       simpa using hx) parts pv.toList z zv.cells cs hp h2 hf
      refine yY h ?_ ⟨ys,rfl,h4⟩;simp only [Instr.build,Sem.run_bind,ui h1,Result.andThen_ok,run_underlying hu,yg hm,h3,Sem.run_pure]
     ·cases hs
    ·cases hs
   ·cases h
 ·cases h
end Go.Proofs.YtdoifigogbdodaaGreatDoor.Ev

namespace Go.Proofs.YtdoifigogbdodaaGreatDoor.Ev
open Go
variable {T:Nat→Type} {C:wB T} {P:Program} {σ:Lk} {H:List (zT T)} {w:World} {G:Nat→Option (List (V T))} {R:Type}
theorem add_same(σ:Lk)(i:Nat):add σ i (σ i)=σ:=by
 obtain⟨f,F⟩:=σ;simp only [add];congr 1;funext j;split
 ·subst_vars;rfl
 ·rfl
theorem ug(hR:Rp C σ H w G){i:Nat}{o o':zT T}(w':World)(hi:H[i]? =some o)(hlo:live o=true)(hkind:vr o=vr o')
  (hos:w'.os=w.os) (htp:w'.tape=w.tape) (hout:w'.output=w.output) (w9:w.heap.size≤w'.heap.size)
  (hblk:∀b,b<w.heap.size→σ i≠some b→w'.heap[b]? =w.heap[b]?)
  (hfoot:∀off,zER C o' off→zER C o off)
  (hsame:∀b off,σ i=some b→¬zER C o off→w'.cell? ⟨b,off,none⟩=w.cell? ⟨b,off,none⟩)
  (hS:∀n s,svO C o'=some (n,s)→svO C o=some (n,s)∧
   ∀b,σ i=some b→∀cs e fz,w.heap[b]? =some (.cells cs e fz)→∃cs' e' fz',w'.heap[b]? =some (.cells cs' e' fz')∧cs'.size=cs.size)
  (hob:Move C [] σ H w σ (H.set i o') w'→dq C σ (H.set i o') w' i o'):
  Step C G [] σ H w σ (H.set i o') w':=by
 have:=step_mod (S:=[]) hR (o':=o') (σ i) w' hi hlo hkind hos htp hout w9 hblk
  (fun b _ hb=> .inl ⟨hb,hfoot⟩) hsame (.inr rfl) (fun _ =>rfl) (.inr hS) (by
   rw [add_same,zUf,vd];exact hob)
 rwa [add_same,zUf]at this
theorem zFi(hR:Rp C σ H w G){o t:Nat}{l:List (T t)}{m:Bool}(ho:H[o]? =some (.row t l m)):Step C G [] σ H w σ (H.set o (.row t l false)) w:=by
 refine ug hR w ho rfl rfl rfl rfl rfl (Nat.le_refl _) (fun _ _ _ =>rfl) (fun off h=> ?_) (fun _ _ _ _ =>rfl) (fun n s h=> ?_) (fun M=> ?_)
 ·rcases h with h|h
  ·cases h
  ·exact .inr h
 ·exact⟨h,fun b _ cs e fz h=>⟨cs,e,fz,h,rfl⟩⟩
 ·have:=dq.move M rfl (fun _ _ =>rfl) (hR.obj o _ ho)
  rw [vd]at this;exact this
theorem zSi{o t:Nat}{l:List (T t)}{m:Bool}(ho:H[o]? =some (.row t l m)):zDN o H=H.set o (.row t l false):=by
 unfold zDN;rw [ho]
theorem zNX{o t:Nat}{l:List (T t)}{m:Bool}(ho:H[o]? =some (.row t l m)):(H.set o (.row t l false))[o]? =some (.row t l false):=by
 have:=(List.getElem?_eq_some_iff.1 ho).1;simp [this]
theorem zTt{n s i k:Nat}(hi:i<n)(hk:k<s):i*s+k<n*s:=
 Nat.lt_of_lt_of_le (by rw [Nat.succ_mul];omega) (Nat.mul_le_mul_right s hi:(i+1)*s≤n*s)
theorem zWt(hC:yj C)(hR:Rp C σ H w G){o t:Nat}{l:List (T t)}(ho:H[o]? =some (.row t l false)){y:Value}(hy:zr C σ H w (.own o) y):qI C (Cell C σ H w) (.sl t l) y:=by
 obtain⟨_,_,h⟩:=hy;rcases h _ _ (vM ho)with⟨h1,rfl⟩|⟨b,c,cs,e,fz,h1,rfl,h2,h3⟩
 ·rcases hR.obj o _ ho with⟨rfl,_⟩|⟨b,_,_,_,hb,_⟩
  ·exact .sl0 t none 0
  ·rw [h1]at hb;cases hb
 ·rcases hR.obj o _ ho with⟨rfl,_⟩|⟨b',cs',fz',cap,hb,h4,h5,h6,h7,h8⟩
  ·exact .sl0 t _ c
  ·rw [h1]at hb;cases hb
   rw [h2]at h4;cases h4;have hs:=hC.pos t;have hcap:cap=c:=Nat.eq_of_mul_eq_mul_right hs (h6.symm.trans h3);subst hcap;have hcell:∀(i:Nat) (hi:i<l.length) (j:Nat) (hj:j<(C.enc t l[i]).length),cs[i*C.size t+j]? =some ((cs[i*C.size t+j]?).getD undef)∧
     qI C (Cell C σ H w) ((C.enc t l[i])[j]) ((cs[i*C.size t+j]?).getD undef):=fun i hi j hj=>by
    obtain⟨y,h9,h10⟩:=h8 i hi j _ (List.getElem?_eq_getElem hj);rw [h9];exact⟨rfl,h10⟩
   refine .sl t l b 0 cap (fun i j=>(cs[i*C.size t+j]?).getD undef) h7 (fun i hi j hj=>⟨⟨hR.free o _ b ho rfl h1 _,fun i' o' hi' hs' hf=> ?_⟩, ?_⟩) (fun i hi j hj=>(hcell i hi j hj).2)
   ·by_cases hl:live o'=true
    ·have:i'=o:=hR.inj i' o o' _ b hi' ho hl rfl hs' h1
     subst this;rw [ho]at hi';cases hi';rcases hf with hf|hf
     ·cases hf
     ·rw [hC.len]at hj
      have:=zTt hi hj;omega
    ·cases o'<;>simp [live]at hl
     exact hf
   ·rw [j8 h2,Nat.zero_add];exact(hcell i hi j hj).1
def Rows(C:wB T)(cell:Nat→Nat→Value→Prop)(t:Nat)(l:List (T t))(ys:List Value):Prop:=
 ys.length=l.length*C.size t∧∀(i:Nat) (h:i<l.length) (k:Nat) (v:V T),(C.enc t l[i])[k]? =some v→∃y,ys[i*C.size t+k]? =some y∧qI C cell v y
theorem zP3(hC:yj C){t:Nat}{x:T t}{k:Nat}{v:V T}(h:(C.enc t x)[k]? =some v):k<C.size t:=by
 rw [←hC.len t x];exact(List.getElem?_eq_some_iff.1 h).1
theorem Rows.nil(cell:Nat→Nat→Value→Prop)(t:Nat):Rows C cell t [] []:=⟨by simp,fun i h=>by simp at h⟩
theorem Rows.mono{cell cell':Nat→Nat→Value→Prop}(h:∀b off x,cell b off x→cell' b off x){t:Nat}{l:List (T t)}{ys:List Value}(r:Rows C cell t l ys):Rows C cell' t l ys:=
 ⟨r.1,fun i hi k v hv=>let ⟨y,h1,h2⟩:=r.2 i hi k v hv;⟨y,h1,h2.mono h⟩⟩
theorem Rows.append(hC:yj C){cell:Nat→Nat→Value→Prop}{t:Nat}{l m:List (T t)}{ys zs:List Value}(h:Rows C cell t l ys)(k:Rows C cell t m zs):Rows C cell t (l++m) (ys++zs):=by
 refine⟨by rw [List.length_append,h.1,k.1,List.length_append,Nat.add_mul],fun i hi j v hv=> ?_⟩;have hj:=zP3 hC hv;by_cases hil:i<l.length
 ·rw [List.getElem_append_left hil]at hv
  obtain⟨y,h1,h2⟩:=h.2 i hil j v hv;exact⟨y,by rw [List.getElem?_append_left (by rw [h.1];exact zTt hil hj)];exact h1,h2⟩
 ·have hil':l.length≤i:=Nat.le_of_not_lt hil
  rw [List.getElem_append_right hil']at hv;simp at hi;obtain⟨y,h1,h2⟩:=k.2 (i-l.length) (by omega) j v hv;have hmul:l.length*C.size t≤i*C.size t:=Nat.mul_le_mul_right _ hil';refine⟨y, ?_,h2⟩;rw [List.getElem?_append_right (by rw [h.1];omega),h.1];rw [Nat.sub_mul]at h1;rw [←h1];congr 1;omega
theorem Rows.cons(hC:yj C){cell:Nat→Nat→Value→Prop}{t:Nat}{x:T t}{l:List (T t)}{ys zs:List Value}(h:ys.length=C.size t)(h1:∀(k:Nat) (v:V T),(C.enc t x)[k]? =some v→∃y,ys[k]? =some y∧qI C cell v y)
  (k:Rows C cell t l zs):Rows C cell t (x::l) (ys++zs):=by
 have:Rows C cell t [x] ys:=⟨by simp [h],fun i hi k v hv=>by
  have:i=0:=by simp at hi;exact hi
  subst this
  simpa using h1 k v (by simpa using hv)⟩
 exact Rows.append hC this k
theorem Rows.take(hC:yj C){cell:Nat→Nat→Value→Prop}{t:Nat}{l:List (T t)}{ys:List Value}(h:Rows C cell t l ys)(n:Nat):Rows C cell t (l.take n) (ys.take (n*C.size t)):=by
 refine⟨by rw [List.length_take,List.length_take,h.1,Nat.mul_min_mul_right],fun i hi j v hv=> ?_⟩;have hj:=zP3 hC hv;rw [List.length_take]at hi;have hin:i<n:=by omega
 rw [List.getElem_take]at hv;obtain⟨y,h1,h2⟩:=h.2 i (by omega) j v hv;exact⟨y,by rw [List.getElem?_take,if_pos (zTt hin hj)];exact h1,h2⟩
theorem Rows.drop{cell:Nat→Nat→Value→Prop}{t:Nat}{l:List (T t)}{ys:List Value}(h:Rows C cell t l ys)(n:Nat):Rows C cell t (l.drop n) (ys.drop (n*C.size t)):=by
 refine⟨by rw [List.length_drop,List.length_drop,h.1,Nat.sub_mul],fun i hi j v hv=> ?_⟩;simp only [List.length_drop]at hi;rw [List.getElem_drop]at hv;obtain⟨y,h1,h2⟩:=h.2 (n+i) (by omega) j v hv;exact⟨y,by rw [List.getElem?_drop,←Nat.add_assoc,←Nat.add_mul];exact h1,h2⟩
theorem zQT(hC:yj C){t:Nat}{l:List (T t)}{cs:Array Value}{cap:Nat}(h1:cs.size=cap*C.size t)(h2:l.length≤cap)
  (h:∀(j:Nat) (h:j<l.length) (k:Nat) (v:V T),(C.enc t l[j])[k]? =some v→∃y,cs[j*C.size t+k]? =some y∧qI C (Cell C σ H w) v y):
  Rows C (Cell C σ H w) t l (cs.toList.take (l.length*C.size t)):=by
 have:l.length*C.size t≤cap*C.size t:=Nat.mul_le_mul_right _ h2;refine⟨by simp;omega,fun i hi k v hv=> ?_⟩;obtain⟨y,h3,h4⟩:=h i hi k v hv;exact⟨y,by rw [List.getElem?_take,if_pos (zTt hi (zP3 hC hv))];simpa using h3,h4⟩
theorem zFm{t:Nat}{l:List (T t)}{cs:Array Value}{ys zs:List Value}(he:cs.toList=ys++zs)(h:Rows C (Cell C σ H w) t l ys):
  ∀(j:Nat) (h:j<l.length) (k:Nat) (v:V T),(C.enc t l[j])[k]? =some v→∃y,cs[j*C.size t+k]? =some y∧qI C (Cell C σ H w) v y:=by
 intro j hj k v hv;obtain⟨y,h1,h2⟩:=h.2 j hj k v hv;refine⟨y, ?_,h2⟩;rw [←Array.getElem?_toList,he,List.getElem?_append_left (List.getElem?_eq_some_iff.1 h1).1];exact h1
theorem gO(hC:yj C)(hR:Rp C σ H w G){t:Nat}{l:List (T t)}{cs:Array Value}(fz:Nat×Nat){ys zs:List Value}{cap:Nat}(he:cs.toList=ys++zs)(h:Rows C (Cell C σ H w) t l ys)
  (hcap:cs.size=cap*C.size t) (hfz:zet cs fz) (m:Bool):
  Step C G [] σ H w (add σ H.length (some w.heap.size)) (H++[.row t l m]) (w.alloc (.cells cs t fz)):=by
 refine zEC hR (.row t l m) (.cells cs t fz) fun M=> .inr ⟨w.heap.size,cs,fz,cap,wa _ _ _,vO w _,hfz,hcap, ?_,zFm he (h.mono M.cell)⟩
 have h1:cs.size=ys.length+zs.length:=by rw [←Array.length_toList,he,List.length_append]
 have h2:l.length*C.size t≤cap*C.size t:=by rw [←h.1,←hcap];omega
 exact Nat.le_of_mul_le_mul_right h2 (hC.pos t)
theorem zMu{w':World}{t:Nat}{l:List (T t)}{m:Bool}{cs:Array Value}{e:TypeId}{fz:Nat×Nat}{cap b:Nat}(hb:w'.heap[b]? =some (.cells cs e fz))(hcap:cs.size=cap*C.size t):
  zr C (add σ H.length (some b)) (H++[.row t l m]) w' (.own H.length) (.slice (some ⟨b,0,none⟩) l.length cap):=by
 refine⟨by simp,⟨_,_,_,rfl⟩,fun n s h=> ?_⟩;rw [vM (t:=t) (l:=l) (m:=m) (by simp)]at h;cases h;exact .inr ⟨b,cap,cs,e,fz,wa _ _ _,rfl,hb,hcap⟩
theorem zZ7(hC:yj C):∀(l:List (AV T)) (H:List (zT T)) (K:List (V T)→List (zT T)→Option R) (r:R) (ys:List Value),Rp C σ H w G→yW C σ H w l ys→vsK l H K=some r→
  ∃vs H',K vs H'=some r∧Step C G [] σ H w σ H' w∧H'.length=H.length∧vs.length=l.length∧∀(j:Nat) (v:V T),vs[j]? =some v→∃y,ys[j]? =some y∧qI C (Cell C σ H' w) v y:=by
 intro l
 induction l with
 |nil=>intro H K r ys hR hy h;exact⟨[],H,h,Step.refl hR,rfl,rfl,fun j v hv=>by simp at hv⟩
 |cons x l ih=>
  intro H K r ys hR hy h;obtain⟨y,ys,rfl,hy1,hy2⟩:=hy;have fin:∀(H1:List (zT T)) (v:V T) (K':List (V T)→List (zT T)→Option R),Step C G [] σ H w σ H1 w→H1.length=H.length→qI C (Cell C σ H1 w) v y→(∀vs H,K' vs H=K (v::vs) H)→vsK l H1 K'=some r→
    ∃vs H',K vs H'=some r∧Step C G [] σ H w σ H' w∧H'.length=H.length∧vs.length=(x::l).length∧∀(j:Nat) (v:V T),vs[j]? =some v→∃y',(y::ys)[j]? =some y'∧qI C (Cell C σ H' w) v y':=by
   intro H1 v K' hst hl1 hv hK' h;obtain⟨vs,H',h1,h2,h3,h4,h5⟩:=ih H1 K' r ys hst.rp (hy2.gV hst.move) h;refine⟨v::vs,H',(hK' vs H')▸h1,⟨h2.rp,hst.anc.trans h2.anc,⟨fun b off x hx=>h2.move.cell b off x (hst.move.cell b off x hx),Nat.le_trans hst.move.len h2.move.len,fun _ _ _ =>rfl,fun o ho hS n s hr=> ?_⟩⟩,h3.trans hl1,by simp [h4],fun j u hu=> ?_⟩
   ·obtain⟨k1,k3⟩:=h2.move.row o (by rw [hl1];exact ho) hS n s hr
    obtain⟨k4,k6⟩:=hst.move.row o ho hS n s k1;exact⟨k4,fun b hb cs e fz hcs=>⟨cs,e,fz,hcs,rfl⟩⟩
   ·cases j with
    |zero=>simp at hu;subst hu;exact⟨y,rfl,hv.mono h2.move.cell⟩
    |succ j=>simp at hu;simpa using h5 j u hu
  cases x with
  |v x=>exact fin H x _ (Step.refl hR) rfl hy1 (fun _ _ =>rfl) h
  |qG=>cases(show y=_ from hy1);exact fin H .nl _ (Step.refl hR) rfl (.nl none 0) (fun _ _ =>rfl) h
  |z0=>obtain⟨A,rfl⟩:=hy1;exact fin H .nl _ (Step.refl hR) rfl (.nl A 0) (fun _ _ =>rfl) h
  |own o=>
   simp only [vsK]at h;split at h
   ·rename_i t c m ho
    rw [zSi ho]at h;have hst:=zFi hR ho;exact fin _ (.sl t c) _ hst (by simp) (zWt hC hst.rp (zNX ho) (zr.gV hst.move hy1)) (fun _ _ =>rfl) h
   ·cases h
  |_ =>cases h
theorem Step.zEr{σ' σ'':Lk}{H' H'':List (zT T)}{w' w'':World}(h:Step C G [] σ H w σ' H' w')(k:Step C G [] σ' H' w' σ'' H'' w''):Step C G [] σ H w σ'' H'' w'':=by
 refine⟨k.rp,h.anc.trans k.anc,⟨fun b off x hx=>k.move.cell b off x (h.move.cell b off x hx),Nat.le_trans h.move.len k.move.len,fun o ho hS=> ?_,fun o ho hS n s hr=> ?_⟩⟩
 ·exact(k.move.sig o (Nat.lt_of_lt_of_le ho h.move.len) hS).trans (h.move.sig o ho hS)
 ·obtain⟨k1,k3⟩:=k.move.row o (Nat.lt_of_lt_of_le ho h.move.len) hS n s hr
  obtain⟨k4,k6⟩:=h.move.row o ho hS n s k1;refine⟨k4,fun b hb cs e fz hcs=> ?_⟩;obtain⟨cs1,e1,fz1,h1,h2⟩:=k6 b hb cs e fz hcs;obtain⟨cs2,e2,fz2,h3,h4⟩:=k3 b ((h.move.sig o ho hS).trans hb) cs1 e1 fz1 h1;exact⟨cs2,e2,fz2,h3,h4.trans h2⟩
theorem zb2{cell:Nat→Nat→Value→Prop}{a b:V T}{y:Value}(h:zUY a b)(hr:qI C cell a y):qI C cell b y:=by
 rcases h with rfl|⟨rfl,t,rfl⟩
 ·exact hr
 ·cases hr;exact .sl0 _ _ _
theorem zV9(hC:yj C){cell:Nat→Nat→Value→Prop}{t:Nat}{vs:List (V T)}{x:T t}(h:C.dec t vs=some x){ys:List Value}(hy:∀(j:Nat) (v:V T),vs[j]? =some v→∃y,ys[j]? =some y∧qI C cell v y):
  ∀(k:Nat) (v:V T),(C.enc t x)[k]? =some v→∃y,ys[k]? =some y∧qI C cell v y:=by
 intro k v hv;have hk:k<vs.length:=by rw [hC.zkx t vs x h];exact zP3 hC hv
 obtain⟨y,h1,h2⟩:=hy k _ (List.getElem?_eq_getElem hk);exact⟨y,h1,zb2 (hC.dec t vs x h k _ v (List.getElem?_eq_getElem hk) hv) h2⟩
theorem zbN(hC:yj C){cell:Nat→Nat→Value→Prop}{e:Nat}:∀(n:Nat) (vs:List (V T)) (l:List (T e)) (ys:List Value),zdw C e n vs=some l→ys.length=n*C.size e→(∀(j:Nat) (v:V T),vs[j]? =some v→∃y,ys[j]? =some y∧qI C cell v y)→
  Rows C cell e l ys∧l.length=n
 |0,vs,l,ys,h,hl,hy=>by
  cases h;have:ys=[]:=by simpa using hl
  subst this;exact⟨Rows.nil _ _,rfl⟩
 |n+1,vs,l,ys,h,hl,hy=>by
  simp only [zdw]at h;obtain⟨x,hx,h⟩:=Option.bind_eq_some_iff.1 h;obtain⟨l',hl',h⟩:=Option.bind_eq_some_iff.1 h;cases h;rw [Nat.succ_mul]at hl;have hd:=zbN hC n _ l' (ys.drop (C.size e)) hl' (by simp [hl]) (fun j v hv=>by
   rw [List.getElem?_drop]at hv⊢;exact hy _ v hv)
  have hx':=zV9 hC (ys:=ys.take (C.size e)) hx (fun j v hv=>by
   rw [List.getElem?_take]at hv⊢;split at hv
   ·rename_i hj;rw [if_pos hj];exact hy j v hv
   ·cases hv)
  refine⟨?_,by simp [hd.2]⟩;have:=Rows.cons hC (ys:=ys.take (C.size e)) (by simp;omega) hx' hd.1
  rwa [List.take_append_drop]at this
end Go.Proofs.YtdoifigogbdodaaGreatDoor.Ev

namespace Go.Proofs.YtdoifigogbdodaaGreatDoor.Ev
open Go
variable {T:Nat→Type} {C:wB T} {P:Program} {σ:Lk} {H:List (zT T)} {w:World} {G:Nat→Option (List (V T))} {R:Type}
theorem zEc{t e:Nat}(h:zUa P t=some e):P.underlying t=some (.slice e):=by
 unfold zUa at h;split at h
 ·rename_i hu;cases h;exact hu
 ·cases h
theorem zFE{α:Type}(l:List α):∀n,(gR l n).length=n*l.length
 |0=>by simp [gR]
 |n+1=>by simp [gR,zFE l n,Nat.succ_mul];omega
theorem zYB{z:List (AV T)}{ys:List Value}(h:yW C σ H w z ys):∀n,yW C σ H w (gR z n) (gR ys n)
 |0=>rfl
 |n+1=>h.append (zYB h n)
theorem zYG{α:Type}(l:List α):∀(n j:Nat),(gR l n)[j]? =if j<n*l.length then l[j%l.length]? else none
 |0,j=>by simp [gR]
 |n+1,j=>by
  simp only [gR];by_cases hj:j<l.length
  ·rw [List.getElem?_append_left hj,Nat.mod_eq_of_lt hj,if_pos (by rw [Nat.succ_mul];omega)]
  ·rw [List.getElem?_append_right (by omega),zYG l n,Nat.succ_mul]
   have:(j-l.length)%l.length=j%l.length:=by
    rw [←Nat.mod_eq_sub_mod (by omega)]
   rw [this];by_cases h2:j<n*l.length+l.length
   ·rw [if_pos (by omega),if_pos h2]
   ·rw [if_neg (by omega),if_neg h2]
theorem zS3(z:Array Value)(n m:Nat)(hz:0<z.size)(hm:m=n*z.size):((Array.range m).map (z[· %z.size]!)).toList=gR z.toList n:=by
 apply List.ext_getElem?;intro j;rw [zYG];simp only [Array.toList_map,Array.toList_range,List.getElem?_map,List.getElem?_range',Array.length_toList];by_cases hj:j<m
 ·rw [if_pos (by omega),List.getElem?_range hj]
  have:j%z.size<z.size:=Nat.mod_lt _ hz;simp [this]
 ·rw [if_neg (by omega),List.getElem?_eq_none (by simp;omega)];rfl
theorem zOd(hC:yj C)(hR:Rp C σ H w G){t len:Nat}{parts:List (Nat×AV T)}{pv:Array (Nat×Value)}(hp:zXi C σ H w parts pv.toList){K:yZ T R}{Kp:AV T→List (zT T)→Option R}{r:R}
  (h:kU C P t len parts H K=some r):Good P C G σ H w (((do pure (.value (←Instr.buildSlice t len pv)):Sem Next)).run P w) K Kp r:=by
 unfold kU at h;split at h
 ·rename_i e he
  have hu:=zEc he;split at h
  ·rename_i n z hn hz
   obtain⟨zv,h1,h2⟩:=zCi (C:=C) hz;cases hb:Nat.beq z.length n&&Nat.ble (len*n) 16777216&&Nat.ble 1 n
   ·rw [hb]at h;cases h
   ·rw [hb]at h
    simp only [cond_true]at h;simp only [Bool.and_eq_true]at hb;have hzl:z.length=n:=Nat.eq_of_beq_eq_true hb.1.1;have hle:=Nat.le_of_ble_eq_true hb.1.2;have hn1:=Nat.le_of_ble_eq_true hb.2;split at h
    ·rename_i cs hf
     have hzs:zv.cells.size=n:=by rw [←Array.length_toList,(h2 (σ:=σ) (H:=H) (w:=w)).length,hzl]
     have hzero:∃(zc:Array Value),((len*n=0∧zc= #[])∨(len*n≠0∧zc=zv.cells))∧
       ((Array.range (len*n)).map (zc[· %zc.size]!)).toList=gR zv.cells.toList len:=by
      by_cases h0:len*n=0
      ·refine⟨#[],.inl ⟨h0,rfl⟩, ?_⟩
       have:len=0:=by rcases Nat.mul_eq_zero.1 h0 with h|h<;>omega
       subst this;simp [gR]
      ·refine⟨zv.cells,.inr ⟨h0,rfl⟩, ?_⟩
       exact zS3 zv.cells len (len*n) (by omega) (by rw [hzs])
     obtain⟨zc,hz1,hz2⟩:=hzero;obtain⟨ys,h3,h4⟩:=zNf (place':=fun i=>some (i*n,n)) (fun i x hx=>hx) parts pv.toList (gR z len) ((Array.range (len*n)).map (zc[· %zc.size]!)) cs hp (by rw [hz2];exact zYB h2 len) hf;have hrun:∀{v:Value},v= .slice (some ⟨w.heap.size,0,none⟩) len len→(((do pure (.value (←Instr.buildSlice t len pv)):Sem Next)).run P w)= .ok (.value v) (w.alloc (.cells ys e)):=by
      intro v hv;subst hv;rcases hz1 with⟨h0,hz1⟩|⟨h0,hz1⟩
      ·subst hz1
       simp only [Instr.buildSlice,Sem.run_bind,run_underlying hu,Result.andThen_ok,yg hn,Sem.run_ite,if_neg (show¬len*n>2^24 by omega),Sem.run_pure,if_pos h0,h3,newRow,run_newObj];rfl
      ·subst hz1
       simp only [Instr.buildSlice,Sem.run_bind,run_underlying hu,Result.andThen_ok,yg hn,Sem.run_ite,if_neg (show¬len*n>2^24 by omega),Sem.run_pure,if_neg h0,ui h1,h3,newRow,run_newObj];rfl
     have hlen:ys.size=len*n:=by
      rw [←Array.length_toList,h4.length];have pq:∀(pl:Nat→Option (Nat×Nat)) (parts:List (Nat×AV T)) (l cs:List (AV T)),zMN pl l parts=some cs→cs.length=l.length:=by
       intro pl parts
       induction parts with
       |nil=>intro l cs h;cases h;rfl
       |cons p parts ih=>
        intro l cs h;obtain⟨i,x⟩:=p;simp only [zMN]at h;split at h
        ·rename_i off m xs _ _
         cases hb:Nat.beq xs.length m&&Nat.ble (off+xs.length) l.length
         ·rw [hb]at h;cases h
         ·rw [hb]at h
          simp only [Bool.and_eq_true]at hb;rw [ih _ _ h,qz (Nat.le_of_ble_eq_true hb.2)]
        ·cases h
      rw [pq _ _ _ _ hf,zFE,hzl]
     cases hty:C.typed e
     ·rw [hty]at h
      simp only [cond_false]at h;have hst:=zAA hR e h4;refine .inl ⟨_,_,[],_,_,_,h,.inl (hrun rfl),hst, ?_⟩;exact⟨by simp,w.heap.size,wa _ _ _,_,rfl,fun _ =>rfl,Nat.le_refl _⟩
     ·rw [hty]at h
      simp only [cond_true]at h;cases w9:Nat.beq (C.size e) n
      ·rw [w9]at h;cases h
      ·rw [w9]at h
       simp only [cond_true]at h;have hsz':C.size e=n:=Nat.eq_of_beq_eq_true w9;obtain⟨vs,H',k1,k2,k3,k4,k5⟩:=zZ7 hC cs H _ r ys.toList hR h4 h;obtain⟨l,hl,k1⟩:=Option.bind_eq_some_iff.1 k1;obtain⟨h6,h7⟩:=zbN hC len vs l ys.toList hl (by rw [Array.length_toList,hlen,hsz']) k5;have hst:=gO hC k2.rp (zs:=[]) (cap:=len) (0,0) (List.append_nil _).symm h6 (by rw [hlen,hsz']) (fz0 _) true;refine .inl ⟨_,_,[],.slice (some ⟨w.heap.size,0,none⟩) l.length len,_,_,k1,.inl (hrun (by rw [h7])),k2.zEr hst, ?_⟩;exact zMu (vO w _) (by rw [hlen,hsz'])
    ·cases h
  ·cases h
 ·cases h
theorem zQk{Q:Nat→Value→Prop}:∀(vs:List (V T)) (_ :∀(j:Nat) (v:V T),vs[j]? =some v→∃y,Q j y∧qI C (Cell C σ H w) v y),
  ∃ys,yW C σ H w (vs.map .v) ys∧∀(j:Nat) (y:Value),ys[j]? =some y→Q j y
 |[],_ =>⟨[],rfl,fun j y h=>by simp at h⟩
 |v::vs,h=>by
  obtain⟨y,h1,h2⟩:=h 0 v rfl;obtain⟨ys,h3,h4⟩:=zQk (Q:=fun j=>Q (j+1)) vs (fun j v hv=>h (j+1) v (by simpa using hv));exact⟨y::ys,⟨y,ys,rfl,h2,h3⟩,fun j z hz=>by
   cases j with
   |zero=>simp at hz;subst hz;exact h1
   |succ j=>exact h4 j z (by simpa using hz)⟩
theorem zU9(l:List (V T))(off n:Nat):((l.map (AV.v (T:=T))).drop off).take n=((l.drop off).take n).map .v:=by
 rw [←List.map_drop,←List.map_take]
theorem zUQ(hR:Rp C σ H w G){x:AV T}{y:Value}{n:Nat}{cs:List (AV T)}(hx:zr C σ H w x y)(h:uY C (fun g=>(G g).map fun l=>l.map AV.v) H x n=some cs):
  ∃a ys,y= .pointer (some a)∧yW C σ H w cs ys∧∀(j:Nat) (v:Value),ys[j]? =some v→w.cell? (a.add j)=some v:=by
 have key:∀(vs:List (V T)) (b k off:Nat),(∀(j:Nat) (v:V T),vs[j]? =some v→∃y,w.cell? ⟨b,k+j,none⟩=some y∧qI C (Cell C σ H w) v y)→
   ∃ys,yW C σ H w (((vs.map .v).drop off).take n) ys∧∀(j:Nat) (v:Value),ys[j]? =some v→w.cell? ((⟨b,k+off,none⟩:Addr).add j)=some v:=by
  intro vs b k off hv;rw [zU9];obtain⟨ys,h1,h2⟩:=zQk (C:=C) (σ:=σ) (H:=H) (w:=w) (Q:=fun j y=>w.cell? ⟨b,k+off+j,none⟩=some y) ((vs.drop off).take n) (fun j v hj=>by
   rw [List.getElem?_take]at hj;split at hj
   ·rw [List.getElem?_drop]at hj
    obtain⟨y,h1,h2⟩:=hv _ v hj;exact⟨y,by rw [Nat.add_assoc];exact h1,h2⟩
   ·cases hj)
  exact⟨ys,h1,fun j v hj=>by rw [qR];exact h2 j v hj⟩
 unfold uY at h;split at h
 ·rename_i o off
  split at h
  ·rename_i e g l ho
   cases h;obtain⟨_,b,hb,rfl⟩:=hx;obtain⟨b',cs,ys,rest,h1,h2,h3,h4,_⟩:=(hR.obj o _ ho).cellsD;rw [hb]at h1;cases h1;refine⟨_,_,rfl,(h4.drop off).take n,fun j v hj=> ?_⟩;rw [List.getElem?_take]at hj;split at hj
   ·rw [List.getElem?_drop]at hj
    rw [qR,j8 h2,←Array.getElem?_toList,h3,List.getElem?_append_left (List.getElem?_eq_some_iff.1 hj).1];exact hj
   ·cases hj
  ·cases h
 ·rename_i t x off
  cases h;obtain⟨b,k,rfl,h1⟩:=hx;obtain⟨ys,h2,h3⟩:=key (C.enc t x) b k off (fun j v hj=>let ⟨y,h4,h5⟩:=h1 j v hj;⟨y,h4.2,h5⟩);exact⟨_,ys,rfl,h2,h3⟩
 ·rename_i o i off
  split at h
  ·rename_i t l m ho
   obtain⟨_,_,b,hb,h1⟩:=hx;have hy:=h1 _ _ (vM ho);subst hy;cases hi:l[i]? with
   |none=>rw [hi]at h;cases h
   |some z=>
    rw [hi]at h;cases h;obtain⟨hlt,hz⟩:=List.getElem?_eq_some_iff.1 hi;rcases hR.obj o _ ho with⟨rfl,_⟩|⟨b',cs,fz,cap,h2,h3,h4,h5,h6,h7⟩
    ·simp at hlt
    ·rw [hb]at h2;cases h2
     obtain⟨ys,h8,h9⟩:=key (C.enc t z) b (i*C.size t) off (fun j v hj=>by
      obtain⟨y,h10,h11⟩:=h7 i hlt j v (by rw [hz];exact hj);exact⟨y,by rw [j8 h3];exact h10,h11⟩)
     exact⟨_,ys,rfl,h8,h9⟩
  ·cases h
 ·rename_i g off
  dsimp only at h;cases hg:G g with
  |none=>rw [hg]at h;cases h
  |some l=>
   rw [hg]at h;cases h;cases(show y=_ from hx);obtain⟨ys,h1,h2⟩:=key l g 0 off (fun j v hj=>let ⟨y,h3,h4⟩:=hR.zDJ g l hg j v hj;⟨y,h3.2,h4⟩);exact⟨_,ys,rfl,h1,fun j v hj=>by have:=h2 j v hj;rwa [Nat.zero_add]at this⟩
 ·cases h
theorem zS2(hR:Rp C σ H w G){t:Nat}{x:AV T}{y:Value}(hx:zr C σ H w x y){K:yZ T R}{r:R}(h:zCk C P G t x H K=some r):
  kX C σ H w (((do pure (.value (←Instr.loadAt t y)):Sem Next)).run P w) K r:=by
 unfold zCk at h;split at h
 ·rename_i n ag hn ha
  split at h
  ·rename_i cs hcs
   obtain⟨a,ys,rfl,h1,h2⟩:=zUQ hR hx hcs;rcases zJX h with⟨rfl,hl,hK⟩|⟨rfl,z,hz,hK⟩
   ·refine yY hK (v:= .agg ys.toArray) ?_ ⟨_,rfl,by simpa using h1⟩
    have h3:ys.length=n:=by rw [h1.length,hl]
    have:=run_loadCells_list (P:=P) w a ys h2;rw [h3]at this;simp only [Instr.loadAt,Instr.sureAddr,loadVar,Sem.run_bind,Sem.run_pure,Result.andThen_ok,gq ha,if_true,yg hn,this]
   ·subst hz
    obtain⟨v,ys',rfl,h3,h4⟩:=h1;have hc:=h2 0 v rfl;have h0:a.add 0=a:=by simp [Addr.add]
    rw [h0]at hc;refine yY hK (v:=v) ?_ h3;simp only [Instr.loadAt,Instr.sureAddr,loadVar,Sem.run_bind,Sem.run_pure,Result.andThen_ok,gq ha,Bool.false_eq_true,if_false,run_load,hc]
  ·cases h
 ·cases h
theorem zVn{s f off t:Nat}(h:zTZ P s f=some (off,t)):∃fs x,P.underlying s=some (.struct fs)∧fs[f]? =some x∧x.offset=off∧x.type=t:=by
 unfold zTZ at h;split at h
 ·rename_i fs hu
  cases hx:fs[f]? with
  |none=>rw [hx]at h;cases h
  |some x=>rw [hx]at h;cases h;exact⟨fs,x,hu,hx,rfl,rfl⟩
 ·cases h
theorem zBQ{s f off t m:Nat}(h:zTZ P s f=some (off,t))(hn:qF P t=some (m+1))(a:Addr)(w:World):
  (Instr.fieldAt s (.pointer (some a)) f).run P w= .ok (.pointer (some (a.add off))) w:=by
 obtain⟨fs,x,hu,hx,rfl,rfl⟩:=zVn h;simp only [Instr.fieldAt,Sem.run_bind,run_underlying hu,Result.andThen_ok,hx,Instr.sureAddr,Sem.run_pure,fieldPlace,yg hn];rw [if_neg (by omega)];rfl
theorem zEO(hR:Rp C σ H w G){s f:Nat}{x:AV T}{y:Value}(hx:zr C σ H w x y){K:yZ T R}{r:R}(h:vZ P s f x H K=some r):
  kX C σ H w (((do pure (.value (←Instr.fieldAt s y f)):Sem Next)).run P w) K r:=by
 unfold vZ at h;split at h
 ·rename_i off t hf
  split at h
  ·rename_i m hn
   split at h
   ·obtain⟨h0,b,h1,rfl⟩:=hx
    refine yY h (v:= .pointer (some ⟨b,_ +off,none⟩)) ?_ ⟨h0,b,h1,rfl⟩;simp only [Sem.run_bind,zBQ hf hn,Result.andThen_ok,Sem.run_pure,qR]
   ·rename_i o i k
    obtain⟨h0,⟨a,rfl⟩,b,h1,h2⟩:=hx;refine yY h (v:= .pointer (some (a.add off))) ?_ ⟨h0,⟨_,rfl⟩,b,h1,fun t l hl=> ?_⟩
    ·simp only [Sem.run_bind,zBQ hf hn,Result.andThen_ok,Sem.run_pure]
    ·have:=h2 t l hl
     cases this;rw [qR,Nat.add_assoc]
   ·obtain⟨b,k,rfl,h1⟩:=hx
    refine yY h (v:= .pointer (some ⟨b,k+(_ +off),none⟩)) ?_ ⟨b,k,rfl,h1⟩;simp only [Sem.run_bind,zBQ hf hn,Result.andThen_ok,Sem.run_pure,qR,Nat.add_assoc]
   ·cases(show y=_ from hx)
    refine yY h (v:= .pointer (some ⟨_,_ +off,none⟩)) ?_ rfl;simp only [Sem.run_bind,zBQ hf hn,Result.andThen_ok,Sem.run_pure,qR]
   ·cases h
  ·cases h
 ·cases h
theorem zQU(hR:Rp C σ H w G){s f:Nat}{x:AV T}{y:Value}(hx:zr C σ H w x y){K:yZ T R}{r:R}(h:zDP P s f x H K=some r):
  kX C σ H w (((do pure (.value (←Instr.field s y f)):Sem Next)).run P w) K r:=by
 unfold zDP at h;split at h
 ·rename_i off t cs hf
  obtain⟨fs,z,hu,hz,rfl,rfl⟩:=zVn hf;split at h
  ·rename_i n ag hn ha
   obtain⟨ys,rfl,h1⟩:=hx;obtain⟨u,v,h2,h3,h4⟩:=zSf hn ha h1 h;refine yY h2 ?_ h4;simp only [Instr.field,Sem.run_bind,run_underlying hu,Result.andThen_ok,hz,asAgg,Sem.run_pure,h3]
  ·cases h
 ·cases h
end Go.Proofs.YtdoifigogbdodaaGreatDoor.Ev

namespace Go.Proofs.YtdoifigogbdodaaGreatDoor.Ev
open Go
variable {T:Nat→Type} {C:wB T} {P:Program} {σ:Lk} {H:List (zT T)} {w:World} {G:Nat→Option (List (V T))} {R:Type}
theorem vt(P:Program)(b off:Nat)(e:TypeId)(fz:Nat×Nat):∀(vs:List Value) (i:Nat) (cur:Array Value) (w:World),w.heap[b]? =some (.cells cur e fz)→zet cur fz→
  off+i+vs.length≤cur.size→(∀v∈vs,v.oneCell'=true)→(storeCells ⟨b,off,none⟩ vs i).run P w= .ok () (w.setRow b (yS cur.toList (off+i) vs).toArray)
 |[],i,cur,w,hg,_,_,_ =>by
  simp only [storeCells,yS,List.append_nil,List.length_nil,Nat.add_zero,List.take_append_drop,Array.toArray_toList];rw [setRow_self w b cur e fz hg];rfl
 |v::rest,i,cur,w,hg,hfz,hl,h1=>by
  have hi:off+i<cur.size:=by simp at hl;omega
  have hcell:w.cell? ⟨b,off+i,none⟩=some cur[off+i]:=by rw [j8 hg];simp [hi]
  have hfro:w.frozen? ⟨b,off+i,none⟩=false:=by
   have:=hfz (off+i) hi;simp only [World.frozen?,hg]
   simpa using this
  have hst:(store ((⟨b,off,none⟩:Addr).add i) v).run P w= .ok () (w.setRow b (cur.setIfInBounds (off+i) v)):=by
   rw [qR,run_store P w _ v _ (h1 v (by simp)),hcell];simp [hfro,setCell_eq_setRow w b (off+i) cur e fz v hg]
  have ih:=vt P b off e fz rest (i+1) (cur.setIfInBounds (off+i) v) (w.setRow b (cur.setIfInBounds (off+i) v)) (setRow_heap w b cur _ e _ hg)
   (fun k hk=>hfz k (by simpa using hk)) (by simp at hl⊢;omega) (fun x hx=>h1 x (by simp [hx]))
  simp only [storeCells,Sem.run_bind,hst,Result.andThen_ok,ih,setRow_setRow];congr 3;rw [Array.toList_setIfInBounds,←Nat.add_assoc];exact zIC cur.toList (off+i) v rest (by simp at hl⊢;omega)
theorem pa{α:Type}(l vs:List α)(off k:Nat)(h:off+vs.length≤l.length):(yS l off vs)[k]? =if off≤k∧k<off+vs.length then vs[k-off]? else l[k]? :=by
 unfold yS;have ht:(l.take off).length=off:=by simp;omega
 by_cases h1:k<off
 ·rw [List.append_assoc,List.getElem?_append_left (by omega),List.getElem?_take,if_pos h1,if_neg (by omega)]
 ·by_cases h2:k<off+vs.length
  ·rw [List.append_assoc,List.getElem?_append_right (by omega),ht,List.getElem?_append_left (by omega),if_pos ⟨by omega,h2⟩]
  ·rw [List.getElem?_append_right (by simp;omega),if_neg (by omega)]
   rw [List.getElem?_drop];congr 1;simp;omega
theorem vX{w:World}{b:Nat}{cs cs':Array Value}{e:TypeId}{fz:Nat×Nat}(h:w.heap[b]? =some (.cells cs e fz)):(w.setRow b cs').heap[b]? =some (.cells cs' e fz):=setRow_heap w b cs cs' e fz h
theorem zZL(hC:yj C)(hR:Rp C σ H w G){t:Nat}{x z:AV T}{y u:Value}(hx:zr C σ H w x y)(hz:zr C σ H w z u){K:yZ T R}{Kp:AV T→List (zT T)→Option R}{r:R}(h:zPL C P t x z H K=some r):
  Good P C G σ H w (((do Instr.storeAt t y u;pure .skip:Sem Next)).run P w) K Kp r:=by
 unfold zPL at h;split at h
 ·rename_i n cs hn hcs
  cases hb:Nat.beq cs.length n&&zBR cs
  ·rw [hb]at h;cases h
  ·rw [hb]at h
   simp only [cond_true]at h;simp only [Bool.and_eq_true]at hb;have hl:cs.length=n:=Nat.eq_of_beq_eq_true hb.1;have hrep:=zDR hcs hz;have hone:=zFU hb.2 hrep;have w9:u.cells.size=n:=by rw [←Array.length_toList,hrep.length,hl]
   have hlenu:u.cells.toList.length=cs.length:=hrep.length;have run:∀(b off:Nat) (cur:Array Value) (e:TypeId) (fz:Nat×Nat),w.heap[b]? =some (.cells cur e fz)→zet cur fz→off+cs.length≤cur.size→y= .pointer (some ⟨b,off,none⟩)→
     ((do Instr.storeAt t y u;pure .skip:Sem Next)).run P w= .ok .skip (w.setRow b (yS cur.toList off u.cells.toList).toArray):=by
    intro b off cur e fz hblk hfz hle hy;subst hy;have:=vt P b off e fz u.cells.toList 0 cur w hblk hfz (by rw [hlenu];omega) hone;simp only [Instr.storeAt,Instr.sureAddr,storeVar,Sem.run_bind,Sem.run_pure,Result.andThen_ok,yg hn,w9,ne_eq,not_true,if_false,this];rfl
   split at h
   ·rename_i o off
    split at h
    ·rename_i ety g l ho
     cases hle:Nat.ble (off+cs.length) l.length
     ·rw [hle]at h;cases h
     ·rw [hle]at h
      simp only [cond_true]at h;have hle':=Nat.le_of_ble_eq_true hle;obtain⟨h0,b,hb1,hy⟩:=hx;obtain⟨b',cur,ys,rest,h2,h3,h4,h5,hmk⟩:=(hR.obj o _ ho).cellsD;rw [hb1]at h2;cases h2;have hcl:l.length≤cur.size:=by rw [←Array.length_toList,h4,List.length_append,h5.length];omega
      have hyl:=h5.length;have hsl:=qz (l:=cur.toList) (vs:=u.cells.toList) (off:=off) (by rw [hlenu];simp;omega);have hspl:yS cur.toList off u.cells.toList=yS ys off u.cells.toList++rest:=by
       unfold yS;rw [h4,List.take_append_of_le_length (by omega),List.append_assoc _ _ rest];congr 1;rw [List.drop_append_of_le_length (by omega)]
      refine .inl ⟨_,_,[],undef,σ,_,h,.inr ⟨run b off cur ety (0,0) h3 (fz0 _) (by omega) hy,rfl⟩, ?_,trivial⟩;refine ug hR _ ho rfl (by cases g<;>rfl) rfl rfl rfl (by simp) (fun k hk hne=> ?_) (fun _ _ =>trivial) (fun k off hk hnf=>(hnf trivial).elim) (fun n2 s2 he=> ?_) (fun M=> ?_)
      ·exact setRow_other w b k _ (fun hkb=>hne (by rw [hkb];exact hb1))
      ·have hll:=qz (l:=l) (vs:=cs) (off:=off) (by omega)
       refine⟨?_,fun b2 hb2 cs2 e2 fz2 hc2=> ?_⟩
       ·cases he
       ·rw [hb1]at hb2;cases hb2
        rw [h3]at hc2;cases hc2;exact⟨_,ety,(0,0),vX h3,by simpa using hsl⟩
      ·refine hmk _ _ _ _ (yS ys off u.cells.toList) _ hb1 (vX h3) (by simpa using hspl) (qz (by rw [hlenu];omega)) (qz (by omega)) ((h5.yS hrep off).gV M)
    ·cases h
   ·rename_i o i off
    obtain⟨vs,H',k1,k2,k3,k4,k5⟩:=zZ7 hC cs H _ r u.cells.toList hR hrep h;split at k1
    ·rename_i e l ho
     split at k1
     ·rename_i yy hi
      cases hle:Nat.ble (off+vs.length) (C.size e)
      ·rw [hle]at k1;cases k1
      ·rw [hle]at k1
       simp only [cond_true]at k1;have hle':=Nat.le_of_ble_eq_true hle;obtain⟨zz,hzz,k1⟩:=Option.bind_eq_some_iff.1 k1;have hx':=zr.gV k2.move hx;obtain⟨h0,_,b,hb1,hyp⟩:=hx';have hy:=hyp _ _ (vM ho);obtain⟨hlt,hiy⟩:=List.getElem?_eq_some_iff.1 hi;rcases k2.rp.obj o _ ho with⟨rfl,_⟩|⟨b',cur,fz,cap,h2,h3,h4,h5,h6,h7⟩
       ·simp at hlt
       ·rw [hb1]at h2;cases h2
        have hic:i*C.size e+C.size e≤cap*C.size e:=by
         rw [←Nat.succ_mul];exact Nat.mul_le_mul_right _ (by omega)
        have hsr:=qz (l:=cur.toList) (vs:=u.cells.toList) (off:=i*C.size e+off) (by rw [hlenu,←k4];simp;omega);have hlenc:(yS cur.toList (i*C.size e+off) u.cells.toList).toArray.size=cur.size:=by simpa using hsr
        refine .inl ⟨_,_,[],undef,σ,_,k1,.inr ⟨run b (i*C.size e+off) cur e fz h3 h4 (by rw [←k4];omega) hy,rfl⟩,k2.zEr ?_,trivial⟩;refine ug k2.rp _ ho rfl rfl rfl rfl rfl (by simp) (fun k hk hne=> ?_) (fun _ _ => .inl rfl) (fun k off hk hnf=>(hnf (.inl rfl)).elim) (fun n2 s2 he=> ?_) (fun M=> ?_)
        ·exact setRow_other w b k _ (fun hkb=>hne (by rw [hkb];exact hb1))
        ·refine⟨by simpa [svO] using he,fun b2 hb2 cs2 e2 fz2 hc2=> ?_⟩
         rw [hb1]at hb2;cases hb2;rw [h3]at hc2;cases hc2;exact⟨_,e,fz,vX h3,hlenc⟩
        ·refine .inr ⟨b,_,fz,cap,hb1,vX h3,fun k hk=>h4 k (by rw [hlenc]at hk;exact hk),by rw [hlenc];exact h5,by simpa using h6, ?_⟩
         intro j hj k v hv;have hjl:j<l.length:=by simpa using hj
         have hk:=zP3 hC hv;have hget:=pa cur.toList u.cells.toList (i*C.size e+off) (j*C.size e+k) (by rw [hlenu,←k4];simp;omega);by_cases hji:j=i
         ·subst hji
          rw [List.getElem_set_self]at hv;obtain⟨yv,h8,h9⟩:=zV9 hC (cell:=Cell C σ H' w) hzz (ys:=(yS cur.toList (j*C.size e+off) u.cells.toList).drop (j*C.size e)) (fun q v' hv'=>by
           have hencl:=hC.len e yy;rw [pa _ _ _ _ (by omega)]at hv';rw [List.getElem?_drop,pa _ _ _ _ (by rw [hlenu,←k4];simp;omega)];rw [hlenu,←k4];split at hv'
           ·rename_i hq
            rw [if_pos (by omega)];obtain⟨yv,h8,h9⟩:=k5 _ v' hv';exact⟨yv,by rw [←h8];congr 1;omega,h9⟩
           ·rename_i hq
            rw [if_neg (by omega)];obtain⟨yv,h8,h9⟩:=h7 j hjl q v' (by rw [hiy];exact hv');exact⟨yv,by rw [Array.getElem?_toList];exact h8,h9⟩) k v hv
          refine⟨yv, ?_,h9.mono M.cell⟩;rw [List.getElem?_drop]at h8
          simpa using h8
         ·rw [List.getElem_set_ne (by omega)]at hv
          obtain⟨yv,h8,h9⟩:=h7 j hjl k v hv;refine⟨yv, ?_,h9.mono M.cell⟩;have:(yS cur.toList (i*C.size e+off) u.cells.toList)[j*C.size e+k]? =cur.toList[j*C.size e+k]? :=by
           rw [hget,if_neg];rw [hlenu,←k4];rcases Nat.lt_or_ge j i with hlt2|hge
           ·have:(j+1)*C.size e≤i*C.size e:=Nat.mul_le_mul_right _ hlt2
            rw [Nat.succ_mul]at this;omega
           ·have:(i+1)*C.size e≤j*C.size e:=Nat.mul_le_mul_right _ (by omega)
            rw [Nat.succ_mul]at this;omega
          simpa [this] using h8
     ·cases k1
    ·cases k1
   ·cases h
 ·cases h
end Go.Proofs.YtdoifigogbdodaaGreatDoor.Ev

namespace Go.Proofs.YtdoifigogbdodaaGreatDoor.Ev
open Go
variable {T:Nat→Type} {C:wB T} {P:Program} {σ:Lk} {H:List (zT T)} {w:World} {G:Nat→Option (List (V T))} {R:Type}
theorem zD2{cell:Nat→Nat→Value→Prop}{t:Nat}{l:List (T t)}{y:Value}(h:qI C cell (.sl t l) y):
  ∃A c,y= .slice A l.length c∧l.length≤c∧(l=[]∨∃b off,A=some ⟨b,off,none⟩∧∀(i:Nat) (hi:i<l.length) (k:Nat) (v:V T),(C.enc t l[i])[k]? =some v→∃u,cell b (off+i*C.size t+k) u∧qI C cell v u):=by
 cases h with
 |sl0 _ A c=>exact⟨A,c,rfl,Nat.zero_le _,.inl rfl⟩
 |sl _ _ blk off c xs hc h1 h2=>
  refine⟨_,c,rfl,hc,.inr ⟨blk,off,rfl,fun i hi k v hv=> ?_⟩⟩;obtain⟨hk,hkv⟩:=List.getElem?_eq_some_iff.1 hv;exact⟨xs i k,h1 i hi k hk,by rw [←hkv];exact h2 i hi k hk⟩
theorem zjR{cell:Nat→Nat→Value→Prop}{t:Nat}{l:List (T t)}{b off c:Nat}(hc:l.length≤c)
  (h:∀(i:Nat) (hi:i<l.length) (k:Nat) (v:V T),(C.enc t l[i])[k]? =some v→∃u,cell b (off+i*C.size t+k) u∧qI C cell v u):
  qI C cell (.sl t l) (.slice (some ⟨b,off,none⟩) l.length c):=by
 have hch:∀i k,∃u,∀(hi:i<l.length) (v:V T),(C.enc t l[i])[k]? =some v→cell b (off+i*C.size t+k) u∧qI C cell v u:=fun i k=>by
  by_cases hi:i<l.length
  ·by_cases hk:k<(C.enc t l[i]).length
   ·obtain⟨u,h1,h2⟩:=h i hi k _ (List.getElem?_eq_getElem hk)
    exact⟨u,fun _ v hv'=>by rw [List.getElem?_eq_getElem hk]at hv';cases hv';exact⟨h1,h2⟩⟩
   ·exact⟨undef,fun _ v hv'=>by rw [List.getElem?_eq_none (by omega)]at hv';cases hv'⟩
  ·exact⟨undef,fun hi'=>(hi hi').elim⟩
 refine .sl t l b off c (fun i k=>Classical.choose (hch i k)) hc (fun i hi k hk=> ?_) (fun i hi k hk=> ?_)
 ·exact(Classical.choose_spec (hch i k) hi _ (List.getElem?_eq_getElem hk)).1
 ·exact(Classical.choose_spec (hch i k) hi _ (List.getElem?_eq_getElem hk)).2
def zUL(a:AV T)(H:List (zT T)):List (zT T):=match a with| .own o=>zDN o H|_ =>H
theorem zTw(hC:yj C)(hR:Rp C σ H w G){e:Nat}{x:AV T}{y:Value}{c:List (T e)}(h:jz H e x=some c)(hx:zr C σ H w x y):
  Step C G [] σ H w σ (zUL x H) w∧qI C (Cell C σ (zUL x H) w) (.sl e c) y:=by
 unfold jz at h;split at h
 ·rename_i t l
  split at h
  ·rename_i he;subst he;cases h;exact⟨Step.refl hR,hx⟩
  ·cases h
 ·rename_i o
  split at h
  ·rename_i t l m ho
   split at h
   ·rename_i he;subst he;cases h
    have hst:=zFi hR ho;have he2:zUL (.own o) H=H.set o (.row t l false):=zSi ho;rw [he2];exact⟨hst,zWt hC hst.rp (zNX ho) (zr.gV hst.move hx)⟩
   ·cases h
  ·cases h
 ·cases h;cases(show qI C (Cell C σ H w) _ _ from hx);exact⟨Step.refl hR,.sl0 _ _ _⟩
 ·cases h;cases(show y=_ from hx);exact⟨Step.refl hR,.sl0 _ _ _⟩
 ·cases h;obtain⟨A,rfl⟩:=hx;exact⟨Step.refl hR,.sl0 _ _ _⟩
 ·cases h
theorem zEw(hR:Rp C σ H w G){x:AV T}{y:Value}(hx:zr C σ H w x y){K:yZ T R}{r:R}(h:jV x H K=some r):
  (∃a,y= .pointer (some a))∧K x H []=some r∨(∃f a b,y= .func (.func f) a b)∧K x H []=some r:=by
 unfold jV at h;split at h
 ·obtain⟨_,b,_,rfl⟩:=hx;exact .inl ⟨⟨_,rfl⟩,h⟩
 ·obtain⟨_,⟨a,rfl⟩,_⟩:=hx;exact .inl ⟨⟨_,rfl⟩,h⟩
 ·obtain⟨b,k,rfl,_⟩:=hx;exact .inl ⟨⟨_,rfl⟩,h⟩
 ·cases(show y=_ from hx);exact .inl ⟨⟨_,rfl⟩,h⟩
 ·obtain⟨a,b,rfl,_⟩:=hx;exact .inr ⟨⟨_,_,_,rfl⟩,h⟩
 ·cases h
theorem jP(k:IntKind)(n:Int)(w:World):(asIntOf (.int k n)).run P w= .ok (k,n) w:=rfl
theorem zRD(hR:Rp C σ H w G){t:Nat}{x i:AV T}{y u:Value}(hx:zr C σ H w x y)(hi:zr C σ H w i u)
  {K:yZ T R} {r:R} (h:vc C P t x i H K=some r):
  kX C σ H w (((do pure (.value (←Instr.indexAt t y u)):Sem Next)).run P w) K r:=by
 unfold vc at h;split at h
 ·rename_i e kk n hu
  have:=jc hi;subst this;split at h
  ·rename_i k hk
   have run:∀(a:Addr) (len cap:Nat),y= .slice (some a) len cap→0≤n→n<len→
     ((do pure (.value (←Instr.indexAt t y (.int kk n))):Sem Next)).run P w= .ok (.value (.pointer (some (a.add (n.toNat*k))))) w:=by
    intro a len cap hy h0 h1;subst hy;simp only [Instr.indexAt,Sem.run_bind,jP,Result.andThen_ok,run_underlying hu,Sem.run_pure,Sem.run_ite,if_pos (And.intro h0 h1),yg hk]
   split at h
   ·rename_i o
    split at h
    ·rename_i e' l m ho
     cases hb:Nat.beq k (C.size e')&&decide (0≤n)&&Nat.blt n.toNat l.length
     ·rw [hb]at h;cases h
     ·rw [hb]at h
      simp only [cond_true]at h;simp only [Bool.and_eq_true,decide_eq_true_eq]at hb;have hks:k=C.size e':=Nat.eq_of_beq_eq_true hb.1.1;have hlt:n.toNat<l.length:=by have:=Nat.le_of_ble_eq_true hb.2;omega
      obtain⟨h0,_,h1⟩:=hx;rcases h1 _ _ (vM ho)with⟨h2,_⟩|⟨b,c,cs,ee,fz,h2,h3,h4,h5⟩
      ·rcases hR.obj o _ ho with⟨rfl,_⟩|⟨b,_,_,_,hb2,_⟩
       ·simp at hlt
       ·rw [h2]at hb2;cases hb2
      ·refine yY h (run ⟨b,0,none⟩ l.length c h3 hb.1.2 (by omega)) ⟨h0,⟨_,rfl⟩,b,h2,fun t' l' ho'=> ?_⟩
       rw [vM ho]at ho';cases ho';rw [qR,hks];simp
    ·cases h
   ·rename_i e' l
    cases hb:Nat.beq k (C.size e')&&decide (0≤n)
    ·rw [hb]at h;cases h
    ·rw [hb]at h
     simp only [cond_true]at h;simp only [Bool.and_eq_true,decide_eq_true_eq]at hb;have hks:k=C.size e':=Nat.eq_of_beq_eq_true hb.1;obtain⟨z,hz,h⟩:=Option.bind_eq_some_iff.1 h;obtain⟨hlt,hzv⟩:=List.getElem?_eq_some_iff.1 hz;obtain⟨A,c,h1,h2,h3⟩:=zD2 (show qI C (Cell C σ H w) _ _ from hx);rcases h3 with rfl|⟨b,off,rfl,h4⟩
     ·simp at hlt
     ·refine yY h (run ⟨b,off,none⟩ l.length c h1 hb.2 (by omega)) ⟨b,off+n.toNat*k,by rw [qR,Nat.add_zero],fun j v hj=> ?_⟩
      rw [hks];exact h4 n.toNat hlt j v (by rw [hzv];exact hj)
   ·rename_i o off len cap
    cases hb:decide (0≤n)&&Nat.blt n.toNat len
    ·rw [hb]at h;cases h
    ·rw [hb]at h
     simp only [cond_true]at h;simp only [Bool.and_eq_true,decide_eq_true_eq]at hb;have hlt:n.toNat<len:=by have:=Nat.le_of_ble_eq_true hb.2;omega
     obtain⟨h0,b,h1,d,h2,_⟩:=hx;exact yY h (run ⟨b,off,none⟩ len d h2 hb.1 (by omega)) ⟨h0,b,h1,by rw [qR]⟩
   ·cases h
  ·cases h
 ·rename_i len e kk n hu
  have:=jc hi;subst this;split at h
  ·rename_i k hk
   cases hb:decide (0≤n)&&Nat.blt n.toNat len
   ·rw [hb]at h;cases h
   ·rw [hb]at h
    simp only [cond_true]at h;simp only [Bool.and_eq_true,decide_eq_true_eq]at hb;have hlt:n.toNat<len:=by have:=Nat.le_of_ble_eq_true hb.2;omega
    have run:∀(a:Addr),y= .pointer (some a)→((do pure (.value (←Instr.indexAt t y (.int kk n))):Sem Next)).run P w= .ok (.value (.pointer (some (a.add (n.toNat*k))))) w:=by
     intro a hy;subst hy;simp only [Instr.indexAt,Sem.run_bind,jP,Result.andThen_ok,run_underlying hu,Instr.sureAddr,Sem.run_pure,Sem.run_ite,if_pos (And.intro hb.1 (show n<(len:Int)by omega)),yg hk]
    split at h
    ·obtain⟨h0,b,h1,h2⟩:=hx
     exact yY h (run _ h2) ⟨h0,b,h1,by rw [qR]⟩
    ·exact yY h (run _ hx) (by rw [qR];rfl)
    ·obtain⟨b,k',h1,h2⟩:=hx
     exact yY h (run _ h1) ⟨b,k',by rw [qR,Nat.add_assoc],h2⟩
    ·cases h
  ·cases h
 ·cases h
theorem zQi(hR:Rp C σ H w G){t:Nat}{x i:AV T}{y u:Value}(hx:zr C σ H w x y)(hi:zr C σ H w i u)
  {K:yZ T R} {r:R} (h:zDX P t x i H K=some r):
  kX C σ H w (((do pure (.value (←Instr.index t y u)):Sem Next)).run P w) K r:=by
 unfold zDX at h;split at h
 ·rename_i s kk n hu
  have:=jc hi;subst this;have:=zCw hx;subst this;cases hb:decide (0≤n)
  ·rw [hb]at h;cases h
  ·rw [hb]at h
   simp only [cond_true]at h;simp only [decide_eq_true_eq]at hb;obtain⟨z,hz,h⟩:=Option.bind_eq_some_iff.1 h;refine yY h ?_ (zAf _ _);have hz':s[n.toNat]? =some z:=by
    obtain⟨h1,h2⟩:=List.getElem?_eq_some_iff.1 hz;have h3:n.toNat<s.size:=by show n.toNat<s.data.size;simpa using h1
    rw [getElem?_pos s n.toNat h3];congr 1
   simp only [Instr.index,Sem.run_bind,jP,Result.andThen_ok,run_underlying hu,if_pos hb,hz',Sem.run_pure]
 ·rename_i len e cs kk n hu
  have:=jc hi;subst this;split at h
  ·rename_i k ag hk ha
   cases hb:decide (0≤n)&&Nat.blt n.toNat len
   ·rw [hb]at h;cases h
   ·rw [hb]at h
    simp only [cond_true]at h;simp only [Bool.and_eq_true,decide_eq_true_eq]at hb;have hlt:n.toNat<len:=by have:=Nat.le_of_ble_eq_true hb.2;omega
    obtain⟨ys,rfl,h1⟩:=hx;obtain⟨z,v,h2,h3,h4⟩:=zSf hk ha h1 h;refine yY h2 ?_ h4;simp only [Instr.index,Sem.run_bind,jP,Result.andThen_ok,run_underlying hu,Sem.run_ite,if_pos (And.intro hb.1 (show n<(len:Int)by omega)),yg hk,h3,Sem.run_pure]
  ·cases h
 ·cases h
theorem vk{d n:Int}{x:Option (AV T)}{y:Option Value}(h:zFW d x=some n)(hxy:∀a,x=some a→∃v,y=some v∧zr C σ H w a v)(hn:x=none→y=none):
  (y=none∧n=d)∨∃k,y=some (.int k n):=by
 unfold zFW at h;split at h
 ·exact .inl ⟨hn rfl,by cases h;rfl⟩
 ·cases h
  obtain⟨v,h1,h2⟩:=hxy _ rfl;have:=jc h2;subst this;exact .inr ⟨_,h1⟩
 ·cases h
theorem run_sliceBound(k:IntKind)(n:Int)(y:Nat)(code:BoundsCode)(h0:0≤n)(h1:n≤y)(w:World):(Instr.sliceBound (.int k n) y code).run P w= .ok n.toNat w:=by
 simp only [Instr.sliceBound,Sem.run_bind,jP,Result.andThen_ok,Sem.run_ite,if_pos (And.intro h0 h1),Sem.run_pure]
theorem vg(isS:Bool)(len cap:Nat){lo hi:Option Value}{l h:Int}(hl:(lo=none∧l=0)∨∃k,lo=some (.int k l))(hh:(hi=none∧h=len)∨∃k,hi=some (.int k h))
  (h0:0≤l) (h1:l≤h) (h2:h≤len) (h3:len≤cap) (w:World):(Instr.sliceBounds isS len cap lo hi none).run P w= .ok (l.toNat,h.toNat,cap) w:=by
 have e1:((h.toNat:Nat):Int)=h:=by omega
 rcases hl with⟨rfl,rfl⟩|⟨k,rfl⟩<;>rcases hh with⟨rfl,rfl⟩|⟨k',rfl⟩
 ·simp [Instr.sliceBounds]
 ·simp only [Instr.sliceBounds,Sem.run_bind,Sem.run_pure,Result.andThen_ok,run_sliceBound k' h cap _ (by omega) (by omega)];rfl
 ·simp only [Instr.sliceBounds,Sem.run_bind,Sem.run_pure,Result.andThen_ok,run_sliceBound k l len _ h0 (by omega)];rfl
 ·simp only [Instr.sliceBounds,Sem.run_bind,Sem.run_pure,Result.andThen_ok,run_sliceBound k' h cap _ (by omega) (by omega),run_sliceBound k l h.toNat _ h0 (by omega)]
theorem zYc(hC:yj C)(hR:Rp C σ H w G){t:Nat}{x:AV T}{y:Value}{lo hi mx:Option (AV T)}{lo' hi' mx':Option Value}(hx:zr C σ H w x y)
  (hlo:∀a,lo=some a→∃v,lo'=some v∧zr C σ H w a v) (hlon:lo=none→lo'=none) (hhi:∀a,hi=some a→∃v,hi'=some v∧zr C σ H w a v) (hhin:hi=none→hi'=none)
  (hmx:∀a,mx=some a→∃v,mx'=some v∧zr C σ H w a v) (hmxn:mx=none→mx'=none)
  {K:yZ T R} {Kp:AV T→List (zT T)→Option R} {r:R} (h:jg C P t x lo hi mx H K=some r):
  Good P C G σ H w (((do pure (.value (←Instr.sliceAt t y lo' hi' mx')):Sem Next)).run P w) K Kp r:=by
 unfold jg at h;split at h
 ·rename_i hu
  split at h
  ·rename_i s
   have:=zCw hx;subst this;cases mx with
   |some _ =>cases h
   |none=>
    rw [hmxn rfl];simp only [isNone,cond_true]at h;split at h
    ·rename_i l hh hbl hbh
     cases hb:decide (0≤hh)&&decide (hh≤(s.size:Int))&&decide (0≤l)&&decide (l≤hh)
     ·rw [hb]at h;cases h
     ·rw [hb]at h
      simp only [cond_true]at h;simp only [Bool.and_eq_true,decide_eq_true_eq]at hb;refine qU hR h ?_ (zUy _);simp only [Instr.sliceAt,Sem.run_bind,run_underlying hu,Result.andThen_ok,Instr.slice,Option.isSome_none,Bool.false_eq_true,if_false,
       vg false s.size s.size (vk hbl hlo hlon) (vk hbh hhi hhin) hb.1.2 hb.2 hb.1.1.2 (Nat.le_refl _),Sem.run_pure]
    ·cases h
  ·cases h
 ·rename_i e hu
  have zb:∀(z:Option (AV T)) (z':Option Value),zH9 z=true→(∀a,z=some a→∃v,z'=some v∧zr C σ H w a v)→∃k,z'=some (.int k 0):=by
   intro z z' hz hzz;unfold zH9 at hz;split at hz
   ·obtain⟨v,h1,h2⟩:=hzz _ rfl
    have:=jc h2;subst this;simp at hz;subst hz;exact⟨_,h1⟩
   ·cases hz
  split at h
  ·rename_i m
   cases hb:zH9 (some m)&&isNone lo&&zH9 hi&&zev x&& !isNone (qF P e)
   ·rw [hb]at h;cases h
   ·rw [hb]at h
    simp only [cond_true]at h;simp only [Bool.and_eq_true]at hb;obtain⟨k1,hk1⟩:=zb _ _ hb.1.1.1.1 hmx;obtain⟨k2,hk2⟩:=zb _ _ hb.1.1.2 hhi;have hk3:lo'=none:=hlon (by cases lo with|none=>rfl|some _ =>have:=hb.1.1.1.2;simp [isNone]at this);obtain⟨q,hq⟩:∃q,qF P e=some q:=by cases hs:qF P e with|none=>have:=hb.2;rw [hs]at this;simp [isNone]at this|some q=>exact⟨q,rfl⟩
    have hy:∃A n c,y= .slice A n c:=by
     have hx1:=hb.1.2;unfold zev at hx1;split at hx1
     ·obtain⟨A,c,h1,_⟩:=zD2 (show qI C (Cell C σ H w) _ _ from hx);exact⟨A,_,c,h1⟩
     ·cases(show qI C (Cell C σ H w) _ _ from hx);exact⟨_,_,_,rfl⟩
     ·exact hx.2.1
     ·exact⟨_,_,_,hx⟩
     ·obtain⟨A,h1⟩:=hx;exact⟨A,_,_,h1⟩
     ·obtain⟨_,b,_,_,h1,_⟩:=hx;exact⟨_,_,_,h1⟩
     ·cases hx1
    obtain⟨A,n,c,rfl⟩:=hy;subst hk1;subst hk2;subst hk3;refine qU hR h (v:= .slice (if 0=0 then A else A.map (·.add (0*q))) (0-0) (0-0)) ?_ ⟨_,rfl⟩;have e1:∀(c:Nat),((0:Int)≤(c:Int)):=fun c=>by omega
    simp only [Instr.sliceAt,Sem.run_bind,run_underlying hu,Result.andThen_ok,Instr.slice,Instr.sliceBounds];simp only [Sem.run_bind,run_sliceBound k1 0 c _ (Int.le_refl 0) (e1 c),Result.andThen_ok,run_sliceBound k2 0 _ _ (Int.le_refl 0) (e1 _),Sem.run_pure,yg hq];rfl
  ·cases w9:Nat.beq ((qF P e).getD 0) (C.size e)
   ·rw [w9]at h;cases h
   ·rw [w9]at h
    simp only [cond_true]at h;have hsz':=Nat.eq_of_beq_eq_true w9;have hn:qF P e=some (C.size e):=by
     cases hs:qF P e with
     |none=>rw [hs]at hsz';have:=hC.pos e;simp at hsz';omega
     |some m=>rw [hs]at hsz';simp at hsz';rw [hsz']
    split at h
    ·rename_i c hc
     split at h
     ·rename_i l hh hbl hbh
      cases hb:decide (0≤hh)&&decide (hh≤(c.length:Int))&&decide (0≤l)&&decide (l≤hh)
      ·rw [hb]at h;cases h
      ·rw [hb]at h
       simp only [cond_true]at h;simp only [Bool.and_eq_true,decide_eq_true_eq]at hb;obtain⟨hst,hsl⟩:=zTw hC hR hc hx;have h:K (.v (.sl e ((c.take hh.toNat).drop l.toNat))) (zUL x H) []=some r:=h;obtain⟨A,cp,rfl,h2,h3⟩:=zD2 hsl;have hrun:((do pure (.value (←Instr.sliceAt t (.slice A c.length cp) lo' hi' mx')):Sem Next)).run P w=
         .ok (.value (.slice (if cp=l.toNat then A else A.map (·.add (l.toNat*C.size e))) (hh.toNat-l.toNat) (cp-l.toNat))) w:=by
        rw [hmxn rfl];simp only [Instr.sliceAt,Sem.run_bind,run_underlying hu,Result.andThen_ok,Instr.slice,
         vg true c.length cp (vk hbl hlo hlon) (vk hbh hhi hhin) hb.1.2 hb.2 hb.1.1.2 h2,yg hn,Sem.run_pure]
       refine .inl ⟨_,_,[],_,σ,w,h,.inl hrun,hst, ?_⟩;have hlen:((c.take hh.toNat).drop l.toNat).length=hh.toNat-l.toNat:=by simp;omega
       show qI C (Cell C σ (zUL x H) w) _ _;by_cases hlh:hh.toNat-l.toNat=0
       ·have:(c.take hh.toNat).drop l.toNat=[]:=List.eq_nil_of_length_eq_zero (by rw [hlen];exact hlh)
        rw [this,hlh];exact .sl0 _ _ _
       ·rcases h3 with rfl|⟨b,off,rfl,h4⟩
        ·simp at hlen hlh;simp at hb;omega
        ·rw [if_neg (by omega),Option.map_some,qR,←hlen]
         refine zjR (by rw [hlen];omega) (fun i hi k v hv=> ?_);rw [hlen]at hi;rw [List.getElem_drop,List.getElem_take]at hv;have:=h4 (l.toNat+i) (by omega) k v hv;rw [Nat.add_mul]at this
         rwa [show off+l.toNat*C.size e+i*C.size e+k=off+(l.toNat*C.size e+i*C.size e)+k by omega]
     ·cases h
    ·cases h
 ·cases h
theorem zdq(hC:yj C)(hR:Rp C σ H w G){t:Nat}{x:AV T}{y:Value}(hno:∀o,x≠.own o){lo hi mx:Option (AV T)}{lo' hi' mx':Option Value}(hx:zr C σ H w x y)
  (hlo:∀a,lo=some a→∃v,lo'=some v∧zr C σ H w a v) (hlon:lo=none→lo'=none) (hhi:∀a,hi=some a→∃v,hi'=some v∧zr C σ H w a v) (hhin:hi=none→hi'=none)
  (hmx:∀a,mx=some a→∃v,mx'=some v∧zr C σ H w a v) (hmxn:mx=none→mx'=none)
  {K:yZ T R} {r:R} (h:jg C P t x lo hi mx H K=some r):
  kX C σ H w (((do pure (.value (←Instr.sliceAt t y lo' hi' mx')):Sem Next)).run P w) K r:=by
 unfold jg at h;split at h
 ·rename_i hu
  split at h
  ·rename_i s
   have:=zCw hx;subst this;cases mx with
   |some _ =>cases h
   |none=>
    rw [hmxn rfl];simp only [isNone,cond_true]at h;split at h
    ·rename_i l hh hbl hbh
     cases hb:decide (0≤hh)&&decide (hh≤(s.size:Int))&&decide (0≤l)&&decide (l≤hh)
     ·rw [hb]at h;cases h
     ·rw [hb]at h
      simp only [cond_true]at h;simp only [Bool.and_eq_true,decide_eq_true_eq]at hb;refine yY h ?_ (zUy _);simp only [Instr.sliceAt,Sem.run_bind,run_underlying hu,Result.andThen_ok,Instr.slice,Option.isSome_none,Bool.false_eq_true,if_false,
       vg false s.size s.size (vk hbl hlo hlon) (vk hbh hhi hhin) hb.1.2 hb.2 hb.1.1.2 (Nat.le_refl _),Sem.run_pure]
    ·cases h
  ·cases h
 ·rename_i e hu
  have zb:∀(z:Option (AV T)) (z':Option Value),zH9 z=true→(∀a,z=some a→∃v,z'=some v∧zr C σ H w a v)→∃k,z'=some (.int k 0):=by
   intro z z' hz hzz;unfold zH9 at hz;split at hz
   ·obtain⟨v,h1,h2⟩:=hzz _ rfl
    have:=jc h2;subst this;simp at hz;subst hz;exact⟨_,h1⟩
   ·cases hz
  split at h
  ·rename_i m
   cases hb:zH9 (some m)&&isNone lo&&zH9 hi&&zev x&& !isNone (qF P e)
   ·rw [hb]at h;cases h
   ·rw [hb]at h
    simp only [cond_true]at h;simp only [Bool.and_eq_true]at hb;obtain⟨k1,hk1⟩:=zb _ _ hb.1.1.1.1 hmx;obtain⟨k2,hk2⟩:=zb _ _ hb.1.1.2 hhi;have hk3:lo'=none:=hlon (by cases lo with|none=>rfl|some _ =>have:=hb.1.1.1.2;simp [isNone]at this);obtain⟨q,hq⟩:∃q,qF P e=some q:=by cases hs:qF P e with|none=>have:=hb.2;rw [hs]at this;simp [isNone]at this|some q=>exact⟨q,rfl⟩
    have hy:∃A n c,y= .slice A n c:=by
     have hx1:=hb.1.2;unfold zev at hx1;split at hx1
     ·obtain⟨A,c,h1,_⟩:=zD2 (show qI C (Cell C σ H w) _ _ from hx);exact⟨A,_,c,h1⟩
     ·cases(show qI C (Cell C σ H w) _ _ from hx);exact⟨_,_,_,rfl⟩
     ·exact hx.2.1
     ·exact⟨_,_,_,hx⟩
     ·obtain⟨A,h1⟩:=hx;exact⟨A,_,_,h1⟩
     ·obtain⟨_,b,_,_,h1,_⟩:=hx;exact⟨_,_,_,h1⟩
     ·cases hx1
    obtain⟨A,n,c,rfl⟩:=hy;subst hk1;subst hk2;subst hk3;refine yY h (v:= .slice (if 0=0 then A else A.map (·.add (0*q))) (0-0) (0-0)) ?_ ⟨_,rfl⟩;have e1:∀(c:Nat),((0:Int)≤(c:Int)):=fun c=>by omega
    simp only [Instr.sliceAt,Sem.run_bind,run_underlying hu,Result.andThen_ok,Instr.slice,Instr.sliceBounds];simp only [Sem.run_bind,run_sliceBound k1 0 c _ (Int.le_refl 0) (e1 c),Result.andThen_ok,run_sliceBound k2 0 _ _ (Int.le_refl 0) (e1 _),Sem.run_pure,yg hq];rfl
  ·cases w9:Nat.beq ((qF P e).getD 0) (C.size e)
   ·rw [w9]at h;cases h
   ·rw [w9]at h
    simp only [cond_true]at h;have hsz':=Nat.eq_of_beq_eq_true w9;have hn:qF P e=some (C.size e):=by
     cases hs:qF P e with
     |none=>rw [hs]at hsz';have:=hC.pos e;simp at hsz';omega
     |some m=>rw [hs]at hsz';simp at hsz';rw [hsz']
    split at h
    ·rename_i c hc
     split at h
     ·rename_i l hh hbl hbh
      cases hb:decide (0≤hh)&&decide (hh≤(c.length:Int))&&decide (0≤l)&&decide (l≤hh)
      ·rw [hb]at h;cases h
      ·rw [hb]at h
       simp only [cond_true]at h;simp only [Bool.and_eq_true,decide_eq_true_eq]at hb;obtain⟨hst,hsl⟩:=zTw hC hR hc hx;have hlent:zUL x H=H:=by cases x<;>first|rfl|(exact(hno _ rfl).elim)
       have h:K (.v (.sl e ((c.take hh.toNat).drop l.toNat))) H []=some r:=by
        first
         |exact h
         |(have h2:K (.v (.sl e ((c.take hh.toNat).drop l.toNat))) (zUL x H) []=some r:=h
           rwa [hlent]at h2)
       rw [hlent]at hsl;obtain⟨A,cp,rfl,h2,h3⟩:=zD2 hsl;have hrun:((do pure (.value (←Instr.sliceAt t (.slice A c.length cp) lo' hi' mx')):Sem Next)).run P w=
         .ok (.value (.slice (if cp=l.toNat then A else A.map (·.add (l.toNat*C.size e))) (hh.toNat-l.toNat) (cp-l.toNat))) w:=by
        rw [hmxn rfl];simp only [Instr.sliceAt,Sem.run_bind,run_underlying hu,Result.andThen_ok,Instr.slice,
         vg true c.length cp (vk hbl hlo hlon) (vk hbh hhi hhin) hb.1.2 hb.2 hb.1.1.2 h2,yg hn,Sem.run_pure]
       refine⟨_,_,h,hrun, ?_⟩;have hlen:((c.take hh.toNat).drop l.toNat).length=hh.toNat-l.toNat:=by simp;omega
       show qI C (Cell C σ H w) _ _;by_cases hlh:hh.toNat-l.toNat=0
       ·have:(c.take hh.toNat).drop l.toNat=[]:=List.eq_nil_of_length_eq_zero (by rw [hlen];exact hlh)
        rw [this,hlh];exact .sl0 _ _ _
       ·rcases h3 with rfl|⟨b,off,rfl,h4⟩
        ·simp at hlen hlh;simp at hb;omega
        ·rw [if_neg (by omega),Option.map_some,qR,←hlen]
         refine zjR (by rw [hlen];omega) (fun i hi k v hv=> ?_);rw [hlen]at hi;rw [List.getElem_drop,List.getElem_take]at hv;have:=h4 (l.toNat+i) (by omega) k v hv;rw [Nat.add_mul]at this
         rwa [show off+l.toNat*C.size e+i*C.size e+k=off+(l.toNat*C.size e+i*C.size e)+k by omega]
     ·cases h
    ·cases h
 ·cases h
end Go.Proofs.YtdoifigogbdodaaGreatDoor.Ev
