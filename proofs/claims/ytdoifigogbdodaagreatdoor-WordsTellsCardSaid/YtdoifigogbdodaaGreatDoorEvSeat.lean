import Derived.Test.YtdoifigogbdodaaGreatDoorEvFour
import Derived.Shelf.Unicode.DecodeAny
import Derived.Lib.ItoaNum
import Derived.Test.YtdoifigogbdodaaGreatDoorProg
import Derived.Test.YtdoifigogbdodaaGreatDoorShelf
import Derived.Shelf.Strconv.Itoa3
import Derived.Lib.Hide
import Derived.Lib.AppendIntMem
import Derived.Outline
import Derived.BigCall
import Derived.BigGuard
import Derived.Shelf.Strings.OnBuilder
set_option linter.unusedVariables false
set_option linter.unusedSimpArgs false
set_option maxHeartbeats 1000000
namespace Go.Proofs.YtdoifigogbdodaaGreatDoor.Ev.Seat
open Go Ev Go.Proofs
structure zD where
 name:ByteArray
 key:ByteArray
structure zM where
 kind:Int
 zR:Int
 zg:List zD
 value:ByteArray
 n:Int
 running:Bool
 zO:Bool
 port:ByteArray
 zm:Int
 size:Int
 data:List Int
def T(t:Nat):Type:=bif Nat.beq t 5 then Int else bif Nat.beq t 9 then ByteArray else bif Nat.beq t 26 then zM else bif Nat.beq t 55 then zD else Unit
def zhI(t:Nat):V T→Option (List (T t))
 | .sl u l=>if h:u=t then some (h▸l)else none
 | .nl=>some []
 |_ =>none
theorem zZJ{t:Nat}{x:V T}{l:List (T t)}(h:zhI t x=some l):zUY x (.sl t l):=by
 unfold zhI at h;split at h
 ·split at h
  ·rename_i u l' hu;subst hu;cases h;exact .rfl
  ·cases h
 ·cases h;exact .inr ⟨rfl,t,rfl⟩
 ·cases h
def co5:Co T Int where
 size:=1
 enc x:=[.i .u8 x]
 dec cs:=match cs with
  |[.i .u8 a0]=>some a0
  |_ =>none
 len _ :=rfl
 fin cs x h:=by
  split at h
  ·cases h
   exact⟨.rfl,trivial⟩
  ·cases h
 pos:=by decide
def co9:Co T ByteArray where
 size:=1
 enc x:=[.s x]
 dec cs:=match cs with
  |[.s a0]=>some a0
  |_ =>none
 len _ :=rfl
 fin cs x h:=by
  split at h
  ·cases h
   exact⟨.rfl,trivial⟩
  ·cases h
 pos:=by decide
def zop:Co T zM where
 size:=11
 enc x:=[.i .i64 x.kind,.i .i64 x.zR,.sl 55 x.zg,.s x.value,.i .u64 x.n,.b x.running,.b x.zO,.s x.port,.i .u64 x.zm,.i .u64 x.size,.sl 5 x.data]
 dec cs:=match cs with
  |[.i .i64 a0,.i .i64 a1,a2,.s a3,.i .u64 a4,.b a5,.b a6,.s a7,.i .u64 a8,.i .u64 a9,a10]=>(zhI 55 a2).bind fun b2=>(zhI 5 a10).bind fun b10=>some ⟨a0,a1,b2,a3,a4,a5,a6,a7,a8,a9,b10⟩
  |_ =>none
 len _ :=rfl
 fin cs x h:=by
  split at h
  ·obtain⟨b2,h2,h⟩:=Option.bind_eq_some_iff.1 h
   obtain⟨b10,h10,h⟩:=Option.bind_eq_some_iff.1 h;cases h;exact⟨.rfl,.rfl,zZJ h2,.rfl,.rfl,.rfl,.rfl,.rfl,.rfl,.rfl,zZJ h10,trivial⟩
  ·cases h
 pos:=by decide
def zoc:Co T zD where
 size:=2
 enc x:=[.s x.name,.s x.key]
 dec cs:=match cs with
  |[.s a0,.s a1]=>some ⟨a0,a1⟩
  |_ =>none
 len _ :=rfl
 fin cs x h:=by
  split at h
  ·cases h
   exact⟨.rfl,.rfl,trivial⟩
  ·cases h
 pos:=by decide
def co(t:Nat):Co T (T t):=if h:t=5 then h▸co5 else if h:t=9 then h▸co9 else if h:t=26 then h▸zop else if h:t=55 then h▸zoc else zjy T (T t)
def C:wB T:=mkC co (fun t=>Nat.beq t 5||Nat.beq t 9||Nat.beq t 26||Nat.beq t 55) 5 (fun n=>(n:Int)) (fun(n:Int)=>n)
theorem zY:yj C:=zkO (fun _ =>rfl) (fun _ =>rfl)
def firstTab:List (V T):=(List.range 256).map fun c=> .i .u8 (Lib.firstT c)
def zK2:List (V T):=(List.range 32).map fun c=>bif Nat.beq (c%2) 0 then .i .u8 (Lib.accLo (c/2))else .i .u8 (Lib.accHi (c/2))
def zTm:List (V T):=Lib.pow10Tab.map fun z=> .i .u64 z
def G(m:Int):Nat→Option (List (V T)):=fun g=>bif Nat.beq g 4 then some firstTab else bif Nat.beq g 5 then some zK2 else bif Nat.beq g 1 then some zTm else bif Nat.beq g 2 then some [.ifx]else bif Nat.beq g 3 then some [.ifx]else bif Nat.beq g 0 then some [.i .i64 m]else none
theorem mixed:Tryz.prog.follows .mixedOrders=true:=by kernel_rfl
end Go.Proofs.YtdoifigogbdodaaGreatDoor.Ev.Seat

namespace Go.Proofs.YtdoifigogbdodaaGreatDoor.Ev
open Go Go.RowKit
variable {T:Nat→Type} {C:wB T} {σ:Lk} {H:List (zT T)} {w:World}
theorem zNJ{x:ByteArray}{v:Value}(h:zr C σ H w (.v (.s x)) v):v= .string x:=by
 have h':qI C (Cell C σ H w) (.s x) v:=h;cases h';rfl
theorem zaf{k:IntKind}{n:Int}{v:Value}(h:zr C σ H w (.v (.i k n)) v):v= .int k n:=by
 have h':qI C (Cell C σ H w) (.i k n) v:=h;cases h';rfl
theorem zXs{a b:V T}{x y:Value}(h1:qI C (Cell C σ H w) a x)(h2:qI C (Cell C σ H w) b y):zr C σ H w (.qu [.v a,.v b]) (.tuple #[x,y]):=
 ⟨#[x,y],rfl,x,[y],rfl,h1,y,[],rfl,h2,rfl⟩
theorem zMh{x y:ByteArray}{vs:List Value}(h:yW C σ H w [.v (.s x),.v (.s y)] vs):vs=[.string x,.string y]:=by
 obtain⟨a,l,h1,h2,b,m,h3,h4,h5⟩:=h;have h5':m=[]:=h5;rw [h1,h3,h5',zNJ h2,zNJ h4]
theorem zd8{x:ByteArray}{vs:List Value}(h:yW C σ H w [.v (.s x)] vs):vs=[.string x]:=by
 obtain⟨a,l,h1,h2,h5⟩:=h;have h5':l=[]:=h5;rw [h1,h5',zNJ h2]
theorem zai{x:ByteArray}{k:IntKind}{y:Int}{vs:List Value}(h:yW C σ H w [.v (.s x),.v (.i k y)] vs):vs=[.string x,.int k y]:=by
 obtain⟨a,l,h1,h2,b,m,h3,h4,h5⟩:=h;have h5':m=[]:=h5;rw [h1,h3,h5',zNJ h2,zaf h4]
end Go.Proofs.YtdoifigogbdodaaGreatDoor.Ev
namespace Go.Proofs.YtdoifigogbdodaaGreatDoor.Ev.Seat
open Go Ev Go.Proofs Go.RowKit
def zTE:Spec T (ByteArray×ByteArray) ByteArray where
 dcI a H:=match a,H with
  |[.v (.s x),.v (.s y)],[]=>some (x,y)
  |_,_ =>none
 ecA:=fun(x,y)=>[.v (.s x),.v (.s y)]
 ecH:=fun _ =>[]
 dcO o:=match o with
  | .ret (.v (.s a)) []=>some a
  |_ =>none
 ecO:=fun a=> .ret (.v (.s a)) []
 goO:=fun _ a k=>k (.ret (.v (.s a)) [])
theorem zXO:zo zTE:=by
 refine⟨fun a H i h=> ?_,fun o x h=> ?_,fun R e k=>by kernel_rfl⟩
 ·simp only [zTE]at h⊢;split at h<;>first|(cases h;exact⟨rfl,rfl⟩)|(cases h;done)
 ·simp only [zTE]at h⊢;split at h<;>first|(cases h;rfl)|(cases h;done)
def zXV:Spec T (ByteArray×ByteArray) Bool where
 dcI a H:=match a,H with
  |[.v (.s x),.v (.s y)],[]=>some (x,y)
  |_,_ =>none
 ecA:=fun(x,y)=>[.v (.s x),.v (.s y)]
 ecH:=fun _ =>[]
 dcO o:=match o with
  | .ret (.v (.b a)) []=>some a
  |_ =>none
 ecO:=fun a=> .ret (.v (.b a)) []
 goO:=fun _ a k=>k (.ret (.v (.b a)) [])
theorem zeK:zo zXV:=by
 refine⟨fun a H i h=> ?_,fun o x h=> ?_,fun R e k=>by kernel_rfl⟩
 ·simp only [zXV]at h⊢;split at h<;>first|(cases h;exact⟨rfl,rfl⟩)|(cases h;done)
 ·simp only [zXV]at h⊢;split at h<;>first|(cases h;rfl)|(cases h;done)
def zS5:Spec T (ByteArray×ByteArray) Int where
 dcI a H:=match a,H with
  |[.v (.s x),.v (.s y)],[]=>some (x,y)
  |_,_ =>none
 ecA:=fun(x,y)=>[.v (.s x),.v (.s y)]
 ecH:=fun _ =>[]
 dcO o:=match o with
  | .ret (.v (.i .i64 a)) []=>some a
  |_ =>none
 ecO:=fun a=> .ret (.v (.i .i64 a)) []
 goO:=fun _ a k=>k (.ret (.v (.i .i64 a)) [])
theorem zX6:zo zS5:=by
 refine⟨fun a H i h=> ?_,fun o x h=> ?_,fun R e k=>by kernel_rfl⟩
 ·simp only [zS5]at h⊢;split at h<;>first|(cases h;exact⟨rfl,rfl⟩)|(cases h;done)
 ·simp only [zS5]at h⊢;split at h<;>first|(cases h;rfl)|(cases h;done)
def zZT:Spec T (ByteArray) (Int×Int) where
 dcI a H:=match a,H with
  |[.v (.s x)],[]=>some x
  |_,_ =>none
 ecA:=fun x=>[.v (.s x)]
 ecH:=fun _ =>[]
 dcO o:=match o with
  | .ret (.qu [.v (.i .i32 a0),.v (.i .i64 a1)]) []=>some (a0,a1)
  |_ =>none
 ecO:=fun(a0,a1)=> .ret (.qu [.v (.i .i32 a0),.v (.i .i64 a1)]) []
 goO:=fun _ (a0,a1) k=>k (.ret (.qu [.v (.i .i32 a0),.v (.i .i64 a1)]) [])
theorem zdQ:zo zZT:=by
 refine⟨fun a H i h=> ?_,fun o x h=> ?_,fun R e k=>by kernel_rfl⟩
 ·simp only [zZT]at h⊢;split at h<;>first|(cases h;exact⟨rfl,rfl⟩)|(cases h;done)
 ·simp only [zZT]at h⊢;split at h<;>first|(cases h;rfl)|(cases h;done)
def zTs:Spec T (ByteArray×Int) Int where
 dcI a H:=match a,H with
  |[.v (.s x),.v (.i .u8 y)],[]=>some (x,y)
  |_,_ =>none
 ecA:=fun(x,y)=>[.v (.s x),.v (.i .u8 y)]
 ecH:=fun _ =>[]
 dcO o:=match o with
  | .ret (.v (.i .i64 a)) []=>some a
  |_ =>none
 ecO:=fun a=> .ret (.v (.i .i64 a)) []
 goO:=fun _ a k=>k (.ret (.v (.i .i64 a)) [])
theorem zXx:zo zTs:=by
 refine⟨fun a H i h=> ?_,fun o x h=> ?_,fun R e k=>by kernel_rfl⟩
 ·simp only [zTs]at h⊢;split at h<;>first|(cases h;exact⟨rfl,rfl⟩)|(cases h;done)
 ·simp only [zTs]at h⊢;split at h<;>first|(cases h;rfl)|(cases h;done)
def zD6(c:ByteArray):Bool:=c.data.toList.all fun b=>decide (b.toNat<128)
theorem zV5{c:ByteArray}(h:zD6 c=true):∀(j:Nat) b,c.data.toList[j]? =some b→b.toNat<128:=by
 intro j b hb;have:=List.all_eq_true.1 h b (List.mem_of_getElem? hb)
 simpa using this
theorem zea{C0:wB T}{σ:Lk}{H:List (zT T)}{w:World}{m:Int}(hR:Rp C0 σ H w (G m)):Lib.Utf8Tabs 4 5 w:=by
 refine⟨fun c hc=> ?_,fun i hi=>⟨?_, ?_⟩⟩
 ·obtain⟨y,h1,h2⟩:=hR.zDJ 4 firstTab rfl c (.i .u8 (Lib.firstT c)) (by simp [firstTab,hc])
  cases h2
  simpa using h1.2
 ·obtain⟨y,h1,h2⟩:=hR.zDJ 5 zK2 rfl (2*i) (.i .u8 (Lib.accLo i)) (by simp [zK2,show 2*i<32 by omega])
  cases h2
  simpa using h1.2
 ·obtain⟨y,h1,h2⟩:=hR.zDJ 5 zK2 rfl (2*i+1) (.i .u8 (Lib.accHi i)) (by simp [zK2,show 2*i+1<32 by omega,show(2*i+1)/2=i by omega];rfl)
  cases h2
  simpa using h1.2
def xW(κ:Nat)(x:ByteArray)(y:ByteArray):Option ByteArray:=bif (zD6 y)&&(Nat.blt y.size 4294967281)then some ⟨(Lib.trimLeftS x.data.toList y.data.toList).toArray⟩else none
theorem zGE(κ:Nat)(m:Int):wM Tryz.prog C (G m) 107 (zTE.entry fun(x,y)=>xW κ x y):=by
 refine Spec.lib zXO (vF Tryz.func107 (c:=zC Tryz.f107) (by kernel_rfl) (by kernel_rfl)) (fun _ =>rfl) fun i q hx σ w vs hR ha=> ?_
 obtain⟨x,y⟩:=i;have hvs:=zMh ha;subst hvs;simp only [xW]at hx;cases hb:(zD6 y)&&(Nat.blt y.size 4294967281)
 ·rw [hb]at hx;cases hx
 ·rw [hb]at hx
  cases hx;simp only [Bool.and_eq_true]at hb;obtain⟨h0,h1⟩:=hb;refine⟨_,rfl,(Any.strings_TrimLeft_laid Tryz.lays161 (by kernel_rfl) x y w (Nat.le_of_ble_eq_true h1) (zV5 h0)).mono fun e w' ⟨h1,h2⟩=>⟨h2,_,h1,.s _⟩⟩
def wg(κ:Nat)(x:ByteArray)(y:ByteArray):Option ByteArray:=bif (zD6 y)&&(Nat.blt y.size 4294967281)&&(Nat.ble x.size qL)then some ⟨(Lib.trimS x.data.toList y.data.toList).toArray⟩else none
theorem zRO(κ:Nat)(m:Int):wM Tryz.prog C (G m) 59 (zTE.entry fun(x,y)=>wg κ x y):=by
 refine Spec.lib zXO (vF Tryz.func59 (c:=zC Tryz.f59) (by kernel_rfl) (by kernel_rfl)) (fun _ =>rfl) fun i q hx σ w vs hR ha=> ?_
 obtain⟨x,y⟩:=i;have hvs:=zMh ha;subst hvs;simp only [wg]at hx;cases hb:(zD6 y)&&(Nat.blt y.size 4294967281)&&(Nat.ble x.size qL)
 ·rw [hb]at hx;cases hx
 ·rw [hb]at hx
  cases hx;simp only [Bool.and_eq_true]at hb;obtain⟨⟨h0,h1⟩,h2⟩:=hb;refine⟨_,rfl,(Any.strings_Trim_laid Tryz.lays160 (by kernel_rfl) x y w (Nat.le_of_ble_eq_true h2) (Nat.le_of_ble_eq_true h1) (zV5 h0)).mono fun e w' ⟨h1,h2⟩=>⟨h2,_,h1,.s _⟩⟩
def strings_Contains(κ:Nat)(x:ByteArray)(y:ByteArray):Option Bool:=bif (Nat.blt x.size 4294967281)then some (Lib.contains x.data.toList y.data.toList)else none
theorem zGb(κ:Nat)(m:Int):wM Tryz.prog C (G m) 60 (zXV.entry fun(x,y)=>strings_Contains κ x y):=by
 refine Spec.lib zeK (vF Tryz.func60 (c:=zC Tryz.f60) (by kernel_rfl) (by kernel_rfl)) (fun _ =>rfl) fun i q hx σ w vs hR ha=> ?_
 obtain⟨x,y⟩:=i;have hvs:=zMh ha;subst hvs;have hm:w.cell? ⟨0,0,none⟩=some (.int .i64 m):=by
  obtain⟨y,h1,h2⟩:=hR.zDJ 0 [.i .i64 m] rfl 0 (.i .i64 m) rfl;cases h2;exact h1.2
 simp only [strings_Contains]at hx;cases hb:(Nat.blt x.size 4294967281)
 ·rw [hb]at hx;cases hx
 ·rw [hb]at hx
  cases hx;have h0:=hb;refine⟨_,rfl,(Tryz.strings_Contains x y m w (Nat.le_of_ble_eq_true h0) hm).mono fun e w' ⟨h1,h2⟩=>⟨by rw [h2];exact Below.refl _ _,_,h1,.b _⟩⟩
def strings_Index(κ:Nat)(x:ByteArray)(y:ByteArray):Option Int:=bif (Nat.blt x.size 4294967281)then some (Lib.index x.data.toList y.data.toList)else none
theorem zP6(κ:Nat)(m:Int):wM Tryz.prog C (G m) 76 (zS5.entry fun(x,y)=>strings_Index κ x y):=by
 refine Spec.lib zX6 (vF Tryz.func76 (c:=zC Tryz.f76) (by kernel_rfl) (by kernel_rfl)) (fun _ =>rfl) fun i q hx σ w vs hR ha=> ?_
 obtain⟨x,y⟩:=i;have hvs:=zMh ha;subst hvs;have hm:w.cell? ⟨0,0,none⟩=some (.int .i64 m):=by
  obtain⟨y,h1,h2⟩:=hR.zDJ 0 [.i .i64 m] rfl 0 (.i .i64 m) rfl;cases h2;exact h1.2
 simp only [strings_Index]at hx;cases hb:(Nat.blt x.size 4294967281)
 ·rw [hb]at hx;cases hx
 ·rw [hb]at hx
  cases hx;have h0:=hb;refine⟨_,rfl,(Tryz.strings_Index x y m w (Nat.le_of_ble_eq_true h0) hm).mono fun e w' ⟨h1,h2⟩=>⟨by rw [h2];exact Below.refl _ _,_,h1,.i _ _⟩⟩
def strings_IndexByte(κ:Nat)(x:ByteArray)(y:Int):Option Int:=some (Lib.indexByte x.data.toList y.toNat.toUInt8)
theorem zEf(κ:Nat)(m:Int):wM Tryz.prog C (G m) 67 (zTs.entry fun(x,y)=>strings_IndexByte κ x y):=by
 refine Spec.lib zXx (vF Tryz.func67 (c:=zC Tryz.f67) (by kernel_rfl) (by kernel_rfl)) (fun _ =>rfl) fun i q hx σ w vs hR ha=> ?_
 obtain⟨x,y⟩:=i;have hvs:=zai ha;subst hvs;simp only [strings_IndexByte]at hx;cases hx;refine⟨_,rfl,(Tryz.strings_IndexByte x y w).mono fun e w' ⟨h1,h2⟩=>⟨by rw [h2];exact Below.refl _ _,_,h1,.i _ _⟩⟩
def wG(κ:Nat)(x:ByteArray)(y:Int):Option Int:=some (Lib.indexByte x.data.toList y.toNat.toUInt8)
theorem kh(κ:Nat)(m:Int):wM Tryz.prog C (G m) 79 (zTs.entry fun(x,y)=>wG κ x y):=by
 refine Spec.lib zXx (vF Tryz.func79 (c:=zC Tryz.f79) (by kernel_rfl) (by kernel_rfl)) (fun _ =>rfl) fun i q hx σ w vs hR ha=> ?_
 obtain⟨x,y⟩:=i;have hvs:=zai ha;subst hvs;simp only [wG]at hx;cases hx;refine⟨_,rfl,(Tryz.stringslite_IndexByte x y w).mono fun e w' ⟨h1,h2⟩=>⟨by rw [h2];exact Below.refl _ _,_,h1,.i _ _⟩⟩
def q5(κ:Nat)(x:ByteArray):Option (Int×Int):=some (((Lib.decodeGo x).1:Int),((Lib.decodeGo x).2:Int))
theorem kN(κ:Nat)(m:Int):wM Tryz.prog C (G m) 94 (zZT.entry fun x=>q5 κ x):=by
 refine Spec.lib zdQ (vF Tryz.func94 (c:=zC Tryz.f94) (by kernel_rfl) (by kernel_rfl)) (fun _ =>rfl) fun x q hx σ w vs hR ha=> ?_
 have hvs:=zd8 ha;subst hvs;have hT:=zea hR;simp only [q5]at hx;cases hx;refine⟨_,rfl,(Tryz.utf8_DecodeRuneInString x w hT).mono fun e w' ⟨h1,h2⟩=>⟨h2,_,h1,zXs (.i _ _) (.i _ _)⟩⟩
def zLy(κ:Nat)(x y:ByteArray):Option Int:=match y.data.toList with
 |[c]=>some (Lib.indexByte x.data.toList c)
 |_ =>bif Nat.blt x.size 4294967281 then some (Lib.index x.data.toList y.data.toList)else none
theorem zaX(κ:Nat)(m:Int):wM Tryz.prog C (G m) 64 (zS5.entry fun(x,y)=>zLy κ x y):=by
 refine Spec.lib zX6 (vF Tryz.func64 (c:=zC Tryz.f64) (by kernel_rfl) (by kernel_rfl)) (fun _ =>rfl) fun i q hx σ w vs hR ha=> ?_
 obtain⟨x,y⟩:=i;have hvs:=zMh ha;subst hvs;have hm:w.cell? ⟨0,0,none⟩=some (.int .i64 m):=by
  obtain⟨y,h1,h2⟩:=hR.zDJ 0 [.i .i64 m] rfl 0 (.i .i64 m) rfl;cases h2;exact h1.2
 simp only [zLy]at hx;split at hx
 ·rename_i c hc
  cases hx;have hy:y=⟨#[c]⟩:=by
   cases y with
   |mk d=>cases d with
    |mk l=>
     have h:l=[c]:=hc;rw [h]
  subst hy;exact⟨_,rfl,(Tryz.stringslite_Index_one x c w).mono fun e w' ⟨h1,h2⟩=>⟨by rw [h2];exact Below.refl _ _,_,h1,.i _ _⟩⟩
 ·cases hb:Nat.blt x.size 4294967281
  ·rw [hb]at hx;cases hx
  ·rw [hb]at hx
   cases hx;exact⟨_,rfl,(Tryz.stringslite_Index x y m w (Nat.le_of_ble_eq_true hb) hm).mono fun e w' ⟨h1,h2⟩=>⟨by rw [h2];exact Below.refl _ _,_,h1,.i _ _⟩⟩
noncomputable def zdx(b:qK T)(κ:Nat):qK T:=(((((((((b.zj 107 zTE (fun(x,y)=>xW κ x y)).zj 59 zTE (fun(x,y)=>wg κ x y)).zj 60 zXV (fun(x,y)=>strings_Contains κ x y)).zj 76 zS5 (fun(x,y)=>strings_Index κ x y)).zj 67 zTs (fun(x,y)=>strings_IndexByte κ x y)).zj 79 zTs (fun(x,y)=>wG κ x y)).zj 94 zZT (fun x=>q5 κ x)).zj 64 zS5 (fun(x,y)=>zLy κ x y)).zeC 77 zds)
theorem zce{b:qK T}(κ:Nat)(m:Int)(hb:ql Tryz.prog C (G m) b):ql Tryz.prog C (G m) (zdx b κ):=(((((((((hb.zj (zGE κ m)).zj (zRO κ m)).zj (zGb κ m)).zj (zP6 κ m)).zj (zEf κ m)).zj (kh κ m)).zj (kN κ m)).zj (zaX κ m)).zeC (zeM Tryz.func77 (by kernel_rfl) (by kernel_rfl) (by kernel_rfl) (by kernel_rfl)))
end Go.Proofs.YtdoifigogbdodaaGreatDoor.Ev.Seat

namespace Go.Proofs.YtdoifigogbdodaaGreatDoor.Ev.Seat
open Go Ev Go.Proofs Go.RowKit Go.Sort Go.Lib
structure GS(w:World):Prop where
 zoR:∃ev,w.cell? ⟨2,0,none⟩=some ev∧(ev= .nilIface∨∃te pe,ev= .iface te pe)
 zor:∃ev,w.cell? ⟨3,0,none⟩=some ev∧(ev= .nilIface∨∃te pe,ev= .iface te pe)
 pow:∀j z,Lib.pow10Tab[j]? =some z→w.cell? ⟨1,j,none⟩=some (.int .u64 z)
theorem uW{w:World}{b off:Nat}{v:Value}(h:w.cell? ⟨b,off,none⟩=some v):b<w.heap.size:=by
 rcases Nat.lt_or_ge b w.heap.size with h'|h'
 ·exact h'
 ·unfold World.cell? at h;rw [Array.getElem?_eq_none h']at h;simp at h
theorem zIp{w w':World}{b off:Nat}{v:Value}(hb:Below w.heap.size w w')(h:w.cell? ⟨b,off,none⟩=some v):w'.cell? ⟨b,off,none⟩=some v:=by
 have hk:=hb.block b (uW h);unfold World.cell? at*;rw [hk];exact h
theorem GS.below{w w':World}(h:GS w)(hb:Below w.heap.size w w'):GS w':=by
 obtain⟨⟨e1,h1,k1⟩,⟨e2,h2,k2⟩,h3⟩:=h;exact⟨⟨e1,zIp hb h1,k1⟩,⟨e2,zIp hb h2,k2⟩,fun j z hz=>zIp hb (h3 j z hz)⟩
theorem ziv{C0:wB T}{σ:Lk}{H:List (zT T)}{w:World}{m:Int}(hR:Rp C0 σ H w (G m)):GS w:=by
 refine⟨?_, ?_,fun j z hz=> ?_⟩
 ·obtain⟨y,h1,h2⟩:=hR.zDJ 2 [.ifx] rfl 0 .ifx rfl
  cases h2 with
  |ifx _ h=>exact⟨y,h1.2,h⟩
 ·obtain⟨y,h1,h2⟩:=hR.zDJ 3 [.ifx] rfl 0 .ifx rfl
  cases h2 with
  |ifx _ h=>exact⟨y,h1.2,h⟩
 ·obtain⟨y,h1,h2⟩:=hR.zDJ 1 zTm rfl j (.i .u64 z) (by simp [zTm,hz])
  cases h2
  simpa using h1.2
set_option maxHeartbeats 2000000 in
set_option maxRecDepth 100000 in
theorem zXk(u:Nat)(h1:1≤u)(h2:u<18446744073709551616)(w:World)(hp:∀j z,Lib.pow10Tab[j]? =some z→w.cell? ⟨1,j,none⟩=some (.int .u64 z)):
  Calls Tryz.prog 90 #[.int .u64 u] w fun e w'=>e= .returned (.int .i64 (Lib.nDigits u))∧w'=w:=by
 obtain⟨hnd,h19⟩:=Lib.numDigits_eq u h1 h2;have hL:Lib.bitLen u≤64:=Lib.bitLen_le u 64 (Nat.le_refl _) h2;have hcell:w.cell? ⟨1,Lib.l10 (Lib.bitLen u),none⟩=some (.int .u64 ((10^Lib.l10 (Lib.bitLen u):Nat):Int)):=hp _ _ (by
  unfold Lib.pow10Tab;rw [List.getElem?_map,List.getElem?_range (by omega)];rfl)
 have hto:((u:Int)).toNat=u:=by omega
 generalize hq:Lib.l10 (Lib.bitLen u)=q at hnd h19 hcell;generalize hT:10^q=T at hnd hcell;have h20:q<20:=by omega
 have Hnd:=Lib.hid hnd;clear hnd hp
 go_enter Tryz.func90,Tryz.ntmps90
 go_wp2_with (first
  |(go_at_call 109;refine(Tryz.bits_Len64 _ _ (by omega) (by omega)).mono ?_;rintro e w' ⟨rfl,rfl⟩)
  |(go_at_call 108;refine(Tryz.internal_strconv_log10Pow2 _ (by first|exact hL|(rw [hto];exact hL)) _).mono ?_;rintro e w' ⟨rfl,rfl⟩)
  |(go_at_call 110;refine(Tryz.internal_strconv_bool2_int _ _).mono ?_;rintro e w' ⟨rfl,rfl⟩))
 all_goals go_ret
 all_goals (
  refine⟨?_,rfl⟩;have hnd:=Hnd.out;congr 2;split at hnd<;>simp_all<;>omega)
theorem zXZ{w W:World}(h:Below w.heap.size w W)(o:Obj):Below w.heap.size w (W.alloc o):=h.alloc h.size o
theorem zXo{B:Nat}{w W:World}(h:Below B w W)(hB:B≤W.heap.size)(e:TypeId)(s:ByteArray):Below B w (Lib.bytesWorld W e s):=
 h.trans ⟨rfl,rfl,rfl,by rw [Lib.bytesWorld_size];omega,fun i hi=>Lib.bytesWorld_at_old W e s i (by omega)⟩
theorem zZD(w:World)(T:TypeId)(nd:Nat)(hs:nd≤24):Holds (fun(b:UInt8)=>Value.int .u8 (b.toNat:Int)) (w.alloc (.cells zeros24 T)) w.heap.size 0 (Array.replicate nd (0:UInt8)):=fun j hj=>by
 have hj':j<nd:=by simpa using hj
 refine⟨?_,World.frozen?_alloc_new _ _ _ _⟩;rw [World.cell?_alloc_new,zeros24_at _ (by omega),getElem!_pos _ j hj];simp
theorem zoE(w:World)(o:Obj)(dk:Array UInt8)(k:Nat):Below w.heap.size w ((putRow (fun(b:UInt8)=>Value.int .u8 (b.toNat:Int)) (w.alloc o) w.heap.size 0 dk).drewN k):=by
 rw [alloc_eq_grow];obtain⟨os',_,e⟩:=putRow_grow_new (fun(b:UInt8)=>Value.int .u8 (b.toNat:Int)) w #[o] w.heap.size 0 dk (Nat.le_refl _);rw [e];exact below_grow _ w (Nat.le_refl _) k os'
set_option maxHeartbeats 6400000 in
set_option maxRecDepth 100000 in
theorem zVW(u:Nat)(h:u<18446744073709551616)(w:World)(hG:GS w):
  Calls Tryz.prog 68 #[.int .u64 u,.int .i64 10] w fun e w'=>e= .returned (.string ⟨(Lib.decDigits u).toArray⟩)∧Below w.heap.size w w':=by
 by_cases hs:u<100
 ·have d:decide ((u:Int)<100)=true:=by simp;omega
  go_enter Tryz.func68,Tryz.ntmps68
  go_wp2_with (go_at_call 89;refine(Tryz.internal_strconv_small u hs _).mono ?_;rintro e w' ⟨rfl,rfl⟩)
  go_ret
  exact⟨rfl,Below.refl _ _⟩
 ·have hu1:1≤u:=by omega
  have hg1:GS (w.alloc (.cells Lib.zeros24 132)):=hG.below (zXZ (Below.refl _ _) _);have HG:=Lib.hid hg1;clear hG hg1;have d:decide ((u:Int)<100)=false:=by simp;omega
  have hnd20:Lib.nDigits u≤20:=by have:=Lib.numDigits_eq u hu1 h;split at this<;>omega
  have hal:Tryz.prog.arrayLen 132=24:=by kernel_rfl
  have hsl1:∀W,(Instr.sliceAt 132 (.pointer (some ⟨w.heap.size,0,none⟩)) none (some (.int .i64 (Lib.nDigits u:Int))) none).run Tryz.prog W= .ok (.slice (some ⟨w.heap.size,0,none⟩) (Lib.nDigits u) 24) W:=fun W=>by
   rw [run_sliceAt_array_h W 132 ⟨w.heap.size,0,none⟩ (by simp [Program.arrayLen,Program.elem,Tryz.underlying132]) .i64 (Lib.nDigits u:Int) (by omega) (by rw [hal];omega)]
   go_simp
  have hH0:=zZD w 132 (Lib.nDigits u) (by omega);have hfmt:=Tryz.internal_strconv_formatBase10 w.heap.size 0 24 u (Array.replicate (Lib.nDigits u) 0) (w.alloc (.cells Lib.zeros24 132)) hH0 (by rw [Array.size_replicate];exact Lib.lt_pow_nDigits u) h (by rw [Array.size_replicate];omega);rw [Array.size_replicate]at hfmt;have HH0:=Lib.hid hH0;clear hH0 hal
  go_enter Tryz.func68,Tryz.ntmps68
  go_wp2_with (first
   |(go_at_call 90;refine(zXk u hu1 h _ HG.out.pow).mono ?_;rintro e w' ⟨rfl,rfl⟩))
  go_at_call 91
  refine hfmt.mono ?_;rintro e w' ⟨rfl,k,v',dk,rfl,hF⟩;have hcv:(convert 24 9 (.slice (some ⟨w.heap.size,0,none⟩) (Lib.nDigits u) 24)).run Tryz.prog ((putRow (fun(b:UInt8)=>Value.int .u8 (b.toNat:Int)) (w.alloc (.cells Lib.zeros24 132)) w.heap.size 0 dk).drewN k)= .ok (.string ⟨(Lib.decDigits u).toArray⟩) ((putRow (fun(b:UInt8)=>Value.int .u8 (b.toNat:Int)) (w.alloc (.cells Lib.zeros24 132)) w.heap.size 0 dk).drewN k):=by
   have h:=run_convert_bytes_back (P:=Tryz.prog) ((putRow (fun(b:UInt8)=>Value.int .u8 (b.toNat:Int)) (w.alloc (.cells Lib.zeros24 132)) w.heap.size 0 dk).drewN k) 24 9 5 ⟨w.heap.size,0,none⟩ 24 (Lib.decDigits u) Tryz.underlying24 Tryz.underlying5 Tryz.underlying9 (fun j hj=>by
    rw [Lib.row_is_numeral hF j hj,Lib.add_plain,World.cell?_drewN];exact cell?_putRow (fun(b:UInt8)=>Value.int .u8 (b.toNat:Int)) _ w.heap.size 0 _ dk HH0.out (by rw [hF.size,Array.size_replicate]) j (by rw [hF.size];rw [Lib.decDigits_length]at hj;exact hj))
   rw [Lib.decDigits_length]at h;exact h
  go_wp2
  go_ret
  exact⟨rfl,zoE w (.cells Lib.zeros24 132) dk k⟩
theorem zP1(u:Nat)(h:u<18446744073709551616)(w:World)(hG:GS w):
  Calls Tryz.prog 58 #[.int .u64 u,.int .i64 10] w fun e w'=>e= .returned (.string ⟨(Lib.decDigits u).toArray⟩)∧Below w.heap.size w w':=by
 have hp:=Lib.hid hG;clear hG
 go_enter Tryz.func58,Tryz.ntmps58
 go_wp2_with (go_at_call 68;refine(zVW u h _ hp.out).mono ?_;rintro e w' ⟨rfl,hb⟩)
 go_ret
 exact⟨rfl,hb⟩
theorem zEm(u:Nat)(h:u<18446744073709551616)(w:World)(hG:GS w):
  Calls Tryz.prog 45 #[.int .u64 u] w fun e w'=>e= .returned (.string ⟨(Lib.decDigits u).toArray⟩)∧Below w.heap.size w w':=by
 have HG:=Lib.hid hG;clear hG
 go_enter Tryz.func45,Tryz.ntmps45
 go_wp2_with (go_at_call 58;refine(zP1 u h _ HG.out).mono ?_;rintro e w' ⟨rfl,hb⟩)
 go_ret
 exact⟨rfl,hb⟩
theorem zYW{w w':World}{s:ByteArray}{T:TypeId}(h:w'=w∨w'=Lib.bytesWorld w T s):Below w.heap.size w w':=by
 rcases h with rfl|rfl
 ·exact Below.refl _ _
 ·exact zXo (Below.refl _ _) (Nat.le_refl _) T s
theorem zQr(u:Nat)(h:u<18446744073709551616)(d:ByteArray)(hd:d=⟨(Lib.decDigits u).toArray⟩)(w:World)(hG:GS w):
  Calls Tryz.prog 45 #[.int .u64 u] w fun e w'=>e= .returned (.string d)∧Below w.heap.size w w':=by
 subst hd;exact zEm u h w hG
set_option maxHeartbeats 1000000 in
theorem zgS(s:ByteArray)(hs:s.size≤140737488351232)(u:Nat)(hu:u<18446744073709551616)(h:Lib.parseUintB 64 s.data.toList= .ok u)(hq:s=⟨(Lib.decDigits u).toArray⟩)(w:World)(hG:GS w):
  Calls Tryz.prog 54 #[.string s] w fun e w'=>e= .returned (.tuple #[.int .u64 u,.bool true])∧Below w.heap.size w w':=by
 have HG:=Lib.hid hG;have HP:=Lib.hid h;have HQ:=Lib.hid hq;clear hG h hq
 go_enter Tryz.func54,Tryz.ntmps54
 go_wp2_with (first
  |(go_at_call 65;refine(Tryz.strconv_ParseUint_10_at64_ok s (by omega) u HP.out _).mono ?_;rintro e w1 ⟨rfl,hb⟩;have HB:=Lib.hid (zYW hb);clear hb)
  |(go_at_call 45;refine(zQr u hu s HQ.out _ (HG.out.below HB.out)).mono ?_;rintro e w2 ⟨rfl,hb2⟩;have HB2:=Lib.hid hb2;clear hb2))
 go_ret2
 exact⟨rfl,HB.out.trans (HB2.out.mono HB.out.size)⟩
set_option maxHeartbeats 1000000 in
theorem zaE(s d:ByteArray)(hs:s.size≤140737488351232)(u:Nat)(hu:u<18446744073709551616)(h:Lib.parseUintB 64 s.data.toList= .ok u)(hd:d=⟨(Lib.decDigits u).toArray⟩)(hq:(d.toList==s.toList)=false)(w:World)(hG:GS w):
  Calls Tryz.prog 54 #[.string s] w fun e w'=>e= .returned (.tuple #[.int .u64 0,.bool false])∧Below w.heap.size w w':=by
 have HG:=Lib.hid hG;have HP:=Lib.hid h;have HD:=Lib.hid hd;clear hG h hd
 go_enter Tryz.func54,Tryz.ntmps54
 go_wp2_with (first
  |(go_at_call 65;refine(Tryz.strconv_ParseUint_10_at64_ok s (by omega) u HP.out _).mono ?_;rintro e w1 ⟨rfl,hb⟩;have HB:=Lib.hid (zYW hb);clear hb)
  |(go_at_call 45;refine(zQr u hu d HD.out _ (HG.out.below HB.out)).mono ?_;rintro e w2 ⟨rfl,hb2⟩;have HB2:=Lib.hid hb2;clear hb2))
 go_ret2
 exact⟨rfl,HB.out.trans (HB2.out.mono HB.out.size)⟩
theorem zcr(s:ByteArray)(hlim:s.size≤281474976710656)(h:Lib.parseUintB 64 s.data.toList=Lib.parseUintB 64 [])(ev:Value)(w:World)(hv:w.cell? ⟨2,0,none⟩=some ev)(hev:ev= .nilIface∨∃te pe,ev= .iface te pe):
  Calls Tryz.prog 65 #[.string s,.int .i64 10,.int .i64 64] w fun e w'=>∃N,e= .returned (.tuple #[.int .u64 0,.iface 146 (.pointer (some ⟨N,0,none⟩))])∧Below w.heap.size w w':=
 (Any.strconv_ParseUint_10_at64_syntax Tryz.laysPu14 s hlim (h.trans (by unfold Lib.parseUintB;rw [if_pos rfl])) ev w hv hev).mono fun _ _ ⟨N,h1,_,_,h2⟩=>⟨N,h1,h2⟩
theorem zbz(s:ByteArray)(hlim:s.size≤281474976710656)(h:Lib.parseUintB 64 s.data.toList= .range)(ev:Value)(w:World)(hv:w.cell? ⟨3,0,none⟩=some ev)(hev:ev= .nilIface∨∃te pe,ev= .iface te pe):
  Calls Tryz.prog 65 #[.string s,.int .i64 10,.int .i64 64] w fun e w'=>∃N n,e= .returned (.tuple #[.int .u64 n,.iface 146 (.pointer (some ⟨N,0,none⟩))])∧Below w.heap.size w w':=
 (Tryz.strconv_ParseUint_10_at64_range s hlim h ev w hv hev).mono fun _ _ ⟨N,h1,_,_,h2⟩=>⟨N,_,h1,h2⟩
set_option maxHeartbeats 1000000 in
theorem zeD(s:ByteArray)(hs:s.size≤140737488351232)(h:Lib.parseUintB 64 s.data.toList=Lib.parseUintB 64 [])(w:World)(hG:GS w):
  Calls Tryz.prog 54 #[.string s] w fun e w'=>e= .returned (.tuple #[.int .u64 0,.bool false])∧Below w.heap.size w w':=by
 have HP:=Lib.hid h;obtain⟨ev,h1,h2⟩:=hG.zoR;have H1:=Lib.hid h1;have H2:=Lib.hid h2;clear hG h h1 h2
 go_enter Tryz.func54,Tryz.ntmps54
 go_wp2_with (first
  |(go_at_call 65;refine(zcr s (by omega) HP.out ev _ H1.out H2.out).mono ?_;rintro e w1 ⟨N,rfl,hb⟩;have HB:=Lib.hid hb;clear hb))
 go_ret2
 exact⟨rfl,HB.out⟩
set_option maxHeartbeats 1000000 in
theorem zZg(s:ByteArray)(hs:s.size≤140737488351232)(h:Lib.parseUintB 64 s.data.toList= .range)(w:World)(hG:GS w):
  Calls Tryz.prog 54 #[.string s] w fun e w'=>e= .returned (.tuple #[.int .u64 0,.bool false])∧Below w.heap.size w w':=by
 have HP:=Lib.hid h;obtain⟨ev,h1,h2⟩:=hG.zor;have H1:=Lib.hid h1;have H2:=Lib.hid h2;clear hG h h1 h2
 go_enter Tryz.func54,Tryz.ntmps54
 go_wp2_with (first
  |(go_at_call 65;refine(zbz s (by omega) HP.out ev _ H1.out H2.out).mono ?_;rintro e w1 ⟨N,n,rfl,hb⟩;have HB:=Lib.hid hb;clear hb))
 go_ret2
 exact⟨rfl,HB.out⟩
def zPm(s:ByteArray):Int×Bool:=
 match Lib.parseUintB 64 s.data.toList with
 | .ok u=>bif Nat.blt u 18446744073709551616&&zAQ (Lib.decDigits u) s.data.toList then((u:Int),true)else(0,false)
 |_ =>(0,false)
def zd6(x:Int):ByteArray:=⟨(Lib.decDigits x.toNat).toArray⟩
def jC(κ:Nat)(s:ByteArray):Option (Int×Bool):=bif Nat.ble s.size 140737488351232 then some (zPm s)else none
def ve(κ:Nat)(x:Int):Option ByteArray:=bif decide (0≤x)&&decide (x<18446744073709551616)then some (zd6 x)else none
theorem zFF:∀l:List UInt8,zAQ l l=true
 |[]=>rfl
 |a::l=>by
  unfold zAQ;rw [zFF l,Bool.and_true];exact Nat.beq_refl _
theorem zUM{s:List UInt8}{u:Nat}(h:Lib.parseUintB 64 s= .ok u):u<18446744073709551616:=by
 have:=Lib.parseUintB_le h;omega
theorem zZl(s:ByteArray)(hs:s.size≤140737488351232)(w:World)(hG:GS w):
  Calls Tryz.prog 54 #[.string s] w fun e w'=>e= .returned (.tuple #[.int .u64 (zPm s).1,.bool (zPm s).2])∧Below w.heap.size w w':=by
 unfold zPm;rcases hp:Lib.parseUintB 64 s.data.toList with u|_ |_
 rotate_left
 ·exact zeD s hs (hp.trans (by unfold Lib.parseUintB;rw [if_pos rfl])) w hG
 ·exact zZg s hs hp w hG
 ·have hu:=zUM hp
  have h1:Nat.blt u 18446744073709551616=true:=by simpa [Nat.blt_eq] using hu
  show Calls Tryz.prog _ _ w fun e w'=>e= .returned (.tuple #[.int .u64 (bif Nat.blt u 18446744073709551616&&zAQ (Lib.decDigits u) s.data.toList then((u:Int),true)else(0,false)).1,.bool (bif Nat.blt u 18446744073709551616&&zAQ (Lib.decDigits u) s.data.toList then((u:Int),true)else(0,false)).2])∧_
  rw [h1,Bool.true_and];cases hq:zAQ (Lib.decDigits u) s.data.toList
  ·refine zaE s ⟨(Lib.decDigits u).toArray⟩ hs u hu hp rfl ?_ w hG
   refine Bool.eq_false_iff.2 fun he=> ?_
   have he':=eq_of_beq he;have:(Lib.decDigits u)=s.data.toList:=by
    have e:(⟨(Lib.decDigits u).toArray⟩:ByteArray).toList=s.toList:=he'
    rwa [toList_data,toList_data]at e
   rw [this,zFF]at hq;cases hq
  ·refine zgS s hs u hu hp ?_ w hG
   have:=zQD hq;cases s with
   |mk d=>simp only at this⊢;rw [this]
def zXS:Spec T ByteArray (Int×Bool) where
 dcI a H:=match a,H with
  |[.v (.s x)],[]=>some x
  |_,_ =>none
 ecA:=fun x=>[.v (.s x)]
 ecH:=fun _ =>[]
 dcO o:=match o with
  | .ret (.qu [.v (.i .u64 a),.v (.b b)]) []=>some (a,b)
  |_ =>none
 ecO:=fun(a,b)=> .ret (.qu [.v (.i .u64 a),.v (.b b)]) []
 goO:=fun _ (a,b) k=>k (.ret (.qu [.v (.i .u64 a),.v (.b b)]) [])
theorem zdP:zo zXS:=by
 refine⟨fun a H i h=> ?_,fun o x h=> ?_,fun R e k=>by kernel_rfl⟩
 ·simp only [zXS]at h⊢;split at h<;>first|(cases h;exact⟨rfl,rfl⟩)|(cases h;done)
 ·simp only [zXS]at h⊢;split at h<;>first|(cases h;rfl)|(cases h;done)
def zeX:Spec T Int ByteArray where
 dcI a H:=match a,H with
  |[.v (.i .u64 x)],[]=>some x
  |_,_ =>none
 ecA:=fun x=>[.v (.i .u64 x)]
 ecH:=fun _ =>[]
 dcO o:=match o with
  | .ret (.v (.s a)) []=>some a
  |_ =>none
 ecO:=fun a=> .ret (.v (.s a)) []
 goO:=fun _ a k=>k (.ret (.v (.s a)) [])
theorem zgR:zo zeX:=by
 refine⟨fun a H i h=> ?_,fun o x h=> ?_,fun R e k=>by kernel_rfl⟩
 ·simp only [zeX]at h⊢;split at h<;>first|(cases h;exact⟨rfl,rfl⟩)|(cases h;done)
 ·simp only [zeX]at h⊢;split at h<;>first|(cases h;rfl)|(cases h;done)
theorem zg2{C:wB T}{σ:Lk}{H:List (zT T)}{w:World}{k:IntKind}{x:Int}{vs:List Value}(h:yW C σ H w [.v (.i k x)] vs):vs=[.int k x]:=by
 obtain⟨a,l,h1,h2,h5⟩:=h;have h5':l=[]:=h5;rw [h1,h5',zaf h2]
theorem zYp(κ:Nat)(m:Int):wM Tryz.prog C (G m) 54 (zXS.entry fun x=>jC κ x):=by
 refine Spec.lib zdP (vF Tryz.func54 (c:=zC Tryz.f54) (by kernel_rfl) (by kernel_rfl)) (fun _ =>rfl) fun x q hx σ w vs hR ha=> ?_
 have hvs:=zd8 ha;subst hvs;simp only [jC]at hx;cases hb:Nat.ble x.size 140737488351232
 ·rw [hb]at hx;cases hx
 ·rw [hb]at hx
  cases hx;exact⟨_,rfl,(zZl x (Nat.le_of_ble_eq_true hb) w (ziv hR)).mono fun e w' ⟨h1,h2⟩=>⟨h2,_,h1,zXs (.i _ _) (.b _)⟩⟩
theorem zXw(κ:Nat)(m:Int):wM Tryz.prog C (G m) 45 (zeX.entry fun x=>ve κ x):=by
 refine Spec.lib zgR (vF Tryz.func45 (c:=zC Tryz.f45) (by kernel_rfl) (by kernel_rfl)) (fun _ =>rfl) fun x q hx σ w vs hR ha=> ?_
 have hvs:=zg2 ha;subst hvs;simp only [ve]at hx;cases hb:decide (0≤x)&&decide (x<18446744073709551616)
 ·rw [hb]at hx;cases hx
 ·rw [hb]at hx
  cases hx;simp only [Bool.and_eq_true,decide_eq_true_eq]at hb;obtain⟨u,rfl⟩:=Int.eq_ofNat_of_zero_le hb.1;exact⟨_,rfl,(zEm u (by omega) w (ziv hR)).mono fun e w' ⟨h1,h2⟩=>⟨h2,_,h1,.s _⟩⟩
noncomputable def zbU(b:qK T)(κ:Nat):qK T:=((b.zj 54 zXS fun x=>jC κ x).zj 45 zeX fun x=>ve κ x)
theorem zaZ{b:qK T}(κ:Nat)(m:Int)(hb:ql Tryz.prog C (G m) b):ql Tryz.prog C (G m) (zbU b κ):=(hb.zj (zYp κ m)).zj (zXw κ m)
end Go.Proofs.YtdoifigogbdodaaGreatDoor.Ev.Seat

namespace Go.Proofs.YtdoifigogbdodaaGreatDoor.Ev.Seat
open Go Ev Go.Proofs Go.RowKit
def zYY(l:List ByteArray)(s:ByteArray):List UInt8:=Lib.join (l.map (·.data.toList)) s.data.toList
def vK(κ:Nat)(l:List ByteArray)(s:ByteArray):Option ByteArray:=bif Nat.ble (zYY l s).length 140737488355328&&Nat.ble l.length 1000000 then some ⟨(zYY l s).toArray⟩else none
def zW6:Spec T (List ByteArray×ByteArray) ByteArray:=(vB [.sl 9,.s] [] [⟨false,.s,[]⟩]:)
theorem zcu:zo zW6:=zw _ _ _
theorem zaL(κ:Nat)(m:Int):wM Tryz.prog C (G m) 34 (zW6.entry fun(x,y)=>vK κ x y):=by
 refine Spec.lib zcu (vF Tryz.func34 (c:=zC Tryz.f34) (by kernel_rfl) (by kernel_rfl)) (fun _ =>rfl) fun i q hx σ w vs hR ha=> ?_
 obtain⟨l,s⟩:=i;have ha':yW C σ [] w [.v (.sl 9 l),.v (.s s)] vs:=ha;obtain⟨v,vs1,rfl,h2,h3⟩:=ha';obtain⟨v2,vs2,rfl,h4,h5⟩:=h3;have h5':vs2=[]:=h5;subst h5';have hs:=zNJ h4;subst hs;simp only [vK]at hx;cases hb:Nat.ble (zYY l s).length 140737488355328&&Nat.ble l.length 1000000
 ·rw [hb]at hx;cases hx
 ·rw [hb]at hx
  cases hx;rw [Bool.and_eq_true]at hb;have hb1:=Nat.le_of_ble_eq_true hb.1;have hb2:=Nat.le_of_ble_eq_true hb.2;have none':∀(A:Option Addr) (c:Nat),l=[]→∃y,zW6.ecO (⟨(zYY l s).toArray⟩:ByteArray)=Out.ret y []∧Calls Tryz.prog 34 [Value.slice A 0 c,.string s].toArray w fun e w'=>Below w.heap.size w w'∧∃v,e= .returned v∧zr C σ [] w' y v:=by
   intro A c hl;subst hl;exact⟨_,rfl,(Any.strings_Join_none Tryz.lays156 Tryz.Builder_Extra_156 A c s w).mono fun e w' ⟨h1,h2⟩=>⟨by rw [h2];exact Below.refl _ _,_,h1,.s _⟩⟩
  cases h2 with
  |sl0 t A c=>exact none' A c rfl
  |sl t l blk off c xs hc k1 k2=>
   cases l with
   |nil=>exact none' _ c rfl
   |cons x r=>
    have hc':∀(j:Nat) y,(x::r)[j]? =some y→w.cell? ⟨blk,off+j,none⟩=some (.string y):=by
     intro j y hj;obtain⟨hlt,hy⟩:=List.getElem?_eq_some_iff.1 hj;have hl:0<(C.enc 9 (x::r)[j]).length:=by
      have h:(C.enc 9 (x::r)[j]).length=1:=zY.len 9 _;omega
     have e1:=(k1 j hlt 0 hl).2;have e2:zGt C.enc C.size (Cell C σ [] w) (V.s y) (xs j 0):=by subst hy;exact k2 j hlt 0 hl
     cases hz:xs j 0 with
     |string z=>
      rw [hz]at e2 e1;cases e2;have:off+j*C.size 9+0=off+j:=by show off+j*1+0=_;omega
      rw [this]at e1;exact e1
     |_ =>rw [hz]at e2;cases e2
    exact⟨_,rfl,(Any.strings_Join Tryz.lays156 Tryz.Builder_Extra_156 blk off c (x::r) s w hc' (Ev.uW (hc' 0 x rfl)) (by omega) hc hb1).mono fun e w' ⟨h1,h2⟩=>⟨h2,_,h1,.s _⟩⟩
noncomputable def zay(b:qK T)(κ:Nat):qK T:=b.zj 34 zW6 (fun(x,y)=>vK κ x y)
theorem zaC{b:qK T}(κ:Nat)(m:Int)(hb:ql Tryz.prog C (G m) b):ql Tryz.prog C (G m) (zay b κ):=hb.zj (zaL κ m)
end Go.Proofs.YtdoifigogbdodaaGreatDoor.Ev.Seat
