import Derived.Test.YtdoifigogbdodaaGreatDoorEvFour
import Derived.Shelf.Unicode.DecodeAny
import Derived.Lib.ItoaNum
import Derived.Test.YtdoifigogbdodaaGreatDoorProg
import Derived.Test.YtdoifigogbdodaaGreatDoorShelf
import Derived.Shelf.Strconv.Itoa3
import Derived.Lib.Hide
import Derived.Lib.AppendIntMem
import Derived.Outline
import Derived.BigCall
import Derived.BigGuard
import Derived.Shelf.Strings.OnBuilder
set_option linter.unusedVariables false
set_option linter.unusedSimpArgs false
set_option maxHeartbeats 1000000
namespace Go.Proofs.YtdoifigogbdodaaGreatDoor.Ev.Seat
open Go Ev Go.Proofs
structure ApiStep where
 name:ByteArray
 key:ByteArray
structure WordsCmd where
 kind:Int
 who:Int
 way:List ApiStep
 value:ByteArray
 n:Int
 running:Bool
 asBytes:Bool
 port:ByteArray
 flow:Int
 size:Int
 data:List Int
def T(t:Nat):Type:=bif Nat.beq t 5 then Int else bif Nat.beq t 9 then ByteArray else bif Nat.beq t 26 then WordsCmd else bif Nat.beq t 55 then ApiStep else Unit
def slOf(t:Nat):V T→Option (List (T t))
 | .sl u l=>if h:u=t then some (h▸l)else none
 | .nl=>some []
 |_ =>none
theorem slOf_fin{t:Nat}{x:V T}{l:List (T t)}(h:slOf t x=some l):Finer x (.sl t l):=by
 unfold slOf at h;split at h
 ·split at h
  ·rename_i u l' hu;subst hu;cases h;exact .rfl
  ·cases h
 ·cases h;exact .inr ⟨rfl,t,rfl⟩
 ·cases h
def co5:Co T Int where
 size:=1
 enc x:=[.i .u8 x]
 dec cs:=match cs with
  |[.i .u8 a0]=>some a0
  |_ =>none
 len _ :=rfl
 fin cs x h:=by
  split at h
  ·cases h
   exact⟨.rfl,trivial⟩
  ·cases h
 pos:=by decide
def co9:Co T ByteArray where
 size:=1
 enc x:=[.s x]
 dec cs:=match cs with
  |[.s a0]=>some a0
  |_ =>none
 len _ :=rfl
 fin cs x h:=by
  split at h
  ·cases h
   exact⟨.rfl,trivial⟩
  ·cases h
 pos:=by decide
def co26:Co T WordsCmd where
 size:=11
 enc x:=[.i .i64 x.kind,.i .i64 x.who,.sl 55 x.way,.s x.value,.i .u64 x.n,.b x.running,.b x.asBytes,.s x.port,.i .u64 x.flow,.i .u64 x.size,.sl 5 x.data]
 dec cs:=match cs with
  |[.i .i64 a0,.i .i64 a1,a2,.s a3,.i .u64 a4,.b a5,.b a6,.s a7,.i .u64 a8,.i .u64 a9,a10]=>(slOf 55 a2).bind fun b2=>(slOf 5 a10).bind fun b10=>some ⟨a0,a1,b2,a3,a4,a5,a6,a7,a8,a9,b10⟩
  |_ =>none
 len _ :=rfl
 fin cs x h:=by
  split at h
  ·obtain⟨b2,h2,h⟩:=Option.bind_eq_some_iff.1 h
   obtain⟨b10,h10,h⟩:=Option.bind_eq_some_iff.1 h;cases h;exact⟨.rfl,.rfl,slOf_fin h2,.rfl,.rfl,.rfl,.rfl,.rfl,.rfl,.rfl,slOf_fin h10,trivial⟩
  ·cases h
 pos:=by decide
def co55:Co T ApiStep where
 size:=2
 enc x:=[.s x.name,.s x.key]
 dec cs:=match cs with
  |[.s a0,.s a1]=>some ⟨a0,a1⟩
  |_ =>none
 len _ :=rfl
 fin cs x h:=by
  split at h
  ·cases h
   exact⟨.rfl,.rfl,trivial⟩
  ·cases h
 pos:=by decide
def co(t:Nat):Co T (T t):=if h:t=5 then h▸co5 else if h:t=9 then h▸co9 else if h:t=26 then h▸co26 else if h:t=55 then h▸co55 else coNone T (T t)
def C:Cdc T:=mkC co (fun t=>Nat.beq t 5||Nat.beq t 9||Nat.beq t 26||Nat.beq t 55) 5 (fun n=>(n:Int)) (fun(n:Int)=>n)
theorem C_ok:CdcOk C:=mkC_ok (fun _ =>rfl) (fun _ =>rfl)
def firstTab:List (V T):=(List.range 256).map fun c=> .i .u8 (Lib.firstT c)
def accTab:List (V T):=(List.range 32).map fun c=>bif Nat.beq (c%2) 0 then .i .u8 (Lib.accLo (c/2))else .i .u8 (Lib.accHi (c/2))
def pow10V:List (V T):=Lib.pow10Tab.map fun z=> .i .u64 z
def G(m:Int):Nat→Option (List (V T)):=fun g=>bif Nat.beq g 4 then some firstTab else bif Nat.beq g 5 then some accTab else bif Nat.beq g 1 then some pow10V else bif Nat.beq g 2 then some [.ifx]else bif Nat.beq g 3 then some [.ifx]else bif Nat.beq g 0 then some [.i .i64 m]else none
theorem mixed:Tryz.prog.follows .mixedOrders=true:=by kernel_rfl
end Go.Proofs.YtdoifigogbdodaaGreatDoor.Ev.Seat

namespace Go.Proofs.YtdoifigogbdodaaGreatDoor.Ev
open Go Go.RowKit
variable {T:Nat→Type} {C:Cdc T} {σ:Lk} {H:List (AObj T)} {w:World}
theorem rep_str{x:ByteArray}{v:Value}(h:RepA C σ H w (.v (.s x)) v):v= .string x:=by
 have h':RepV C (Cell C σ H w) (.s x) v:=h;cases h';rfl
theorem rep_int{k:IntKind}{n:Int}{v:Value}(h:RepA C σ H w (.v (.i k n)) v):v= .int k n:=by
 have h':RepV C (Cell C σ H w) (.i k n) v:=h;cases h';rfl
theorem rep_tup2{a b:V T}{x y:Value}(h1:RepV C (Cell C σ H w) a x)(h2:RepV C (Cell C σ H w) b y):RepA C σ H w (.tup [.v a,.v b]) (.tuple #[x,y]):=
 ⟨#[x,y],rfl,x,[y],rfl,h1,y,[],rfl,h2,rfl⟩
theorem repL_ss{x y:ByteArray}{vs:List Value}(h:RepL C σ H w [.v (.s x),.v (.s y)] vs):vs=[.string x,.string y]:=by
 obtain⟨a,l,h1,h2,b,m,h3,h4,h5⟩:=h;have h5':m=[]:=h5;rw [h1,h3,h5',rep_str h2,rep_str h4]
theorem repL_s{x:ByteArray}{vs:List Value}(h:RepL C σ H w [.v (.s x)] vs):vs=[.string x]:=by
 obtain⟨a,l,h1,h2,h5⟩:=h;have h5':l=[]:=h5;rw [h1,h5',rep_str h2]
theorem repL_si{x:ByteArray}{k:IntKind}{y:Int}{vs:List Value}(h:RepL C σ H w [.v (.s x),.v (.i k y)] vs):vs=[.string x,.int k y]:=by
 obtain⟨a,l,h1,h2,b,m,h3,h4,h5⟩:=h;have h5':m=[]:=h5;rw [h1,h3,h5',rep_str h2,rep_int h4]
end Go.Proofs.YtdoifigogbdodaaGreatDoor.Ev
namespace Go.Proofs.YtdoifigogbdodaaGreatDoor.Ev.Seat
open Go Ev Go.Proofs Go.RowKit
def spSSS:Spec T (ByteArray×ByteArray) ByteArray where
 dcI a H:=match a,H with
  |[.v (.s x),.v (.s y)],[]=>some (x,y)
  |_,_ =>none
 ecA:=fun(x,y)=>[.v (.s x),.v (.s y)]
 ecH:=fun _ =>[]
 dcO o:=match o with
  | .ret (.v (.s a)) []=>some a
  |_ =>none
 ecO:=fun a=> .ret (.v (.s a)) []
 goO:=fun _ a k=>k (.ret (.v (.s a)) [])
theorem spSSS_ok:SpecOk spSSS:=by
 refine⟨fun a H i h=> ?_,fun o x h=> ?_,fun R e k=>by kernel_rfl⟩
 ·simp only [spSSS]at h⊢;split at h<;>first|(cases h;exact⟨rfl,rfl⟩)|(cases h;done)
 ·simp only [spSSS]at h⊢;split at h<;>first|(cases h;rfl)|(cases h;done)
def spSSB:Spec T (ByteArray×ByteArray) Bool where
 dcI a H:=match a,H with
  |[.v (.s x),.v (.s y)],[]=>some (x,y)
  |_,_ =>none
 ecA:=fun(x,y)=>[.v (.s x),.v (.s y)]
 ecH:=fun _ =>[]
 dcO o:=match o with
  | .ret (.v (.b a)) []=>some a
  |_ =>none
 ecO:=fun a=> .ret (.v (.b a)) []
 goO:=fun _ a k=>k (.ret (.v (.b a)) [])
theorem spSSB_ok:SpecOk spSSB:=by
 refine⟨fun a H i h=> ?_,fun o x h=> ?_,fun R e k=>by kernel_rfl⟩
 ·simp only [spSSB]at h⊢;split at h<;>first|(cases h;exact⟨rfl,rfl⟩)|(cases h;done)
 ·simp only [spSSB]at h⊢;split at h<;>first|(cases h;rfl)|(cases h;done)
def spSSI:Spec T (ByteArray×ByteArray) Int where
 dcI a H:=match a,H with
  |[.v (.s x),.v (.s y)],[]=>some (x,y)
  |_,_ =>none
 ecA:=fun(x,y)=>[.v (.s x),.v (.s y)]
 ecH:=fun _ =>[]
 dcO o:=match o with
  | .ret (.v (.i .i64 a)) []=>some a
  |_ =>none
 ecO:=fun a=> .ret (.v (.i .i64 a)) []
 goO:=fun _ a k=>k (.ret (.v (.i .i64 a)) [])
theorem spSSI_ok:SpecOk spSSI:=by
 refine⟨fun a H i h=> ?_,fun o x h=> ?_,fun R e k=>by kernel_rfl⟩
 ·simp only [spSSI]at h⊢;split at h<;>first|(cases h;exact⟨rfl,rfl⟩)|(cases h;done)
 ·simp only [spSSI]at h⊢;split at h<;>first|(cases h;rfl)|(cases h;done)
def spSII:Spec T (ByteArray) (Int×Int) where
 dcI a H:=match a,H with
  |[.v (.s x)],[]=>some x
  |_,_ =>none
 ecA:=fun x=>[.v (.s x)]
 ecH:=fun _ =>[]
 dcO o:=match o with
  | .ret (.tup [.v (.i .i32 a0),.v (.i .i64 a1)]) []=>some (a0,a1)
  |_ =>none
 ecO:=fun(a0,a1)=> .ret (.tup [.v (.i .i32 a0),.v (.i .i64 a1)]) []
 goO:=fun _ (a0,a1) k=>k (.ret (.tup [.v (.i .i32 a0),.v (.i .i64 a1)]) [])
theorem spSII_ok:SpecOk spSII:=by
 refine⟨fun a H i h=> ?_,fun o x h=> ?_,fun R e k=>by kernel_rfl⟩
 ·simp only [spSII]at h⊢;split at h<;>first|(cases h;exact⟨rfl,rfl⟩)|(cases h;done)
 ·simp only [spSII]at h⊢;split at h<;>first|(cases h;rfl)|(cases h;done)
def spSUI:Spec T (ByteArray×Int) Int where
 dcI a H:=match a,H with
  |[.v (.s x),.v (.i .u8 y)],[]=>some (x,y)
  |_,_ =>none
 ecA:=fun(x,y)=>[.v (.s x),.v (.i .u8 y)]
 ecH:=fun _ =>[]
 dcO o:=match o with
  | .ret (.v (.i .i64 a)) []=>some a
  |_ =>none
 ecO:=fun a=> .ret (.v (.i .i64 a)) []
 goO:=fun _ a k=>k (.ret (.v (.i .i64 a)) [])
theorem spSUI_ok:SpecOk spSUI:=by
 refine⟨fun a H i h=> ?_,fun o x h=> ?_,fun R e k=>by kernel_rfl⟩
 ·simp only [spSUI]at h⊢;split at h<;>first|(cases h;exact⟨rfl,rfl⟩)|(cases h;done)
 ·simp only [spSUI]at h⊢;split at h<;>first|(cases h;rfl)|(cases h;done)
def asciiB(c:ByteArray):Bool:=c.data.toList.all fun b=>decide (b.toNat<128)
theorem asciiB_ok{c:ByteArray}(h:asciiB c=true):∀(j:Nat) b,c.data.toList[j]? =some b→b.toNat<128:=by
 intro j b hb;have:=List.all_eq_true.1 h b (List.mem_of_getElem? hb)
 simpa using this
theorem utf8Tabs{C0:Cdc T}{σ:Lk}{H:List (AObj T)}{w:World}{m:Int}(hR:Rp C0 σ H w (G m)):Lib.Utf8Tabs 4 5 w:=by
 refine⟨fun c hc=> ?_,fun i hi=>⟨?_, ?_⟩⟩
 ·obtain⟨y,h1,h2⟩:=hR.glob 4 firstTab rfl c (.i .u8 (Lib.firstT c)) (by simp [firstTab,hc])
  cases h2
  simpa using h1.2
 ·obtain⟨y,h1,h2⟩:=hR.glob 5 accTab rfl (2*i) (.i .u8 (Lib.accLo i)) (by simp [accTab,show 2*i<32 by omega])
  cases h2
  simpa using h1.2
 ·obtain⟨y,h1,h2⟩:=hR.glob 5 accTab rfl (2*i+1) (.i .u8 (Lib.accHi i)) (by simp [accTab,show 2*i+1<32 by omega,show(2*i+1)/2=i by omega];rfl)
  cases h2
  simpa using h1.2
def strings_TrimLeft(κ:Nat)(x:ByteArray)(y:ByteArray):Option ByteArray:=bif (asciiB y)&&(Nat.blt y.size 4294967281)then some ⟨(Lib.trimLeftS x.data.toList y.data.toList).toArray⟩else none
theorem ok_strings_TrimLeft(κ:Nat)(m:Int):EOk Tryz.prog C (G m) 107 (spSSS.entry fun(x,y)=>strings_TrimLeft κ x y):=by
 refine Spec.lib spSSS_ok (callable Tryz.func107 (c:=getBody Tryz.f107) (by kernel_rfl) (by kernel_rfl)) (fun _ =>rfl) fun i q hx σ w vs hR ha=> ?_
 obtain⟨x,y⟩:=i;have hvs:=repL_ss ha;subst hvs;simp only [strings_TrimLeft]at hx;cases hb:(asciiB y)&&(Nat.blt y.size 4294967281)
 ·rw [hb]at hx;cases hx
 ·rw [hb]at hx
  cases hx;simp only [Bool.and_eq_true]at hb;obtain⟨h0,h1⟩:=hb;refine⟨_,rfl,(Any.strings_TrimLeft_laid Tryz.lays161 (by kernel_rfl) x y w (Nat.le_of_ble_eq_true h1) (asciiB_ok h0)).mono fun e w' ⟨h1,h2⟩=>⟨h2,_,h1,.s _⟩⟩
def strings_Trim(κ:Nat)(x:ByteArray)(y:ByteArray):Option ByteArray:=bif (asciiB y)&&(Nat.blt y.size 4294967281)&&(Nat.ble x.size maxI)then some ⟨(Lib.trimS x.data.toList y.data.toList).toArray⟩else none
theorem ok_strings_Trim(κ:Nat)(m:Int):EOk Tryz.prog C (G m) 59 (spSSS.entry fun(x,y)=>strings_Trim κ x y):=by
 refine Spec.lib spSSS_ok (callable Tryz.func59 (c:=getBody Tryz.f59) (by kernel_rfl) (by kernel_rfl)) (fun _ =>rfl) fun i q hx σ w vs hR ha=> ?_
 obtain⟨x,y⟩:=i;have hvs:=repL_ss ha;subst hvs;simp only [strings_Trim]at hx;cases hb:(asciiB y)&&(Nat.blt y.size 4294967281)&&(Nat.ble x.size maxI)
 ·rw [hb]at hx;cases hx
 ·rw [hb]at hx
  cases hx;simp only [Bool.and_eq_true]at hb;obtain⟨⟨h0,h1⟩,h2⟩:=hb;refine⟨_,rfl,(Any.strings_Trim_laid Tryz.lays160 (by kernel_rfl) x y w (Nat.le_of_ble_eq_true h2) (Nat.le_of_ble_eq_true h1) (asciiB_ok h0)).mono fun e w' ⟨h1,h2⟩=>⟨h2,_,h1,.s _⟩⟩
def strings_Contains(κ:Nat)(x:ByteArray)(y:ByteArray):Option Bool:=bif (Nat.blt x.size 4294967281)then some (Lib.contains x.data.toList y.data.toList)else none
theorem ok_strings_Contains(κ:Nat)(m:Int):EOk Tryz.prog C (G m) 60 (spSSB.entry fun(x,y)=>strings_Contains κ x y):=by
 refine Spec.lib spSSB_ok (callable Tryz.func60 (c:=getBody Tryz.f60) (by kernel_rfl) (by kernel_rfl)) (fun _ =>rfl) fun i q hx σ w vs hR ha=> ?_
 obtain⟨x,y⟩:=i;have hvs:=repL_ss ha;subst hvs;have hm:w.cell? ⟨0,0,none⟩=some (.int .i64 m):=by
  obtain⟨y,h1,h2⟩:=hR.glob 0 [.i .i64 m] rfl 0 (.i .i64 m) rfl;cases h2;exact h1.2
 simp only [strings_Contains]at hx;cases hb:(Nat.blt x.size 4294967281)
 ·rw [hb]at hx;cases hx
 ·rw [hb]at hx
  cases hx;have h0:=hb;refine⟨_,rfl,(Tryz.strings_Contains x y m w (Nat.le_of_ble_eq_true h0) hm).mono fun e w' ⟨h1,h2⟩=>⟨by rw [h2];exact Below.refl _ _,_,h1,.b _⟩⟩
def strings_Index(κ:Nat)(x:ByteArray)(y:ByteArray):Option Int:=bif (Nat.blt x.size 4294967281)then some (Lib.index x.data.toList y.data.toList)else none
theorem ok_strings_Index(κ:Nat)(m:Int):EOk Tryz.prog C (G m) 76 (spSSI.entry fun(x,y)=>strings_Index κ x y):=by
 refine Spec.lib spSSI_ok (callable Tryz.func76 (c:=getBody Tryz.f76) (by kernel_rfl) (by kernel_rfl)) (fun _ =>rfl) fun i q hx σ w vs hR ha=> ?_
 obtain⟨x,y⟩:=i;have hvs:=repL_ss ha;subst hvs;have hm:w.cell? ⟨0,0,none⟩=some (.int .i64 m):=by
  obtain⟨y,h1,h2⟩:=hR.glob 0 [.i .i64 m] rfl 0 (.i .i64 m) rfl;cases h2;exact h1.2
 simp only [strings_Index]at hx;cases hb:(Nat.blt x.size 4294967281)
 ·rw [hb]at hx;cases hx
 ·rw [hb]at hx
  cases hx;have h0:=hb;refine⟨_,rfl,(Tryz.strings_Index x y m w (Nat.le_of_ble_eq_true h0) hm).mono fun e w' ⟨h1,h2⟩=>⟨by rw [h2];exact Below.refl _ _,_,h1,.i _ _⟩⟩
def strings_IndexByte(κ:Nat)(x:ByteArray)(y:Int):Option Int:=some (Lib.indexByte x.data.toList y.toNat.toUInt8)
theorem ok_strings_IndexByte(κ:Nat)(m:Int):EOk Tryz.prog C (G m) 67 (spSUI.entry fun(x,y)=>strings_IndexByte κ x y):=by
 refine Spec.lib spSUI_ok (callable Tryz.func67 (c:=getBody Tryz.f67) (by kernel_rfl) (by kernel_rfl)) (fun _ =>rfl) fun i q hx σ w vs hR ha=> ?_
 obtain⟨x,y⟩:=i;have hvs:=repL_si ha;subst hvs;simp only [strings_IndexByte]at hx;cases hx;refine⟨_,rfl,(Tryz.strings_IndexByte x y w).mono fun e w' ⟨h1,h2⟩=>⟨by rw [h2];exact Below.refl _ _,_,h1,.i _ _⟩⟩
def internal_stringslite_IndexByte(κ:Nat)(x:ByteArray)(y:Int):Option Int:=some (Lib.indexByte x.data.toList y.toNat.toUInt8)
theorem ok_internal_stringslite_IndexByte(κ:Nat)(m:Int):EOk Tryz.prog C (G m) 79 (spSUI.entry fun(x,y)=>internal_stringslite_IndexByte κ x y):=by
 refine Spec.lib spSUI_ok (callable Tryz.func79 (c:=getBody Tryz.f79) (by kernel_rfl) (by kernel_rfl)) (fun _ =>rfl) fun i q hx σ w vs hR ha=> ?_
 obtain⟨x,y⟩:=i;have hvs:=repL_si ha;subst hvs;simp only [internal_stringslite_IndexByte]at hx;cases hx;refine⟨_,rfl,(Tryz.stringslite_IndexByte x y w).mono fun e w' ⟨h1,h2⟩=>⟨by rw [h2];exact Below.refl _ _,_,h1,.i _ _⟩⟩
def unicode_utf8_DecodeRuneInString(κ:Nat)(x:ByteArray):Option (Int×Int):=some (((Lib.decodeGo x).1:Int),((Lib.decodeGo x).2:Int))
theorem ok_unicode_utf8_DecodeRuneInString(κ:Nat)(m:Int):EOk Tryz.prog C (G m) 94 (spSII.entry fun x=>unicode_utf8_DecodeRuneInString κ x):=by
 refine Spec.lib spSII_ok (callable Tryz.func94 (c:=getBody Tryz.f94) (by kernel_rfl) (by kernel_rfl)) (fun _ =>rfl) fun x q hx σ w vs hR ha=> ?_
 have hvs:=repL_s ha;subst hvs;have hT:=utf8Tabs hR;simp only [unicode_utf8_DecodeRuneInString]at hx;cases hx;refine⟨_,rfl,(Tryz.utf8_DecodeRuneInString x w hT).mono fun e w' ⟨h1,h2⟩=>⟨h2,_,h1,rep_tup2 (.i _ _) (.i _ _)⟩⟩
def slIndex(κ:Nat)(x y:ByteArray):Option Int:=match y.data.toList with
 |[c]=>some (Lib.indexByte x.data.toList c)
 |_ =>bif Nat.blt x.size 4294967281 then some (Lib.index x.data.toList y.data.toList)else none
theorem ok_slIndex(κ:Nat)(m:Int):EOk Tryz.prog C (G m) 64 (spSSI.entry fun(x,y)=>slIndex κ x y):=by
 refine Spec.lib spSSI_ok (callable Tryz.func64 (c:=getBody Tryz.f64) (by kernel_rfl) (by kernel_rfl)) (fun _ =>rfl) fun i q hx σ w vs hR ha=> ?_
 obtain⟨x,y⟩:=i;have hvs:=repL_ss ha;subst hvs;have hm:w.cell? ⟨0,0,none⟩=some (.int .i64 m):=by
  obtain⟨y,h1,h2⟩:=hR.glob 0 [.i .i64 m] rfl 0 (.i .i64 m) rfl;cases h2;exact h1.2
 simp only [slIndex]at hx;split at hx
 ·rename_i c hc
  cases hx;have hy:y=⟨#[c]⟩:=by
   cases y with
   |mk d=>cases d with
    |mk l=>
     have h:l=[c]:=hc;rw [h]
  subst hy;exact⟨_,rfl,(Tryz.stringslite_Index_one x c w).mono fun e w' ⟨h1,h2⟩=>⟨by rw [h2];exact Below.refl _ _,_,h1,.i _ _⟩⟩
 ·cases hb:Nat.blt x.size 4294967281
  ·rw [hb]at hx;cases hx
  ·rw [hb]at hx
   cases hx;exact⟨_,rfl,(Tryz.stringslite_Index x y m w (Nat.le_of_ble_eq_true hb) hm).mono fun e w' ⟨h1,h2⟩=>⟨by rw [h2];exact Below.refl _ _,_,h1,.i _ _⟩⟩
noncomputable def gamLib(b:Gam T)(κ:Nat):Gam T:=(((((((((b.addS 107 spSSS (fun(x,y)=>strings_TrimLeft κ x y)).addS 59 spSSS (fun(x,y)=>strings_Trim κ x y)).addS 60 spSSB (fun(x,y)=>strings_Contains κ x y)).addS 76 spSSI (fun(x,y)=>strings_Index κ x y)).addS 67 spSUI (fun(x,y)=>strings_IndexByte κ x y)).addS 79 spSUI (fun(x,y)=>internal_stringslite_IndexByte κ x y)).addS 94 spSII (fun x=>unicode_utf8_DecodeRuneInString κ x)).addS 64 spSSI (fun(x,y)=>slIndex κ x y)).addE 77 noEsc)
theorem gamLib_ok{b:Gam T}(κ:Nat)(m:Int)(hb:GOk Tryz.prog C (G m) b):GOk Tryz.prog C (G m) (gamLib b κ):=(((((((((hb.addS (ok_strings_TrimLeft κ m)).addS (ok_strings_Trim κ m)).addS (ok_strings_Contains κ m)).addS (ok_strings_Index κ m)).addS (ok_strings_IndexByte κ m)).addS (ok_internal_stringslite_IndexByte κ m)).addS (ok_unicode_utf8_DecodeRuneInString κ m)).addS (ok_slIndex κ m)).addE (noEsc_ok Tryz.func77 (by kernel_rfl) (by kernel_rfl) (by kernel_rfl) (by kernel_rfl)))
end Go.Proofs.YtdoifigogbdodaaGreatDoor.Ev.Seat

namespace Go.Proofs.YtdoifigogbdodaaGreatDoor.Ev.Seat
open Go Ev Go.Proofs Go.RowKit Go.Sort Go.Lib
structure GS(w:World):Prop where
 esyn:∃ev,w.cell? ⟨2,0,none⟩=some ev∧(ev= .nilIface∨∃te pe,ev= .iface te pe)
 eran:∃ev,w.cell? ⟨3,0,none⟩=some ev∧(ev= .nilIface∨∃te pe,ev= .iface te pe)
 pow:∀j z,Lib.pow10Tab[j]? =some z→w.cell? ⟨1,j,none⟩=some (.int .u64 z)
theorem cell_lt{w:World}{b off:Nat}{v:Value}(h:w.cell? ⟨b,off,none⟩=some v):b<w.heap.size:=by
 rcases Nat.lt_or_ge b w.heap.size with h'|h'
 ·exact h'
 ·unfold World.cell? at h;rw [Array.getElem?_eq_none h']at h;simp at h
theorem cell_below{w w':World}{b off:Nat}{v:Value}(hb:Below w.heap.size w w')(h:w.cell? ⟨b,off,none⟩=some v):w'.cell? ⟨b,off,none⟩=some v:=by
 have hk:=hb.block b (cell_lt h);unfold World.cell? at*;rw [hk];exact h
theorem GS.below{w w':World}(h:GS w)(hb:Below w.heap.size w w'):GS w':=by
 obtain⟨⟨e1,h1,k1⟩,⟨e2,h2,k2⟩,h3⟩:=h;exact⟨⟨e1,cell_below hb h1,k1⟩,⟨e2,cell_below hb h2,k2⟩,fun j z hz=>cell_below hb (h3 j z hz)⟩
theorem gs_of{C0:Cdc T}{σ:Lk}{H:List (AObj T)}{w:World}{m:Int}(hR:Rp C0 σ H w (G m)):GS w:=by
 refine⟨?_, ?_,fun j z hz=> ?_⟩
 ·obtain⟨y,h1,h2⟩:=hR.glob 2 [.ifx] rfl 0 .ifx rfl
  cases h2 with
  |ifx _ h=>exact⟨y,h1.2,h⟩
 ·obtain⟨y,h1,h2⟩:=hR.glob 3 [.ifx] rfl 0 .ifx rfl
  cases h2 with
  |ifx _ h=>exact⟨y,h1.2,h⟩
 ·obtain⟨y,h1,h2⟩:=hR.glob 1 pow10V rfl j (.i .u64 z) (by simp [pow10V,hz])
  cases h2
  simpa using h1.2
set_option maxHeartbeats 2000000 in
set_option maxRecDepth 100000 in
theorem numDigits_c(u:Nat)(h1:1≤u)(h2:u<18446744073709551616)(w:World)(hp:∀j z,Lib.pow10Tab[j]? =some z→w.cell? ⟨1,j,none⟩=some (.int .u64 z)):
  Calls Tryz.prog 90 #[.int .u64 u] w fun e w'=>e= .returned (.int .i64 (Lib.nDigits u))∧w'=w:=by
 obtain⟨hnd,h19⟩:=Lib.numDigits_eq u h1 h2;have hL:Lib.bitLen u≤64:=Lib.bitLen_le u 64 (Nat.le_refl _) h2;have hcell:w.cell? ⟨1,Lib.l10 (Lib.bitLen u),none⟩=some (.int .u64 ((10^Lib.l10 (Lib.bitLen u):Nat):Int)):=hp _ _ (by
  unfold Lib.pow10Tab;rw [List.getElem?_map,List.getElem?_range (by omega)];rfl)
 have hto:((u:Int)).toNat=u:=by omega
 generalize hq:Lib.l10 (Lib.bitLen u)=q at hnd h19 hcell;generalize hT:10^q=T at hnd hcell;have h20:q<20:=by omega
 have Hnd:=Lib.hid hnd;clear hnd hp
 go_enter Tryz.func90,Tryz.ntmps90
 go_wp2_with (first
  |(go_at_call 109;refine(Tryz.bits_Len64 _ _ (by omega) (by omega)).mono ?_;rintro e w' ⟨rfl,rfl⟩)
  |(go_at_call 108;refine(Tryz.internal_strconv_log10Pow2 _ (by first|exact hL|(rw [hto];exact hL)) _).mono ?_;rintro e w' ⟨rfl,rfl⟩)
  |(go_at_call 110;refine(Tryz.internal_strconv_bool2_int _ _).mono ?_;rintro e w' ⟨rfl,rfl⟩))
 all_goals go_ret
 all_goals (
  refine⟨?_,rfl⟩;have hnd:=Hnd.out;congr 2;split at hnd<;>simp_all<;>omega)
theorem below_alloc{w W:World}(h:Below w.heap.size w W)(o:Obj):Below w.heap.size w (W.alloc o):=h.alloc h.size o
theorem bytes_below{B:Nat}{w W:World}(h:Below B w W)(hB:B≤W.heap.size)(e:TypeId)(s:ByteArray):Below B w (Lib.bytesWorld W e s):=
 h.trans ⟨rfl,rfl,rfl,by rw [Lib.bytesWorld_size];omega,fun i hi=>Lib.bytesWorld_at_old W e s i (by omega)⟩
theorem holds_zero0(w:World)(T:TypeId)(nd:Nat)(hs:nd≤24):Holds (fun(b:UInt8)=>Value.int .u8 (b.toNat:Int)) (w.alloc (.cells zeros24 T)) w.heap.size 0 (Array.replicate nd (0:UInt8)):=fun j hj=>by
 have hj':j<nd:=by simpa using hj
 refine⟨?_,World.frozen?_alloc_new _ _ _ _⟩;rw [World.cell?_alloc_new,zeros24_at _ (by omega),getElem!_pos _ j hj];simp
theorem fin0(w:World)(o:Obj)(dk:Array UInt8)(k:Nat):Below w.heap.size w ((putRow (fun(b:UInt8)=>Value.int .u8 (b.toNat:Int)) (w.alloc o) w.heap.size 0 dk).drewN k):=by
 rw [alloc_eq_grow];obtain⟨os',_,e⟩:=putRow_grow_new (fun(b:UInt8)=>Value.int .u8 (b.toNat:Int)) w #[o] w.heap.size 0 dk (Nat.le_refl _);rw [e];exact below_grow _ w (Nat.le_refl _) k os'
set_option maxHeartbeats 6400000 in
set_option maxRecDepth 100000 in
theorem FormatUint_in(u:Nat)(h:u<18446744073709551616)(w:World)(hG:GS w):
  Calls Tryz.prog 68 #[.int .u64 u,.int .i64 10] w fun e w'=>e= .returned (.string ⟨(Lib.decDigits u).toArray⟩)∧Below w.heap.size w w':=by
 by_cases hs:u<100
 ·have d:decide ((u:Int)<100)=true:=by simp;omega
  go_enter Tryz.func68,Tryz.ntmps68
  go_wp2_with (go_at_call 89;refine(Tryz.internal_strconv_small u hs _).mono ?_;rintro e w' ⟨rfl,rfl⟩)
  go_ret
  exact⟨rfl,Below.refl _ _⟩
 ·have hu1:1≤u:=by omega
  have hg1:GS (w.alloc (.cells Lib.zeros24 132)):=hG.below (below_alloc (Below.refl _ _) _);have HG:=Lib.hid hg1;clear hG hg1;have d:decide ((u:Int)<100)=false:=by simp;omega
  have hnd20:Lib.nDigits u≤20:=by have:=Lib.numDigits_eq u hu1 h;split at this<;>omega
  have hal:Tryz.prog.arrayLen 132=24:=by kernel_rfl
  have hsl1:∀W,(Instr.sliceAt 132 (.pointer (some ⟨w.heap.size,0,none⟩)) none (some (.int .i64 (Lib.nDigits u:Int))) none).run Tryz.prog W= .ok (.slice (some ⟨w.heap.size,0,none⟩) (Lib.nDigits u) 24) W:=fun W=>by
   rw [run_sliceAt_array_h W 132 ⟨w.heap.size,0,none⟩ (by simp [Program.arrayLen,Program.elem,Tryz.underlying132]) .i64 (Lib.nDigits u:Int) (by omega) (by rw [hal];omega)]
   go_simp
  have hH0:=holds_zero0 w 132 (Lib.nDigits u) (by omega);have hfmt:=Tryz.internal_strconv_formatBase10 w.heap.size 0 24 u (Array.replicate (Lib.nDigits u) 0) (w.alloc (.cells Lib.zeros24 132)) hH0 (by rw [Array.size_replicate];exact Lib.lt_pow_nDigits u) h (by rw [Array.size_replicate];omega);rw [Array.size_replicate]at hfmt;have HH0:=Lib.hid hH0;clear hH0 hal
  go_enter Tryz.func68,Tryz.ntmps68
  go_wp2_with (first
   |(go_at_call 90;refine(numDigits_c u hu1 h _ HG.out.pow).mono ?_;rintro e w' ⟨rfl,rfl⟩))
  go_at_call 91
  refine hfmt.mono ?_;rintro e w' ⟨rfl,k,v',dk,rfl,hF⟩;have hcv:(convert 24 9 (.slice (some ⟨w.heap.size,0,none⟩) (Lib.nDigits u) 24)).run Tryz.prog ((putRow (fun(b:UInt8)=>Value.int .u8 (b.toNat:Int)) (w.alloc (.cells Lib.zeros24 132)) w.heap.size 0 dk).drewN k)= .ok (.string ⟨(Lib.decDigits u).toArray⟩) ((putRow (fun(b:UInt8)=>Value.int .u8 (b.toNat:Int)) (w.alloc (.cells Lib.zeros24 132)) w.heap.size 0 dk).drewN k):=by
   have h:=run_convert_bytes_back (P:=Tryz.prog) ((putRow (fun(b:UInt8)=>Value.int .u8 (b.toNat:Int)) (w.alloc (.cells Lib.zeros24 132)) w.heap.size 0 dk).drewN k) 24 9 5 ⟨w.heap.size,0,none⟩ 24 (Lib.decDigits u) Tryz.underlying24 Tryz.underlying5 Tryz.underlying9 (fun j hj=>by
    rw [Lib.row_is_numeral hF j hj,Lib.add_plain,World.cell?_drewN];exact cell?_putRow (fun(b:UInt8)=>Value.int .u8 (b.toNat:Int)) _ w.heap.size 0 _ dk HH0.out (by rw [hF.size,Array.size_replicate]) j (by rw [hF.size];rw [Lib.decDigits_length]at hj;exact hj))
   rw [Lib.decDigits_length]at h;exact h
  go_wp2
  go_ret
  exact⟨rfl,fin0 w (.cells Lib.zeros24 132) dk k⟩
theorem FormatUint_calls(u:Nat)(h:u<18446744073709551616)(w:World)(hG:GS w):
  Calls Tryz.prog 58 #[.int .u64 u,.int .i64 10] w fun e w'=>e= .returned (.string ⟨(Lib.decDigits u).toArray⟩)∧Below w.heap.size w w':=by
 have hp:=Lib.hid hG;clear hG
 go_enter Tryz.func58,Tryz.ntmps58
 go_wp2_with (go_at_call 68;refine(FormatUint_in u h _ hp.out).mono ?_;rintro e w' ⟨rfl,hb⟩)
 go_ret
 exact⟨rfl,hb⟩
theorem ShowUint_calls(u:Nat)(h:u<18446744073709551616)(w:World)(hG:GS w):
  Calls Tryz.prog 45 #[.int .u64 u] w fun e w'=>e= .returned (.string ⟨(Lib.decDigits u).toArray⟩)∧Below w.heap.size w w':=by
 have HG:=Lib.hid hG;clear hG
 go_enter Tryz.func45,Tryz.ntmps45
 go_wp2_with (go_at_call 58;refine(FormatUint_calls u h _ HG.out).mono ?_;rintro e w' ⟨rfl,hb⟩)
 go_ret
 exact⟨rfl,hb⟩
theorem below_or{w w':World}{s:ByteArray}{T:TypeId}(h:w'=w∨w'=Lib.bytesWorld w T s):Below w.heap.size w w':=by
 rcases h with rfl|rfl
 ·exact Below.refl _ _
 ·exact bytes_below (Below.refl _ _) (Nat.le_refl _) T s
theorem ShowUint_as(u:Nat)(h:u<18446744073709551616)(d:ByteArray)(hd:d=⟨(Lib.decDigits u).toArray⟩)(w:World)(hG:GS w):
  Calls Tryz.prog 45 #[.int .u64 u] w fun e w'=>e= .returned (.string d)∧Below w.heap.size w w':=by
 subst hd;exact ShowUint_calls u h w hG
set_option maxHeartbeats 1000000 in
theorem Uint_ok(s:ByteArray)(hs:s.size≤140737488351232)(u:Nat)(hu:u<18446744073709551616)(h:Lib.parseUintB 64 s.data.toList= .ok u)(hq:s=⟨(Lib.decDigits u).toArray⟩)(w:World)(hG:GS w):
  Calls Tryz.prog 54 #[.string s] w fun e w'=>e= .returned (.tuple #[.int .u64 u,.bool true])∧Below w.heap.size w w':=by
 have HG:=Lib.hid hG;have HP:=Lib.hid h;have HQ:=Lib.hid hq;clear hG h hq
 go_enter Tryz.func54,Tryz.ntmps54
 go_wp2_with (first
  |(go_at_call 65;refine(Tryz.strconv_ParseUint_10_at64_ok s (by omega) u HP.out _).mono ?_;rintro e w1 ⟨rfl,hb⟩;have HB:=Lib.hid (below_or hb);clear hb)
  |(go_at_call 45;refine(ShowUint_as u hu s HQ.out _ (HG.out.below HB.out)).mono ?_;rintro e w2 ⟨rfl,hb2⟩;have HB2:=Lib.hid hb2;clear hb2))
 go_ret2
 exact⟨rfl,HB.out.trans (HB2.out.mono HB.out.size)⟩
set_option maxHeartbeats 1000000 in
theorem Uint_other(s d:ByteArray)(hs:s.size≤140737488351232)(u:Nat)(hu:u<18446744073709551616)(h:Lib.parseUintB 64 s.data.toList= .ok u)(hd:d=⟨(Lib.decDigits u).toArray⟩)(hq:(d.toList==s.toList)=false)(w:World)(hG:GS w):
  Calls Tryz.prog 54 #[.string s] w fun e w'=>e= .returned (.tuple #[.int .u64 0,.bool false])∧Below w.heap.size w w':=by
 have HG:=Lib.hid hG;have HP:=Lib.hid h;have HD:=Lib.hid hd;clear hG h hd
 go_enter Tryz.func54,Tryz.ntmps54
 go_wp2_with (first
  |(go_at_call 65;refine(Tryz.strconv_ParseUint_10_at64_ok s (by omega) u HP.out _).mono ?_;rintro e w1 ⟨rfl,hb⟩;have HB:=Lib.hid (below_or hb);clear hb)
  |(go_at_call 45;refine(ShowUint_as u hu d HD.out _ (HG.out.below HB.out)).mono ?_;rintro e w2 ⟨rfl,hb2⟩;have HB2:=Lib.hid hb2;clear hb2))
 go_ret2
 exact⟨rfl,HB.out.trans (HB2.out.mono HB.out.size)⟩
theorem parse_bad(s:ByteArray)(hlim:s.size≤281474976710656)(h:Lib.parseUintB 64 s.data.toList=Lib.parseUintB 64 [])(ev:Value)(w:World)(hv:w.cell? ⟨2,0,none⟩=some ev)(hev:ev= .nilIface∨∃te pe,ev= .iface te pe):
  Calls Tryz.prog 65 #[.string s,.int .i64 10,.int .i64 64] w fun e w'=>∃N,e= .returned (.tuple #[.int .u64 0,.iface 146 (.pointer (some ⟨N,0,none⟩))])∧Below w.heap.size w w':=
 (Any.strconv_ParseUint_10_at64_syntax Tryz.laysPu14 s hlim (h.trans (by unfold Lib.parseUintB;rw [if_pos rfl])) ev w hv hev).mono fun _ _ ⟨N,h1,_,_,h2⟩=>⟨N,h1,h2⟩
theorem parse_big(s:ByteArray)(hlim:s.size≤281474976710656)(h:Lib.parseUintB 64 s.data.toList= .range)(ev:Value)(w:World)(hv:w.cell? ⟨3,0,none⟩=some ev)(hev:ev= .nilIface∨∃te pe,ev= .iface te pe):
  Calls Tryz.prog 65 #[.string s,.int .i64 10,.int .i64 64] w fun e w'=>∃N n,e= .returned (.tuple #[.int .u64 n,.iface 146 (.pointer (some ⟨N,0,none⟩))])∧Below w.heap.size w w':=
 (Tryz.strconv_ParseUint_10_at64_range s hlim h ev w hv hev).mono fun _ _ ⟨N,h1,_,_,h2⟩=>⟨N,_,h1,h2⟩
set_option maxHeartbeats 1000000 in
theorem Uint_bad(s:ByteArray)(hs:s.size≤140737488351232)(h:Lib.parseUintB 64 s.data.toList=Lib.parseUintB 64 [])(w:World)(hG:GS w):
  Calls Tryz.prog 54 #[.string s] w fun e w'=>e= .returned (.tuple #[.int .u64 0,.bool false])∧Below w.heap.size w w':=by
 have HP:=Lib.hid h;obtain⟨ev,h1,h2⟩:=hG.esyn;have H1:=Lib.hid h1;have H2:=Lib.hid h2;clear hG h h1 h2
 go_enter Tryz.func54,Tryz.ntmps54
 go_wp2_with (first
  |(go_at_call 65;refine(parse_bad s (by omega) HP.out ev _ H1.out H2.out).mono ?_;rintro e w1 ⟨N,rfl,hb⟩;have HB:=Lib.hid hb;clear hb))
 go_ret2
 exact⟨rfl,HB.out⟩
set_option maxHeartbeats 1000000 in
theorem Uint_range(s:ByteArray)(hs:s.size≤140737488351232)(h:Lib.parseUintB 64 s.data.toList= .range)(w:World)(hG:GS w):
  Calls Tryz.prog 54 #[.string s] w fun e w'=>e= .returned (.tuple #[.int .u64 0,.bool false])∧Below w.heap.size w w':=by
 have HP:=Lib.hid h;obtain⟨ev,h1,h2⟩:=hG.eran;have H1:=Lib.hid h1;have H2:=Lib.hid h2;clear hG h h1 h2
 go_enter Tryz.func54,Tryz.ntmps54
 go_wp2_with (first
  |(go_at_call 65;refine(parse_big s (by omega) HP.out ev _ H1.out H2.out).mono ?_;rintro e w1 ⟨N,n,rfl,hb⟩;have HB:=Lib.hid hb;clear hb))
 go_ret2
 exact⟨rfl,HB.out⟩
def uintOf(s:ByteArray):Int×Bool:=
 match Lib.parseUintB 64 s.data.toList with
 | .ok u=>bif Nat.blt u 18446744073709551616&&sameBy (Lib.decDigits u) s.data.toList then((u:Int),true)else(0,false)
 |_ =>(0,false)
def showOf(x:Int):ByteArray:=⟨(Lib.decDigits x.toNat).toArray⟩
def scalUint(κ:Nat)(s:ByteArray):Option (Int×Bool):=bif Nat.ble s.size 140737488351232 then some (uintOf s)else none
def scalShow(κ:Nat)(x:Int):Option ByteArray:=bif decide (0≤x)&&decide (x<18446744073709551616)then some (showOf x)else none
theorem sameBy_self:∀l:List UInt8,sameBy l l=true
 |[]=>rfl
 |a::l=>by
  unfold sameBy;rw [sameBy_self l,Bool.and_true];exact Nat.beq_refl _
theorem parse_lt{s:List UInt8}{u:Nat}(h:Lib.parseUintB 64 s= .ok u):u<18446744073709551616:=by
 have:=Lib.parseUintB_le h;omega
theorem Uint_calls(s:ByteArray)(hs:s.size≤140737488351232)(w:World)(hG:GS w):
  Calls Tryz.prog 54 #[.string s] w fun e w'=>e= .returned (.tuple #[.int .u64 (uintOf s).1,.bool (uintOf s).2])∧Below w.heap.size w w':=by
 unfold uintOf;rcases hp:Lib.parseUintB 64 s.data.toList with u|_ |_
 rotate_left
 ·exact Uint_bad s hs (hp.trans (by unfold Lib.parseUintB;rw [if_pos rfl])) w hG
 ·exact Uint_range s hs hp w hG
 ·have hu:=parse_lt hp
  have h1:Nat.blt u 18446744073709551616=true:=by simpa [Nat.blt_eq] using hu
  show Calls Tryz.prog _ _ w fun e w'=>e= .returned (.tuple #[.int .u64 (bif Nat.blt u 18446744073709551616&&sameBy (Lib.decDigits u) s.data.toList then((u:Int),true)else(0,false)).1,.bool (bif Nat.blt u 18446744073709551616&&sameBy (Lib.decDigits u) s.data.toList then((u:Int),true)else(0,false)).2])∧_
  rw [h1,Bool.true_and];cases hq:sameBy (Lib.decDigits u) s.data.toList
  ·refine Uint_other s ⟨(Lib.decDigits u).toArray⟩ hs u hu hp rfl ?_ w hG
   refine Bool.eq_false_iff.2 fun he=> ?_
   have he':=eq_of_beq he;have:(Lib.decDigits u)=s.data.toList:=by
    have e:(⟨(Lib.decDigits u).toArray⟩:ByteArray).toList=s.toList:=he'
    rwa [toList_data,toList_data]at e
   rw [this,sameBy_self]at hq;cases hq
  ·refine Uint_ok s hs u hu hp ?_ w hG
   have:=sameBy_eq hq;cases s with
   |mk d=>simp only at this⊢;rw [this]
def spSUB:Spec T ByteArray (Int×Bool) where
 dcI a H:=match a,H with
  |[.v (.s x)],[]=>some x
  |_,_ =>none
 ecA:=fun x=>[.v (.s x)]
 ecH:=fun _ =>[]
 dcO o:=match o with
  | .ret (.tup [.v (.i .u64 a),.v (.b b)]) []=>some (a,b)
  |_ =>none
 ecO:=fun(a,b)=> .ret (.tup [.v (.i .u64 a),.v (.b b)]) []
 goO:=fun _ (a,b) k=>k (.ret (.tup [.v (.i .u64 a),.v (.b b)]) [])
theorem spSUB_ok:SpecOk spSUB:=by
 refine⟨fun a H i h=> ?_,fun o x h=> ?_,fun R e k=>by kernel_rfl⟩
 ·simp only [spSUB]at h⊢;split at h<;>first|(cases h;exact⟨rfl,rfl⟩)|(cases h;done)
 ·simp only [spSUB]at h⊢;split at h<;>first|(cases h;rfl)|(cases h;done)
def spUS:Spec T Int ByteArray where
 dcI a H:=match a,H with
  |[.v (.i .u64 x)],[]=>some x
  |_,_ =>none
 ecA:=fun x=>[.v (.i .u64 x)]
 ecH:=fun _ =>[]
 dcO o:=match o with
  | .ret (.v (.s a)) []=>some a
  |_ =>none
 ecO:=fun a=> .ret (.v (.s a)) []
 goO:=fun _ a k=>k (.ret (.v (.s a)) [])
theorem spUS_ok:SpecOk spUS:=by
 refine⟨fun a H i h=> ?_,fun o x h=> ?_,fun R e k=>by kernel_rfl⟩
 ·simp only [spUS]at h⊢;split at h<;>first|(cases h;exact⟨rfl,rfl⟩)|(cases h;done)
 ·simp only [spUS]at h⊢;split at h<;>first|(cases h;rfl)|(cases h;done)
theorem repL_i1{C:Cdc T}{σ:Lk}{H:List (AObj T)}{w:World}{k:IntKind}{x:Int}{vs:List Value}(h:RepL C σ H w [.v (.i k x)] vs):vs=[.int k x]:=by
 obtain⟨a,l,h1,h2,h5⟩:=h;have h5':l=[]:=h5;rw [h1,h5',rep_int h2]
theorem ok_scalUint(κ:Nat)(m:Int):EOk Tryz.prog C (G m) 54 (spSUB.entry fun x=>scalUint κ x):=by
 refine Spec.lib spSUB_ok (callable Tryz.func54 (c:=getBody Tryz.f54) (by kernel_rfl) (by kernel_rfl)) (fun _ =>rfl) fun x q hx σ w vs hR ha=> ?_
 have hvs:=repL_s ha;subst hvs;simp only [scalUint]at hx;cases hb:Nat.ble x.size 140737488351232
 ·rw [hb]at hx;cases hx
 ·rw [hb]at hx
  cases hx;exact⟨_,rfl,(Uint_calls x (Nat.le_of_ble_eq_true hb) w (gs_of hR)).mono fun e w' ⟨h1,h2⟩=>⟨h2,_,h1,rep_tup2 (.i _ _) (.b _)⟩⟩
theorem ok_scalShow(κ:Nat)(m:Int):EOk Tryz.prog C (G m) 45 (spUS.entry fun x=>scalShow κ x):=by
 refine Spec.lib spUS_ok (callable Tryz.func45 (c:=getBody Tryz.f45) (by kernel_rfl) (by kernel_rfl)) (fun _ =>rfl) fun x q hx σ w vs hR ha=> ?_
 have hvs:=repL_i1 ha;subst hvs;simp only [scalShow]at hx;cases hb:decide (0≤x)&&decide (x<18446744073709551616)
 ·rw [hb]at hx;cases hx
 ·rw [hb]at hx
  cases hx;simp only [Bool.and_eq_true,decide_eq_true_eq]at hb;obtain⟨u,rfl⟩:=Int.eq_ofNat_of_zero_le hb.1;exact⟨_,rfl,(ShowUint_calls u (by omega) w (gs_of hR)).mono fun e w' ⟨h1,h2⟩=>⟨h2,_,h1,.s _⟩⟩
noncomputable def gamScal(b:Gam T)(κ:Nat):Gam T:=((b.addS 54 spSUB fun x=>scalUint κ x).addS 45 spUS fun x=>scalShow κ x)
theorem gamScal_ok{b:Gam T}(κ:Nat)(m:Int)(hb:GOk Tryz.prog C (G m) b):GOk Tryz.prog C (G m) (gamScal b κ):=(hb.addS (ok_scalUint κ m)).addS (ok_scalShow κ m)
end Go.Proofs.YtdoifigogbdodaaGreatDoor.Ev.Seat

namespace Go.Proofs.YtdoifigogbdodaaGreatDoor.Ev.Seat
open Go Ev Go.Proofs Go.RowKit
def joinV(l:List ByteArray)(s:ByteArray):List UInt8:=Lib.join (l.map (·.data.toList)) s.data.toList
def strJoin(κ:Nat)(l:List ByteArray)(s:ByteArray):Option ByteArray:=bif Nat.ble (joinV l s).length 140737488355328&&Nat.ble l.length 1000000 then some ⟨(joinV l s).toArray⟩else none
def spJoin:Spec T (List ByteArray×ByteArray) ByteArray:=(mkS [.sl 9,.s] [] [⟨false,.s,[]⟩]:)
theorem spJoin_ok:SpecOk spJoin:=mkS_ok _ _ _
theorem ok_strJoin(κ:Nat)(m:Int):EOk Tryz.prog C (G m) 34 (spJoin.entry fun(x,y)=>strJoin κ x y):=by
 refine Spec.lib spJoin_ok (callable Tryz.func34 (c:=getBody Tryz.f34) (by kernel_rfl) (by kernel_rfl)) (fun _ =>rfl) fun i q hx σ w vs hR ha=> ?_
 obtain⟨l,s⟩:=i;have ha':RepL C σ [] w [.v (.sl 9 l),.v (.s s)] vs:=ha;obtain⟨v,vs1,rfl,h2,h3⟩:=ha';obtain⟨v2,vs2,rfl,h4,h5⟩:=h3;have h5':vs2=[]:=h5;subst h5';have hs:=rep_str h4;subst hs;simp only [strJoin]at hx;cases hb:Nat.ble (joinV l s).length 140737488355328&&Nat.ble l.length 1000000
 ·rw [hb]at hx;cases hx
 ·rw [hb]at hx
  cases hx;rw [Bool.and_eq_true]at hb;have hb1:=Nat.le_of_ble_eq_true hb.1;have hb2:=Nat.le_of_ble_eq_true hb.2;have none':∀(A:Option Addr) (c:Nat),l=[]→∃y,spJoin.ecO (⟨(joinV l s).toArray⟩:ByteArray)=Out.ret y []∧Calls Tryz.prog 34 [Value.slice A 0 c,.string s].toArray w fun e w'=>Below w.heap.size w w'∧∃v,e= .returned v∧RepA C σ [] w' y v:=by
   intro A c hl;subst hl;exact⟨_,rfl,(Any.strings_Join_none Tryz.lays156 Tryz.Builder_Extra_156 A c s w).mono fun e w' ⟨h1,h2⟩=>⟨by rw [h2];exact Below.refl _ _,_,h1,.s _⟩⟩
  cases h2 with
  |sl0 t A c=>exact none' A c rfl
  |sl t l blk off c xs hc k1 k2=>
   cases l with
   |nil=>exact none' _ c rfl
   |cons x r=>
    have hc':∀(j:Nat) y,(x::r)[j]? =some y→w.cell? ⟨blk,off+j,none⟩=some (.string y):=by
     intro j y hj;obtain⟨hlt,hy⟩:=List.getElem?_eq_some_iff.1 hj;have hl:0<(C.enc 9 (x::r)[j]).length:=by
      have h:(C.enc 9 (x::r)[j]).length=1:=C_ok.len 9 _;omega
     have e1:=(k1 j hlt 0 hl).2;have e2:RepW C.enc C.size (Cell C σ [] w) (V.s y) (xs j 0):=by subst hy;exact k2 j hlt 0 hl
     cases hz:xs j 0 with
     |string z=>
      rw [hz]at e2 e1;cases e2;have:off+j*C.size 9+0=off+j:=by show off+j*1+0=_;omega
      rw [this]at e1;exact e1
     |_ =>rw [hz]at e2;cases e2
    exact⟨_,rfl,(Any.strings_Join Tryz.lays156 Tryz.Builder_Extra_156 blk off c (x::r) s w hc' (Ev.cell_lt (hc' 0 x rfl)) (by omega) hc hb1).mono fun e w' ⟨h1,h2⟩=>⟨h2,_,h1,.s _⟩⟩
noncomputable def gamJoin(b:Gam T)(κ:Nat):Gam T:=b.addS 34 spJoin (fun(x,y)=>strJoin κ x y)
theorem gamJoin_ok{b:Gam T}(κ:Nat)(m:Int)(hb:GOk Tryz.prog C (G m) b):GOk Tryz.prog C (G m) (gamJoin b κ):=hb.addS (ok_strJoin κ m)
end Go.Proofs.YtdoifigogbdodaaGreatDoor.Ev.Seat
