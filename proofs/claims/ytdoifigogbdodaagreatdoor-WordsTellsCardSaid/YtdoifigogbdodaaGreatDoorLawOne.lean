import Derived.Test.YtdoifigogbdodaaGreatDoorEvPlain
set_option linter.unusedVariables false
set_option linter.unusedSimpArgs false
set_option maxHeartbeats 1000000
namespace Go.Proofs.YtdoifigogbdodaaGreatDoor.Pa15
open Go Ev Ev.Seat
theorem zH{α:Type}(a b:α):(bif true then a else b)=a:=rfl
theorem zK{α:Type}(a b:α):(bif false then a else b)=b:=rfl
theorem q8(n:Int)(h0: -9223372036854775808≤n)(h1:n≤9223372036854775807):IntKind.wrap IntKind.i64 n=n:=by
 unfold IntKind.wrap;simp [IntKind.bits,IntKind.signed];omega
abbrev B0:ByteArray:=ByteArray.mk (List.toArray [])
theorem zCh(s:ByteArray):seq s s=true:=by simp [seq]
def vf(s:ByteArray):Bool:=(yQ 0 s).getD false
theorem zSr(κ:Nat)(s:ByteArray):yQ κ s=some (vf s)∧(vf s=true→s.size≤12∧seq s B0=false):=by
 have hk:yQ κ s=yQ 0 s:=rfl;rw [hk]
 suffices h:∃b,yQ 0 s=some b∧(b=true→s.size≤12∧seq s B0=false)by
  obtain⟨b,h1,h2⟩:=h;have:vf s=b:=by unfold vf;rw [h1];rfl
  rw [this];exact⟨h1,h2⟩
 unfold yQ yQ.v0;cases h0:seq s (ByteArray.mk (List.toArray []))
 ·simp only [Bool.not_false,zH]
  by_cases h1:((s.size:Nat):Int)≤12
  ·simp only [h1,decide_true,zH]
   have hpos:(1:Int)≤((s.size:Nat):Int):=by
    rcases Nat.eq_zero_or_pos s.size with h|h
    ·exfalso
     have:s=ByteArray.mk (List.toArray []):=by
      cases s with
      |mk d=>cases d with
       |mk l=>cases l with
        |nil=>rfl
        |cons a t=>simp [ByteArray.size]at h
     rw [this]at h0;simp [seq]at h0
    ·omega
   simp only [hpos,decide_true,Int.le_refl,show(0:Int)≤1 from by decide,Bool.and_self,zH];generalize Lib.contains _ _ =c;cases c
   ·exact⟨false,rfl,fun h=>by cases h⟩
   ·simp only [zH]
    unfold wg;rw [show zD6 _ =true from by decide+kernel];have w9:Nat.ble s.size qL=true:=Nat.ble_eq_true_of_le (by unfold qL;omega);rw [w9];refine⟨_,rfl,fun _ =>⟨by omega,by first|exact h0|trivial⟩⟩
  ·simp only [h1,decide_false,zK]
   exact⟨false,rfl,fun h=>by cases h⟩
 ·exact⟨false,rfl,fun h=>by cases h⟩
theorem ident(κ:Nat)(s:ByteArray):yQ κ s=some (vf s):=(zSr κ s).1
theorem j7{s:ByteArray}(h:vf s=true):s.size≤12:=((zSr 0 s).2 h).1
theorem zkT{s:ByteArray}(h:vf s=true):seq s B0=false:=((zSr 0 s).2 h).2
end Go.Proofs.YtdoifigogbdodaaGreatDoor.Pa15
namespace Go.Proofs.YtdoifigogbdodaaGreatDoor.Pa15
open Go Ev Ev.Seat
def kf(x:zD):Bool:= !(vf x.name)||(!(seq x.key B0)&& !(vf x.key))
def zEP(x:zD):List UInt8:=bif seq x.key B0 then []else 91::(x.key.data.toList++[93])
def ud(x:zD):List UInt8:=47::(x.name.data.toList++zEP x)
def jr(w:List zD):List UInt8:=w.flatMap ud
def ints(l:List UInt8):List Int:=l.map fun b=>((b.toNat:Nat):Int)
theorem zQq(a b:List UInt8):ints a++ints b=ints (a++b):=by simp [ints]
theorem j0(a:List UInt8):(ints a).length=a.length:=by simp [ints]
theorem zLA(l:List UInt8):uo C (ints l)=⟨⟨l⟩⟩:=by
 unfold uo;congr 2
 show List.map (fun x:Int=>UInt8.ofNat x.toNat) (ints l)=l;unfold ints;rw [List.map_map]
 conv=>rhs;rw [←List.map_id l]
 apply List.map_congr_left;intro b _;simp
theorem zM4(n:Nat)(h:n≤3000000):Nat.ble n (room (0+1))=true:=by
 rw [Nat.ble_eq];exact Nat.le_trans h (by decide)
theorem jR(n:Nat)(h:n≤3000000):Nat.ble n qL=true:=by
 rw [Nat.ble_eq];exact Nat.le_trans h (by decide)
theorem zWf(s:ByteArray):s.size=s.data.toList.length:=rfl
theorem kH{x:zD}(hb:kf x=false):vf x.name=true∧(seq x.key B0=false→vf x.key=true):=by
 unfold kf at hb;cases h:vf x.name
 ·rw [h]at hb;simp at hb
 ·refine⟨rfl,fun hk=> ?_⟩
  rw [h,hk]at hb;cases h2:vf x.key
  ·rw [h2]at hb;simp at hb
  ·rfl
theorem zkl{κ:Nat}(a:ByteArray)(acc:List UInt8)(h:acc.length+a.size≤3000000):yd κ a (ints acc)=some (((a.size:Nat):Int),ints (acc++a.data.toList)):=by
 unfold yd;have e:List.map (fun b:UInt8=>((UInt8.toNat b:Nat):Int)) a.data.toList=ints a.data.toList:=rfl;rw [e,j0,j0,←zWf,zM4 _ h,zH,zQq]
theorem zj4{κ:Nat}(a:ByteArray)(acc:List UInt8)(h:acc.length+a.size≤3000000):qD κ a (ints acc)=some (((a.size:Nat):Int),ints (acc++a.data.toList)):=by
 unfold qD;have e:List.map (fun b:UInt8=>((UInt8.toNat b:Nat):Int)) a.data.toList=ints a.data.toList:=rfl;rw [e,j0,j0,←zWf,zM4 _ h,zH,zQq]
theorem zND(a b:ByteArray):(a++b).data.toList=a.data.toList++b.data.toList:=by simp
theorem zBJ(a b:ByteArray):(a++b).size=a.size+b.size:=by simp
theorem zkr(κ:Nat)(w:List zD)(n i:Int)(x:zD)(acc:List Int):zl.v25 κ w n i x.name x.key acc=some (w,n,i,kf x,x.name,x.key,acc):=by
 unfold zl.v25 kf;simp only [ident,Option.bind_some];cases vf x.name
 ·rfl
 ·cases seq x.key B0<;>simp only [Bool.not_true,Bool.not_false,zK,zH,Bool.false_or,Bool.true_and,Bool.false_and]<;>rfl
theorem zlH(κ:Nat)(w:List zD)(n i:Int)(x:zD)(acc:List UInt8)(hb:kf x=false)(hacc:acc.length≤1000):
  zl.v27 κ w n i (!(seq x.key B0)) x.name x.key (ints acc)=some (w,n,i,ints (acc++zEP x)):=by
 unfold zl.v27 zEP;cases hk:seq x.key B0
 ·have hi:vf x.key=true:=(kH hb).2 hk
  have hs:=j7 hi;have s1:(ByteArray.mk (List.toArray [(91:UInt8)])).size=1:=rfl;have s2:(ByteArray.mk (List.toArray [(93:UInt8)])).size=1:=rfl;simp only [Bool.not_false,zH,zK,zBJ,s1,s2];rw [jR _ (by omega),zH,jR _ (by omega),zH,zkl _ _ (by simp only [zBJ,s1,s2];omega)];simp only [Option.bind_some,zND];simp
 ·simp
theorem zeU(κ:Nat)(w:List zD)(n:Int)(i:Nat)(x:zD)(hx:w[i]? =some x)(acc:List UInt8)(hacc:acc.length≤900):
  zl.v24 κ w n (i:Int) (ints acc)=some (bif kf x then .inr B0 else .inl (w,n,(i:Int),ints (acc++ud x))):=by
 unfold zl.v24;rw [show decide ((0:Int)≤(i:Int))=true from by simp];simp only [zH,Int.toNat_natCast,hx,Option.bind_some,zkr];cases hb:kf x
 ·have hi:vf x.name=true:=(kH hb).1
  have hs:=j7 hi;have s1:(ByteArray.mk (List.toArray [(47:UInt8)])).size=1:=rfl;simp only [zK,s1];rw [jR _ (by omega),zH,zj4 _ _ (by simp only [zBJ,s1];omega)];simp only [Option.bind_some];have:=zlH κ w n (i:Int) x (acc++(ByteArray.mk (List.toArray [(47:UInt8)])++x.name).data.toList) hb (by rw [List.length_append,←zWf,zBJ,s1];omega);rw [this];simp only [Option.bind_some,zND];simp [ud]
 ·rfl
theorem zjr(κ:Nat)(w:List zD)(n:Int)(i:Nat)(x:zD)(hx:w[i]? =some x)(acc:List UInt8)(hacc:acc.length≤900):
  zl.v29 κ w n (i:Int) (ints acc)=some (bif kf x then .inr B0 else .inl (w,n,(i:Int),ints (acc++ud x))):=by
 have:zl.v29 κ w n (i:Int) (ints acc)=zl.v24 κ w n (i:Int) (ints acc):=rfl;rw [this];exact zeU κ w n i x hx acc hacc
theorem zT9{x:zD}(hb:kf x=false):(ud x).length≤30:=by
 have hi:vf x.name=true:=(kH hb).1;have hs:=j7 hi;unfold ud zEP;cases hk:seq x.key B0
 ·have hi:vf x.key=true:=(kH hb).2 hk
  have hs2:=j7 hi;simp;omega
 ·simp;omega
def zTz(w:List zD)(acc:List UInt8):Option (List UInt8):=bif w.any kf then none else some (acc++jr w)
def zh8(o:Option ((List Int)⊕(ByteArray⊕(List Int)))):Option (List UInt8)→Prop
 |none=>o=some (.inr (.inl B0))
 |some l=>o=some (.inl (ints l))∨o=some (.inr (.inr (ints l)))
theorem zVf(κ:Nat)(w:List zD)(hw:w.length≤6):∀(d i K:Nat) (acc:List UInt8),w.length=i+d→acc.length≤30*i→d<K→
  zh8 (zl.l23 κ K (.inl (w,((w.length:Nat):Int),(i:Int),ints acc))) (zTz (w.drop i) acc)∧zh8 (zl.l23 κ K (.inr (w,((w.length:Nat):Int),(i:Int),ints acc))) (zTz (w.drop i) acc)
 |d,i,0,acc,_,_,h=>by omega
 |0,i,K+1,acc,hd,ha,_ =>by
  have hn:w.drop i=[]:=List.drop_eq_nil_of_le (by omega);rw [hn];unfold zl.l23 zl.w23 zl.zdt zTz;rw [show decide ((i:Int)<((w.length:Nat):Int))=false from by simp;omega];simp only [List.any_nil,zK,jr,List.flatMap_nil,List.append_nil];exact⟨.inl rfl,.inr rfl⟩
 |d+1,i,K+1,acc,hd,ha,hk=>by
  have hlt:i<w.length:=by omega
  have hx:w[i]? =some w[i]:=List.getElem?_eq_getElem hlt;rw [List.drop_eq_getElem_cons hlt];unfold zl.l23 zl.w23 zl.zdt;rw [show decide ((i:Int)<((w.length:Nat):Int))=true from by simp;omega];simp only [zH];rw [zeU κ w _ i _ hx acc (by omega),zjr κ w _ i _ hx acc (by omega)];unfold zTz;cases hb:kf w[i]
  ·have hl:=zT9 hb
   have ih:=(zVf κ w hw d (i+1) K (acc++ud w[i]) (by omega) (by rw [List.length_append];omega) (by omega)).2;simp only [zK,Option.bind_some,List.any_cons,hb,Bool.false_or];rw [q8 _ (by omega) (by omega),show((i:Int)+1)=((i+1:Nat):Int)from by omega];have he:zTz (w.drop (i+1)) (acc++ud w[i])=bif (w.drop (i+1)).any kf then none else some (acc++jr (w[i]::w.drop (i+1))):=by
    unfold zTz jr;simp only [List.flatMap_cons,List.append_assoc]
   rw [he]at ih;exact⟨ih,ih⟩
  ·simp only [zH,Option.bind_some,List.any_cons,hb,Bool.true_or]
   exact⟨rfl,rfl⟩
def ub(w:List zD):ByteArray:=if w.length=0 then⟨⟨[47]⟩⟩else if w.length>6 then B0 else bif w.any kf then B0 else⟨⟨jr w⟩⟩
theorem zNM:∀{w:List zD},w.any kf=false→(jr w).length≤30*w.length
 |[],_ =>by simp [jr]
 |x::l,h=>by
  simp only [List.any_cons,Bool.or_eq_false_iff]at h;have h1:=zT9 h.1;have h2:=zNM h.2;unfold jr at h2⊢;simp only [List.flatMap_cons,List.length_append,List.length_cons];omega
theorem zfl(κ:Nat)(hκ:10≤κ)(w:List zD):zl κ w=some (ub w):=by
 unfold zl ub;by_cases h0:w.length=0
 ·rw [if_pos h0,h0];rfl
 ·rw [if_neg h0,show(((w.length:Nat):Int)==0)=false from beq_eq_false_iff_ne.2 (by omega)]
  simp only [zK];by_cases h6:w.length>6
  ·rw [if_pos h6,show decide (((w.length:Nat):Int)>6)=true from by simp;omega];rfl
  ·have h6':w.length≤6:=Nat.le_of_not_gt h6
   rw [if_neg h6,show decide (((w.length:Nat):Int)>6)=false from decide_eq_false (by omega)];simp only [zK];have h:=(zVf κ w h6' w.length 0 κ [] (by omega) (by simp) (by omega)).1;simp only [List.drop_zero,Int.natCast_zero]at h;have e0:ints []=[]:=rfl;rw [e0]at h;unfold zTz at h;cases hb:w.any kf
   ·rw [hb]at h
    simp only [zK,List.nil_append]at h⊢;have hl:=zNM hb;rcases h with h|h
    ·rw [h]
     simp only [Option.bind_some];unfold y2;rw [j0,jR _ (by omega),zLA];simp
    ·rw [h]
     simp only [Option.bind_some];unfold qM;rw [j0,jR _ (by omega),zLA];simp
   ·rw [hb]at h
    have h:zl.l23 κ κ _ =_ :=h;rw [h];rfl
end Go.Proofs.YtdoifigogbdodaaGreatDoor.Pa15
namespace Go.Proofs.YtdoifigogbdodaaGreatDoor.Pa15
open Go Ev Ev.Seat Go.Lib
theorem mk_data(s:ByteArray):(⟨s.data.toList.toArray⟩:ByteArray)=s:=by simp
theorem zFw(s:ByteArray):∃l:List UInt8,s=⟨l.toArray⟩:=⟨s.data.toList,(mk_data s).symm⟩
theorem km(l:List UInt8):(⟨l.toArray⟩:ByteArray).data.toList=l:=by simp
theorem sized(l:List UInt8):(⟨l.toArray⟩:ByteArray).size=l.length:=by show l.toArray.size=_;simp
theorem zaM{a b:List UInt8}:(⟨a.toArray⟩:ByteArray)=⟨b.toArray⟩↔a=b:=by
 constructor
 ·intro h
  have:=congrArg (fun s:ByteArray=>s.data.toList) h
  simpa using this
 ·rintro rfl;rfl
theorem zFa(a b:List UInt8):seq ⟨a.toArray⟩ ⟨b.toArray⟩=decide (a=b):=by
 unfold seq;rw [km,km];exact Bool.eq_iff_iff.2 (by simp)
theorem zac(a:List UInt8):seq ⟨a.toArray⟩ B0=decide (a=[]):=zFa a []
theorem pc(l:List UInt8)(a b:Nat):(⟨l.toArray⟩:ByteArray).extract a b=⟨((l.drop a).take (b-a)).toArray⟩:=by
 rw [←mk_data ((⟨l.toArray⟩:ByteArray).extract a b)];congr 2;rw [←Lib.toList_data,Lib.extract_toList]
def small(c:UInt8):Bool:=decide (97≤c.toNat∧c.toNat≤122)
def wP(c:UInt8):Bool:=decide ((97≤c.toNat∧c.toNat≤122)∨c.toNat=45∨(48≤c.toNat∧c.toNat≤57))
def idB:List UInt8→Bool
 |[]=>false
 |c::r=>small c&&r.all wP&&decide (r.length<12)
def smalls:List UInt8:=[97,98,99,100,101,102,103,104,105,106,107,108,109,110,111,112,113,114,115,116,117,118,119,120,121,122]
def oks:List UInt8:=[97,98,99,100,101,102,103,104,105,106,107,108,109,110,111,112,113,114,115,116,117,118,119,120,121,122,48,49,50,51,52,53,54,55,56,57,45]
theorem zkf:∀n:Fin 256,oks.contains (UInt8.ofNat n.val)=wP (UInt8.ofNat n.val):=by decide+kernel
theorem zfK(c:UInt8):UInt8.ofNat c.toNat=c:=by simp
theorem ok_eq(c:UInt8):oks.contains c=wP c:=by
 have:=zkf ⟨c.toNat,c.toNat_lt⟩
 simpa only [zfK] using this
theorem dropWhile_nil{p:UInt8→Bool}:∀(l:List UInt8),(l.dropWhile p=[])↔l.all p=true
 |[]=>by simp
 |c::l=>by
  rw [List.dropWhile_cons,List.all_cons];cases hc:p c
  ·simp
  ·simpa using dropWhile_nil l
theorem zEz(l:List UInt8):(trimS l oks=[])↔l.all wP=true:=by
 have e:(fun c=>oks.contains c)=wP:=funext ok_eq;unfold trimS trimLeftS trimRightS;rw [e,dropWhile_nil];constructor
 ·intro h
  by_cases ha:l.all wP=true
  ·exact ha
  ·exfalso
   have h1:l.reverse.dropWhile wP≠[]:=fun z=>ha (by have:=(dropWhile_nil _).1 z;rwa [List.all_reverse]at this)
   obtain⟨c,r,hcr⟩:=List.exists_cons_of_ne_nil h1;have h2:wP c=false:=by
    have:=List.head?_dropWhile_not wP l.reverse;rw [hcr]at this
    simpa using this
   rw [hcr]at h;simp [h2]at h
 ·intro h
  have:l.reverse.dropWhile wP=[]:=(dropWhile_nil _).2 (by rwa [List.all_reverse]);rw [this];rfl
theorem zX2{c:UInt8}(h:small c=true):wP c=true:=by
 unfold small at h;unfold wP;simp only [decide_eq_true_eq]at h⊢;exact .inl h
theorem zgm:∀n:Fin 256,Lib.contains smalls [UInt8.ofNat n.val]=small (UInt8.ofNat n.val):=by decide+kernel
theorem zhR(c:UInt8):Lib.contains smalls [c]=small c:=by
 have:=zgm ⟨c.toNat,c.toNat_lt⟩
 simpa only [zfK] using this
theorem pR(l:List UInt8):vf ⟨l.toArray⟩=idB l:=by
 have h:=ident 0 ⟨l.toArray⟩;unfold yQ yQ.v0 at h;rw [show seq (⟨l.toArray⟩:ByteArray) (ByteArray.mk (List.toArray []))=decide (l=[])from zFa l []]at h;cases l with
 |nil=>
  simp only [decide_true,Bool.not_true,zK,Option.bind_some]at h;exact(Option.some.inj h).symm
 |cons c r=>
  simp only [reduceCtorEq,decide_false,Bool.not_false,zH,sized]at h;by_cases h12:(((c::r).length:Nat):Int)≤12
  ·have hl:r.length<12:=by rw [List.length_cons]at h12;omega
   have h1:(1:Int)≤(((c::r).length:Nat):Int):=by rw [List.length_cons];omega
   simp only [h12,h1,decide_true,zH,Int.le_refl,show(0:Int)≤1 from by decide,Bool.and_self,Int.toNat_zero,show(1:Int).toNat=1 from rfl]at h;rw [pc,km]at h;simp only [List.drop_zero,Nat.sub_zero,List.take_succ_cons,List.take_zero]at h;have hcon:=zhR c;have h:(bif Lib.contains smalls [c]then(wg 0 ⟨(c::r).toArray⟩ ⟨oks.toArray⟩).bind (fun x0=>some (seq x0 B0))else some false).bind (fun x0=>some x0)=some (vf ⟨(c::r).toArray⟩):=h;rw [hcon]at h
   show vf ⟨(c::r).toArray⟩=(small c&&r.all wP&&decide (r.length<12));cases hs:small c
   ·rw [hs]at h
    simp only [zK,Option.bind_some]at h;rw [←Option.some.inj h];rfl
   ·rw [hs]at h
    simp only [zH]at h;unfold wg at h;rw [show zD6 _ =true from by decide+kernel]at h;have w9:Nat.ble (⟨(c::r).toArray⟩:ByteArray).size qL=true:=Nat.ble_eq_true_of_le (by rw [sized,List.length_cons];unfold qL;omega);rw [w9]at h;have h:some (seq (⟨(trimS (c::r) oks).toArray⟩:ByteArray) B0)=some (vf ⟨(c::r).toArray⟩):=h;rw [←Option.some.inj h,zac];have hok:=zX2 hs;have hall:(c::r).all wP=r.all wP:=by rw [List.all_cons,hok,Bool.true_and]
    have hd:decide (r.length<12)=true:=by simp [hl]
    rw [hd,Bool.true_and,Bool.and_true];cases hr:r.all wP with
    |true=>rw [(zEz _).2 (by rw [hall,hr])];rfl
    |false=>
     refine decide_eq_false fun z=> ?_
     have:=(zEz _).1 z;rw [hall,hr]at this;cases this
  ·simp only [h12,decide_false,zK,Option.bind_some]at h
   rw [←Option.some.inj h];have hl:¬r.length<12:=by rw [List.length_cons]at h12;omega
   unfold idB;simp [hl]
theorem zix(κ:Nat)(l:List UInt8)(i:Nat)(c:UInt8)(h:l[i]? =some c):yD.v5 κ ⟨l.toArray⟩ (i:Int)=some (⟨l.toArray⟩,(i:Int),small c):=by
 unfold yD.v5 small;rw [show decide ((0:Int)≤(i:Int))=true from decide_eq_true (by omega)];simp only [zH,km,Int.toNat_natCast,h,Option.bind_some];by_cases h1:((c.toNat:Nat):Int)≥97
 ·have:decide (97≤c.toNat∧c.toNat≤122)=decide (((c.toNat:Nat):Int)≤122):=by rw [decide_eq_decide];omega
  simp only [h1,decide_true,zH,this]
 ·have:decide (97≤c.toNat∧c.toNat≤122)=false:=decide_eq_false (by omega)
  simp only [h1,decide_false,zK,this]
theorem zie(κ:Nat)(l:List UInt8)(i:Nat)(c:UInt8)(h:l[i]? =some c)(b:Bool):yD.v7 κ ⟨l.toArray⟩ (i:Int) b=some (⟨l.toArray⟩,(i:Int), !b&&(decide (i=0)|| !(decide (c.toNat=45∨(48≤c.toNat∧c.toNat≤57))))):=by
 unfold yD.v7;cases b
 ·simp only [Bool.not_false,zH,Bool.true_and]
  by_cases h0:i=0
  ·subst h0;rfl
  ·rw [show((i:Int)==0)=false from beq_eq_false_iff_ne.2 (by omega),show decide (i=0)=false from decide_eq_false h0,show decide ((0:Int)≤(i:Int))=true from decide_eq_true (by omega)]
   simp only [zH,zK,km,Int.toNat_natCast,h,Option.bind_some,Bool.false_or];by_cases h1:((c.toNat:Nat):Int)=45
   ·rw [show(((c.toNat:Nat):Int) !=45)=false from by simp [h1],show decide (c.toNat=45∨(48≤c.toNat∧c.toNat≤57))=true from decide_eq_true (by omega)]
    rfl
   ·rw [show(((c.toNat:Nat):Int) !=45)=true from by simpa using h1]
    simp only [zH];by_cases h2:((c.toNat:Nat):Int)<48
    ·rw [show decide (c.toNat=45∨(48≤c.toNat∧c.toNat≤57))=false from decide_eq_false (by omega)]
     simp only [h2,decide_true,zH];rfl
    ·simp only [h2,decide_false,zK]
     congr 3;by_cases h3:((c.toNat:Nat):Int)>57
     ·rw [decide_eq_true h3,show decide (c.toNat=45∨(48≤c.toNat∧c.toNat≤57))=false from decide_eq_false (by omega)];rfl
     ·rw [decide_eq_false h3,show decide (c.toNat=45∨(48≤c.toNat∧c.toNat≤57))=true from decide_eq_true (by omega)];rfl
 ·rfl
theorem zY1(κ:Nat)(l:List UInt8)(hl:l.length≤140737488351232):∀(d i K:Nat),1≤i→l.length=i+d→d<K→
  yD.l4 κ K (⟨l.toArray⟩,(i:Int))=some (bif (l.drop i).all wP then .inl ⟨l.toArray⟩else .inr false)
 |d,i,0,_,_,h=>by omega
 |0,i,K+1,_,hd,_ =>by
  have hn:l.drop i=[]:=List.drop_eq_nil_of_le (by omega);rw [hn];unfold yD.l4 yD.w4;rw [sized,show decide ((i:Int)<((l.length:Nat):Int))=false from decide_eq_false (by omega)];rfl
 |d+1,i,K+1,hi,hd,hk=>by
  have hlt:i<l.length:=by omega
  have hx:l[i]? =some l[i]:=List.getElem?_eq_getElem hlt;unfold yD.l4 yD.w4;rw [sized,show decide ((i:Int)<((l.length:Nat):Int))=true from decide_eq_true (by omega)];simp only [zH,zix κ l i _ hx,zie κ l i _ hx,Option.bind_some];rw [List.drop_eq_getElem_cons hlt,List.all_cons];have hok:(!small l[i]&&(decide (i=0)|| !(decide (l[i].toNat=45∨(48≤l[i].toNat∧l[i].toNat≤57)))))= !wP l[i]:=by
   rw [show decide (i=0)=false from decide_eq_false (by omega),Bool.false_or];unfold small wP;by_cases h1:97≤l[i].toNat∧l[i].toNat≤122<;>by_cases h2:l[i].toNat=45∨(48≤l[i].toNat∧l[i].toNat≤57)<;>simp [h1,h2]
  rw [hok];cases wP l[i]
  ·rfl
  ·simp only [Bool.not_true,zK,Bool.true_and]
   rw [q8 _ (by omega) (by omega),show((i:Int)+1)=((i+1:Nat):Int)from by omega];exact zY1 κ l hl d (i+1) K (by omega) (by omega) (by omega)
theorem zBa(κ:Nat)(s:ByteArray)(hs:s.size≤140737488351232)(hκ:s.size+1<κ):yD κ s=some (vf s):=by
 obtain⟨l,rfl⟩:=zFw s;rw [pR];rw [sized]at hs hκ;unfold yD;cases l with
 |nil=>
  obtain⟨k,rfl⟩:∃k,κ=k+1:=⟨κ-1,by omega⟩
  rfl
 |cons c r=>
  obtain⟨k,hk⟩:∃k,κ=k+1:=⟨κ-1,by omega⟩
  have hx:(c::r)[0]? =some c:=rfl;have first:yD.l4 κ κ (⟨(c::r).toArray⟩,(0:Int))=some (bif small c&&r.all wP then .inl ⟨(c::r).toArray⟩else .inr false):=by
   conv=>lhs;arg 2;rw [hk]
   unfold yD.l4 yD.w4;rw [sized,show decide ((0:Int)<(((c::r).length:Nat):Int))=true from decide_eq_true (by rw [List.length_cons];omega)];have e5:=zix κ (c::r) 0 c hx;have e7:=zie κ (c::r) 0 c hx (small c);simp only [Int.natCast_zero]at e5 e7;simp only [zH,e5,e7,Option.bind_some,decide_true,Bool.true_or,Bool.and_true];cases small c
   ·rfl
   ·simp only [Bool.not_true,zK,Bool.true_and]
    rw [q8 _ (by omega) (by omega),show((0:Int)+1)=((1:Nat):Int)from rfl,zY1 κ (c::r) hs r.length 1 k (by omega) (by rw [List.length_cons];omega) (by rw [List.length_cons]at hκ;omega)];rfl
  rw [first]
  show _ =some (small c&&r.all wP&&decide (r.length<12));cases hb:small c&&r.all wP
  ·rfl
  ·simp only [zH,Option.bind_some,yD.v10]
   rw [show seq (⟨(c::r).toArray⟩:ByteArray) (ByteArray.mk (List.toArray []))=decide ((c::r)=[])from zFa _ []];simp only [reduceCtorEq,decide_false,Bool.not_false,zH,sized,Option.bind_some,Bool.true_and];congr 1;rw [decide_eq_decide,List.length_cons];omega
end Go.Proofs.YtdoifigogbdodaaGreatDoor.Pa15
namespace Go.Proofs.YtdoifigogbdodaaGreatDoor.Pa15
open Go Ev Ev.Seat Go.Lib
def Fits(κ:Nat)(w:List zD):Prop:=∀x∈w,x.name.size≤140737488351232∧x.key.size≤140737488351232∧x.name.size+1<κ∧x.key.size+1<κ
end Go.Proofs.YtdoifigogbdodaaGreatDoor.Pa15
namespace Go.Proofs.YtdoifigogbdodaaGreatDoor.Pa15
open Go Ev Ev.Seat Go.Lib
theorem zkI(a b:List UInt8):(⟨a.toArray⟩:ByteArray)++(⟨b.toArray⟩:ByteArray)=⟨(a++b).toArray⟩:=by rw [ByteArray.mk_append_mk]
theorem zbc(a:List UInt8)(s:ByteArray):(⟨a.toArray⟩:ByteArray)++s=⟨(a++s.data.toList).toArray⟩:=by
 obtain⟨b,rfl⟩:=zFw s;rw [zkI,km]
theorem zdl(κ:Nat)(w:List zD)(hf:Fits κ w)(i:Nat)(x:zD)(hx:w[i]? =some x)(acc:List UInt8)(hacc:acc.length≤1000):
  yR.v7 κ w ⟨acc.toArray⟩ (i:Int)=some (bif kf x then .inr B0 else .inl (w,⟨(acc++ud x).toArray⟩,(i:Int))):=by
 obtain⟨f1,f2,f3,f4⟩:=hf x (List.mem_of_getElem? hx);unfold yR.v7 yR.v8;simp only [show decide ((0:Int)≤(i:Int))=true from decide_eq_true (by omega),zH,Int.toNat_natCast,hx,Option.bind_some,zBa κ _ f1 f3,zBa κ _ f2 f4];unfold kf;cases hn:vf x.name
 ·rfl
 ·have hs:=j7 hn
  simp only [Bool.not_true,zK,Bool.false_or];have s1:(ByteArray.mk (List.toArray [(47:UInt8)])).size=1:=rfl;have s2:(ByteArray.mk (List.toArray [(91:UInt8)])).size=1:=rfl;have s3:(ByteArray.mk (List.toArray [(93:UInt8)])).size=1:=rfl;cases hk:vf x.key
  ·simp only [Bool.not_false,zH,Option.bind_some]
   cases hq:seq x.key B0
   ·rfl
   ·simp only [Bool.not_true,zK,Bool.false_and,show decide ((0:Int)≤(i:Int))=true from decide_eq_true (by omega),zH,Int.toNat_natCast,hx,Option.bind_some,s1,zBJ,sized]
    rw [jR _ (by omega),zH,jR _ (by omega),zH];unfold yR.v10 ud zEP;rw [hq];simp only [zK,zH,Option.bind_some,zbc,zND];simp
  ·have hq:=zkT hk
   have hs2:=j7 hk;simp only [Bool.not_true,Bool.and_false,zK,show decide ((0:Int)≤(i:Int))=true from decide_eq_true (by omega),zH,Int.toNat_natCast,hx,Option.bind_some,s1,zBJ,sized];rw [jR _ (by omega),zH,jR _ (by omega),zH];unfold yR.v10 ud zEP;rw [hq];simp only [zK,zH,Option.bind_some,show decide ((0:Int)≤(i:Int))=true from decide_eq_true (by omega),Int.toNat_natCast,hx,s1,s2,s3,zBJ,sized];rw [jR _ (by omega),zH,jR _ (by omega),zH,jR _ (by omega),zH];simp only [Option.bind_some,zbc,zND];simp
theorem zMH(κ:Nat)(w:List zD)(hw:w.length≤30)(hf:Fits κ w):∀(d i K:Nat) (acc:List UInt8),w.length=i+d→acc.length≤30*i→d<K→
  yR.l6 κ K (w,⟨acc.toArray⟩,(i:Int))=some (bif (w.drop i).any kf then .inr B0 else .inl (w,⟨(acc++jr (w.drop i)).toArray⟩))
 |d,i,0,acc,_,_,h=>by omega
 |0,i,K+1,acc,hd,ha,_ =>by
  have hn:w.drop i=[]:=List.drop_eq_nil_of_le (by omega);rw [hn];unfold yR.l6 yR.w6;rw [show decide ((i:Int)<((w.length:Nat):Int))=false from decide_eq_false (by omega)];simp only [zK,List.any_nil,jr,List.flatMap_nil,List.append_nil]
 |d+1,i,K+1,acc,hd,ha,hk=>by
  have hlt:i<w.length:=by omega
  have hx:w[i]? =some w[i]:=List.getElem?_eq_getElem hlt;rw [List.drop_eq_getElem_cons hlt];unfold yR.l6 yR.w6;rw [show decide ((i:Int)<((w.length:Nat):Int))=true from decide_eq_true (by omega)];simp only [zH,zdl κ w hf i _ hx acc (by omega),Option.bind_some,List.any_cons];cases hb:kf w[i]
  ·have hl:=zT9 hb
   simp only [zK,Bool.false_or];rw [q8 _ (by omega) (by omega),show((i:Int)+1)=((i+1:Nat):Int)from by omega,zMH κ w hw hf d (i+1) K (acc++ud w[i]) (by omega) (by rw [List.length_append];omega) (by omega)];unfold jr;simp only [List.flatMap_cons,List.append_assoc]
  ·rfl
theorem zI1(κ:Nat)(w:List zD)(hw:w.length≤30)(hκ:w.length<κ)(hf:Fits κ w):yR κ w=some (ub w):=by
 have h:=zMH κ w hw hf w.length 0 κ [] (by omega) (by simp) hκ;simp only [List.drop_zero,Int.natCast_zero,List.nil_append]at h;unfold yR;rw [show(ByteArray.mk (List.toArray []))=(⟨([]:List UInt8).toArray⟩:ByteArray)from rfl,h];unfold ub;cases hb:w.any kf
 ·simp only [zK,Option.bind_some]
  rw [show seq (⟨(jr w).toArray⟩:ByteArray) ⟨([]:List UInt8).toArray⟩=decide (jr w=[])from zFa _ _];cases w with
  |nil=>rfl
  |cons x l=>
   rw [show decide (jr (x::l)=[])=false from by simp [jr,ud],if_neg (by simp)];simp only [zK];by_cases h6:(x::l).length>6
   ·rw [if_pos h6,show decide ((((x::l).length:Nat):Int)>6)=true from decide_eq_true (by omega)];rfl
   ·rw [if_neg h6,show decide ((((x::l).length:Nat):Int)>6)=false from decide_eq_false (by omega)];rfl
 ·simp only [zH,Option.bind_some]
  cases w with
  |nil=>cases hb
  |cons x l=>
   rw [if_neg (by simp)];split<;>rfl
end Go.Proofs.YtdoifigogbdodaaGreatDoor.Pa15
namespace Go.Proofs.YtdoifigogbdodaaGreatDoor.Pa15
open Go Ev Ev.Seat Go.Lib
abbrev bs(l:List UInt8):ByteArray:=⟨l.toArray⟩
theorem zkm(κ:Nat)(c:UInt8)(l:List UInt8):zu κ (bs l) (bs [c])=some (decide (l.head? =some c)):=by
 unfold zu zu.v0;simp only [sized];cases l with
 |nil=>simp
 |cons d r=>
  have h1:(((d::r).length:Nat):Int)≥(([c].length:Nat):Int):=by simp only [List.length_cons,List.length_nil];omega
  have h2:(([c].length:Nat):Int)≤(((d::r).length:Nat):Int):=h1;have h3:(0:Int)≤(([c].length:Nat):Int):=by omega
  simp only [h1,h2,h3,decide_true,zH,Int.le_refl,Bool.and_self,Option.bind_some,Int.toNat_zero,Int.toNat_natCast];rw [pc,zFa];congr 1;simp
theorem zf0(κ:Nat)(c:UInt8)(l:List UInt8):strings_HasPrefix κ (bs l) (bs [c])=some (decide (l.head? =some c)):=by
 unfold strings_HasPrefix;rw [zkm];rfl
theorem zon(κ:Nat)(c:UInt8)(r:List UInt8):strings_CutPrefix κ (bs (c::r)) (bs [c])=some (bs r,true):=by
 unfold strings_CutPrefix y9;rw [zkm];have h3:(0:Int)≤(([c].length:Nat):Int):=by omega
 have h2:(([c].length:Nat):Int)≤(((c::r).length:Nat):Int):=by simp only [List.length_cons,List.length_nil];omega
 simp only [List.head?_cons,decide_true,Option.bind_some,Bool.not_true,zK,sized,Int.le_refl,h2,h3,Bool.and_self,zH,Int.toNat_natCast];rw [pc];simp
theorem zbY(κ:Nat)(c:UInt8)(r:List UInt8)(L e a:Int):qW κ (bs [c]) (bs (c::r)) L e a=some (bs r,L,e,a):=by
 unfold qW;rw [zon];rfl
theorem zla:∀(nm rest:List UInt8),nm.all wP=true→(rest=[]∨∃d r,rest=d::r∧wP d=false)→trimLeftS (nm++rest) oks=rest:=by
 intro nm rest h hr;have e:(fun c=>oks.contains c)=wP:=funext ok_eq;unfold trimLeftS;rw [e]
 induction nm with
 |nil=>
  rcases hr with rfl|⟨d,r,rfl,hd⟩
  ·rfl
  ·rw [List.nil_append,List.dropWhile_cons,hd];rfl
 |cons c l ih=>
  rw [List.all_cons,Bool.and_eq_true]at h;rw [List.cons_append,List.dropWhile_cons,h.1];exact ih h.2
theorem zXe(κ:Nat)(s:ByteArray)(L e a:Int):yq κ s L e a=
  (fun(r:ByteArray)=>(fun(k:Int)=>
   bif (((decide ((0:Int)≤k)&&decide (k≤((s.size:Nat):Int)))&&decide ((0:Int)≤(0:Int)))&&decide ((0:Int)≤k))then
    Option.bind (yQ κ (s.extract (Int.toNat 0) (Int.toNat k))) fun x0=>
     Option.bind (yq.v0 κ r (s.extract (Int.toNat 0) (Int.toNat k)) (!x0) s L e a) fun x1=>
      some (x1.2.1,x1.1,x1.2.2.2.1,x1.2.2.2.2.1,x1.2.2.2.2.2)
   else none) (IntKind.wrap .i64 (((s.size:Nat):Int)-((r.size:Nat):Int)))) (bs (trimLeftS s.data.toList oks)):=rfl
theorem zSh{l:List UInt8}(h:idB l=true):l.all wP=true:=by
 cases l with
 |nil=>rfl
 |cons c r=>
  unfold idB at h;simp only [Bool.and_eq_true]at h;rw [List.all_cons,zX2 h.1.1,h.1.2];rfl
theorem ze4(κ:Nat)(nm rest:List UInt8)(L:Int)(h:idB nm=true)(hr:rest=[]∨∃d r,rest=d::r∧wP d=false)(hl:(nm++rest).length≤1000000):
  yq κ (bs (nm++rest)) L 0 0=some (bs nm,bs rest,L,0,0):=by
 rw [zXe,km,zla nm rest (zSh h) hr];simp only [sized];have hlen:(nm++rest).length=nm.length+rest.length:=List.length_append;have hw:IntKind.wrap .i64 ((((nm++rest).length:Nat):Int)-((rest.length:Nat):Int))=(nm.length:Int):=by
  rw [q8 _ (by omega) (by omega)];omega
 rw [hw];rw [show decide ((0:Int)≤(nm.length:Int))=true from decide_eq_true (by omega),show decide ((nm.length:Int)≤(((nm++rest).length:Nat):Int))=true from decide_eq_true (by omega)];simp only [Int.le_refl,decide_true,Bool.and_self,zH,Int.toNat_natCast,Int.toNat_zero];rw [pc];simp only [List.drop_zero,Nat.sub_zero,List.take_left];rw [ident,pR,h];rfl
theorem step1(κ:Nat)(n:Nat)(hn:n<6)(x:zD)(hx:kf x=false)(rest:List UInt8)(hr:rest=[]∨∃r,rest=47::r)(L:Int)(hl:rest.length≤1000):
  zi κ (n:Int) (bs (ud x++rest)) L 0 0=some (x.name,x.key,bs rest,L,0,0):=by
 obtain⟨hi,hk⟩:=kH hx;obtain⟨nm,ky⟩:=x;obtain⟨l,rfl⟩:=zFw nm;obtain⟨q,rfl⟩:=zFw ky;simp only [pR]at hi hk;have hll:l.length≤12:=by have:=j7 (s:=bs l) (by rw [pR];exact hi);rwa [sized]at this
 unfold zi zi.v0;rw [show decide ((n:Int)≥6)=false from decide_eq_false (by omega)];simp only [zK,Option.bind_some,zi.v2];have e1:ud ⟨bs l,bs q⟩++rest=47::(l++(zEP ⟨bs l,bs q⟩++rest)):=by simp [ud]
 rw [e1,show(ByteArray.mk (List.toArray [(47:UInt8)]))=bs [47]from rfl,zbY];simp only [Option.bind_some];unfold zEP;rw [zac];have h47:wP 47=false:=by decide
 have h91:wP 91=false:=by decide
 have h93:wP 93=false:=by decide
 by_cases hq:q=[]
 ·subst hq
  simp only [decide_true,zH,List.nil_append];rw [ze4 κ l rest L hi (hr.imp id fun⟨r,h⟩=>⟨47,r,h,h47⟩) (by rw [List.length_append];omega)];simp only [Option.bind_some];rw [show(ByteArray.mk (List.toArray [(91:UInt8)]))=bs [91]from rfl,zf0];have:decide (rest.head? =some 91)=false:=by
   rcases hr with rfl|⟨r,rfl⟩<;>simp
  rw [this];rfl
 ·rw [decide_eq_false hq]
  have hkq:idB q=true:=hk (by rw [zac];exact decide_eq_false hq);have hql:q.length≤12:=by have:=j7 (s:=bs q) (by rw [pR];exact hkq);rwa [sized]at this
  simp only [zK,km];rw [show(91::(q++[93])++rest:List UInt8)=91::(q++(93::rest))from by simp];rw [ze4 κ l _ L hi (.inr ⟨91,_,rfl,h91⟩) (by simp;omega)];simp only [Option.bind_some];rw [show(ByteArray.mk (List.toArray [(91:UInt8)]))=bs [91]from rfl,zf0];simp only [List.head?_cons,decide_true,Option.bind_some,zi.v4,zH];rw [show(ByteArray.mk (List.toArray [(91:UInt8)]))=bs [91]from rfl,zbY];simp only [Option.bind_some];rw [ze4 κ q (93::rest) L hkq (.inr ⟨93,rest,rfl,h93⟩) (by simp;omega)];simp only [Option.bind_some];rw [show(ByteArray.mk (List.toArray [(93:UInt8)]))=bs [93]from rfl,zbY];rfl
theorem zPP:∀w:List zD,jr w=[]∨∃r,jr w=47::r
 |[]=> .inl rfl
 |x::l=> .inr ⟨_,rfl⟩
theorem zAm(κ:Nat)(L:Int):∀(w acc:List zD) (K:Nat),w.any kf=false→acc.length+w.length≤6→w.length<K→
  yF.l2 κ K (bs (jr w),L,0,0,acc)=some (bs [],L,0,0,acc++w)
 |w,acc,0,_,_,h=>by omega
 |[],acc,K+1,_,_,_ =>by
  unfold yF.l2 yF.w2 yF.v3;rw [show seq (bs (jr [])) (ByteArray.mk (List.toArray []))=true from rfl];simp only [Bool.not_true,zK,Option.bind_some,List.append_nil];rfl
 |x::l,acc,K+1,hb,ha,hk=>by
  have hb':=hb;rw [List.any_cons,Bool.or_eq_false_iff]at hb;rw [List.length_cons]at ha hk;have hl:=zNM hb.2;unfold yF.l2 yF.w2 yF.v3;rw [show seq (bs (jr (x::l))) (ByteArray.mk (List.toArray []))=false from by rw [show seq (bs (jr (x::l))) (ByteArray.mk (List.toArray []))=decide (jr (x::l)=[])from zFa _ _];simp [jr,ud]];simp only [Bool.not_false,zH,Option.bind_some,show((0:Int)==0)=true from rfl];rw [show bs (jr (x::l))=bs (ud x++jr l)from rfl,step1 κ acc.length (by omega) x hb.1 (jr l) (zPP l) L (by omega)];simp only [Option.bind_some];rw [show Nat.ble (acc.length+([(⟨x.name,x.key⟩:zD)]).length) (room (31+1))=true from by rw [Nat.ble_eq];exact Nat.le_trans (show _ ≤10 by simp;omega) (by decide)];simp only [zH];have ih:=zAm κ L l (acc++[x]) K hb.2 (by rw [List.length_append,List.length_singleton];omega) (by omega);rw [ih];simp
theorem zdf(κ:Nat)(hκ:10≤κ)(w:List zD)(hb:w.any kf=false)(h0:w≠[])(h6:w.length≤6):yF κ (bs (jr w))=some (0,0,w):=by
 cases w with
 |nil=>exact(h0 rfl).elim
 |cons x l=>
  have hb':=hb;rw [List.any_cons,Bool.or_eq_false_iff]at hb;rw [List.length_cons]at h6;have hl:=zNM hb.2;have hi:=(kH hb.1).1;unfold yF;rw [show seq (bs (jr (x::l))) (ByteArray.mk (List.toArray [(47:UInt8)]))=decide (jr (x::l)=[47])from zFa _ _];rw [show decide (jr (x::l)=[47])=false from by
   refine decide_eq_false fun h=> ?_
   have h2:x.name.data.toList++zEP x++jr l=[]:=by
    have:jr (x::l)=47::(x.name.data.toList++zEP x++jr l):=by simp [jr,ud]
    rw [this]at h
    simpa using h
   have h3:x.name.data.toList=[]:=by simp at h2;simpa using h2.1
   have:x.name=bs []:=by rw [←mk_data x.name,h3]
   rw [this,pR]at hi;cases hi]
  simp only [zK];rw [show bs (jr (x::l))=bs (ud x++jr l)from rfl];have hs:=step1 κ 0 (by omega) x hb.1 (jr l) (zPP l) (((bs (ud x++jr l)).size:Nat):Int) (by omega);simp only [Int.natCast_zero]at hs;rw [hs];simp only [Option.bind_some];have h:=zAm κ (((bs (ud x++jr l)).size:Nat):Int) l [x] κ hb.2 (by simp;omega) (by omega);rw [show [(⟨x.name,x.key⟩:zD)]=[x]from rfl,h];rfl
end Go.Proofs.YtdoifigogbdodaaGreatDoor.Pa15

namespace Go.Proofs.YtdoifigogbdodaaGreatDoor.Va8
open Go Ev Ev.Seat
theorem zH{α:Type}(a b:α):(bif true then a else b)=a:=rfl
theorem q8(n:Int)(h0: -9223372036854775808≤n)(h1:n≤9223372036854775807):IntKind.wrap IntKind.i64 n=n:=by
 unfold IntKind.wrap;simp [IntKind.bits,IntKind.signed];omega
theorem zCh(s:ByteArray):seq s s=true:=by simp [seq]
end Go.Proofs.YtdoifigogbdodaaGreatDoor.Va8
namespace Go.Proofs.YtdoifigogbdodaaGreatDoor.Va8
open Go Ev Ev.Seat
theorem zDr{a b:ByteArray}:seq a b=true↔a=b:=by
 constructor
 ·intro h
  have h':a.data.toList=b.data.toList:=by simpa [seq] using h
  cases a with
  |mk a=>cases b with
   |mk b=>cases a with
    |mk a=>cases b with
     |mk b=>exact congrArg (fun l=>(⟨⟨l⟩⟩:ByteArray)) h'
 ·rintro rfl;exact zCh a
end Go.Proofs.YtdoifigogbdodaaGreatDoor.Va8
namespace Go.Proofs.YtdoifigogbdodaaGreatDoor.Va8
open Go Ev Ev.Seat Go.Lib
theorem mk_data(s:ByteArray):(⟨s.data.toList.toArray⟩:ByteArray)=s:=by simp
theorem zFw(s:ByteArray):∃l:List UInt8,s=⟨l.toArray⟩:=⟨s.data.toList,(mk_data s).symm⟩
theorem km(l:List UInt8):(⟨l.toArray⟩:ByteArray).data.toList=l:=by simp
theorem sized(l:List UInt8):(⟨l.toArray⟩:ByteArray).size=l.length:=by show l.toArray.size=_;simp
theorem zaM{a b:List UInt8}:(⟨a.toArray⟩:ByteArray)=⟨b.toArray⟩↔a=b:=by
 constructor
 ·intro h
  have:=congrArg (fun s:ByteArray=>s.data.toList) h
  simpa using this
 ·rintro rfl;rfl
end Go.Proofs.YtdoifigogbdodaaGreatDoor.Va8
namespace Go.Proofs.YtdoifigogbdodaaGreatDoor.Va8
open Go Ev Ev.Seat Go.Lib
def zBN(s:ByteArray):Option Nat:=match Lib.parseUintB 64 s.data.toList with
 | .ok u=>if s=⟨(Lib.decDigits u).toArray⟩then some u else none
 |_ =>none
theorem zVh(a b:List UInt8):(⟨a.toArray⟩:ByteArray)++(⟨b.toArray⟩:ByteArray)=⟨(a++b).toArray⟩:=by rw [ByteArray.mk_append_mk]
theorem mk_inj{a b:List UInt8}(h:(⟨a.toArray⟩:ByteArray)=⟨b.toArray⟩):a=b:=zaM.1 h
theorem zUK{s:ByteArray}{u:Nat}(h:zBN s=some u):u<18446744073709551616:=by
 unfold zBN at h;split at h
 ·rename_i v hv
  split at h
  ·cases h;exact zUM hv
  ·cases h
 ·cases h
theorem pk{u:Nat}(h:u<10):decDigits u=[UInt8.ofNat (48+u)]:=by rw [decDigits,dif_pos h]
theorem zFx{u:Nat}(h:¬u<10):decDigits u=decDigits (u/10)++[UInt8.ofNat (48+u%10)]:=by rw [decDigits,dif_neg h]
theorem zdd(u:Nat):decDigits u≠[]:=by
 by_cases h:u<10
 ·rw [pk h];simp
 ·rw [zFx h];simp
theorem zCa{n:Nat}(h:n<256):(UInt8.ofNat n).toNat=n:=by
 simp [UInt8.toNat_ofNat'];omega
theorem zTW(M:Nat)(c:UInt8):∀(l:List UInt8) (acc v:Nat),parseUintM M acc l= .ok v→48≤c.toNat→c.toNat≤57→v<1844674407370955162→v*10+(c.toNat-48)≤M→parseUintM M acc (l++[c])= .ok (v*10+(c.toNat-48))
 |[],acc,v,h,h1,h2,h3,h4=>by
  simp only [parseUintM]at h;cases h;simp only [List.nil_append,parseUintM];rw [if_pos ⟨h1,h2⟩,if_neg (by omega),if_neg (by omega)]
 |b::l,acc,v,h,h1,h2,h3,h4=>by
  simp only [parseUintM]at h;simp only [List.cons_append,parseUintM];split at h
  ·rename_i hb
   rw [if_pos hb];split at h
   ·cases h
   ·rename_i hr
    rw [if_neg hr];split at h
    ·cases h
    ·rename_i hq
     rw [if_neg hq];exact zTW M c l _ v h h1 h2 h3 h4
  ·cases h
theorem zcg(u:Nat)(hu:u≤18446744073709551615):parseUintM 18446744073709551615 0 (decDigits u)= .ok u:=by
 induction u using Nat.strongRecOn with
 |_ u ih=>
  by_cases h:u<10
  ·rw [pk h]
   have hb:=zCa (n:=48+u) (by omega);simp only [parseUintM,hb];rw [if_pos (by omega),if_neg (by omega),if_neg (by omega)];congr 1;omega
  ·rw [zFx h]
   have hb:=zCa (n:=48+u%10) (by omega);have:=zTW 18446744073709551615 (UInt8.ofNat (48+u%10)) (decDigits (u/10)) 0 (u/10) (ih (u/10) (by omega) (by omega)) (by omega) (by omega) (by omega) (by omega);rw [this,hb];congr 1;omega
theorem zVr(u:Nat)(hu:u<18446744073709551616):zBN ⟨(decDigits u).toArray⟩=some u:=by
 have hp:parseUintB 64 (⟨(decDigits u).toArray⟩:ByteArray).data.toList= .ok u:=by
  show parseUintB 64 (decDigits u)= .ok u;unfold parseUintB;rw [if_neg (zdd u)];exact zcg u (by omega)
 unfold zBN;rw [hp];simp
theorem zew{s:ByteArray}{u:Nat}(h:zBN s=some u):s=⟨(decDigits u).toArray⟩:=by
 unfold zBN at h;split at h
 ·rename_i v hv
  split at h
  ·rename_i hq;cases h;exact hq
  ·cases h
 ·cases h
theorem zaU{s:ByteArray}(h:zBN s=none)(u:Nat)(hu:u<18446744073709551616):s≠⟨(decDigits u).toArray⟩:=by
 rintro rfl;rw [zVr u hu]at h;cases h
theorem zS4(u:Nat):∀c∈decDigits u,48≤c.toNat∧c.toNat≤57:=by
 induction u using Nat.strongRecOn with
 |_ u ih=>
  by_cases h:u<10
  ·rw [pk h]
   intro c hc;rw [List.mem_singleton.1 hc,zCa (by omega)];omega
  ·rw [zFx h]
   intro c hc;rcases List.mem_append.1 hc with hc|hc
   ·exact ih (u/10) (by omega) c hc
   ·rw [List.mem_singleton.1 hc,zCa (by omega)];omega
def zFR(a c:Nat):Nat:=(18446744073709551568+(10*a+c))%18446744073709551616
theorem zTg(a c:Nat):zFR a c=(18446744073709551568+(10*a+c))%18446744073709551616:=by unfold zFR;rfl
theorem zeg(a c:Nat):zFR a c<18446744073709551616:=by rw [zTg];omega
attribute [irreducible] zFR
theorem zQX{a d:Nat}(hd:d<10)(h:10*a+d<18446744073709551616):zFR a (48+d)=10*a+d:=by rw [zTg];omega
def fold(acc:Nat)(l:List UInt8):Nat:=l.foldl (fun a c=>zFR a c.toNat) acc
theorem zZQ(acc:Nat):fold acc []=acc:=by unfold fold;rw [List.foldl_nil]
theorem zOk(acc:Nat)(l:List UInt8)(c:UInt8):fold acc (l++[c])=zFR (fold acc l) c.toNat:=by
 unfold fold;rw [List.foldl_append,List.foldl_cons,List.foldl_nil]
attribute [irreducible] fold
theorem zfE(u:Nat)(hu:u<18446744073709551616):fold 0 (decDigits u)=u:=by
 induction u using Nat.strongRecOn with
 |_ u ih=>
  by_cases h:u<10
  ·rw [pk h,show [UInt8.ofNat (48+u)]=[]++[UInt8.ofNat (48+u)]by rw [List.nil_append],zOk,zZQ,zCa (by omega),zQX h (by omega)]
   omega
  ·rw [zFx h,zOk,ih (u/10) (by omega) (by omega),zCa (by omega),zQX (by omega) (by omega)]
   omega
theorem zad{u:Nat}(hu:u<18446744073709551616):nDigits u≤20:=by
 rcases Nat.eq_zero_or_pos u with rfl|h1
 ·rw [nDigits_small (by omega)];omega
 ·have:=numDigits_eq u h1 hu;split at this<;>omega
def zH6(s:ByteArray):Int×Bool:=match zBN s with|some u=>((u:Int),true)|none=>(0,false)
theorem zI9{s:ByteArray}{u:Nat}(h:zBN s=some u):zH6 s=((u:Int),true):=by unfold zH6;rw [h]
theorem zUg{s:ByteArray}(h:zBN s=none):zH6 s=(0,false):=by unfold zH6;rw [h]
theorem zcY(s:ByteArray):zPm s=zH6 s:=by
 unfold zPm zH6 zBN;rcases hp:Lib.parseUintB 64 s.data.toList with u|_ |_
 rotate_left
 ·rfl
 ·rfl
 ·have hu:=zUM hp
  have h1:Nat.blt u 18446744073709551616=true:=by simpa [Nat.blt_eq] using hu
  simp only [h1,Bool.true_and];by_cases hq:s=⟨(Lib.decDigits u).toArray⟩
  ·have:zAQ (Lib.decDigits u) s.data.toList=true:=by rw [hq,km];exact zFF _
   rw [this,if_pos hq];rfl
  ·have:zAQ (Lib.decDigits u) s.data.toList=false:=by
    refine Bool.eq_false_iff.2 fun h=>hq ?_
    rw [zQD h,mk_data]
   rw [this,if_neg hq];rfl
theorem zgN(κ:Nat)(s:ByteArray)(hs:s.size≤140737488351232):jC κ s=some (zH6 s):=by
 unfold jC;rw [Nat.ble_eq_true_of_le hs,zcY];rfl
theorem zge(κ:Nat)(u:Nat)(h:u<18446744073709551616):ve κ (u:Int)=some ⟨(decDigits u).toArray⟩:=by
 unfold ve zd6;rw [show decide ((0:Int)≤(u:Int))=true from decide_eq_true (by omega),show decide ((u:Int)<18446744073709551616)=true from decide_eq_true (by omega)];rfl
end Go.Proofs.YtdoifigogbdodaaGreatDoor.Va8
namespace Go.Proofs.YtdoifigogbdodaaGreatDoor.Va8
open Go Ev Ev.Seat Go.Lib
theorem ziu{x:Int}(h0:0≤x)(h1:x≤18446744073709551615):IntKind.wrap IntKind.u64 x=x:=by rw [IntKind.wrap_u64];omega
theorem zmk{x:Int}(h0:0≤x)(h1:x≤255):IntKind.wrap IntKind.u8 x=x:=by rw [IntKind.wrap_u8];omega
theorem zZO(n:Nat):(ByteArray.mk (List.toArray (List.map (fun x=>(UInt8.ofNat (Int.toNat x))) (((n:Nat):Int)::[]))))=⟨[UInt8.ofNat n].toArray⟩:=rfl
theorem zUG(y:Nat)(hy:y<18446744073709551616):IntKind.wrap IntKind.u8 (IntKind.wrap IntKind.u64 ((48:Int)+Int.tmod (y:Int) 10))=((48+y%10:Nat):Int):=by
 rw [Int.tmod_eq_emod_of_nonneg (by omega),ziu (by omega) (by omega),zmk (by omega) (by omega)];omega
theorem zSx(κ:Nat):∀(K x:Nat) (l:List UInt8),x<18446744073709551616→nDigits x<K→l.length+nDigits x≤1000→
  yV.l0 κ K ((x:Int),⟨l.toArray⟩)=some (⟨((if x<10 then []else decDigits (x/10))++l).toArray⟩:ByteArray)
 |0,x,l,_,h,_ =>by omega
 |K+1,x,l,hx,hK,hl=>by
  unfold yV.l0 yV.w0;by_cases h:x<10
  ·rw [if_pos h,show decide (((x:Nat):Int)>9)=false from decide_eq_false (by omega)]
   rfl
  ·have hd:IntKind.wrap IntKind.u64 (Int.tdiv (x:Int) 10)=((x/10:Nat):Int):=by
    rw [Int.tdiv_eq_ediv_of_nonneg (by omega),ziu (by omega) (by omega)];omega
   have hb:=nDigits_big h;rw [show decide (((x:Nat):Int)>9)=true from decide_eq_true (by omega),hd,zUG _ (by omega),zZO];have hle:Nat.ble (ByteArray.size ⟨[UInt8.ofNat (48+x/10%10)].toArray⟩+ByteArray.size ⟨l.toArray⟩) qL=true:=Nat.ble_eq_true_of_le (by rw [sized,sized,List.length_singleton];unfold qL;omega);rw [hle];simp only [zH];rw [zVh,List.singleton_append,zSx κ K (x/10) (UInt8.ofNat (48+x/10%10)::l) (by omega) (by omega) (by rw [List.length_cons];omega),if_neg h];congr 3;by_cases h2:x/10<10
   ·rw [if_pos h2,pk h2]
    have e:x/10%10=x/10:=by omega
    rw [e];rfl
   ·rw [if_neg h2,zFx h2,List.append_assoc];rfl
theorem zXT(κ:Nat)(hκ:30≤κ)(u:Nat)(h:u<18446744073709551616):yV κ (u:Int)=some (⟨(decDigits u).toArray⟩:ByteArray):=by
 have hlen:=zad h;unfold yV;rw [zUG u h,zZO,zSx κ κ u _ h (by omega) (by rw [List.length_singleton];omega)];simp only [Option.bind_some];congr 3;by_cases hu:u<10
 ·rw [if_pos hu,pk hu]
  have e:u%10=u:=by omega
  rw [e];rfl
 ·rw [if_neg hu,zFx hu]
theorem zjh(u:Nat)(h:u<18446744073709551616):(⟨(decDigits u).toArray⟩:ByteArray).size≤40:=by
 have:=zad h;rw [sized,decDigits_length];omega
end Go.Proofs.YtdoifigogbdodaaGreatDoor.Va8
namespace Go.Proofs.YtdoifigogbdodaaGreatDoor.Va8
open Go Ev Ev.Seat Go.Lib
theorem zna(x c:Nat)(hx:x<18446744073709551616)(hc:c<256):IntKind.u64.wrap (IntKind.u64.wrap (IntKind.u64.wrap (10*(x:Int))+IntKind.u64.wrap (c:Int))-48)=((zFR x c:Nat):Int):=by
 rw [zTg,IntKind.wrap_u64,IntKind.wrap_u64,IntKind.wrap_u64,IntKind.wrap_u64,Int.emod_eq_of_lt (a:=(c:Int)) (by omega) (by omega)];omega
theorem zVd(κ:Nat)(l:List UInt8)(hl:l.length≤140737488351232):∀(d i K x:Nat),min l.length 20=i+d→d<K→x=fold 0 (l.take i)→x<18446744073709551616→
  yw.l2 κ K (⟨l.toArray⟩,(x:Int),(i:Int))=some (⟨l.toArray⟩,((fold 0 (l.take (min l.length 20)):Nat):Int))∧fold 0 (l.take (min l.length 20))<18446744073709551616
 |d,i,0,x,_,h,_,_ =>by omega
 |0,i,K+1,x,hd,_,hx,hlt=>by
  have hi:min l.length 20=i:=by omega
  rw [hi,←hx];refine⟨?_,hlt⟩;unfold yw.l2 yw.w2 yw.v3;rw [sized];by_cases h:(i:Int)<((l.length:Nat):Int)
  ·rw [decide_eq_true h,show decide ((i:Int)<20)=false from decide_eq_false (by omega)];rfl
  ·rw [decide_eq_false h];rfl
 |d+1,i,K+1,x,hd,hk,hx,hlt=>by
  have hil:i<l.length:=by omega
  have hc:l[i].toNat<256:=l[i].toNat_lt;have e:zFR x l[i].toNat=fold 0 (l.take (i+1)):=
   (congrArg (fun z=>zFR z l[i].toNat) hx).trans ((zOk 0 (l.take i) l[i]).symm.trans (congrArg (fold 0) (List.take_succ_eq_append_getElem hil).symm))
  have hw:=zna x _ hlt hc;have ih:=zVd κ l hl d (i+1) K (zFR x l[i].toNat) (by omega) (by omega) e (zeg _ _);refine⟨?_,ih.2⟩;unfold yw.l2 yw.w2 yw.v3;rw [sized,show decide ((i:Int)<((l.length:Nat):Int))=true from decide_eq_true (by omega),show decide ((i:Int)<20)=true from decide_eq_true (by omega)];simp only [zH,Option.bind_some,show decide ((0:Int)≤(i:Int))=true from decide_eq_true (by omega),km,Int.toNat_natCast,List.getElem?_eq_getElem hil,hw];rw [q8 _ (by omega) (by omega),show((i:Int)+1)=((i+1:Nat):Int)from by omega];exact ih.1
theorem zdL(κ:Nat)(hκ:30≤κ)(s:ByteArray)(hs:s.size≤140737488351232):yw κ s=some (zH6 s):=by
 obtain⟨l,rfl⟩:=zFw s;rw [sized]at hs;obtain⟨h1,h2⟩:=zVd κ l hs (min l.length 20) 0 κ 0 (by omega) (by omega) (by rw [List.take_zero,zZQ]) (by omega);unfold yw;have h1:yw.l2 κ κ (⟨l.toArray⟩,(0:Int),(0:Int))=some (⟨l.toArray⟩,((fold 0 (l.take (min l.length 20)):Nat):Int)):=h1;rw [h1];simp only [Option.bind_some,zXT κ hκ _ h2];unfold zH6;cases hv:zBN ⟨l.toArray⟩with
 |some u=>
  have e:=mk_inj (zew hv);have hu':=zUK hv;have hlen:l.length≤20:=by rw [e,decDigits_length];exact zad hu'
  have hf:fold 0 (l.take (min l.length 20))=u:=by
   rw [Nat.min_eq_left hlen,List.take_length,e];exact zfE u hu'
  rw [hf,←e,zCh];rfl
 |none=>
  have hne:=zaU hv _ h2;have:seq (⟨(decDigits (fold 0 (l.take (min l.length 20)))).toArray⟩:ByteArray) ⟨l.toArray⟩=false:=by
   refine Bool.eq_false_iff.2 fun h=>hne ?_
   exact(zDr.1 h).symm
  rw [this];rfl
end Go.Proofs.YtdoifigogbdodaaGreatDoor.Va8

namespace Go.Proofs.YtdoifigogbdodaaGreatDoor.Lex5
open Go Go.Lib
structure Sg where
 t:List UInt8
 ok:Bool
 deriving DecidableEq
def w5(b:UInt8):Bool:=
 (97≤b.toNat&&b.toNat≤122)||(65≤b.toNat&&b.toNat≤90)||(48≤b.toNat&&b.toNat≤57)||b.toNat==95||b.toNat==45||b.toNat==46
def letter:List UInt8→Bool
 |[b]=>w5 b
 |_ =>false
attribute [irreducible] w5
end Go.Proofs.YtdoifigogbdodaaGreatDoor.Lex5
namespace Go.Proofs.YtdoifigogbdodaaGreatDoor.Ev
open Go Go.Lib
theorem zNZ(l:List UInt8):(ByteArray.mk (List.toArray l)).size=l.length:=by simp [Lib.size_eq]
theorem zWB(l:List UInt8):Array.toList (ByteArray.data (ByteArray.mk (List.toArray l)))=l:=by simp
theorem zZe(a b:List UInt8):Ev.seq (ByteArray.mk (List.toArray a)) (ByteArray.mk (List.toArray b))=(a==b):=by simp [seq]
theorem zZX(l:List UInt8)(i j:Nat):ByteArray.extract (ByteArray.mk (List.toArray l)) i j=ByteArray.mk (List.toArray ((l.drop i).take (j-i))):=by
 rw [Lib.extract_eq]
theorem q8(n:Int)(h0: -9223372036854775808≤n)(h1:n≤9223372036854775807):IntKind.wrap IntKind.i64 n=n:=by
 rw [IntKind.wrap_i64];omega
end Go.Proofs.YtdoifigogbdodaaGreatDoor.Ev
namespace Go.Proofs.YtdoifigogbdodaaGreatDoor.Lex5
open Go Go.Lib Ev Ev.Seat
theorem zH{α:Type}(a b:α):(bif true then a else b)=a:=rfl
theorem zK{α:Type}(a b:α):(bif false then a else b)=b:=rfl
theorem zVj{p:UInt8→Prop}[DecidablePred p](h:∀i:Fin 256,p (UInt8.ofNat i.val))(b:UInt8):p b:=by
 have:=h ⟨b.toNat,b.toNat_lt⟩
 simpa using this
end Go.Proofs.YtdoifigogbdodaaGreatDoor.Lex5
namespace Go.Proofs.YtdoifigogbdodaaGreatDoor.Lex5
open Go Go.Lib Ev Ev.Seat
end Go.Proofs.YtdoifigogbdodaaGreatDoor.Lex5
namespace Go.Proofs.YtdoifigogbdodaaGreatDoor.Lex5
open Go Go.Lib Ev Ev.Seat
theorem jR(n:Nat)(h:n≤3000000):Nat.ble n qL=true:=by
 rw [Nat.ble_eq];exact Nat.le_trans h (by decide)
end Go.Proofs.YtdoifigogbdodaaGreatDoor.Lex5
namespace Go.Proofs.YtdoifigogbdodaaGreatDoor.Lex5
open Go Go.Lib Ev Ev.Seat
def zBV:List UInt8:=(List.append (97::98::99::100::101::102::103::104::105::106::107::108::109::110::111::112::113::114::115::116::117::118::119::120::121::122::65::66::67::68::69::70::[]) (71::72::73::74::75::76::77::78::79::80::81::82::83::84::85::86::87::88::89::90::48::49::50::51::52::53::54::55::56::57::95::45::46::[]))
theorem zX3(b:UInt8):zBV.contains b=w5 b:=by
 refine zVj (p:=fun b=>zBV.contains b=w5 b) ?_ b;decide+kernel
end Go.Proofs.YtdoifigogbdodaaGreatDoor.Lex5
namespace Go.Proofs.YtdoifigogbdodaaGreatDoor.Lex5
open Go Go.Lib Ev Ev.Seat
end Go.Proofs.YtdoifigogbdodaaGreatDoor.Lex5
namespace Go.Proofs.YtdoifigogbdodaaGreatDoor.Lex5
open Go Go.Lib Ev Ev.Seat
end Go.Proofs.YtdoifigogbdodaaGreatDoor.Lex5
namespace Go.Proofs.YtdoifigogbdodaaGreatDoor.Lex5
open Go Go.Lib Ev Ev.Seat
end Go.Proofs.YtdoifigogbdodaaGreatDoor.Lex5
namespace Go.Proofs.YtdoifigogbdodaaGreatDoor.Lex5
open Go Go.Lib Ev Ev.Seat
end Go.Proofs.YtdoifigogbdodaaGreatDoor.Lex5
namespace Go.Proofs.YtdoifigogbdodaaGreatDoor.Lex5
open Go Go.Lib Ev Ev.Seat
theorem zcI{κ:Nat}(t:List UInt8):wC κ ((ByteArray.mk (List.toArray t)))=some (letter t):=by
 unfold wC;rw [zNZ,zWB]
 match t with
 |[]=>rfl
 |[b]=>
  have e:((([b].length:Nat):Int) !=1)=false:=by simp
  rw [e,zK];simp only [Int.toNat_zero,List.getElem?_cons_zero,Option.bind_some];have hv:∀x,wC.v0 κ x=wC.v0 0 x:=fun x=>rfl
  rw [hv];have:wC.v0 0 ((b.toNat:Nat):Int)=some (w5 b):=by
   refine zVj (p:=fun b=>wC.v0 0 ((b.toNat:Nat):Int)=some (w5 b)) ?_ b;decide+kernel
  rw [this];rfl
 |a::b::t=>
  have e:(((((a::b::t).length:Nat)):Int) !=1)=true:=by simp;omega
  rw [e];rfl
end Go.Proofs.YtdoifigogbdodaaGreatDoor.Lex5
namespace Go.Proofs.YtdoifigogbdodaaGreatDoor.Lex5
open Go Go.Lib Ev Ev.Seat
end Go.Proofs.YtdoifigogbdodaaGreatDoor.Lex5
namespace Go.Proofs.YtdoifigogbdodaaGreatDoor.Lex5
open Go Go.Lib Ev Ev.Seat
theorem zcm{i n:Nat}(h:i+n≤2000000):IntKind.wrap IntKind.i64 ((i:Int)+(n:Int))=((i+n:Nat):Int):=by
 rw [q8 _ (by omega) (by omega)];omega
theorem zZt{i:Nat}(h:i+1≤2000000):IntKind.wrap IntKind.i64 ((i:Int)+1)=((i+1:Nat):Int):=zcm (n:=1) h
theorem d0n(n:Nat):decide ((0:Int)≤(n:Int))=true:=by simp
end Go.Proofs.YtdoifigogbdodaaGreatDoor.Lex5
namespace Go.Proofs.YtdoifigogbdodaaGreatDoor.Lex5
open Go Go.Lib Ev Ev.Seat
end Go.Proofs.YtdoifigogbdodaaGreatDoor.Lex5
namespace Go.Proofs.YtdoifigogbdodaaGreatDoor.Lex5
open Go Go.Lib Ev Ev.Seat
end Go.Proofs.YtdoifigogbdodaaGreatDoor.Lex5
namespace Go.Proofs.YtdoifigogbdodaaGreatDoor.Lex5
open Go Go.Lib
end Go.Proofs.YtdoifigogbdodaaGreatDoor.Lex5
namespace Go.Proofs.YtdoifigogbdodaaGreatDoor.Lex5
open Go Go.Lib Ev Ev.Seat
end Go.Proofs.YtdoifigogbdodaaGreatDoor.Lex5
namespace Go.Proofs.YtdoifigogbdodaaGreatDoor.Lex5
open Go Go.Lib Ev Ev.Seat
end Go.Proofs.YtdoifigogbdodaaGreatDoor.Lex5
namespace Go.Proofs.YtdoifigogbdodaaGreatDoor.Lex5
open Go Go.Lib Ev Ev.Seat
end Go.Proofs.YtdoifigogbdodaaGreatDoor.Lex5
namespace Go.Proofs.YtdoifigogbdodaaGreatDoor.Lex5
open Go Go.Lib
end Go.Proofs.YtdoifigogbdodaaGreatDoor.Lex5
namespace Go.Proofs.YtdoifigogbdodaaGreatDoor.Lex5
open Go Go.Lib Ev Ev.Seat
end Go.Proofs.YtdoifigogbdodaaGreatDoor.Lex5
namespace Go.Proofs.YtdoifigogbdodaaGreatDoor.Lex5
open Go Go.Lib Ev Ev.Seat
def qa(l:List UInt8):Bool:=l !=[]&&l.all w5
theorem dropWhile_nil{f:UInt8→Bool}:∀{l:List UInt8},l.dropWhile f=[]↔l.all f=true
 |[]=>by simp
 |b::l=>by
  rw [List.dropWhile_cons,List.all_cons];cases f b
  ·simp
  ·simp only [if_true,Bool.true_and];exact dropWhile_nil
theorem zEz(l:List UInt8):(trimS l zBV=[])↔l.all w5=true:=by
 have hf:(fun b=>zBV.contains b)=w5:=funext zX3;unfold trimS trimLeftS trimRightS;rw [hf,dropWhile_nil];constructor
 ·intro h
  rw [List.all_reverse]at h;have h2:l.reverse.all w5=true:=by
   have h3:=List.takeWhile_append_dropWhile (p:=w5) (l:=l.reverse);rw [←h3,List.all_append,Bool.and_eq_true];refine⟨?_,h⟩;rw [List.all_eq_true];intro x hx;exact List.all_eq_true.1 (List.all_takeWhile (l:=l.reverse) (p:=w5)) x hx
  rw [List.all_reverse]at h2;exact h2
 ·intro h
  have h2:l.reverse.dropWhile w5=[]:=dropWhile_nil.2 (by rw [List.all_reverse];exact h);rw [h2];rfl
theorem zUz{κ:Nat}(l:List UInt8)(hl:l.length≤1000000):∀(n k i:Nat),i+n=l.length→n<k→
  qS.l0 κ k ((ByteArray.mk (List.toArray l)),(i:Int))=some (if(l.drop i).all w5=true then .inl ((ByteArray.mk (List.toArray l)))else .inr false):=by
 intro n
 induction n with
 |zero=>
  intro k i hi hk;obtain⟨k,rfl⟩:∃j,k=j+1:=⟨k-1,by omega⟩
  have d:decide ((i:Int)<(l.length:Int))=false:=by simp;omega
  simp only [qS.l0,qS.w0,zNZ,d,zK];rw [List.drop_eq_nil_of_le (by omega),if_pos (by rfl)]
 |succ n ih=>
  intro k i hi hk;obtain⟨k,rfl⟩:∃j,k=j+1:=⟨k-1,by omega⟩
  have d:decide ((i:Int)<(l.length:Int))=true:=by simp;omega
  have hlt:i<l.length:=by omega
  have w1:=zZt (show i+1≤2000000 by omega);have d1:decide ((0:Int)≤((i+1:Nat):Int))=true:=by simp;omega
  have d2:decide (((i+1:Nat):Int)≤(l.length:Int))=true:=by simp;omega
  have d4:decide ((i:Int)≤((i+1:Nat):Int))=true:=by simp;omega
  have hb:(l.drop i).take (i+1-i)=[l[i]]:=by
   rw [show i+1-i=1 by omega,List.drop_eq_getElem_cons hlt];rfl
  have hl1:letter [l[i]]=w5 l[i]:=rfl;simp only [qS.l0,qS.w0,zNZ,d,zH,w1,d1,d2,d0n,d4,Bool.and_self,zZX,Int.toNat_natCast,hb,zcI,Option.bind_some,hl1];rw [List.drop_eq_getElem_cons hlt,List.all_cons];cases w5 l[i]
  ·simp only [Bool.not_false,zH,Bool.false_and,Bool.false_eq_true,if_false]
  ·simp only [Bool.not_true,zK,Bool.true_and]
   exact ih k (i+1) (by omega) (by omega)
theorem zYg{κ:Nat}(l:List UInt8)(hl:l.length≤1000000)(hκ:l.length<κ):qS κ ((ByteArray.mk (List.toArray l)))=some (qa l):=by
 unfold qS;have h:=zUz (κ:=κ) l hl l.length κ 0 (by omega) hκ;have h':qS.l0 κ κ (Prod.mk ((ByteArray.mk (List.toArray l))) (0:Int))=_ :=h;rw [h',List.drop_zero];unfold qa;cases hall:l.all w5
 ·simp
 ·simp only [if_true,Option.bind_some,Bool.and_true]
  have e1:Ev.seq ((ByteArray.mk (List.toArray l))) ((ByteArray.mk (List.toArray [])))=(l==[]):=zZe l [];rw [e1];rfl
end Go.Proofs.YtdoifigogbdodaaGreatDoor.Lex5

namespace Go.Proofs.YtdoifigogbdodaaGreatDoor.Wo
open Go Ev Ev.Seat Go.Lib
abbrev B(l:List UInt8):ByteArray:=ByteArray.mk (List.toArray l)
theorem zH{α:Type}(a b:α):(bif true then a else b)=a:=rfl
theorem zK{α:Type}(a b:α):(bif false then a else b)=b:=rfl
def ints(l:List UInt8):List Int:=l.map fun b=>((b.toNat:Nat):Int)
theorem zKo(l:List UInt8):(B l).data.toList=l:=rfl
theorem wz(s:ByteArray):B s.data.toList=s:=by simp
theorem zy(l:List UInt8):(B l).size=l.length:=Pa15.sized l
theorem yr(a b:List UInt8):seq (B a) (B b)=decide (a=b):=Pa15.zFa a b
theorem zeR{a b:List UInt8}:B a=B b↔a=b:=Pa15.zaM
def zB5:List UInt8:=[48,49,50,51,52,53,54,55,56,57,97,98,99,100,101,102]
def hx(n:Nat):UInt8:=zB5.getD n 0
def zC2:List UInt8→List UInt8
 |[]=>[]
 |c::r=>hx (c.toNat/16)::hx (c.toNat%16)::zC2 r
theorem zC9:∀l:List UInt8,(zC2 l).length=2*l.length
 |[]=>rfl
 |c::r=>by simp only [zC2,List.length_cons,zC9 r];omega
theorem zkq:∀n:Fin 256,decide ((0:Int)≤(Int.fdiv ((n.val:Nat):Int) ((2:Int)^(Min.min (Int.toNat (4:Int)) (IntKind.bits IntKind.u8)))))=true∧
  zB5[Int.toNat (Int.fdiv ((n.val:Nat):Int) ((2:Int)^(Min.min (Int.toNat (4:Int)) (IntKind.bits IntKind.u8))))]? =some (hx (n.val/16)):=by decide+kernel
theorem zlE:∀n:Fin 256,zB5[Int.toNat (IntKind.wrap IntKind.u8 (((BitVec.toNat (HAnd.hAnd (BitVec.ofInt (IntKind.bits IntKind.u8) ((n.val:Nat):Int)) (BitVec.ofInt (IntKind.bits IntKind.u8) (15:Int)))):Nat):Int))]? =some (hx (n.val%16)):=by decide+kernel
theorem zbP(c:UInt8):decide ((0:Int)≤(Int.fdiv ((c.toNat:Nat):Int) ((2:Int)^(Min.min (Int.toNat (4:Int)) (IntKind.bits IntKind.u8)))))=true∧
  zB5[Int.toNat (Int.fdiv ((c.toNat:Nat):Int) ((2:Int)^(Min.min (Int.toNat (4:Int)) (IntKind.bits IntKind.u8))))]? =some (hx (c.toNat/16)):=zkq ⟨c.toNat,c.toNat_lt⟩
theorem zii(c:UInt8):zB5[Int.toNat (IntKind.wrap IntKind.u8 (((BitVec.toNat (HAnd.hAnd (BitVec.ofInt (IntKind.bits IntKind.u8) ((c.toNat:Nat):Int)) (BitVec.ofInt (IntKind.bits IntKind.u8) (15:Int)))):Nat):Int))]? =some (hx (c.toNat%16)):=zlE ⟨c.toNat,c.toNat_lt⟩
theorem zM4(n:Nat)(h:n≤3000000):Nat.ble n (room (0+1))=true:=Nat.ble_eq_true_of_le (by unfold room;omega)
theorem wb2{κ:Nat}(a:UInt8)(acc:List UInt8)(h:acc.length<1000000):ym κ ((a.toNat:Nat):Int) (ints acc)=some (ints (acc++[a])):=by
 unfold ym;rw [zM4 _ (by simp [ints];omega)];simp [ints]
theorem wb3{κ:Nat}(a:UInt8)(acc:List UInt8)(h:acc.length<1000000):qm κ ((a.toNat:Nat):Int) (ints acc)=some (ints (acc++[a])):=wb2 (κ:=κ) a acc h
theorem zZN(l:List UInt8)(i:Nat):(ints l)[i]? =(l[i]?).map fun b=>((b.toNat:Nat):Int):=by simp [ints]
theorem zUn(i:Nat)(h:i<1000000):IntKind.wrap IntKind.i64 (((i:Nat):Int)+1)=((i+1:Nat):Int):=by
 rw [Pa15.q8 _ (by omega) (by omega)];rfl
theorem zdV{κ:Nat}(rec:_)(l:List UInt8)(i:Nat)(acc:List UInt8)(c:UInt8)(hi:l[i]? =some c)(hacc:acc.length<100000)(hl:l.length<100000):
  yu.zfj κ rec (ints l) ((l.length:Nat):Int) ((i:Nat):Int) (ints acc)=rec (.inr (ints l,((l.length:Nat):Int),((i+1:Nat):Int),ints (acc++[hx (c.toNat/16),hx (c.toNat%16)]))):=by
 have hlt:=(List.getElem?_eq_some_iff.1 hi).1;unfold yu.zfj;rw [show decide (((i:Nat):Int)<((l.length:Nat):Int))=true from decide_eq_true (by omega),show decide ((0:Int)≤((i:Nat):Int))=true from decide_eq_true (by omega),Int.toNat_natCast,zZN,hi];simp only [zH,Option.map_some,Option.bind_some];rw [(zbP c).1];simp only [zH];rw [show([48,49,50,51,52,53,54,55,56,57,97,98,99,100,101,102]:List UInt8)=zB5 from rfl,(zbP c).2,zii c];simp only [Option.bind_some];rw [wb2 _ _ (by omega)];simp only [Option.bind_some];rw [wb2 _ _ (by simp;omega),zUn i (by omega)];simp [List.append_assoc]
theorem zch{κ:Nat}(rec:_)(l:List UInt8)(i:Nat)(acc:List UInt8)(c:UInt8)(hi:l[i]? =some c)(hacc:acc.length<100000)(hl:l.length<100000):
  yu.w0 κ rec (ints l) ((l.length:Nat):Int) ((i:Nat):Int) (ints acc)=rec (.inr (ints l,((l.length:Nat):Int),((i+1:Nat):Int),ints (acc++[hx (c.toNat/16),hx (c.toNat%16)]))):=by
 have hlt:=(List.getElem?_eq_some_iff.1 hi).1;unfold yu.w0;rw [show decide (((i:Nat):Int)<((l.length:Nat):Int))=true from decide_eq_true (by omega),show decide ((0:Int)≤((i:Nat):Int))=true from decide_eq_true (by omega),Int.toNat_natCast,zZN,hi];simp only [zH,Option.map_some,Option.bind_some];rw [(zbP c).1];simp only [zH];rw [show([48,49,50,51,52,53,54,55,56,57,97,98,99,100,101,102]:List UInt8)=zB5 from rfl,(zbP c).2,zii c];simp only [Option.bind_some];rw [wb3 _ _ (by omega)];simp only [Option.bind_some];rw [wb2 _ _ (by simp;omega),zUn i (by omega)];simp [List.append_assoc]
theorem zcs{κ:Nat}(rec:_)(l:List UInt8)(c:UInt8)(hi:l[0]? =some c)(hl:l.length<100000):
  yu.w0 κ rec (ints l) ((l.length:Nat):Int) 0 []=rec (.inr (ints l,((l.length:Nat):Int),((1:Nat):Int),ints [hx (c.toNat/16),hx (c.toNat%16)])):=by
 have h:=zch (κ:=κ) rec l 0 [] c hi (by simp) hl;exact h
theorem zX0{κ:Nat}(l:List UInt8)(hl:l.length≤40000):∀(d i K:Nat) (acc:List UInt8),l.length=i+d→d<K→acc.length≤2*i→
  yu.l0 κ K (.inr (ints l,((l.length:Nat):Int),((i:Nat):Int),ints acc))=some (.inr (ints (acc++zC2 (l.drop i))))
 |0,i,K+1,acc,h,_,_ =>by
  simp only [yu.l0];unfold yu.zfj;rw [show decide (((i:Nat):Int)<((l.length:Nat):Int))=false from decide_eq_false (by omega)];simp only [zK];rw [List.drop_eq_nil_of_le (by omega)];simp [zC2]
 |d+1,i,K+1,acc,h,hk,ha=>by
  have hlt:i<l.length:=by omega
  simp only [yu.l0];rw [zdV _ l i acc l[i] (List.getElem?_eq_getElem hlt) (by omega) (by omega),zX0 l hl d (i+1) K _ (by omega) (by omega) (by simp;omega),List.drop_eq_getElem_cons hlt];simp [zC2,List.append_assoc]
theorem zjk{κ:Nat}(l:List UInt8)(h:l.length≤1000000):y2 κ (ints l)=some (B l):=by
 unfold y2;have:Nat.ble (List.length (ints l)) qL=true:=Nat.ble_eq_true_of_le (by simp [ints,qL];omega);rw [this];simp only [decide_true,Bool.and_self,zH];congr 1;exact Pa15.zLA l
theorem zkW{κ:Nat}(l:List UInt8)(hl:l.length≤40000)(hκ:l.length<κ):yu κ (ints l)=some (B (zC2 l)):=by
 unfold yu;have hlen:List.length (ints l)=l.length:=by simp [ints]
 rw [hlen];cases κ with
 |zero=>omega
 |succ κ=>
  simp only [yu.l0];cases l with
  |nil=>rfl
  |cons c r=>
   rw [zcs _ (c::r) c rfl (by omega),zX0 (c::r) hl r.length 1 κ _ (by simp;omega) (by simp at hκ;omega) (by simp)];simp only [Option.bind_some];have:=zjk (κ:=κ+1) ([hx (c.toNat/16),hx (c.toNat%16)]++zC2 ((c::r).drop 1)) (by simp [zC9]at hl⊢;omega);rw [show qM (κ+1) _ =y2 (κ+1) _ from rfl,this];rfl
def gB(n:Int):List UInt8:=decDigits n.toNat
theorem zEk{κ:Nat}{n:Int}(h:0≤n∧n<18446744073709551616):ve κ n=some (B (gB n)):=by
 obtain⟨k,rfl⟩:=Int.eq_ofNat_of_zero_le h.1;exact Va8.zge κ k (by omega)
def y5(w:Int):List UInt8:=gB (IntKind.u64.wrap w)
theorem zdN{κ:Nat}(w:Int):ve κ (IntKind.wrap IntKind.u64 w)=some (B (y5 w)):=zEk (by rw [IntKind.wrap_u64];omega)
def qC(l:List Int):List UInt8:=l.map fun x=>UInt8.ofNat (Int.toNat x)
theorem zA2{l:List Int}(h:∀x∈l,0≤x∧x<256):ints (qC l)=l:=by
 unfold ints qC;rw [List.map_map]
 conv=>rhs;rw [←List.map_id l]
 refine List.map_congr_left fun x hx=> ?_
 obtain⟨h1,h2⟩:=h x hx;simp only [Function.comp,id];rw [show(UInt8.ofNat x.toNat).toNat=x.toNat from by simp;omega];omega
theorem zY3(l:List UInt8):qC (ints l)=l:=by
 unfold ints qC;rw [List.map_map]
 conv=>rhs;rw [←List.map_id l]
 exact List.map_congr_left fun x hx=>by simp [Function.comp]
end Go.Proofs.YtdoifigogbdodaaGreatDoor.Wo

namespace Go.Proofs.YtdoifigogbdodaaGreatDoor.Wo
open Go Ev Ev.Seat Go.Lib
def zk(w:Int):Bool:=decide (1≤w)&&decide (w≤9)
def zCb(w:List zD):List UInt8:=(Pa15.ub w).data.toList
def qT(w:List zD):Bool:=decide (0<w.length)&& !(seq (Pa15.ub w) (B []))
def bm(b:Bool):List UInt8:=bif b then [114,117,110,110,105,110,103]else [99,97,110,100,105,100,97,116,101]
def zEN(b:Bool):List UInt8:=bif b then [98,121,116,101,115]else [116,101,120,116]
theorem zcw{κ:Nat}(s:ByteArray)(hl:s.size≤140737488351232):vj κ s=some (Lex5.qa s.data.toList):=by
 rw [←wz s]at hl⊢;generalize s.data.toList=l at hl⊢;rw [zy]at hl;unfold vj vj.v0 Lex5.qa;have e1:Ev.seq (B l) (B [])=(l==[]):=Ev.zZe l [];rw [e1];by_cases h:l=[]
 ·subst h;rfl
 ·have e2:(l==[])=false:=by simp [h]
  have e3:(l !=[])=true:=by simp [h]
  rw [e2,e3];simp only [Bool.not_false,zH,Bool.true_and];have hd:ByteArray.mk (List.toArray (List.append (97::98::99::100::101::102::103::104::105::106::107::108::109::110::111::112::113::114::115::116::117::118::119::120::121::122::65::66::67::68::69::70::[]) (71::72::73::74::75::76::77::78::79::80::81::82::83::84::85::86::87::88::89::90::48::49::50::51::52::53::54::55::56::57::95::45::46::[])))=B Lex5.zBV:=rfl;rw [hd];unfold wg;have g1:zD6 (B Lex5.zBV)=true:=by unfold zD6;rw [Ev.zWB];decide+kernel
  have g2:Nat.blt (B Lex5.zBV).size 4294967281=true:=by rw [Ev.zNZ];decide+kernel
  have g3:Nat.ble (B l).size qL=true:=by rw [Ev.zNZ];exact Nat.ble_eq_true_of_le (by unfold qL;omega)
  rw [g1,g2,g3];simp only [Bool.and_self,zH,Option.bind_some,Ev.zWB,Ev.zZe];congr 1;cases hall:l.all Lex5.w5
  ·have:¬trimS l Lex5.zBV=[]:=fun hh=>by rw [(Lex5.zEz l).1 hh]at hall;cases hall
   simp [this]
  ·have:=(Lex5.zEz l).2 hall
   simp [this]
structure Fit(zg:List zD)(val:ByteArray)(n fl sz:Int)(y1:List Int):Prop where
 hn:0≤n∧n<18446744073709551616
 pq:0≤fl∧fl<18446744073709551616
 w9:0≤sz∧sz<18446744073709551616
 zPn:val.size≤140737488351232
 zbq:y1.length≤15000
 gE:∀x∈y1,0≤x∧x<256
def vQ:Option (List (List UInt8))→ByteArray×Bool
 |some ws=>(B (Lib.join ws [32]),true)
 |none=>(B [],false)
theorem wT{κ:Nat}(ws:List (List UInt8))(h:(Lib.join ws [32]).length≤140737488355328)(hl:ws.length≤10):vK κ (ws.map B) (B [32])=some (B (Lib.join ws [32])):=by
 have hm:(ws.map B).map (·.data.toList)=ws:=by
  rw [List.map_map]
  conv=>rhs;rw [←List.map_id ws]
  exact List.map_congr_left fun x hx=>rfl
 unfold vK zYY;rw [hm];have h1:Nat.ble (Lib.join ws (B [32]).data.toList).length 140737488355328=true:=Nat.ble_eq_true_of_le h;have h2:Nat.ble (ws.map B).length 1000000=true:=Nat.ble_eq_true_of_le (by rw [List.length_map];omega);rw [h1,h2];rfl
theorem kl:Lib.lens []=0:=rfl
theorem ki(a:List UInt8)(r:List (List UInt8)):Lib.lens (a::r)=a.length+Lib.lens r:=rfl
theorem lc{α:Type}(a:α)(r:List α):(a::r).length=r.length+1:=rfl
theorem l0{α:Type}:([]:List α).length=0:=rfl
theorem rm2:Nat.ble (0+1+(0+1)) (room (15+1))=true:=rfl
theorem rm3:Nat.ble (0+1+(0+1)+(0+1)) (room (15+1))=true:=rfl
theorem rm4:Nat.ble (0+1+(0+1)+(0+1)+(0+1)) (room (15+1))=true:=rfl
theorem rm5:Nat.ble (0+1+(0+1)+(0+1)+(0+1)+(0+1)) (room (15+1))=true:=rfl
theorem yP:∀(ws:List (List UInt8)),(Lib.join ws [32]).length≤Lib.lens ws+ws.length
 |[]=>by simp [Lib.join_nil]
 |x::r=>by rw [Lib.join_length];simp;omega
theorem zn{n:Int}(h:0≤n∧n<18446744073709551616):(gB n).length≤40:=by
 have:=Va8.zjh n.toNat (by omega);rw [Va8.sized]at this;exact this
theorem z8(w:Int):(y5 w).length≤40:=zn (by rw [IntKind.wrap_u64];omega)
theorem zBT(w:List zD):(zCb w).length≤1000:=by
 unfold zCb Pa15.ub;split
 ·decide
 ·split
  ·decide
  ·rename_i h1 h2
   cases hb:w.any Pa15.kf
   ·simp only [zK]
    have:=Pa15.zNM hb;show(Pa15.jr w).length≤1000;omega
   ·simp only [zH];decide
theorem zDZ{s:ByteArray}(h:Pa15.vf s=true):s.data.toList.length≤12:=Pa15.j7 h
theorem uX(l:List Int):(qC l).length=l.length:=by simp [qC]
theorem zPN(b:Bool):(bm b).length≤10:=by cases b<;>decide
theorem zUb(b:Bool):(zEN b).length≤10:=by cases b<;>decide
theorem sh1{κ:Nat}(k zR:Int)(zg:List zD)(val:ByteArray)(n:Int)(run ab:Bool)(port:ByteArray)(fl sz:Int)(y1:List Int)(w:ByteArray):zJb κ w k zR zg val n run ab port fl sz y1=some (w,true,k,zR,zg,val,n,run,ab,port,fl,sz,y1):=rfl
theorem sh2{κ:Nat}(k zR:Int)(zg:List zD)(val:ByteArray)(n:Int)(run ab:Bool)(port:ByteArray)(fl sz:Int)(y1:List Int):qd κ k zR zg val n run ab port fl sz y1=some (B (y5 zR),zk zR,k,zR,zg,val,n,run,ab,port,fl,sz,y1):=by
 unfold qd zk;rw [zdN];simp only [Option.bind_some,ge_iff_le];cases decide (1≤zR)<;>rfl
theorem sh3{κ:Nat}(k zR:Int)(zg:List zD)(val:ByteArray)(n:Int)(run ab:Bool)(port:ByteArray)(fl sz:Int)(y1:List Int):jZ κ k zR zg val n run ab port fl sz y1=some (port,Pa15.vf port,k,zR,zg,val,n,run,ab,port,fl,sz,y1):=by
 unfold jZ;rw [Pa15.ident];rfl
theorem sh4{κ:Nat}(k zR:Int)(zg:List zD)(val:ByteArray)(n:Int)(run ab:Bool)(port:ByteArray)(fl sz:Int)(y1:List Int)(h:0≤n∧n<18446744073709551616):vW κ k zR zg val n run ab port fl sz y1=some (B (gB n),true,k,zR,zg,val,n,run,ab,port,fl,sz,y1):=by
 unfold vW;rw [zEk h];rfl
theorem sh5{κ:Nat}(k zR:Int)(zg:List zD)(val:ByteArray)(n:Int)(run ab:Bool)(port:ByteArray)(fl sz:Int)(y1:List Int)(h:0≤fl∧fl<18446744073709551616):kp κ k zR zg val n run ab port fl sz y1=some (B (gB fl),true,k,zR,zg,val,n,run,ab,port,fl,sz,y1):=by
 unfold kp;rw [zEk h];rfl
theorem sh6{κ:Nat}(k zR:Int)(zg:List zD)(val:ByteArray)(n:Int)(run ab:Bool)(port:ByteArray)(fl sz:Int)(y1:List Int):gI κ (B [99,97,110,100,105,100,97,116,101]) (B [114,117,110,110,105,110,103]) k zR zg val n run ab port fl sz y1=some (B (bm run),true,k,zR,zg,val,n,run,ab,port,fl,sz,y1):=by
 unfold gI bm;cases run<;>rfl
theorem sh7{κ:Nat}(k zR:Int)(zg:List zD)(val:ByteArray)(n:Int)(run ab:Bool)(port:ByteArray)(fl sz:Int)(y1:List Int)(h:0≤n∧n<18446744073709551616):gA κ k zR zg val n run ab port fl sz y1=some (B (gB n),true,k,zR,zg,val,n,run,ab,port,fl,sz,y1):=by
 unfold gA;rw [zEk h];rfl
theorem sh8{κ:Nat}(k zR:Int)(zg:List zD)(val:ByteArray)(n:Int)(run ab:Bool)(port:ByteArray)(fl sz:Int)(y1:List Int)(hκ:10≤κ):jT κ k zR zg val n run ab port fl sz y1=some (B (zCb zg),qT zg,k,zR,zg,val,n,run,ab,port,fl,sz,y1):=by
 unfold jT qT;rw [Pa15.zfl κ hκ];simp only [Option.bind_some,gt_iff_lt];have hw:B (zCb zg)=Pa15.ub zg:=wz _;by_cases h:zg.length=0
 ·rw [h,hw];rfl
 ·rw [show decide ((0:Int)<((List.length zg:Nat):Int))=true from decide_eq_true (by omega),show decide (0<zg.length)=true from decide_eq_true (by omega),hw];rfl
theorem sh9{κ:Nat}(k zR:Int)(zg:List zD)(val:ByteArray)(n:Int)(run ab:Bool)(port:ByteArray)(fl sz:Int)(y1:List Int)(h:0≤sz∧sz<18446744073709551616):ku κ k zR zg val n run ab port fl sz y1=some (B (gB sz),true,k,zR,zg,val,n,run,ab,port,fl,sz,y1):=by
 unfold ku;rw [zEk h];rfl
theorem zmC{κ:Nat}(k zR:Int)(zg:List zD)(val:ByteArray)(n:Int)(run ab:Bool)(port:ByteArray)(fl sz:Int)(y1:List Int)(hκ:40000≤κ)(h:y1.length≤15000)(hb:∀x∈y1,0≤x∧x<256):js κ k zR zg val n run ab port fl sz y1=some (B (zC2 (qC y1)),true,k,zR,zg,val,n,run,ab,port,fl,sz,y1):=by
 unfold js;have he:=zkW (κ:=κ) (qC y1) (by rw [uX];omega) (by rw [uX];omega);rw [zA2 hb]at he;rw [he];rfl
theorem znb{κ:Nat}(k zR:Int)(zg:List zD)(val:ByteArray)(n:Int)(run ab:Bool)(port:ByteArray)(fl sz:Int)(y1:List Int):zBm κ k zR zg val n run ab port fl sz y1=some (B (qC y1),true,k,zR,zg,val,n,run,ab,port,fl,sz,y1):=by
 rfl
theorem znc{κ:Nat}(k zR:Int)(zg:List zD)(val:ByteArray)(n:Int)(run ab:Bool)(port:ByteArray)(fl sz:Int)(y1:List Int):jv κ (B [116,101,120,116]) (B [98,121,116,101,115]) k zR zg val n run ab port fl sz y1=some (B (zEN ab),true,k,zR,zg,val,n,run,ab,port,fl,sz,y1):=by
 unfold jv zEN;cases ab<;>rfl
theorem zgC{κ:Nat}(k zR:Int)(zg:List zD)(val:ByteArray)(n:Int)(run ab:Bool)(port:ByteArray)(fl sz:Int)(y1:List Int)(h:val.size≤140737488351232):kA κ k zR zg val n run ab port fl sz y1=some (val,Lex5.qa val.data.toList,k,zR,zg,val,n,run,ab,port,fl,sz,y1):=by
 unfold kA;rw [zcw _ h];rfl
def zJ(k:Nat)(zR:Int)(zg:List zD)(val:ByteArray)(n:Int)(run ab:Bool)(port:ByteArray)(fl sz:Int)(y1:List Int):Option (List (List UInt8)):=
 match k with
 |0=>bif zk zR then some [y5 zR,[108,111,99,107]]else none
 |1=>bif zk zR then some [y5 zR,[117,110,108,111,99,107]]else none
 |2=>bif zk zR then some [y5 zR,[100,105,115,99,97,114,100]]else none
 |3=>bif zk zR then some [y5 zR,[99,104,101,99,107]]else none
 |4=>bif zk zR then some [y5 zR,[99,111,110,102,105,114,109]]else none
 |5=>bif zk zR then some [y5 zR,[99,97,110,99,101,108]]else none
 |6=>bif zk zR then some [y5 zR,[115,97,118,101]]else none
 |7=>bif zk zR then bif qT zg then bif Lex5.qa val.data.toList then some [y5 zR,[115,101,116],zCb zg,val.data.toList]else none else none else none
 |8=>bif zk zR then bif qT zg then some [y5 zR,[100,101,108],zCb zg]else none else none
 |9=>bif zk zR then some (bif decide (0<n)then [y5 zR,[99,111,109,109,105,116],gB n]else [y5 zR,[99,111,109,109,105,116]])else none
 |10=>bif zk zR then some [y5 zR,[114,111,108,108,98,97,99,107],gB n]else none
 |11=>bif zk zR then some [y5 zR,[112,114,117,110,101],gB n]else none
 |12=>bif zk zR then some [y5 zR,[115,104,111,119],bm run,zEN ab,gB n]else none
 |13=>bif zk zR then some [y5 zR,[108,111,97,100],[116,101,120,116],qC y1]else none
 |14=>bif zk zR then some [y5 zR,[108,111,97,100],[98,121,116,101,115],zC2 (qC y1)]else none
 |15=>bif Pa15.vf port then some [[112,97,99,107,101,116],port.data.toList,gB fl,gB sz]else none
 |16=>some [[116,105,99,107],gB n]
 |17=>bif Pa15.vf port then some [[110,101,120,116],port.data.toList]else none
 |18=>bif Pa15.vf port then some [[100,117,109,112],port.data.toList]else none
 |_ =>none
theorem zYC{κ:Nat}{k:Int}(h:k<0∨18<k):zZ κ k=some (.inl ()):=by
 have e:∀j:Int,0≤j→j≤18→(k==j)=false:=fun j h1 h2=>by simp;omega
 unfold zZ zZ.v0 zZ.v1 zZ.v2 zZ.v3 zZ.v4 zZ.v5;simp only [e 0 (by decide) (by decide),e 1 (by decide) (by decide),e 2 (by decide) (by decide),e 3 (by decide) (by decide),e 4 (by decide) (by decide),e 5 (by decide) (by decide),e 6 (by decide) (by decide),e 7 (by decide) (by decide),e 8 (by decide) (by decide),e 9 (by decide) (by decide),e 10 (by decide) (by decide),e 11 (by decide) (by decide),e 12 (by decide) (by decide),e 13 (by decide) (by decide),e 14 (by decide) (by decide),e 15 (by decide) (by decide),e 16 (by decide) (by decide),e 17 (by decide) (by decide),e 18 (by decide) (by decide),zK,Option.bind_some]
theorem zdM{κ:Nat}:zZ κ 0=some (.inr (.inr (.inr (.inr (.inr (.inr (.inr (.inr (.inr (.inr (.inr (B [108,111,99,107])))))))))))):=by kernel_rfl
theorem zjM{κ:Nat}(hκ:40000≤κ)(zR:Int)(zg:List zD)(val:ByteArray)(n:Int)(run ab:Bool)(port:ByteArray)(fl sz:Int)(y1:List Int)(hF:Fit zg val n fl sz y1):zE κ 0 zR zg val n run ab port fl sz y1=some (vQ (zJ 0 zR zg val n run ab port fl sz y1)):=by
 unfold zE zJ;simp only [zdM,Option.bind_some,zE.v11,zE.v22,vh,sh1,sh2];cases h0:zk zR
 ·simp only [Bool.not_false,Bool.not_true,zH,zK,Option.bind_some];rfl
 simp only [sh1,sh2,Bool.not_true,Bool.not_false,zH,zK,Option.bind_some,List.length_cons,List.length_nil,List.length_append,rm2,rm3,rm4,rm5,List.cons_append,List.nil_append];have:=z8 zR;have hj:=wT (κ:=κ) [y5 zR,[108,111,99,107]] (Nat.le_trans (yP _) (by simp only [kl,ki,lc,l0];omega)) (by simp);simp only [List.map_cons,List.map_nil,wz]at hj;rw [hj];rfl
theorem zfI{κ:Nat}:zZ κ 1=some (.inr (.inr (.inr (.inr (.inr (.inr (.inr (.inr (.inr (.inr (.inr (B [117,110,108,111,99,107])))))))))))):=by kernel_rfl
theorem zib{κ:Nat}(hκ:40000≤κ)(zR:Int)(zg:List zD)(val:ByteArray)(n:Int)(run ab:Bool)(port:ByteArray)(fl sz:Int)(y1:List Int)(hF:Fit zg val n fl sz y1):zE κ 1 zR zg val n run ab port fl sz y1=some (vQ (zJ 1 zR zg val n run ab port fl sz y1)):=by
 unfold zE zJ;simp only [zfI,Option.bind_some,zE.v11,zE.v22,vh,sh1,sh2];cases h0:zk zR
 ·simp only [Bool.not_false,Bool.not_true,zH,zK,Option.bind_some];rfl
 simp only [sh1,sh2,Bool.not_true,Bool.not_false,zH,zK,Option.bind_some,List.length_cons,List.length_nil,List.length_append,rm2,rm3,rm4,rm5,List.cons_append,List.nil_append];have:=z8 zR;have hj:=wT (κ:=κ) [y5 zR,[117,110,108,111,99,107]] (Nat.le_trans (yP _) (by simp only [kl,ki,lc,l0];omega)) (by simp);simp only [List.map_cons,List.map_nil,wz]at hj;rw [hj];rfl
theorem zd2{κ:Nat}:zZ κ 2=some (.inr (.inr (.inr (.inr (.inr (.inr (.inr (.inr (.inr (.inr (.inr (B [100,105,115,99,97,114,100])))))))))))):=by kernel_rfl
theorem zjc{κ:Nat}(hκ:40000≤κ)(zR:Int)(zg:List zD)(val:ByteArray)(n:Int)(run ab:Bool)(port:ByteArray)(fl sz:Int)(y1:List Int)(hF:Fit zg val n fl sz y1):zE κ 2 zR zg val n run ab port fl sz y1=some (vQ (zJ 2 zR zg val n run ab port fl sz y1)):=by
 unfold zE zJ;simp only [zd2,Option.bind_some,zE.v11,zE.v22,vh,sh1,sh2];cases h0:zk zR
 ·simp only [Bool.not_false,Bool.not_true,zH,zK,Option.bind_some];rfl
 simp only [sh1,sh2,Bool.not_true,Bool.not_false,zH,zK,Option.bind_some,List.length_cons,List.length_nil,List.length_append,rm2,rm3,rm4,rm5,List.cons_append,List.nil_append];have:=z8 zR;have hj:=wT (κ:=κ) [y5 zR,[100,105,115,99,97,114,100]] (Nat.le_trans (yP _) (by simp only [kl,ki,lc,l0];omega)) (by simp);simp only [List.map_cons,List.map_nil,wz]at hj;rw [hj];rfl
theorem zdi{κ:Nat}:zZ κ 3=some (.inr (.inr (.inr (.inr (.inr (.inr (.inr (.inr (.inr (.inr (.inr (B [99,104,101,99,107])))))))))))):=by kernel_rfl
theorem zjA{κ:Nat}(hκ:40000≤κ)(zR:Int)(zg:List zD)(val:ByteArray)(n:Int)(run ab:Bool)(port:ByteArray)(fl sz:Int)(y1:List Int)(hF:Fit zg val n fl sz y1):zE κ 3 zR zg val n run ab port fl sz y1=some (vQ (zJ 3 zR zg val n run ab port fl sz y1)):=by
 unfold zE zJ;simp only [zdi,Option.bind_some,zE.v11,zE.v22,vh,sh1,sh2];cases h0:zk zR
 ·simp only [Bool.not_false,Bool.not_true,zH,zK,Option.bind_some];rfl
 simp only [sh1,sh2,Bool.not_true,Bool.not_false,zH,zK,Option.bind_some,List.length_cons,List.length_nil,List.length_append,rm2,rm3,rm4,rm5,List.cons_append,List.nil_append];have:=z8 zR;have hj:=wT (κ:=κ) [y5 zR,[99,104,101,99,107]] (Nat.le_trans (yP _) (by simp only [kl,ki,lc,l0];omega)) (by simp);simp only [List.map_cons,List.map_nil,wz]at hj;rw [hj];rfl
theorem zey{κ:Nat}:zZ κ 4=some (.inr (.inr (.inr (.inr (.inr (.inr (.inr (.inr (.inr (.inr (.inr (B [99,111,110,102,105,114,109])))))))))))):=by kernel_rfl
theorem zh5{κ:Nat}(hκ:40000≤κ)(zR:Int)(zg:List zD)(val:ByteArray)(n:Int)(run ab:Bool)(port:ByteArray)(fl sz:Int)(y1:List Int)(hF:Fit zg val n fl sz y1):zE κ 4 zR zg val n run ab port fl sz y1=some (vQ (zJ 4 zR zg val n run ab port fl sz y1)):=by
 unfold zE zJ;simp only [zey,Option.bind_some,zE.v11,zE.v22,vh,sh1,sh2];cases h0:zk zR
 ·simp only [Bool.not_false,Bool.not_true,zH,zK,Option.bind_some];rfl
 simp only [sh1,sh2,Bool.not_true,Bool.not_false,zH,zK,Option.bind_some,List.length_cons,List.length_nil,List.length_append,rm2,rm3,rm4,rm5,List.cons_append,List.nil_append];have:=z8 zR;have hj:=wT (κ:=κ) [y5 zR,[99,111,110,102,105,114,109]] (Nat.le_trans (yP _) (by simp only [kl,ki,lc,l0];omega)) (by simp);simp only [List.map_cons,List.map_nil,wz]at hj;rw [hj];rfl
theorem zdo{κ:Nat}:zZ κ 5=some (.inr (.inr (.inr (.inr (.inr (.inr (.inr (.inr (.inr (.inr (.inr (B [99,97,110,99,101,108])))))))))))):=by kernel_rfl
theorem zjX{κ:Nat}(hκ:40000≤κ)(zR:Int)(zg:List zD)(val:ByteArray)(n:Int)(run ab:Bool)(port:ByteArray)(fl sz:Int)(y1:List Int)(hF:Fit zg val n fl sz y1):zE κ 5 zR zg val n run ab port fl sz y1=some (vQ (zJ 5 zR zg val n run ab port fl sz y1)):=by
 unfold zE zJ;simp only [zdo,Option.bind_some,zE.v11,zE.v22,vh,sh1,sh2];cases h0:zk zR
 ·simp only [Bool.not_false,Bool.not_true,zH,zK,Option.bind_some];rfl
 simp only [sh1,sh2,Bool.not_true,Bool.not_false,zH,zK,Option.bind_some,List.length_cons,List.length_nil,List.length_append,rm2,rm3,rm4,rm5,List.cons_append,List.nil_append];have:=z8 zR;have hj:=wT (κ:=κ) [y5 zR,[99,97,110,99,101,108]] (Nat.le_trans (yP _) (by simp only [kl,ki,lc,l0];omega)) (by simp);simp only [List.map_cons,List.map_nil,wz]at hj;rw [hj];rfl
theorem zeL{κ:Nat}:zZ κ 6=some (.inr (.inr (.inr (.inr (.inr (.inr (.inr (.inr (.inr (.inr (.inr (B [115,97,118,101])))))))))))):=by kernel_rfl
theorem ziX{κ:Nat}(hκ:40000≤κ)(zR:Int)(zg:List zD)(val:ByteArray)(n:Int)(run ab:Bool)(port:ByteArray)(fl sz:Int)(y1:List Int)(hF:Fit zg val n fl sz y1):zE κ 6 zR zg val n run ab port fl sz y1=some (vQ (zJ 6 zR zg val n run ab port fl sz y1)):=by
 unfold zE zJ;simp only [zeL,Option.bind_some,zE.v11,zE.v22,vh,sh1,sh2];cases h0:zk zR
 ·simp only [Bool.not_false,Bool.not_true,zH,zK,Option.bind_some];rfl
 simp only [sh1,sh2,Bool.not_true,Bool.not_false,zH,zK,Option.bind_some,List.length_cons,List.length_nil,List.length_append,rm2,rm3,rm4,rm5,List.cons_append,List.nil_append];have:=z8 zR;have hj:=wT (κ:=κ) [y5 zR,[115,97,118,101]] (Nat.le_trans (yP _) (by simp only [kl,ki,lc,l0];omega)) (by simp);simp only [List.map_cons,List.map_nil,wz]at hj;rw [hj];rfl
theorem zda{κ:Nat}:zZ κ 7=some (.inr (.inr (.inr (.inr (.inr (.inr (.inr (.inr (.inr (.inr (.inl (B [115,101,116])))))))))))):=by kernel_rfl
theorem ziR{κ:Nat}(hκ:40000≤κ)(zR:Int)(zg:List zD)(val:ByteArray)(n:Int)(run ab:Bool)(port:ByteArray)(fl sz:Int)(y1:List Int)(hF:Fit zg val n fl sz y1):zE κ 7 zR zg val n run ab port fl sz y1=some (vQ (zJ 7 zR zg val n run ab port fl sz y1)):=by
 unfold zE zJ;simp only [zda,Option.bind_some,zE.v10,zE.v21,zE.v32,zE.v41,vh,sh1,sh2,sh8 (hκ:=Nat.le_trans (by decide:10≤40000) hκ),zgC (h:=hF.zPn)];cases h0:zk zR
 ·simp only [Bool.not_false,Bool.not_true,zH,zK,Option.bind_some];rfl
 simp only [sh1,sh2,sh8 (hκ:=Nat.le_trans (by decide:10≤40000) hκ),zgC (h:=hF.zPn),Bool.not_true,Bool.not_false,zH,zK,Option.bind_some,List.length_cons,List.length_nil,List.length_append,rm2,rm3,rm4,rm5,List.cons_append,List.nil_append];cases h1:qT zg
 ·simp only [Bool.not_false,Bool.not_true,zH,zK,Option.bind_some];rfl
 simp only [sh1,sh2,sh8 (hκ:=Nat.le_trans (by decide:10≤40000) hκ),zgC (h:=hF.zPn),Bool.not_true,Bool.not_false,zH,zK,Option.bind_some,List.length_cons,List.length_nil,List.length_append,rm2,rm3,rm4,rm5,List.cons_append,List.nil_append];cases h2:Lex5.qa val.data.toList
 ·simp only [Bool.not_false,Bool.not_true,zH,zK,Option.bind_some];rfl
 simp only [sh1,sh2,sh8 (hκ:=Nat.le_trans (by decide:10≤40000) hκ),zgC (h:=hF.zPn),Bool.not_true,Bool.not_false,zH,zK,Option.bind_some,List.length_cons,List.length_nil,List.length_append,rm2,rm3,rm4,rm5,List.cons_append,List.nil_append];have:=z8 zR;have:=zBT zg;have:val.data.toList.length≤140737488351232:=hF.zPn;have hj:=wT (κ:=κ) [y5 zR,[115,101,116],zCb zg,val.data.toList] (Nat.le_trans (yP _) (by simp only [kl,ki,lc,l0];omega)) (by simp);simp only [List.map_cons,List.map_nil,wz]at hj;rw [hj];rfl
theorem zfJ{κ:Nat}:zZ κ 8=some (.inr (.inr (.inr (.inr (.inr (.inr (.inr (.inr (.inr (.inl (B [100,101,108]))))))))))):=by kernel_rfl
theorem zhz{κ:Nat}(hκ:40000≤κ)(zR:Int)(zg:List zD)(val:ByteArray)(n:Int)(run ab:Bool)(port:ByteArray)(fl sz:Int)(y1:List Int)(hF:Fit zg val n fl sz y1):zE κ 8 zR zg val n run ab port fl sz y1=some (vQ (zJ 8 zR zg val n run ab port fl sz y1)):=by
 unfold zE zJ;simp only [zfJ,Option.bind_some,zE.v20,zE.v31,zE.v9,vh,sh1,sh2,sh8 (hκ:=Nat.le_trans (by decide:10≤40000) hκ)];cases h0:zk zR
 ·simp only [Bool.not_false,Bool.not_true,zH,zK,Option.bind_some];rfl
 simp only [sh1,sh2,sh8 (hκ:=Nat.le_trans (by decide:10≤40000) hκ),Bool.not_true,Bool.not_false,zH,zK,Option.bind_some,List.length_cons,List.length_nil,List.length_append,rm2,rm3,rm4,rm5,List.cons_append,List.nil_append];cases h1:qT zg
 ·simp only [Bool.not_false,Bool.not_true,zH,zK,Option.bind_some];rfl
 simp only [sh1,sh2,sh8 (hκ:=Nat.le_trans (by decide:10≤40000) hκ),Bool.not_true,Bool.not_false,zH,zK,Option.bind_some,List.length_cons,List.length_nil,List.length_append,rm2,rm3,rm4,rm5,List.cons_append,List.nil_append];have:=z8 zR;have:=zBT zg;have hj:=wT (κ:=κ) [y5 zR,[100,101,108],zCb zg] (Nat.le_trans (yP _) (by simp only [kl,ki,lc,l0];omega)) (by simp);simp only [List.map_cons,List.map_nil,wz]at hj;rw [hj];rfl
theorem ze1{κ:Nat}:zZ κ 9=some (.inr (.inr (.inr (.inr (.inr (.inr (.inr (.inr (.inl (B [99,111,109,109,105,116])))))))))):=by kernel_rfl
theorem zfB{κ:Nat}(hκ:40000≤κ)(zR:Int)(zg:List zD)(val:ByteArray)(n:Int)(run ab:Bool)(port:ByteArray)(fl sz:Int)(y1:List Int)(hF:Fit zg val n fl sz y1):zE κ 9 zR zg val n run ab port fl sz y1=some (vQ (zJ 9 zR zg val n run ab port fl sz y1)):=by
 unfold zE zJ;simp only [ze1,Option.bind_some,zE.v19,zE.v30,zE.v8,vh,sh1,sh2,sh7 (h:=hF.hn)];cases h0:zk zR
 ·simp only [Bool.not_false,Bool.not_true,zH,zK,Option.bind_some];rfl
 simp only [sh1,sh2,sh7 (h:=hF.hn),Bool.not_true,Bool.not_false,zH,zK,Option.bind_some,List.length_cons,List.length_nil,List.length_append,rm2,rm3,rm4,rm5,List.cons_append,List.nil_append];have:=z8 zR;have:=zn hF.hn;by_cases hn:0<n
 ·simp only [gt_iff_lt,hn,decide_true,zH,Option.bind_some,List.length_cons,List.length_nil,List.length_append,rm2,rm3,List.cons_append,List.nil_append]
  have hj:=wT (κ:=κ) [y5 zR,[99,111,109,109,105,116],gB n] (Nat.le_trans (yP _) (by simp only [kl,ki,lc,l0];omega)) (by simp);simp only [List.map_cons,List.map_nil,wz]at hj;rw [hj];rfl
 ·simp only [gt_iff_lt,hn,decide_false,zK,Option.bind_some]
  have hj:=wT (κ:=κ) [y5 zR,[99,111,109,109,105,116]] (Nat.le_trans (yP _) (by simp only [kl,ki,lc,l0];omega)) (by simp);simp only [List.map_cons,List.map_nil,wz]at hj;rw [hj];rfl
theorem zat{κ:Nat}:zZ κ 10=some (.inr (.inr (.inr (.inr (.inr (.inr (.inr (.inl (B [114,111,108,108,98,97,99,107]))))))))):=by kernel_rfl
theorem zdR{κ:Nat}(hκ:40000≤κ)(zR:Int)(zg:List zD)(val:ByteArray)(n:Int)(run ab:Bool)(port:ByteArray)(fl sz:Int)(y1:List Int)(hF:Fit zg val n fl sz y1):zE κ 10 zR zg val n run ab port fl sz y1=some (vQ (zJ 10 zR zg val n run ab port fl sz y1)):=by
 unfold zE zJ;simp only [zat,Option.bind_some,zE.v18,zE.v29,zE.v7,vh,sh1,sh2,sh4 (h:=hF.hn)];cases h0:zk zR
 ·simp only [Bool.not_false,Bool.not_true,zH,zK,Option.bind_some];rfl
 simp only [sh1,sh2,sh4 (h:=hF.hn),Bool.not_true,Bool.not_false,zH,zK,Option.bind_some,List.length_cons,List.length_nil,List.length_append,rm2,rm3,rm4,rm5,List.cons_append,List.nil_append];have:=z8 zR;have:=zn hF.hn;have hj:=wT (κ:=κ) [y5 zR,[114,111,108,108,98,97,99,107],gB n] (Nat.le_trans (yP _) (by simp only [kl,ki,lc,l0];omega)) (by simp);simp only [List.map_cons,List.map_nil,wz]at hj;rw [hj];rfl
theorem zaj{κ:Nat}:zZ κ 11=some (.inr (.inr (.inr (.inr (.inr (.inr (.inr (.inl (B [112,114,117,110,101]))))))))):=by kernel_rfl
theorem ze5{κ:Nat}(hκ:40000≤κ)(zR:Int)(zg:List zD)(val:ByteArray)(n:Int)(run ab:Bool)(port:ByteArray)(fl sz:Int)(y1:List Int)(hF:Fit zg val n fl sz y1):zE κ 11 zR zg val n run ab port fl sz y1=some (vQ (zJ 11 zR zg val n run ab port fl sz y1)):=by
 unfold zE zJ;simp only [zaj,Option.bind_some,zE.v18,zE.v29,zE.v7,vh,sh1,sh2,sh4 (h:=hF.hn)];cases h0:zk zR
 ·simp only [Bool.not_false,Bool.not_true,zH,zK,Option.bind_some];rfl
 simp only [sh1,sh2,sh4 (h:=hF.hn),Bool.not_true,Bool.not_false,zH,zK,Option.bind_some,List.length_cons,List.length_nil,List.length_append,rm2,rm3,rm4,rm5,List.cons_append,List.nil_append];have:=z8 zR;have:=zn hF.hn;have hj:=wT (κ:=κ) [y5 zR,[112,114,117,110,101],gB n] (Nat.le_trans (yP _) (by simp only [kl,ki,lc,l0];omega)) (by simp);simp only [List.map_cons,List.map_nil,wz]at hj;rw [hj];rfl
theorem zau{κ:Nat}:zZ κ 12=some (.inr (.inr (.inr (.inr (.inr (.inr (.inl (B [115,104,111,119],B [99,97,110,100,105,100,97,116,101],B [114,117,110,110,105,110,103],B [116,101,120,116],B [98,121,116,101,115])))))))):=by kernel_rfl
theorem zdF{κ:Nat}(hκ:40000≤κ)(zR:Int)(zg:List zD)(val:ByteArray)(n:Int)(run ab:Bool)(port:ByteArray)(fl sz:Int)(y1:List Int)(hF:Fit zg val n fl sz y1):zE κ 12 zR zg val n run ab port fl sz y1=some (vQ (zJ 12 zR zg val n run ab port fl sz y1)):=by
 unfold zE zJ;simp only [zau,Option.bind_some,zE.v17,zE.v28,zE.v37,zE.v45,zE.v6,zXm,sh1,sh2,sh6,znc,sh4 (h:=hF.hn)];cases h0:zk zR
 ·simp only [Bool.not_false,Bool.not_true,zH,zK,Option.bind_some];rfl
 simp only [sh1,sh2,sh6,znc,sh4 (h:=hF.hn),Bool.not_true,Bool.not_false,zH,zK,Option.bind_some,List.length_cons,List.length_nil,List.length_append,rm2,rm3,rm4,rm5,List.cons_append,List.nil_append];have:=z8 zR;have:=zPN run;have:=zUb ab;have:=zn hF.hn;have hj:=wT (κ:=κ) [y5 zR,[115,104,111,119],bm run,zEN ab,gB n] (Nat.le_trans (yP _) (by simp only [kl,ki,lc,l0];omega)) (by simp);simp only [List.map_cons,List.map_nil,wz]at hj;rw [hj];rfl
theorem zbD{κ:Nat}:zZ κ 13=some (.inr (.inr (.inr (.inr (.inr (.inl (B [108,111,97,100],B [116,101,120,116]))))))):=by kernel_rfl
theorem zfA{κ:Nat}(hκ:40000≤κ)(zR:Int)(zg:List zD)(val:ByteArray)(n:Int)(run ab:Bool)(port:ByteArray)(fl sz:Int)(y1:List Int)(hF:Fit zg val n fl sz y1):zE κ 13 zR zg val n run ab port fl sz y1=some (vQ (zJ 13 zR zg val n run ab port fl sz y1)):=by
 unfold zE zJ;simp only [zbD,Option.bind_some,zE.v16,zE.v27,zE.v36,zE.v5,zQl,sh1,sh2,znb];cases h0:zk zR
 ·simp only [Bool.not_false,Bool.not_true,zH,zK,Option.bind_some];rfl
 simp only [sh1,sh2,znb,Bool.not_true,Bool.not_false,zH,zK,Option.bind_some,List.length_cons,List.length_nil,List.length_append,rm2,rm3,rm4,rm5,List.cons_append,List.nil_append];have:=z8 zR;have:=uX y1;have:=hF.zbq;have hj:=wT (κ:=κ) [y5 zR,[108,111,97,100],[116,101,120,116],qC y1] (Nat.le_trans (yP _) (by simp only [kl,ki,lc,l0];omega)) (by simp);simp only [List.map_cons,List.map_nil,wz,qC]at hj⊢;rw [hj];rfl
theorem za4{κ:Nat}:zZ κ 14=some (.inr (.inr (.inr (.inr (.inl (B [108,111,97,100],B [98,121,116,101,115])))))):=by kernel_rfl
theorem zfD{κ:Nat}(hκ:40000≤κ)(zR:Int)(zg:List zD)(val:ByteArray)(n:Int)(run ab:Bool)(port:ByteArray)(fl sz:Int)(y1:List Int)(hF:Fit zg val n fl sz y1):zE κ 14 zR zg val n run ab port fl sz y1=some (vQ (zJ 14 zR zg val n run ab port fl sz y1)):=by
 unfold zE zJ;simp only [za4,Option.bind_some,zE.v15,zE.v26,zE.v35,zE.v4,zQl,sh1,sh2,zmC (hκ:=hκ) (h:=hF.zbq) (hb:=hF.gE)];cases h0:zk zR
 ·simp only [Bool.not_false,Bool.not_true,zH,zK,Option.bind_some];rfl
 simp only [sh1,sh2,zmC (hκ:=hκ) (h:=hF.zbq) (hb:=hF.gE),Bool.not_true,Bool.not_false,zH,zK,Option.bind_some,List.length_cons,List.length_nil,List.length_append,rm2,rm3,rm4,rm5,List.cons_append,List.nil_append];have:=z8 zR;have:=zC9 (qC y1);have:=hF.zbq;have:=uX y1;have hj:=wT (κ:=κ) [y5 zR,[108,111,97,100],[98,121,116,101,115],zC2 (qC y1)] (Nat.le_trans (yP _) (by simp only [kl,ki,lc,l0];omega)) (by simp);simp only [List.map_cons,List.map_nil,wz]at hj;rw [hj];rfl
theorem zbH{κ:Nat}:zZ κ 15=some (.inr (.inr (.inr (.inl (B [112,97,99,107,101,116]))))):=by kernel_rfl
theorem ze8{κ:Nat}(hκ:40000≤κ)(zR:Int)(zg:List zD)(val:ByteArray)(n:Int)(run ab:Bool)(port:ByteArray)(fl sz:Int)(y1:List Int)(hF:Fit zg val n fl sz y1):zE κ 15 zR zg val n run ab port fl sz y1=some (vQ (zJ 15 zR zg val n run ab port fl sz y1)):=by
 unfold zE zJ;simp only [zbH,Option.bind_some,zE.v14,zE.v25,zE.v34,vh,sh1,sh3,sh5 (h:=hF.pq),sh9 (h:=hF.w9)];cases h0:Pa15.vf port
 ·simp only [Bool.not_false,Bool.not_true,zH,zK,Option.bind_some];rfl
 simp only [sh1,sh3,sh5 (h:=hF.pq),sh9 (h:=hF.w9),Bool.not_true,Bool.not_false,zH,zK,Option.bind_some,List.length_cons,List.length_nil,List.length_append,rm2,rm3,rm4,rm5,List.cons_append,List.nil_append];have:=zDZ h0;have:=zn hF.pq;have:=zn hF.w9;have hj:=wT (κ:=κ) [[112,97,99,107,101,116],port.data.toList,gB fl,gB sz] (Nat.le_trans (yP _) (by simp only [kl,ki,lc,l0];omega)) (by simp);simp only [List.map_cons,List.map_nil,wz]at hj;rw [hj];rfl
theorem zan{κ:Nat}:zZ κ 16=some (.inr (.inr (.inl (B [116,105,99,107])))):=by kernel_rfl
theorem zeY{κ:Nat}(hκ:40000≤κ)(zR:Int)(zg:List zD)(val:ByteArray)(n:Int)(run ab:Bool)(port:ByteArray)(fl sz:Int)(y1:List Int)(hF:Fit zg val n fl sz y1):zE κ 16 zR zg val n run ab port fl sz y1=some (vQ (zJ 16 zR zg val n run ab port fl sz y1)):=by
 unfold zE zJ;simp only [zan,Option.bind_some,zE.v13,sh1,sh4 (h:=hF.hn)];simp only [sh1,sh4 (h:=hF.hn),Bool.not_true,Bool.not_false,zH,zK,Option.bind_some,List.length_cons,List.length_nil,List.length_append,rm2,List.cons_append,List.nil_append];have:=zn hF.hn;have hj:=wT (κ:=κ) [[116,105,99,107],gB n] (Nat.le_trans (yP _) (by simp only [kl,ki,lc,l0];omega)) (by simp);simp only [List.map_cons,List.map_nil,wz]at hj;rw [hj];rfl
theorem zbJ{κ:Nat}:zZ κ 17=some (.inr (.inl (B [110,101,120,116]))):=by kernel_rfl
theorem zdK{κ:Nat}(hκ:40000≤κ)(zR:Int)(zg:List zD)(val:ByteArray)(n:Int)(run ab:Bool)(port:ByteArray)(fl sz:Int)(y1:List Int)(hF:Fit zg val n fl sz y1):zE κ 17 zR zg val n run ab port fl sz y1=some (vQ (zJ 17 zR zg val n run ab port fl sz y1)):=by
 unfold zE zJ;simp only [zbJ,Option.bind_some,zE.v12,sh1,sh3];cases h0:Pa15.vf port
 ·simp only [Bool.not_false,Bool.not_true,zH,zK,Option.bind_some];rfl
 simp only [sh1,sh3,Bool.not_true,Bool.not_false,zH,zK,Option.bind_some,List.length_cons,List.length_nil,List.length_append,rm2,rm3,rm4,rm5,List.cons_append,List.nil_append];have:=zDZ h0;have hj:=wT (κ:=κ) [[110,101,120,116],port.data.toList] (Nat.le_trans (yP _) (by simp only [kl,ki,lc,l0];omega)) (by simp);simp only [List.map_cons,List.map_nil,wz]at hj;rw [hj];rfl
theorem zbK{κ:Nat}:zZ κ 18=some (.inr (.inl (B [100,117,109,112]))):=by kernel_rfl
theorem zeZ{κ:Nat}(hκ:40000≤κ)(zR:Int)(zg:List zD)(val:ByteArray)(n:Int)(run ab:Bool)(port:ByteArray)(fl sz:Int)(y1:List Int)(hF:Fit zg val n fl sz y1):zE κ 18 zR zg val n run ab port fl sz y1=some (vQ (zJ 18 zR zg val n run ab port fl sz y1)):=by
 unfold zE zJ;simp only [zbK,Option.bind_some,zE.v12,sh1,sh3];cases h0:Pa15.vf port
 ·simp only [Bool.not_false,Bool.not_true,zH,zK,Option.bind_some];rfl
 simp only [sh1,sh3,Bool.not_true,Bool.not_false,zH,zK,Option.bind_some,List.length_cons,List.length_nil,List.length_append,rm2,rm3,rm4,rm5,List.cons_append,List.nil_append];have:=zDZ h0;have hj:=wT (κ:=κ) [[100,117,109,112],port.data.toList] (Nat.le_trans (yP _) (by simp only [kl,ki,lc,l0];omega)) (by simp);simp only [List.map_cons,List.map_nil,wz]at hj;rw [hj];rfl
theorem zaa{κ:Nat}{k:Int}(h:k<0∨18<k)(zR:Int)(zg:List zD)(val:ByteArray)(n:Int)(run ab:Bool)(port:ByteArray)(fl sz:Int)(y1:List Int):zE κ k zR zg val n run ab port fl sz y1=some (B [],false):=by
 unfold zE;rw [zYC h];rfl
end Go.Proofs.YtdoifigogbdodaaGreatDoor.Wo

namespace Go.Proofs.YtdoifigogbdodaaGreatDoor.Wo
open Go Ev Ev.Seat Go.Lib
def zX:List UInt8→List UInt8×List UInt8×Bool
 |[]=>([],[],false)
 |c::r=>if c=32 then([],r,true)else(c::(zX r).1,(zX r).2.1,(zX r).2.2)
theorem zas:∀l:List UInt8,Lib.indexByte l 32=if(zX l).2.2=true then(((zX l).1.length:Nat):Int)else-1
 |[]=>rfl
 |c::r=>by
  have ih:=zas r;unfold Lib.indexByte zX;by_cases h:c=32
  ·subst h;rfl
  ·have hb:(c==32)=false:=by simp [h]
   rw [hb,if_neg h,ih];by_cases hm:(zX r).2.2=true
   ·simp only [hm,if_true]
    have h1:((((zX r).1.length:Nat):Int)== -1)=false:=by simp
    rw [h1];simp
   ·simp only [if_neg hm]
    rfl
theorem zFq:∀l:List UInt8,if(zX l).2.2=true then l.take (zX l).1.length=(zX l).1∧l.drop ((zX l).1.length+1)=(zX l).2.1∧(zX l).1.length+(zX l).2.1.length+1=l.length else(zX l).1=l∧(zX l).2.1=[]
 |[]=>by simp [zX]
 |c::r=>by
  have ih:=zFq r;unfold zX;by_cases h:c=32
  ·subst h;simp
  ·rw [if_neg h]
   by_cases hm:(zX r).2.2=true
   ·simp only [hm,if_true]at ih⊢
    obtain⟨h1,h2,h3⟩:=ih;refine⟨?_, ?_, ?_⟩
    ·rw [List.length_cons,List.take_succ_cons,h1]
    ·rw [List.length_cons,List.drop_succ_cons,h2]
    ·simp only [List.length_cons];omega
   ·simp only [if_neg hm]at ih⊢
    rw [ih.1];exact⟨rfl,ih.2⟩
theorem zU(l:List UInt8):(zX l).1.length≤l.length∧(zX l).2.1.length≤l.length:=by
 have h:=zFq l;split at h
 ·omega
 ·rw [h.1,h.2];simp
theorem zV:∀{a:List UInt8} (b:List UInt8),(32:UInt8)∉a→zX (a++32::b)=(a,b,true)
 |[],b,_ =>by simp [zX]
 |c::r,b,h=>by
  simp only [List.mem_cons,not_or]at h;rw [List.cons_append];unfold zX;rw [if_neg (fun e=>h.1 e.symm),zV b h.2]
theorem wA:∀{a:List UInt8},(32:UInt8)∉a→zX a=(a,[],false)
 |[],_ =>rfl
 |c::r,h=>by
  simp only [List.mem_cons,not_or]at h;unfold zX;rw [if_neg (fun e=>h.1 e.symm),wA h.2]
theorem yc{κ:Nat}(l:List UInt8)(hl:l.length≤140737488355328):strings_Cut κ (B l) (B [32])=some (B (zX l).1,B (zX l).2.1,(zX l).2.2):=by
 unfold strings_Cut wL;rw [show zLy κ (B l) (B [32])=some (Lib.indexByte l 32)from rfl,zas];simp only [Option.bind_some];have hp:=zFq l;cases hm:(zX l).2.2
 ·rw [hm]at hp
  simp only [Bool.false_eq_true,if_false]at hp⊢;rw [show decide ((-1:Int)≥0)=false from rfl];simp only [zK,Option.bind_some];rw [hp.1,hp.2]
 ·rw [hm]at hp
  simp only [if_true]at hp⊢;obtain⟨h1,h2,h3⟩:=hp;have hs:(B l).size=l.length:=zy l;have hw:IntKind.wrap IntKind.i64 ((((zX l).1.length:Nat):Int)+(((B [32]).size:Nat):Int))=(((zX l).1.length+1:Nat):Int):=by
   rw [show(B [32]).size=1 from rfl,Pa15.q8 _ (by omega) (by omega)];rfl
  rw [hw,hs];simp only [show decide ((((zX l).1.length:Nat):Int)≥0)=true from decide_eq_true (by omega),show decide ((0:Int)≤(((zX l).1.length:Nat):Int))=true from decide_eq_true (by omega),show decide ((((zX l).1.length:Nat):Int)≤((l.length:Nat):Int))=true from decide_eq_true (by omega),show decide ((0:Int)≤(0:Int))=true from rfl,show decide (((l.length:Nat):Int)≤((l.length:Nat):Int))=true from decide_eq_true (by omega),show decide ((0:Int)≤(((zX l).1.length+1:Nat):Int))=true from decide_eq_true (by omega),show decide ((((zX l).1.length+1:Nat):Int)≤((l.length:Nat):Int))=true from decide_eq_true (by omega),Bool.and_self,zH,Option.bind_some,Int.toNat_natCast];rw [show B l=(⟨l.toArray⟩:ByteArray)from rfl,Pa15.pc,Pa15.pc];simp only [Int.toNat_zero,List.drop_zero,Nat.sub_zero];rw [h1,h2,List.take_of_length_le (by omega)]
theorem zl4{κ:Nat}{c:UInt8}{l:List UInt8}(h:l.head? ≠some c):strings_CutPrefix κ (B l) (B [c])=some (B l,false):=by
 unfold strings_CutPrefix y9;rw [show zu κ (B l) (B [c])=some (decide (l.head? =some c))from Pa15.zkm κ c l,decide_eq_false h];rfl
theorem zSu(κ:Nat){c:Int}(hc:c≠0)(s:ByteArray)(L e a:Int):∃e' a',yz κ c s L e a=some (s,L,e',a')∧e'≠0:=by
 unfold yz yz.v0;by_cases he:e=0
 ·subst he;exact⟨_,_,rfl,hc⟩
 ·have:(e==(0:Int))=false:=by simp [he]
  rw [this];exact⟨_,_,rfl,he⟩
theorem zUm(κ:Nat)(c:UInt8)(m:List UInt8)(L e a:Int):∃m' e' a',qW κ (B [c]) (B m) L e a=some (B m',L,e',a')∧m'.length≤m.length∧(e'=0→e=0∧m'.length<m.length):=by
 by_cases h:m.head? =some c
 ·cases m with
  |nil=>cases h
  |cons d r=>
   have:d=c:=Option.some.inj h;subst this;exact⟨r,e,a,Pa15.zbY κ d r L e a,by simp,fun h=>⟨h,by simp⟩⟩
 ·unfold qW
  rw [zl4 h];obtain⟨e',a',h1,h2⟩:=zSu κ (c:=21) (by decide) (B m) L e a;simp only [Option.bind_some,Bool.not_false,zH,h1];exact⟨m,e',a',rfl,Nat.le_refl _,fun h=>absurd h h2⟩
theorem zZI(κ:Nat)(m:List UInt8)(hm:m.length≤1000000)(L e a:Int):∃x m' e' a',yq κ (B m) L e a=some (x,B m',L,e',a')∧m'.length≤m.length∧(e'=0→e=0):=by
 rw [Pa15.zXe];have hd:(trimLeftS (B m).data.toList Pa15.oks).length≤m.length:=by
  show(List.dropWhile _ m).length≤_;have:=congrArg List.length (List.takeWhile_append_dropWhile (p:=(Pa15.oks.contains ·)) (l:=m));rw [List.length_append]at this;omega
 generalize trimLeftS (B m).data.toList Pa15.oks=r at hd;have hk:IntKind.wrap .i64 ((((B m).size:Nat):Int)-(((Pa15.bs r).size:Nat):Int))=((m.length-r.length:Nat):Int):=by
  rw [zy,show(Pa15.bs r).size=r.length from Pa15.sized r,Pa15.q8 _ (by omega) (by omega)];omega
 simp only [hk];rw [show decide ((0:Int)≤((m.length-r.length:Nat):Int))=true from decide_eq_true (by omega),show decide (((m.length-r.length:Nat):Int)≤(((B m).size:Nat):Int))=true from decide_eq_true (by rw [zy];omega)];simp only [Int.le_refl,decide_true,Bool.and_self,zH,Pa15.ident,Option.bind_some];unfold yq.v0;cases hb: !Pa15.vf ((B m).extract (Int.toNat 0) (Int.toNat ((m.length-r.length:Nat):Int)))
 ·exact⟨_,r,e,a,rfl,hd,fun h=>h⟩
 ·obtain⟨e',a',h1,h2⟩:=zSu κ (c:=22) (by decide) (B m) L e a
  simp only [zH,h1,Option.bind_some];exact⟨_,r,e',a',rfl,hd,fun h=>absurd h h2⟩
theorem zYV(κ:Nat)(n:Int)(m:List UInt8)(hm:m.length≤1000000)(L e a:Int):∃x k m' e' a',zi κ n (B m) L e a=some (x,k,B m',L,e',a')∧m'.length≤m.length∧(e'=0→e=0∧m'.length<m.length):=by
 unfold zi;have h0:∃b,zi.v0 κ n (B m) L e a (B []) (B [])=some (b,B m,L,e,a,B [],B []):=by
  unfold zi.v0;cases decide (n≥(6:Int))
  ·exact⟨_,rfl⟩
  ·rw [show strings_HasPrefix κ (B m) (ByteArray.mk (List.toArray ((47:UInt8)::[])))=some (decide (m.head? =some 47))from Pa15.zf0 κ 47 m];exact⟨_,rfl⟩
 obtain⟨b,h0⟩:=h0;rw [h0];simp only [Option.bind_some];have h2:∃e1 a1,zi.v2 κ b (B m) L e a (B []) (B [])=some (B m,L,e1,a1,B [],B [])∧(e1=0→e=0):=by
  unfold zi.v2;cases b
  ·exact⟨e,a,rfl,fun h=>h⟩
  ·obtain⟨e',a',h1,h2⟩:=zSu κ (c:=13) (by decide) (B m) L e a
   simp only [zH,h1,Option.bind_some];exact⟨e',a',rfl,fun h=>absurd h h2⟩
 obtain⟨e1,a1,h2,k2⟩:=h2;rw [h2];simp only [Option.bind_some];obtain⟨m3,e3,a3,h3,l3,k3⟩:=zUm κ 47 m L e1 a1;rw [show(ByteArray.mk (List.toArray ((47:UInt8)::[])))=B [47]from rfl,h3];simp only [Option.bind_some];obtain⟨x4,m4,e4,a4,h4,l4,k4⟩:=zZI κ m3 (by omega) L e3 a3;rw [h4];simp only [Option.bind_some];rw [show strings_HasPrefix κ (B m4) (ByteArray.mk (List.toArray ((91:UInt8)::[])))=some (decide (m4.head? =some 91))from Pa15.zf0 κ 91 m4];simp only [Option.bind_some];have h5:∃m5 e5 a5 p q,zi.v4 κ (decide (m4.head? =some 91)) (B m4) L e4 a4 (B []) (B []) x4 (B [])=some (B m5,L,e5,a5,B [],B [],p,q)∧m5.length≤m4.length∧(e5=0→e4=0):=by
  unfold zi.v4;cases decide (m4.head? =some 91)
  ·exact⟨m4,e4,a4,_,_,rfl,Nat.le_refl _,fun h=>h⟩
  ·obtain⟨m6,e6,a6,h6,l6,k6⟩:=zUm κ 91 m4 L e4 a4
   obtain⟨x7,m7,e7,a7,h7,l7,k7⟩:=zZI κ m6 (by omega) L e6 a6;obtain⟨m8,e8,a8,h8,l8,k8⟩:=zUm κ 93 m7 L e7 a7;rw [show(ByteArray.mk (List.toArray ((91:UInt8)::[])))=B [91]from rfl,show(ByteArray.mk (List.toArray ((93:UInt8)::[])))=B [93]from rfl,h6];simp only [zH,Option.bind_some,h7,h8];exact⟨m8,e8,a8,_,_,rfl,by omega,fun h=>(k6 (k7 (k8 h).1)).1⟩
 obtain⟨m5,e5,a5,p,q,h5,l5,k5⟩:=h5;rw [h5];simp only [Option.bind_some];refine⟨_,_,m5,e5,a5,rfl,by omega,fun h=> ?_⟩;have:=k3 (k4 (k5 h));exact⟨k2 this.1,by omega⟩
theorem zkY(n:Nat)(h:n≤2000000):Nat.ble n (room (31+1))=true:=Nat.ble_eq_true_of_le (by unfold room;omega)
theorem zY8(κ:Nat):∀(d:Nat) (m:List UInt8) (L e a:Int) (acc:List zD) (K:Nat),m.length≤d→m.length≤1000000→acc.length+m.length≤1000000→d+2<K→∃r,yF.l2 κ K (B m,L,e,a,acc)=some r
 |d,m,L,e,a,acc,0,_,_,_,h=>by omega
 |d,m,L,e,a,acc,K+1,hd,hm,ha,hK=>by
  simp only [yF.l2];unfold yF.w2 yF.v3;rw [show seq (B m) (ByteArray.mk (List.toArray []))=decide (m=[])from yr m []];by_cases hn:m=[]
  ·rw [decide_eq_true hn];exact⟨_,rfl⟩
  ·rw [decide_eq_false hn]
   simp only [Bool.not_false,zH,Option.bind_some];by_cases he:e=0
   ·subst he
    simp only [beq_self_eq_true,zH];obtain⟨x,k,m',e',a',h1,h2,h3⟩:=zYV κ ((acc.length:Nat):Int) m hm L 0 a;rw [h1];simp only [Option.bind_some];have hlen:0<m.length:=List.length_pos_iff.2 hn;rw [zkY _ (by simp;omega)];simp only [zH];by_cases he':e'=0
    ·have:=(h3 he').2
     cases d with
     |zero=>omega
     |succ d=>exact zY8 κ d m' L e' a' _ K (by omega) (by omega) (by simp;omega) (by omega)
    ·cases K with
     |zero=>omega
     |succ K=>
      simp only [yF.l2];unfold yF.w2 yF.v3;have:(e'==(0:Int))=false:=by simp [he']
      rw [this];cases !(seq (B m') (ByteArray.mk (List.toArray [])))<;>exact⟨_,rfl⟩
   ·have:(e==(0:Int))=false:=by simp [he]
    rw [this];exact⟨_,rfl⟩
theorem zfo(κ:Nat)(m:List UInt8)(hm:m.length≤900000)(hκ:m.length+4<κ):∃r,yF κ (B m)=some r:=by
 unfold yF;cases seq (B m) (ByteArray.mk (List.toArray ((47:UInt8)::[])))
 ·simp only [zK]
  obtain⟨x,k,m',e',a',h1,h2,h3⟩:=zYV κ 0 m (by omega) (((B m).size:Nat):Int) 0 0;rw [h1];simp only [Option.bind_some];obtain⟨r,hr⟩:=zY8 κ m.length m' (((B m).size:Nat):Int) e' a' [zD.mk x k] κ (by omega) (by omega) (by simp;omega) (by omega);rw [hr];simp only [Option.bind_some];cases r.2.2.1 !=(0:Int)<;>exact⟨_,rfl⟩
 ·exact⟨_,rfl⟩
def zRS(κ:Nat)(m:List UInt8):Int×Int×List zD:=(yF κ (B m)).getD (0,0,[])
theorem zkd{κ:Nat}{m:List UInt8}(hm:m.length≤900000)(hκ:m.length+4<κ):yF κ (B m)=some (zRS κ m):=by
 obtain⟨r,hr⟩:=zfo κ m hm hκ;unfold zRS;rw [hr];rfl
theorem zXJ{κ:Nat}(hκ:2000≤κ){w:List zD}(h:qT w=true):zRS κ (zCb w)=(0,0,w):=by
 unfold qT at h;rw [Bool.and_eq_true]at h;have h0:=of_decide_eq_true h.1;have h1:seq (Pa15.ub w) (B [])=false:=by simpa using h.2
 unfold zRS zCb;unfold Pa15.ub at h1⊢;rw [if_neg (by omega)]at h1⊢;by_cases h6:w.length>6
 ·rw [if_pos h6]at h1;simp [seq]at h1
 ·rw [if_neg h6]at h1⊢
  cases hb:w.any Pa15.kf
  ·rw [hb]at h1
   simp only [zK]at h1⊢;rw [show yF κ (B (Pa15.jr w))=some (0,0,w)from Pa15.zdf κ (by omega) w hb (by intro e;rw [e]at h0;simp at h0) (by omega)];rfl
  ·rw [hb]at h1;simp [seq]at h1
end Go.Proofs.YtdoifigogbdodaaGreatDoor.Wo

namespace Go.Proofs.YtdoifigogbdodaaGreatDoor.Wo
open Go Ev Ev.Seat Go.Lib
def nib(c:UInt8):Int:=Lib.indexByte zB5 c
def two(a b:Int):Int:=IntKind.wrap IntKind.u8 (IntKind.wrap IntKind.i64 (((BitVec.toNat (HOr.hOr (BitVec.ofInt (IntKind.bits IntKind.i64) (IntKind.wrap IntKind.i64 (a*((2:Int)^(Min.min (Int.toNat (4:Int)) (IntKind.bits IntKind.i64)))))) (BitVec.ofInt (IntKind.bits IntKind.i64) b))):Nat):Int))
theorem zjo(a b:Int):∃y:UInt8,two a b=((y.toNat:Nat):Int):=by
 unfold two;rw [IntKind.wrap_u8];generalize IntKind.wrap IntKind.i64 _ =z;refine⟨UInt8.ofNat (z%256).toNat, ?_⟩;rw [show(UInt8.ofNat (z%256).toNat).toNat=(z%256).toNat from by simp;omega];omega
theorem zgi:∀n:Fin 256,two (nib (hx (n.val/16))) (nib (hx (n.val%16)))=((n.val:Nat):Int)∧decide (nib (hx (n.val/16))<0)=false∧decide (nib (hx (n.val%16))<0)=false:=by decide+kernel
def unM:List UInt8→Option (List UInt8)
 |[]=>some []
 |[_]=>none
 |a::b::r=>if nib a<0∨nib b<0 then none else(unM r).map fun l=>UInt8.ofNat (two (nib a) (nib b)).toNat::l
theorem za0:∀l:List UInt8,unM (zC2 l)=some l
 |[]=>rfl
 |c::r=>by
  obtain⟨h1,h2,h3⟩:=zgi ⟨c.toNat,c.toNat_lt⟩;unfold zC2 unM;rw [if_neg (by simp only [not_or];exact⟨of_decide_eq_false h2,of_decide_eq_false h3⟩),za0 r,h1];simp
theorem zbG:∀{l d:List UInt8},unM l=some d→d.length≤l.length
 |[],d,h=>by cases h;simp
 |[_],d,h=>by simp [unM]at h
 |a::b::r,d,h=>by
  unfold unM at h;split at h
  ·cases h
  ·obtain⟨x,hx,rfl⟩:=Option.map_eq_some_iff.1 h
   have:=zbG hx;simp;omega
theorem zbR{κ:Nat}(l:List UInt8)(hl:l.length≤900000):∀(d i K:Nat) (acc:List UInt8),l.length=i+2*d→d<K→acc.length≤i→
  ∃b,yX.l4 κ K (B l,((i:Nat):Int),ints acc)=some b∧b=(match unM (l.drop i)with|some r=> .inl (ints (acc++r))|none=> .inr false)
 |0,i,K+1,acc,h,_,_ =>by
  simp only [yX.l4];unfold yX.w4;rw [show decide (((i:Nat):Int)<(((B l).size:Nat):Int))=false from decide_eq_false (by rw [zy];omega)];simp only [zK];rw [List.drop_eq_nil_of_le (by omega)];exact⟨_,rfl,by simp [unM]⟩
 |d+1,i,K+1,acc,h,hk,ha=>by
  have hi:i<l.length:=by omega
  have hi1:i+1<l.length:=by omega
  simp only [yX.l4];unfold yX.w4;rw [show decide (((i:Nat):Int)<(((B l).size:Nat):Int))=true from decide_eq_true (by rw [zy];omega),show decide ((0:Int)≤((i:Nat):Int))=true from decide_eq_true (by omega),zUn i (by omega),show decide ((0:Int)≤((i+1:Nat):Int))=true from decide_eq_true (by omega)];simp only [zH];rw [Int.toNat_natCast,Int.toNat_natCast,List.getElem?_eq_getElem hi,List.getElem?_eq_getElem hi1];simp only [Option.bind_some];have hdrop:l.drop i=l[i]::l[i+1]::l.drop (i+2):=by
   rw [List.drop_eq_getElem_cons hi,List.drop_eq_getElem_cons hi1]
  rw [hdrop];have hn:∀c:UInt8,Lib.indexByte [48,49,50,51,52,53,54,55,56,57,97,98,99,100,101,102] (Nat.toUInt8 (Int.toNat ((c.toNat:Nat):Int)))=nib c:=by
   intro c;have:Nat.toUInt8 (Int.toNat ((c.toNat:Nat):Int))=c:=by simp
   rw [this];rfl
  rw [hn,hn];unfold unM yX.v5;by_cases h1:nib l[i]<0
  ·rw [if_pos (.inl h1),decide_eq_true h1];exact⟨_,rfl,rfl⟩
  ·rw [decide_eq_false h1]
   simp only [zK,Option.bind_some];by_cases h2:nib l[i+1]<0
   ·rw [if_pos (.inr h2),decide_eq_true h2];exact⟨_,rfl,rfl⟩
   ·rw [if_neg (by simp only [not_or];exact⟨h1,h2⟩),decide_eq_false h2]
    simp only [zK];rw [zM4 _ (by simp [ints];omega)];simp only [zH];obtain⟨y,hy⟩:=zjo (nib l[i]) (nib l[i+1]);have hw2:IntKind.wrap IntKind.i64 (((i:Nat):Int)+2)=((i+2:Nat):Int):=by rw [Pa15.q8 _ (by omega) (by omega)];rfl
    have hacc:ints acc++two (nib l[i]) (nib l[i+1])::[]=ints (acc++[y]):=by rw [hy];simp [ints]
    rw [hw2,show ints acc++(IntKind.wrap IntKind.u8 (IntKind.wrap IntKind.i64 (((BitVec.toNat (HOr.hOr (BitVec.ofInt (IntKind.bits IntKind.i64) (IntKind.wrap IntKind.i64 (nib l[i]*((2:Int)^(Min.min (Int.toNat (4:Int)) (IntKind.bits IntKind.i64)))))) (BitVec.ofInt (IntKind.bits IntKind.i64) (nib l[i+1])))):Nat):Int))::[])=ints (acc++[y])from hacc];obtain⟨b,hb,hb2⟩:=zbR l hl d (i+2) K (acc++[y]) (by omega) (by omega) (by simp;omega);refine⟨b,hb, ?_⟩;rw [hb2,hy];cases unM (l.drop (i+2))with
    |none=>rfl
    |some r=>simp [List.append_assoc]
def unR(l:List UInt8):Bool×List Int:=match unM l with|some d=>(true,ints d)|none=>(false,[])
theorem zbg:∀{l:List UInt8},l.length%2=1→unM l=none
 |[],h=>by simp at h
 |[_],_ =>rfl
 |a::b::r,h=>by
  unfold unM;split
  ·rfl
  ·rw [zbg (by simp at h;omega)];rfl
theorem zln{κ:Nat}(l:List UInt8)(hl:l.length≤900000)(hκ:l.length<κ):yX κ (B l)=some (unR l):=by
 unfold yX unR;rw [zy];have hm:Int.tmod ((l.length:Nat):Int) 2=((l.length%2:Nat):Int):=by rw [Int.tmod_eq_emod_of_nonneg (by omega)];omega
 rw [hm];by_cases h:l.length%2=1
 ·rw [h,zbg h];rfl
 ·have h0:l.length%2=0:=by omega
  rw [h0];obtain⟨b,hb,hb2⟩:=zbR (κ:=κ) l hl (l.length/2) 0 κ [] (by omega) (by omega) (by simp);simp only [show decide (((0:Nat):Int)>0)=false from rfl,zK];rw [show yX.l4 κ κ (B l,(0:Int),[])=some b from hb];simp only [Option.bind_some];rw [List.drop_zero]at hb2;cases hu:unM l with
  |none=>rw [hu]at hb2;rw [hb2]
  |some r=>rw [hu]at hb2;rw [hb2];simp
end Go.Proofs.YtdoifigogbdodaaGreatDoor.Wo

namespace Go.Proofs.YtdoifigogbdodaaGreatDoor.Wo
open Go Ev Ev.Seat Go.Lib
theorem nt:(!true)=false:=rfl
theorem nf:(!false)=true:=rfl
inductive Pt
 |w (l:List UInt8)|zR|zg|value|port|raw|digits|n|zm|size|sm|store|form
def uR(l:List UInt8):Int×Bool:=Va8.zH6 (B l)
def zgy(x:Int):Int:=IntKind.wrap IntKind.i64 (if(10:Int)<x then 10 else x)
def wo(κ:Nat)(p:Pt)(l:List UInt8)(c:zM):Bool×zM:=match p with
 | .w x=>(decide (l=x),c)
 | .zR=>((uR l).2,{c with zR:=zgy (uR l).1})
 | .zg=>((zRS κ l).1==0,{c with zg:=(zRS κ l).2.2})
 | .value=>(true,{c with value:=B l})
 | .port=>(true,{c with port:=B l})
 | .raw=>(true,{c with data:=ints l})
 | .digits=>((unR l).1,{c with data:=(unR l).2})
 | .n=>((uR l).2,{c with n:=(uR l).1})
 | .zm=>((uR l).2,{c with zm:=(uR l).1})
 | .size=>((uR l).2,{c with size:=(uR l).1})
 | .sm=>((uR l).2&&decide ((uR l).1>0),{c with n:=(uR l).1})
 | .store=>(decide (l=[114,117,110,110,105,110,103])||decide (l=[99,97,110,100,105,100,97,116,101]),{c with running:=decide (l=[114,117,110,110,105,110,103])})
 | .form=>(decide (l=[98,121,116,101,115])||decide (l=[116,101,120,116]),{c with zO:=decide (l=[98,121,116,101,115])})
def gW:Pt→Bool
 | .w _ =>true
 |_ =>false
def qp(κ:Nat)(cm:Bool):List Pt→List UInt8→zM→Option zM
 |[],_,c=>some c
 |[p],l,c=>bif (wo κ p l c).1 then some (wo κ p l c).2 else none
 |p::q::ps,l,c=>bif (wo κ p (zX l).1 c).1 then
   (bif (zX l).2.2 then qp κ cm (q::ps) (zX l).2.1 (wo κ p (zX l).1 c).2 else bif cm&&gW p&&ps.isEmpty then some (wo κ p (zX l).1 c).2 else none)else none
def zt(k:Int):zM:=⟨k,0,[],B [],0,false,false,B [],0,0,[]⟩
def yk(k:Nat)(c:zM):ByteArray×Bool:=vQ (zJ k c.zR c.zg c.value c.n c.running c.zO c.port c.zm c.size c.data)
def qf(k:Nat):Option zM→Int×Int×(List zD)×ByteArray×Int×Bool×Bool×ByteArray×Int×Int×(List Int)×Bool
 |none=>(0,0,[],B [],0,false,false,B [],0,0,[],false)
 |some c=>(c.kind,c.zR,c.zg,c.value,c.n,c.running,c.zO,c.port,c.zm,c.size,c.data,(yk k c).2&& !(seq (yk k c).1 (B [])))
theorem zeG{κ:Nat}(l:List UInt8)(h:l.length≤140737488351232):jC κ (B l)=some (uR l):=Va8.zgN κ (B l) (by rw [zy];exact h)
theorem qb(l:List UInt8):0≤(uR l).1∧(uR l).1<18446744073709551616:=by
 unfold uR;cases h:Va8.zBN (B l)with
 |none=>rw [Va8.zUg h];exact⟨by decide,by decide⟩
 |some u=>rw [Va8.zI9 h];have:=Va8.zUK h;constructor<;>simp<;>omega
theorem j0(l:List UInt8):(ints l).length=l.length:=by simp [ints]
theorem zUE(l:List UInt8):∀x∈ints l,0≤x∧x<256:=by
 intro x hx;obtain⟨b,_,rfl⟩:=List.mem_map.1 hx;have:=b.toNat_lt;omega
theorem zeA(l:List UInt8):(unR l).2.length≤l.length∧∀x∈(unR l).2,0≤x∧x<256:=by
 unfold unR;cases h:unM l with
 |none=>exact⟨by simp,fun x hx=>by cases hx⟩
 |some d=>exact⟨by rw [j0];exact zbG h,zUE d⟩
theorem kO(a:List UInt8){κ:Nat}(k zR:Int)(zg:List zD)(val:ByteArray)(n:Int)(run ab:Bool)(port:ByteArray)(fl sz:Int)(y1:List Int)(h:a.length≤140737488351232):qg κ (B a) k zR zg val n run ab port fl sz y1=some ((uR a).2,k,zgy (uR a).1,zg,val,n,run,ab,port,fl,sz,y1):=by
 unfold qg;rw [zeG a h];rfl
theorem zWs(a:List UInt8){κ:Nat}(k zR:Int)(zg:List zD)(val:ByteArray)(n:Int)(run ab:Bool)(port:ByteArray)(fl sz:Int)(y1:List Int):zDp κ (B a) k zR zg val n run ab port fl sz y1=some (true,k,zR,zg,val,n,run,ab,B a,fl,sz,y1):=by
 rfl
theorem zfm(a:List UInt8){κ:Nat}(k zR:Int)(zg:List zD)(val:ByteArray)(n:Int)(run ab:Bool)(port:ByteArray)(fl sz:Int)(y1:List Int)(h:a.length≤140737488351232):vY κ (B a) k zR zg val n run ab port fl sz y1=some ((uR a).2,k,zR,zg,val,(uR a).1,run,ab,port,fl,sz,y1):=by
 unfold vY;rw [zeG a h];rfl
theorem zho(a:List UInt8){κ:Nat}(k zR:Int)(zg:List zD)(val:ByteArray)(n:Int)(run ab:Bool)(port:ByteArray)(fl sz:Int)(y1:List Int)(h:a.length≤140737488351232):gP κ (B a) k zR zg val n run ab port fl sz y1=some ((uR a).2,k,zR,zg,val,n,run,ab,port,(uR a).1,sz,y1):=by
 unfold gP;rw [zeG a h];rfl
theorem zhP(a:List UInt8){κ:Nat}(k zR:Int)(zg:List zD)(val:ByteArray)(n:Int)(run ab:Bool)(port:ByteArray)(fl sz:Int)(y1:List Int)(h:a.length≤140737488351232):kz κ (B a) k zR zg val n run ab port fl sz y1=some ((uR a).2,k,zR,zg,val,n,run,ab,port,fl,(uR a).1,y1):=by
 unfold kz;rw [zeG a h];rfl
theorem zmt(a:List UInt8){κ:Nat}(k zR:Int)(zg:List zD)(val:ByteArray)(n:Int)(run ab:Bool)(port:ByteArray)(fl sz:Int)(y1:List Int)(h:a.length≤140737488351232):gH κ (B a) k zR zg val n run ab port fl sz y1=some ((uR a).2&&decide ((uR a).1>0),k,zR,zg,val,(uR a).1,run,ab,port,fl,sz,y1):=by
 unfold gH;rw [zeG a h];simp only [Option.bind_some];cases(uR a).2<;>rfl
theorem zdc(a:List UInt8){κ:Nat}(k zR:Int)(zg:List zD)(val:ByteArray)(n:Int)(run ab:Bool)(port:ByteArray)(fl sz:Int)(y1:List Int)(h:a.length≤900000)(hκ:a.length+4<κ):jY κ (B a) k zR zg val n run ab port fl sz y1=some (((zRS κ a).1==0),k,zR,val,n,run,ab,port,fl,sz,y1,(zRS κ a).2.2):=by
 unfold jY;rw [zkd h hκ];rfl
theorem zcH(a:List UInt8){κ:Nat}(k zR:Int)(zg:List zD)(val:ByteArray)(n:Int)(run ab:Bool)(port:ByteArray)(fl sz:Int)(y1:List Int)(h:a.length≤900000)(hκ:a.length<κ):jt κ (B a) k zR zg val n run ab port fl sz y1=some ((unR a).1,k,zR,zg,val,n,run,ab,port,fl,sz,(unR a).2):=by
 unfold jt;rw [zln a h hκ];rfl
theorem zko(a:List UInt8){κ:Nat}(k zR:Int)(zg:List zD)(val:ByteArray)(n:Int)(run ab:Bool)(port:ByteArray)(fl sz:Int)(y1:List Int)(h:a.length≤900000):j3 κ (B a) k zR zg val n run ab port fl sz y1=some (true,k,zR,zg,val,n,run,ab,port,fl,sz,ints a):=by
 unfold j3;have:Nat.ble (ByteArray.size (B a)) qL=true:=Nat.ble_eq_true_of_le (by rw [zy];unfold qL;omega);rw [this];rfl
theorem zdp(a:List UInt8){κ:Nat}(k zR:Int)(zg:List zD)(val:ByteArray)(n:Int)(run ab:Bool)(port:ByteArray)(fl sz:Int)(y1:List Int):ko κ (B [99,97,110,100,105,100,97,116,101]) (B [114,117,110,110,105,110,103]) (B a) k zR zg val n run ab port fl sz y1=some ((decide (a=[114,117,110,110,105,110,103])||decide (a=[99,97,110,100,105,100,97,116,101])),k,zR,zg,val,n,decide (a=[114,117,110,110,105,110,103]),ab,port,fl,sz,y1):=by
 unfold ko;rw [yr,yr];cases decide (a=[114,117,110,110,105,110,103])<;>rfl
theorem zhd(a:List UInt8){κ:Nat}(k zR:Int)(zg:List zD)(val:ByteArray)(n:Int)(run ab:Bool)(port:ByteArray)(fl sz:Int)(y1:List Int):kF κ (B [116,101,120,116]) (B [98,121,116,101,115]) (B a) k zR zg val n run ab port fl sz y1=some ((decide (a=[98,121,116,101,115])||decide (a=[116,101,120,116])),k,zR,zg,val,n,run,decide (a=[98,121,116,101,115]),port,fl,sz,y1):=by
 unfold kF;rw [yr,yr];cases decide (a=[98,121,116,101,115])<;>rfl
theorem zeT(a:List UInt8){κ:Nat}(k zR:Int)(zg:List zD)(val:ByteArray)(n:Int)(run ab:Bool)(port:ByteArray)(fl sz:Int)(y1:List Int):zCD κ (B a) k zR zg val n run ab port fl sz y1=some (true,k,zR,zg,B a,n,run,ab,port,fl,sz,y1):=by
 rfl
def zd(k:Nat):List Pt:=match k with
 |0=>[.zR,.w [108,111,99,107]]
 |1=>[.zR,.w [117,110,108,111,99,107]]
 |2=>[.zR,.w [100,105,115,99,97,114,100]]
 |3=>[.zR,.w [99,104,101,99,107]]
 |4=>[.zR,.w [99,111,110,102,105,114,109]]
 |5=>[.zR,.w [99,97,110,99,101,108]]
 |6=>[.zR,.w [115,97,118,101]]
 |7=>[.zR,.w [115,101,116],.zg,.value]
 |8=>[.zR,.w [100,101,108],.zg]
 |9=>[.zR,.w [99,111,109,109,105,116],.sm]
 |10=>[.zR,.w [114,111,108,108,98,97,99,107],.n]
 |11=>[.zR,.w [112,114,117,110,101],.n]
 |12=>[.zR,.w [115,104,111,119],.store,.form,.n]
 |13=>[.zR,.w [108,111,97,100],.w [116,101,120,116],.raw]
 |14=>[.zR,.w [108,111,97,100],.w [98,121,116,101,115],.digits]
 |15=>[.w [112,97,99,107,101,116],.port,.zm,.size]
 |16=>[.w [116,105,99,107],.n]
 |17=>[.w [110,101,120,116],.port]
 |18=>[.w [100,117,109,112],.port]
 |_ =>[]
theorem zfU{κ:Nat}(hκ:40000≤κ)(l:List UInt8)(hl:l.length≤15000):zA κ 0 (B l)=some (qf 0 (qp κ false (zd 0) l (zt 0))):=by
 unfold zA zd zt;simp only [zdM,Option.bind_some,qp];have hc0:=yc (κ:=κ) l (by omega);have hl0:=zU l;generalize hg0:zX l=q0 at hc0 hl0⊢;obtain⟨a0,l1,m0⟩:=q0;simp only at hc0 hl0⊢;have hr0:=fun a b c d e f g h i j k=>kO (κ:=κ) a0 a b c d e f g h i j k (by omega)
 simp only [zA.v11,zA.v22,qA,hc0,hr0,Option.bind_some,yr,wo];have hu0:=qb a0;generalize uR a0=u0 at hu0⊢;obtain⟨x0,d0⟩:=u0;simp only at hu0⊢;cases d0
 ·rfl
 try simp only [nt,nf,zH,zK,Option.bind_some]
 cases m0
 ·rfl
 try simp only [nt,nf,zH,zK,Option.bind_some]
 have hc1:=yc (κ:=κ) l1 (by omega);have hl1:=zU l1;generalize hg1:zX l1=q1 at hc1 hl1;simp only [zA.v11,zA.v22,qA,hc1,Option.bind_some,yr,wo];generalize decide (l1=[108,111,99,107])=d1;cases d1
 ·rfl
 try simp only [nt,nf,zH,zK,Option.bind_some]
 rw [zjM hκ _ _ _ _ _ _ _ _ _ _ ⟨⟨by decide,by decide⟩,⟨by decide,by decide⟩,⟨by decide,by decide⟩,(by decide),(by decide),(fun x hx=>by cases hx)⟩];simp only [Option.bind_some,zA.v49,qf,yk];generalize vQ _ =z;obtain⟨zs,zb⟩:=z;cases zb<;>rfl
theorem zc8{κ:Nat}(hκ:40000≤κ)(l:List UInt8)(hl:l.length≤15000):zA κ 1 (B l)=some (qf 1 (qp κ false (zd 1) l (zt 1))):=by
 unfold zA zd zt;simp only [zfI,Option.bind_some,qp];have hc0:=yc (κ:=κ) l (by omega);have hl0:=zU l;generalize hg0:zX l=q0 at hc0 hl0⊢;obtain⟨a0,l1,m0⟩:=q0;simp only at hc0 hl0⊢;have hr0:=fun a b c d e f g h i j k=>kO (κ:=κ) a0 a b c d e f g h i j k (by omega)
 simp only [zA.v11,zA.v22,qA,hc0,hr0,Option.bind_some,yr,wo];have hu0:=qb a0;generalize uR a0=u0 at hu0⊢;obtain⟨x0,d0⟩:=u0;simp only at hu0⊢;cases d0
 ·rfl
 try simp only [nt,nf,zH,zK,Option.bind_some]
 cases m0
 ·rfl
 try simp only [nt,nf,zH,zK,Option.bind_some]
 have hc1:=yc (κ:=κ) l1 (by omega);have hl1:=zU l1;generalize hg1:zX l1=q1 at hc1 hl1;simp only [zA.v11,zA.v22,qA,hc1,Option.bind_some,yr,wo];generalize decide (l1=[117,110,108,111,99,107])=d1;cases d1
 ·rfl
 try simp only [nt,nf,zH,zK,Option.bind_some]
 rw [zib hκ _ _ _ _ _ _ _ _ _ _ ⟨⟨by decide,by decide⟩,⟨by decide,by decide⟩,⟨by decide,by decide⟩,(by decide),(by decide),(fun x hx=>by cases hx)⟩];simp only [Option.bind_some,zA.v49,qf,yk];generalize vQ _ =z;obtain⟨zs,zb⟩:=z;cases zb<;>rfl
theorem zdb{κ:Nat}(hκ:40000≤κ)(l:List UInt8)(hl:l.length≤15000):zA κ 2 (B l)=some (qf 2 (qp κ false (zd 2) l (zt 2))):=by
 unfold zA zd zt;simp only [zd2,Option.bind_some,qp];have hc0:=yc (κ:=κ) l (by omega);have hl0:=zU l;generalize hg0:zX l=q0 at hc0 hl0⊢;obtain⟨a0,l1,m0⟩:=q0;simp only at hc0 hl0⊢;have hr0:=fun a b c d e f g h i j k=>kO (κ:=κ) a0 a b c d e f g h i j k (by omega)
 simp only [zA.v11,zA.v22,qA,hc0,hr0,Option.bind_some,yr,wo];have hu0:=qb a0;generalize uR a0=u0 at hu0⊢;obtain⟨x0,d0⟩:=u0;simp only at hu0⊢;cases d0
 ·rfl
 try simp only [nt,nf,zH,zK,Option.bind_some]
 cases m0
 ·rfl
 try simp only [nt,nf,zH,zK,Option.bind_some]
 have hc1:=yc (κ:=κ) l1 (by omega);have hl1:=zU l1;generalize hg1:zX l1=q1 at hc1 hl1;simp only [zA.v11,zA.v22,qA,hc1,Option.bind_some,yr,wo];generalize decide (l1=[100,105,115,99,97,114,100])=d1;cases d1
 ·rfl
 try simp only [nt,nf,zH,zK,Option.bind_some]
 rw [zjc hκ _ _ _ _ _ _ _ _ _ _ ⟨⟨by decide,by decide⟩,⟨by decide,by decide⟩,⟨by decide,by decide⟩,(by decide),(by decide),(fun x hx=>by cases hx)⟩];simp only [Option.bind_some,zA.v49,qf,yk];generalize vQ _ =z;obtain⟨zs,zb⟩:=z;cases zb<;>rfl
theorem zdG{κ:Nat}(hκ:40000≤κ)(l:List UInt8)(hl:l.length≤15000):zA κ 3 (B l)=some (qf 3 (qp κ false (zd 3) l (zt 3))):=by
 unfold zA zd zt;simp only [zdi,Option.bind_some,qp];have hc0:=yc (κ:=κ) l (by omega);have hl0:=zU l;generalize hg0:zX l=q0 at hc0 hl0⊢;obtain⟨a0,l1,m0⟩:=q0;simp only at hc0 hl0⊢;have hr0:=fun a b c d e f g h i j k=>kO (κ:=κ) a0 a b c d e f g h i j k (by omega)
 simp only [zA.v11,zA.v22,qA,hc0,hr0,Option.bind_some,yr,wo];have hu0:=qb a0;generalize uR a0=u0 at hu0⊢;obtain⟨x0,d0⟩:=u0;simp only at hu0⊢;cases d0
 ·rfl
 try simp only [nt,nf,zH,zK,Option.bind_some]
 cases m0
 ·rfl
 try simp only [nt,nf,zH,zK,Option.bind_some]
 have hc1:=yc (κ:=κ) l1 (by omega);have hl1:=zU l1;generalize hg1:zX l1=q1 at hc1 hl1;simp only [zA.v11,zA.v22,qA,hc1,Option.bind_some,yr,wo];generalize decide (l1=[99,104,101,99,107])=d1;cases d1
 ·rfl
 try simp only [nt,nf,zH,zK,Option.bind_some]
 rw [zjA hκ _ _ _ _ _ _ _ _ _ _ ⟨⟨by decide,by decide⟩,⟨by decide,by decide⟩,⟨by decide,by decide⟩,(by decide),(by decide),(fun x hx=>by cases hx)⟩];simp only [Option.bind_some,zA.v49,qf,yk];generalize vQ _ =z;obtain⟨zs,zb⟩:=z;cases zb<;>rfl
theorem zei{κ:Nat}(hκ:40000≤κ)(l:List UInt8)(hl:l.length≤15000):zA κ 4 (B l)=some (qf 4 (qp κ false (zd 4) l (zt 4))):=by
 unfold zA zd zt;simp only [zey,Option.bind_some,qp];have hc0:=yc (κ:=κ) l (by omega);have hl0:=zU l;generalize hg0:zX l=q0 at hc0 hl0⊢;obtain⟨a0,l1,m0⟩:=q0;simp only at hc0 hl0⊢;have hr0:=fun a b c d e f g h i j k=>kO (κ:=κ) a0 a b c d e f g h i j k (by omega)
 simp only [zA.v11,zA.v22,qA,hc0,hr0,Option.bind_some,yr,wo];have hu0:=qb a0;generalize uR a0=u0 at hu0⊢;obtain⟨x0,d0⟩:=u0;simp only at hu0⊢;cases d0
 ·rfl
 try simp only [nt,nf,zH,zK,Option.bind_some]
 cases m0
 ·rfl
 try simp only [nt,nf,zH,zK,Option.bind_some]
 have hc1:=yc (κ:=κ) l1 (by omega);have hl1:=zU l1;generalize hg1:zX l1=q1 at hc1 hl1;simp only [zA.v11,zA.v22,qA,hc1,Option.bind_some,yr,wo];generalize decide (l1=[99,111,110,102,105,114,109])=d1;cases d1
 ·rfl
 try simp only [nt,nf,zH,zK,Option.bind_some]
 rw [zh5 hκ _ _ _ _ _ _ _ _ _ _ ⟨⟨by decide,by decide⟩,⟨by decide,by decide⟩,⟨by decide,by decide⟩,(by decide),(by decide),(fun x hx=>by cases hx)⟩];simp only [Option.bind_some,zA.v49,qf,yk];generalize vQ _ =z;obtain⟨zs,zb⟩:=z;cases zb<;>rfl
theorem zfG{κ:Nat}(hκ:40000≤κ)(l:List UInt8)(hl:l.length≤15000):zA κ 5 (B l)=some (qf 5 (qp κ false (zd 5) l (zt 5))):=by
 unfold zA zd zt;simp only [zdo,Option.bind_some,qp];have hc0:=yc (κ:=κ) l (by omega);have hl0:=zU l;generalize hg0:zX l=q0 at hc0 hl0⊢;obtain⟨a0,l1,m0⟩:=q0;simp only at hc0 hl0⊢;have hr0:=fun a b c d e f g h i j k=>kO (κ:=κ) a0 a b c d e f g h i j k (by omega)
 simp only [zA.v11,zA.v22,qA,hc0,hr0,Option.bind_some,yr,wo];have hu0:=qb a0;generalize uR a0=u0 at hu0⊢;obtain⟨x0,d0⟩:=u0;simp only at hu0⊢;cases d0
 ·rfl
 try simp only [nt,nf,zH,zK,Option.bind_some]
 cases m0
 ·rfl
 try simp only [nt,nf,zH,zK,Option.bind_some]
 have hc1:=yc (κ:=κ) l1 (by omega);have hl1:=zU l1;generalize hg1:zX l1=q1 at hc1 hl1;simp only [zA.v11,zA.v22,qA,hc1,Option.bind_some,yr,wo];generalize decide (l1=[99,97,110,99,101,108])=d1;cases d1
 ·rfl
 try simp only [nt,nf,zH,zK,Option.bind_some]
 rw [zjX hκ _ _ _ _ _ _ _ _ _ _ ⟨⟨by decide,by decide⟩,⟨by decide,by decide⟩,⟨by decide,by decide⟩,(by decide),(by decide),(fun x hx=>by cases hx)⟩];simp only [Option.bind_some,zA.v49,qf,yk];generalize vQ _ =z;obtain⟨zs,zb⟩:=z;cases zb<;>rfl
theorem zd0{κ:Nat}(hκ:40000≤κ)(l:List UInt8)(hl:l.length≤15000):zA κ 6 (B l)=some (qf 6 (qp κ false (zd 6) l (zt 6))):=by
 unfold zA zd zt;simp only [zeL,Option.bind_some,qp];have hc0:=yc (κ:=κ) l (by omega);have hl0:=zU l;generalize hg0:zX l=q0 at hc0 hl0⊢;obtain⟨a0,l1,m0⟩:=q0;simp only at hc0 hl0⊢;have hr0:=fun a b c d e f g h i j k=>kO (κ:=κ) a0 a b c d e f g h i j k (by omega)
 simp only [zA.v11,zA.v22,qA,hc0,hr0,Option.bind_some,yr,wo];have hu0:=qb a0;generalize uR a0=u0 at hu0⊢;obtain⟨x0,d0⟩:=u0;simp only at hu0⊢;cases d0
 ·rfl
 try simp only [nt,nf,zH,zK,Option.bind_some]
 cases m0
 ·rfl
 try simp only [nt,nf,zH,zK,Option.bind_some]
 have hc1:=yc (κ:=κ) l1 (by omega);have hl1:=zU l1;generalize hg1:zX l1=q1 at hc1 hl1;simp only [zA.v11,zA.v22,qA,hc1,Option.bind_some,yr,wo];generalize decide (l1=[115,97,118,101])=d1;cases d1
 ·rfl
 try simp only [nt,nf,zH,zK,Option.bind_some]
 rw [ziX hκ _ _ _ _ _ _ _ _ _ _ ⟨⟨by decide,by decide⟩,⟨by decide,by decide⟩,⟨by decide,by decide⟩,(by decide),(by decide),(fun x hx=>by cases hx)⟩];simp only [Option.bind_some,zA.v49,qf,yk];generalize vQ _ =z;obtain⟨zs,zb⟩:=z;cases zb<;>rfl
theorem zdY{κ:Nat}(hκ:40000≤κ)(l:List UInt8)(hl:l.length≤140737488355328)(hw0:(zX l).1.length≤15000)(hw2:(zX (zX (zX l).2.1).2.1).1.length≤15000)(hw3:(zX (zX (zX l).2.1).2.1).2.1.length≤140737488351232):zA κ 7 (B l)=some (qf 7 (qp κ false (zd 7) l (zt 7))):=by
 unfold zA zd zt;simp only [zda,Option.bind_some,qp];have hc0:=yc (κ:=κ) l (by omega);have hl0:=zU l;generalize hg0:zX l=q0 at hc0 hl0 hw0 hw2 hw3⊢;obtain⟨a0,l1,m0⟩:=q0;simp only at hc0 hl0 hw0 hw2 hw3⊢;have hr0:=fun a b c d e f g h i j k=>kO (κ:=κ) a0 a b c d e f g h i j k (by omega)
 simp only [zA.v10,zA.v21,zA.v32,zA.v41,qA,hc0,hr0,Option.bind_some,yr,wo];have hu0:=qb a0;generalize uR a0=u0 at hu0⊢;obtain⟨x0,d0⟩:=u0;simp only at hu0⊢;cases d0
 ·rfl
 try simp only [nt,nf,zH,zK,Option.bind_some]
 cases m0
 ·rfl
 try simp only [nt,nf,zH,zK,Option.bind_some]
 have hc1:=yc (κ:=κ) l1 (by omega);have hl1:=zU l1;generalize hg1:zX l1=q1 at hc1 hl1 hw2 hw3⊢;obtain⟨a1,l2,m1⟩:=q1;simp only at hc1 hl1 hw2 hw3⊢;simp only [zA.v10,zA.v21,zA.v32,zA.v41,qA,hc1,Option.bind_some,yr,wo];generalize decide (a1=[115,101,116])=d1;cases d1
 ·rfl
 try simp only [nt,nf,zH,zK,Option.bind_some]
 cases m1
 ·rfl
 try simp only [nt,nf,zH,zK,Option.bind_some]
 have hc2:=yc (κ:=κ) l2 (by omega);have hl2:=zU l2;generalize hg2:zX l2=q2 at hc2 hl2 hw2 hw3⊢;obtain⟨a2,l3,m2⟩:=q2;simp only at hc2 hl2 hw2 hw3⊢;have hr2:=fun a b c d e f g h i j k=>zdc (κ:=κ) a2 a b c d e f g h i j k (by omega) (by omega)
 simp only [zA.v10,zA.v21,zA.v32,zA.v41,qA,hc2,hr2,Option.bind_some,yr,wo];generalize ((zRS κ a2).1==0)=d2;cases d2
 ·rfl
 try simp only [nt,nf,zH,zK,Option.bind_some]
 cases m2
 ·rfl
 try simp only [nt,nf,zH,zK,Option.bind_some]
 have hc3:=yc (κ:=κ) l3 (by omega);have hl3:=zU l3;generalize hg3:zX l3=q3 at hc3 hl3;have hr3:=fun a b c d e f g h i j k=>zeT (κ:=κ) l3 a b c d e f g h i j k
 simp only [zA.v10,zA.v21,zA.v32,zA.v41,qA,hc3,hr3,Option.bind_some,yr,wo]
 try simp only [nt,nf,zH,zK,Option.bind_some]
 rw [ziR hκ _ _ _ _ _ _ _ _ _ _ ⟨⟨by decide,by decide⟩,⟨by decide,by decide⟩,⟨by decide,by decide⟩,(by rw [zy];omega),(by decide),(fun x hx=>by cases hx)⟩];simp only [Option.bind_some,zA.v49,qf,yk];generalize vQ _ =z;obtain⟨zs,zb⟩:=z;cases zb<;>rfl
theorem zfO{κ:Nat}(hκ:40000≤κ)(l:List UInt8)(hl:l.length≤15000):zA κ 8 (B l)=some (qf 8 (qp κ false (zd 8) l (zt 8))):=by
 unfold zA zd zt;simp only [zfJ,Option.bind_some,qp];have hc0:=yc (κ:=κ) l (by omega);have hl0:=zU l;generalize hg0:zX l=q0 at hc0 hl0⊢;obtain⟨a0,l1,m0⟩:=q0;simp only at hc0 hl0⊢;have hr0:=fun a b c d e f g h i j k=>kO (κ:=κ) a0 a b c d e f g h i j k (by omega)
 simp only [zA.v20,zA.v31,zA.v9,qA,hc0,hr0,Option.bind_some,yr,wo];have hu0:=qb a0;generalize uR a0=u0 at hu0⊢;obtain⟨x0,d0⟩:=u0;simp only at hu0⊢;cases d0
 ·rfl
 try simp only [nt,nf,zH,zK,Option.bind_some]
 cases m0
 ·rfl
 try simp only [nt,nf,zH,zK,Option.bind_some]
 have hc1:=yc (κ:=κ) l1 (by omega);have hl1:=zU l1;generalize hg1:zX l1=q1 at hc1 hl1⊢;obtain⟨a1,l2,m1⟩:=q1;simp only at hc1 hl1⊢;simp only [zA.v20,zA.v31,zA.v9,qA,hc1,Option.bind_some,yr,wo];generalize decide (a1=[100,101,108])=d1;cases d1
 ·rfl
 try simp only [nt,nf,zH,zK,Option.bind_some]
 cases m1
 ·rfl
 try simp only [nt,nf,zH,zK,Option.bind_some]
 have hc2:=yc (κ:=κ) l2 (by omega);have hl2:=zU l2;generalize hg2:zX l2=q2 at hc2 hl2;have hr2:=fun a b c d e f g h i j k=>zdc (κ:=κ) l2 a b c d e f g h i j k (by omega) (by omega)
 simp only [zA.v20,zA.v31,zA.v9,qA,hc2,hr2,Option.bind_some,yr,wo];generalize ((zRS κ l2).1==0)=d2;cases d2
 ·rfl
 try simp only [nt,nf,zH,zK,Option.bind_some]
 rw [zhz hκ _ _ _ _ _ _ _ _ _ _ ⟨⟨by decide,by decide⟩,⟨by decide,by decide⟩,⟨by decide,by decide⟩,(by decide),(by decide),(fun x hx=>by cases hx)⟩];simp only [Option.bind_some,zA.v49,qf,yk];generalize vQ _ =z;obtain⟨zs,zb⟩:=z;cases zb<;>rfl
theorem zaP{κ:Nat}(hκ:40000≤κ)(l:List UInt8)(hl:l.length≤15000):zA κ 9 (B l)=some (qf 9 (qp κ true (zd 9) l (zt 9))):=by
 unfold zA zd zt;simp only [ze1,Option.bind_some,qp];have hc0:=yc (κ:=κ) l (by omega);have hl0:=zU l;generalize hg0:zX l=q0 at hc0 hl0⊢;obtain⟨a0,l1,m0⟩:=q0;simp only at hc0 hl0⊢;have hr0:=fun a b c d e f g h i j k=>kO (κ:=κ) a0 a b c d e f g h i j k (by omega)
 simp only [zA.v19,zA.v30,zA.v8,qA,hc0,hr0,Option.bind_some,yr,wo];have hu0:=qb a0;generalize uR a0=u0 at hu0⊢;obtain⟨x0,d0⟩:=u0;simp only at hu0⊢;cases d0
 ·rfl
 try simp only [nt,nf,zH,zK,Option.bind_some]
 cases m0
 ·rfl
 try simp only [nt,nf,zH,zK,Option.bind_some]
 have hc1:=yc (κ:=κ) l1 (by omega);have hl1:=zU l1;generalize hg1:zX l1=q1 at hc1 hl1⊢;obtain⟨a1,l2,m1⟩:=q1;simp only at hc1 hl1⊢;simp only [zA.v19,zA.v30,zA.v8,qA,hc1,Option.bind_some,yr,wo];generalize decide (a1=[99,111,109,109,105,116])=d1;cases d1
 ·rfl
 try simp only [nt,nf,zH,zK,Option.bind_some]
 cases m1
 ·simp only [nt,nf,zH,zK,Option.bind_some,Bool.and_self,gW,List.isEmpty_nil,show((9:Int)==9)=true from rfl]
  rw [zfB hκ _ _ _ _ _ _ _ _ _ _ ⟨⟨by decide,by decide⟩,⟨by decide,by decide⟩,⟨by decide,by decide⟩,(by decide),(by decide),(fun x hx=>by cases hx)⟩];simp only [Option.bind_some,zA.v49,qf,yk];generalize vQ _ =z;obtain⟨zs,zb⟩:=z;cases zb<;>rfl
 try simp only [nt,nf,zH,zK,Option.bind_some]
 have hc2:=yc (κ:=κ) l2 (by omega);have hl2:=zU l2;generalize hg2:zX l2=q2 at hc2 hl2;have hr2:=fun a b c d e f g h i j k=>zmt (κ:=κ) l2 a b c d e f g h i j k (by omega)
 simp only [zA.v19,zA.v30,zA.v8,qA,hc2,hr2,Option.bind_some,yr,wo];have hu2:=qb l2;generalize ((uR l2).2&&decide ((uR l2).1>0))=d2;cases d2
 ·rfl
 try simp only [nt,nf,zH,zK,Option.bind_some]
 rw [zfB hκ _ _ _ _ _ _ _ _ _ _ ⟨hu2,⟨by decide,by decide⟩,⟨by decide,by decide⟩,(by decide),(by decide),(fun x hx=>by cases hx)⟩];simp only [Option.bind_some,zA.v49,qf,yk];generalize vQ _ =z;obtain⟨zs,zb⟩:=z;cases zb<;>rfl
theorem zah{κ:Nat}(hκ:40000≤κ)(l:List UInt8)(hl:l.length≤15000):zA κ 10 (B l)=some (qf 10 (qp κ false (zd 10) l (zt 10))):=by
 unfold zA zd zt;simp only [zat,Option.bind_some,qp];have hc0:=yc (κ:=κ) l (by omega);have hl0:=zU l;generalize hg0:zX l=q0 at hc0 hl0⊢;obtain⟨a0,l1,m0⟩:=q0;simp only at hc0 hl0⊢;have hr0:=fun a b c d e f g h i j k=>kO (κ:=κ) a0 a b c d e f g h i j k (by omega)
 simp only [zA.v18,zA.v29,zA.v7,qA,hc0,hr0,Option.bind_some,yr,wo];have hu0:=qb a0;generalize uR a0=u0 at hu0⊢;obtain⟨x0,d0⟩:=u0;simp only at hu0⊢;cases d0
 ·rfl
 try simp only [nt,nf,zH,zK,Option.bind_some]
 cases m0
 ·rfl
 try simp only [nt,nf,zH,zK,Option.bind_some]
 have hc1:=yc (κ:=κ) l1 (by omega);have hl1:=zU l1;generalize hg1:zX l1=q1 at hc1 hl1⊢;obtain⟨a1,l2,m1⟩:=q1;simp only at hc1 hl1⊢;simp only [zA.v18,zA.v29,zA.v7,qA,hc1,Option.bind_some,yr,wo];generalize decide (a1=[114,111,108,108,98,97,99,107])=d1;cases d1
 ·rfl
 try simp only [nt,nf,zH,zK,Option.bind_some]
 cases m1
 ·rfl
 try simp only [nt,nf,zH,zK,Option.bind_some]
 have hc2:=yc (κ:=κ) l2 (by omega);have hl2:=zU l2;generalize hg2:zX l2=q2 at hc2 hl2;have hr2:=fun a b c d e f g h i j k=>zfm (κ:=κ) l2 a b c d e f g h i j k (by omega)
 simp only [zA.v18,zA.v29,zA.v7,qA,hc2,hr2,Option.bind_some,yr,wo];have hu2:=qb l2;generalize uR l2=u2 at hu2⊢;obtain⟨x2,d2⟩:=u2;simp only at hu2⊢;cases d2
 ·rfl
 try simp only [nt,nf,zH,zK,Option.bind_some]
 rw [zdR hκ _ _ _ _ _ _ _ _ _ _ ⟨hu2,⟨by decide,by decide⟩,⟨by decide,by decide⟩,(by decide),(by decide),(fun x hx=>by cases hx)⟩];simp only [Option.bind_some,zA.v49,qf,yk];generalize vQ _ =z;obtain⟨zs,zb⟩:=z;cases zb<;>rfl
theorem zbf{κ:Nat}(hκ:40000≤κ)(l:List UInt8)(hl:l.length≤15000):zA κ 11 (B l)=some (qf 11 (qp κ false (zd 11) l (zt 11))):=by
 unfold zA zd zt;simp only [zaj,Option.bind_some,qp];have hc0:=yc (κ:=κ) l (by omega);have hl0:=zU l;generalize hg0:zX l=q0 at hc0 hl0⊢;obtain⟨a0,l1,m0⟩:=q0;simp only at hc0 hl0⊢;have hr0:=fun a b c d e f g h i j k=>kO (κ:=κ) a0 a b c d e f g h i j k (by omega)
 simp only [zA.v18,zA.v29,zA.v7,qA,hc0,hr0,Option.bind_some,yr,wo];have hu0:=qb a0;generalize uR a0=u0 at hu0⊢;obtain⟨x0,d0⟩:=u0;simp only at hu0⊢;cases d0
 ·rfl
 try simp only [nt,nf,zH,zK,Option.bind_some]
 cases m0
 ·rfl
 try simp only [nt,nf,zH,zK,Option.bind_some]
 have hc1:=yc (κ:=κ) l1 (by omega);have hl1:=zU l1;generalize hg1:zX l1=q1 at hc1 hl1⊢;obtain⟨a1,l2,m1⟩:=q1;simp only at hc1 hl1⊢;simp only [zA.v18,zA.v29,zA.v7,qA,hc1,Option.bind_some,yr,wo];generalize decide (a1=[112,114,117,110,101])=d1;cases d1
 ·rfl
 try simp only [nt,nf,zH,zK,Option.bind_some]
 cases m1
 ·rfl
 try simp only [nt,nf,zH,zK,Option.bind_some]
 have hc2:=yc (κ:=κ) l2 (by omega);have hl2:=zU l2;generalize hg2:zX l2=q2 at hc2 hl2;have hr2:=fun a b c d e f g h i j k=>zfm (κ:=κ) l2 a b c d e f g h i j k (by omega)
 simp only [zA.v18,zA.v29,zA.v7,qA,hc2,hr2,Option.bind_some,yr,wo];have hu2:=qb l2;generalize uR l2=u2 at hu2⊢;obtain⟨x2,d2⟩:=u2;simp only at hu2⊢;cases d2
 ·rfl
 try simp only [nt,nf,zH,zK,Option.bind_some]
 rw [ze5 hκ _ _ _ _ _ _ _ _ _ _ ⟨hu2,⟨by decide,by decide⟩,⟨by decide,by decide⟩,(by decide),(by decide),(fun x hx=>by cases hx)⟩];simp only [Option.bind_some,zA.v49,qf,yk];generalize vQ _ =z;obtain⟨zs,zb⟩:=z;cases zb<;>rfl
theorem zbE{κ:Nat}(hκ:40000≤κ)(l:List UInt8)(hl:l.length≤15000):zA κ 12 (B l)=some (qf 12 (qp κ false (zd 12) l (zt 12))):=by
 unfold zA zd zt;simp only [zau,Option.bind_some,qp];have hc0:=yc (κ:=κ) l (by omega);have hl0:=zU l;generalize hg0:zX l=q0 at hc0 hl0⊢;obtain⟨a0,l1,m0⟩:=q0;simp only at hc0 hl0⊢;have hr0:=fun a b c d e f g h i j k=>kO (κ:=κ) a0 a b c d e f g h i j k (by omega)
 simp only [zA.v17,zA.v28,zA.v37,zA.v45,zA.v6,zNC,hc0,hr0,Option.bind_some,yr,wo];have hu0:=qb a0;generalize uR a0=u0 at hu0⊢;obtain⟨x0,d0⟩:=u0;simp only at hu0⊢;cases d0
 ·rfl
 try simp only [nt,nf,zH,zK,Option.bind_some]
 cases m0
 ·rfl
 try simp only [nt,nf,zH,zK,Option.bind_some]
 have hc1:=yc (κ:=κ) l1 (by omega);have hl1:=zU l1;generalize hg1:zX l1=q1 at hc1 hl1⊢;obtain⟨a1,l2,m1⟩:=q1;simp only at hc1 hl1⊢;simp only [zA.v17,zA.v28,zA.v37,zA.v45,zA.v6,zNC,hc1,Option.bind_some,yr,wo];generalize decide (a1=[115,104,111,119])=d1;cases d1
 ·rfl
 try simp only [nt,nf,zH,zK,Option.bind_some]
 cases m1
 ·rfl
 try simp only [nt,nf,zH,zK,Option.bind_some]
 have hc2:=yc (κ:=κ) l2 (by omega);have hl2:=zU l2;generalize hg2:zX l2=q2 at hc2 hl2⊢;obtain⟨a2,l3,m2⟩:=q2;simp only at hc2 hl2⊢;have hr2:=fun a b c d e f g h i j k=>zdp (κ:=κ) a2 a b c d e f g h i j k
 simp only [zA.v17,zA.v28,zA.v37,zA.v45,zA.v6,zNC,hc2,hr2,Option.bind_some,yr,wo];generalize (decide (a2=[114,117,110,110,105,110,103])||decide (a2=[99,97,110,100,105,100,97,116,101]))=d2;cases d2
 ·rfl
 try simp only [nt,nf,zH,zK,Option.bind_some]
 cases m2
 ·rfl
 try simp only [nt,nf,zH,zK,Option.bind_some]
 have hc3:=yc (κ:=κ) l3 (by omega);have hl3:=zU l3;generalize hg3:zX l3=q3 at hc3 hl3⊢;obtain⟨a3,l4,m3⟩:=q3;simp only at hc3 hl3⊢;have hr3:=fun a b c d e f g h i j k=>zhd (κ:=κ) a3 a b c d e f g h i j k
 simp only [zA.v17,zA.v28,zA.v37,zA.v45,zA.v6,zNC,hc3,hr3,Option.bind_some,yr,wo];generalize (decide (a3=[98,121,116,101,115])||decide (a3=[116,101,120,116]))=d3;cases d3
 ·rfl
 try simp only [nt,nf,zH,zK,Option.bind_some]
 cases m3
 ·rfl
 try simp only [nt,nf,zH,zK,Option.bind_some]
 have hc4:=yc (κ:=κ) l4 (by omega);have hl4:=zU l4;generalize hg4:zX l4=q4 at hc4 hl4;have hr4:=fun a b c d e f g h i j k=>zfm (κ:=κ) l4 a b c d e f g h i j k (by omega)
 simp only [zA.v17,zA.v28,zA.v37,zA.v45,zA.v6,zNC,hc4,hr4,Option.bind_some,yr,wo];have hu4:=qb l4;generalize uR l4=u4 at hu4⊢;obtain⟨x4,d4⟩:=u4;simp only at hu4⊢;cases d4
 ·rfl
 try simp only [nt,nf,zH,zK,Option.bind_some]
 rw [zdF hκ _ _ _ _ _ _ _ _ _ _ ⟨hu4,⟨by decide,by decide⟩,⟨by decide,by decide⟩,(by decide),(by decide),(fun x hx=>by cases hx)⟩];simp only [Option.bind_some,zA.v49,qf,yk];generalize vQ _ =z;obtain⟨zs,zb⟩:=z;cases zb<;>rfl
theorem za3{κ:Nat}(hκ:40000≤κ)(l:List UInt8)(hl:l.length≤15000):zA κ 13 (B l)=some (qf 13 (qp κ false (zd 13) l (zt 13))):=by
 unfold zA zd zt;simp only [zbD,Option.bind_some,qp];have hc0:=yc (κ:=κ) l (by omega);have hl0:=zU l;generalize hg0:zX l=q0 at hc0 hl0⊢;obtain⟨a0,l1,m0⟩:=q0;simp only at hc0 hl0⊢;have hr0:=fun a b c d e f g h i j k=>kO (κ:=κ) a0 a b c d e f g h i j k (by omega)
 simp only [zA.v16,zA.v27,zA.v36,zA.v5,zBU,hc0,hr0,Option.bind_some,yr,wo];have hu0:=qb a0;generalize uR a0=u0 at hu0⊢;obtain⟨x0,d0⟩:=u0;simp only at hu0⊢;cases d0
 ·rfl
 try simp only [nt,nf,zH,zK,Option.bind_some]
 cases m0
 ·rfl
 try simp only [nt,nf,zH,zK,Option.bind_some]
 have hc1:=yc (κ:=κ) l1 (by omega);have hl1:=zU l1;generalize hg1:zX l1=q1 at hc1 hl1⊢;obtain⟨a1,l2,m1⟩:=q1;simp only at hc1 hl1⊢;simp only [zA.v16,zA.v27,zA.v36,zA.v5,zBU,hc1,Option.bind_some,yr,wo];generalize decide (a1=[108,111,97,100])=d1;cases d1
 ·rfl
 try simp only [nt,nf,zH,zK,Option.bind_some]
 cases m1
 ·rfl
 try simp only [nt,nf,zH,zK,Option.bind_some]
 have hc2:=yc (κ:=κ) l2 (by omega);have hl2:=zU l2;generalize hg2:zX l2=q2 at hc2 hl2⊢;obtain⟨a2,l3,m2⟩:=q2;simp only at hc2 hl2⊢;simp only [zA.v16,zA.v27,zA.v36,zA.v5,zBU,hc2,Option.bind_some,yr,wo];generalize decide (a2=[116,101,120,116])=d2;cases d2
 ·rfl
 try simp only [nt,nf,zH,zK,Option.bind_some]
 cases m2
 ·rfl
 try simp only [nt,nf,zH,zK,Option.bind_some]
 have hc3:=yc (κ:=κ) l3 (by omega);have hl3:=zU l3;generalize hg3:zX l3=q3 at hc3 hl3;have hr3:=fun a b c d e f g h i j k=>zko (κ:=κ) l3 a b c d e f g h i j k (by omega)
 simp only [zA.v16,zA.v27,zA.v36,zA.v5,zBU,hc3,hr3,Option.bind_some,yr,wo]
 try simp only [nt,nf,zH,zK,Option.bind_some]
 rw [zfA hκ _ _ _ _ _ _ _ _ _ _ ⟨⟨by decide,by decide⟩,⟨by decide,by decide⟩,⟨by decide,by decide⟩,(by decide),(by rw [j0];omega),zUE _⟩];simp only [Option.bind_some,zA.v49,qf,yk];generalize vQ _ =z;obtain⟨zs,zb⟩:=z;cases zb<;>rfl
theorem zbT{κ:Nat}(hκ:40000≤κ)(l:List UInt8)(hl:l.length≤15000):zA κ 14 (B l)=some (qf 14 (qp κ false (zd 14) l (zt 14))):=by
 unfold zA zd zt;simp only [za4,Option.bind_some,qp];have hc0:=yc (κ:=κ) l (by omega);have hl0:=zU l;generalize hg0:zX l=q0 at hc0 hl0⊢;obtain⟨a0,l1,m0⟩:=q0;simp only at hc0 hl0⊢;have hr0:=fun a b c d e f g h i j k=>kO (κ:=κ) a0 a b c d e f g h i j k (by omega)
 simp only [zA.v15,zA.v26,zA.v35,zA.v4,zBU,hc0,hr0,Option.bind_some,yr,wo];have hu0:=qb a0;generalize uR a0=u0 at hu0⊢;obtain⟨x0,d0⟩:=u0;simp only at hu0⊢;cases d0
 ·rfl
 try simp only [nt,nf,zH,zK,Option.bind_some]
 cases m0
 ·rfl
 try simp only [nt,nf,zH,zK,Option.bind_some]
 have hc1:=yc (κ:=κ) l1 (by omega);have hl1:=zU l1;generalize hg1:zX l1=q1 at hc1 hl1⊢;obtain⟨a1,l2,m1⟩:=q1;simp only at hc1 hl1⊢;simp only [zA.v15,zA.v26,zA.v35,zA.v4,zBU,hc1,Option.bind_some,yr,wo];generalize decide (a1=[108,111,97,100])=d1;cases d1
 ·rfl
 try simp only [nt,nf,zH,zK,Option.bind_some]
 cases m1
 ·rfl
 try simp only [nt,nf,zH,zK,Option.bind_some]
 have hc2:=yc (κ:=κ) l2 (by omega);have hl2:=zU l2;generalize hg2:zX l2=q2 at hc2 hl2⊢;obtain⟨a2,l3,m2⟩:=q2;simp only at hc2 hl2⊢;simp only [zA.v15,zA.v26,zA.v35,zA.v4,zBU,hc2,Option.bind_some,yr,wo];generalize decide (a2=[98,121,116,101,115])=d2;cases d2
 ·rfl
 try simp only [nt,nf,zH,zK,Option.bind_some]
 cases m2
 ·rfl
 try simp only [nt,nf,zH,zK,Option.bind_some]
 have hc3:=yc (κ:=κ) l3 (by omega);have hl3:=zU l3;generalize hg3:zX l3=q3 at hc3 hl3;have hr3:=fun a b c d e f g h i j k=>zcH (κ:=κ) l3 a b c d e f g h i j k (by omega) (by omega)
 simp only [zA.v15,zA.v26,zA.v35,zA.v4,zBU,hc3,hr3,Option.bind_some,yr,wo];have hu3:=zeA l3;generalize unR l3=u3 at hu3⊢;obtain⟨d3,x3⟩:=u3;simp only at hu3⊢;cases d3
 ·rfl
 try simp only [nt,nf,zH,zK,Option.bind_some]
 rw [zfD hκ _ _ _ _ _ _ _ _ _ _ ⟨⟨by decide,by decide⟩,⟨by decide,by decide⟩,⟨by decide,by decide⟩,(by decide),(by omega),hu3.2⟩];simp only [Option.bind_some,zA.v49,qf,yk];generalize vQ _ =z;obtain⟨zs,zb⟩:=z;cases zb<;>rfl
theorem zak{κ:Nat}(hκ:40000≤κ)(l:List UInt8)(hl:l.length≤15000):zA κ 15 (B l)=some (qf 15 (qp κ false (zd 15) l (zt 15))):=by
 unfold zA zd zt;simp only [zbH,Option.bind_some,qp];have hc0:=yc (κ:=κ) l (by omega);have hl0:=zU l;generalize hg0:zX l=q0 at hc0 hl0⊢;obtain⟨a0,l1,m0⟩:=q0;simp only at hc0 hl0⊢;simp only [zA.v14,zA.v25,zA.v3,zA.v34,qA,hc0,Option.bind_some,yr,wo];generalize decide (a0=[112,97,99,107,101,116])=d0;cases d0
 ·rfl
 try simp only [nt,nf,zH,zK,Option.bind_some]
 cases m0
 ·rfl
 try simp only [nt,nf,zH,zK,Option.bind_some]
 have hc1:=yc (κ:=κ) l1 (by omega);have hl1:=zU l1;generalize hg1:zX l1=q1 at hc1 hl1⊢;obtain⟨a1,l2,m1⟩:=q1;simp only at hc1 hl1⊢;have hr1:=fun a b c d e f g h i j k=>zWs (κ:=κ) a1 a b c d e f g h i j k
 simp only [zA.v14,zA.v25,zA.v3,zA.v34,qA,hc1,hr1,Option.bind_some,yr,wo]
 try simp only [nt,nf,zH,zK,Option.bind_some]
 cases m1
 ·rfl
 try simp only [nt,nf,zH,zK,Option.bind_some]
 have hc2:=yc (κ:=κ) l2 (by omega);have hl2:=zU l2;generalize hg2:zX l2=q2 at hc2 hl2⊢;obtain⟨a2,l3,m2⟩:=q2;simp only at hc2 hl2⊢;have hr2:=fun a b c d e f g h i j k=>zho (κ:=κ) a2 a b c d e f g h i j k (by omega)
 simp only [zA.v14,zA.v25,zA.v3,zA.v34,qA,hc2,hr2,Option.bind_some,yr,wo];have hu2:=qb a2;generalize uR a2=u2 at hu2⊢;obtain⟨x2,d2⟩:=u2;simp only at hu2⊢;cases d2
 ·rfl
 try simp only [nt,nf,zH,zK,Option.bind_some]
 cases m2
 ·rfl
 try simp only [nt,nf,zH,zK,Option.bind_some]
 have hc3:=yc (κ:=κ) l3 (by omega);have hl3:=zU l3;generalize hg3:zX l3=q3 at hc3 hl3;have hr3:=fun a b c d e f g h i j k=>zhP (κ:=κ) l3 a b c d e f g h i j k (by omega)
 simp only [zA.v14,zA.v25,zA.v3,zA.v34,qA,hc3,hr3,Option.bind_some,yr,wo];have hu3:=qb l3;generalize uR l3=u3 at hu3⊢;obtain⟨x3,d3⟩:=u3;simp only at hu3⊢;cases d3
 ·rfl
 try simp only [nt,nf,zH,zK,Option.bind_some]
 rw [ze8 hκ _ _ _ _ _ _ _ _ _ _ ⟨⟨by decide,by decide⟩,hu2,hu3,(by decide),(by decide),(fun x hx=>by cases hx)⟩];simp only [Option.bind_some,zA.v49,qf,yk];generalize vQ _ =z;obtain⟨zs,zb⟩:=z;cases zb<;>rfl
theorem zar{κ:Nat}(hκ:40000≤κ)(l:List UInt8)(hl:l.length≤15000):zA κ 16 (B l)=some (qf 16 (qp κ false (zd 16) l (zt 16))):=by
 unfold zA zd zt;simp only [zan,Option.bind_some,qp];have hc0:=yc (κ:=κ) l (by omega);have hl0:=zU l;generalize hg0:zX l=q0 at hc0 hl0⊢;obtain⟨a0,l1,m0⟩:=q0;simp only at hc0 hl0⊢;simp only [zA.v13,zA.v2,qA,hc0,Option.bind_some,yr,wo];generalize decide (a0=[116,105,99,107])=d0;cases d0
 ·rfl
 try simp only [nt,nf,zH,zK,Option.bind_some]
 cases m0
 ·rfl
 try simp only [nt,nf,zH,zK,Option.bind_some]
 have hc1:=yc (κ:=κ) l1 (by omega);have hl1:=zU l1;generalize hg1:zX l1=q1 at hc1 hl1;have hr1:=fun a b c d e f g h i j k=>zfm (κ:=κ) l1 a b c d e f g h i j k (by omega)
 simp only [zA.v13,zA.v2,qA,hc1,hr1,Option.bind_some,yr,wo];have hu1:=qb l1;generalize uR l1=u1 at hu1⊢;obtain⟨x1,d1⟩:=u1;simp only at hu1⊢;cases d1
 ·rfl
 try simp only [nt,nf,zH,zK,Option.bind_some]
 rw [zeY hκ _ _ _ _ _ _ _ _ _ _ ⟨hu1,⟨by decide,by decide⟩,⟨by decide,by decide⟩,(by decide),(by decide),(fun x hx=>by cases hx)⟩];simp only [Option.bind_some,zA.v49,qf,yk];generalize vQ _ =z;obtain⟨zs,zb⟩:=z;cases zb<;>rfl
theorem zax{κ:Nat}(hκ:40000≤κ)(l:List UInt8)(hl:l.length≤15000):zA κ 17 (B l)=some (qf 17 (qp κ false (zd 17) l (zt 17))):=by
 unfold zA zd zt;simp only [zbJ,Option.bind_some,qp];have hc0:=yc (κ:=κ) l (by omega);have hl0:=zU l;generalize hg0:zX l=q0 at hc0 hl0⊢;obtain⟨a0,l1,m0⟩:=q0;simp only at hc0 hl0⊢;simp only [zA.v1,zA.v12,qA,hc0,Option.bind_some,yr,wo];generalize decide (a0=[110,101,120,116])=d0;cases d0
 ·rfl
 try simp only [nt,nf,zH,zK,Option.bind_some]
 cases m0
 ·rfl
 try simp only [nt,nf,zH,zK,Option.bind_some]
 have hc1:=yc (κ:=κ) l1 (by omega);have hl1:=zU l1;generalize hg1:zX l1=q1 at hc1 hl1;have hr1:=fun a b c d e f g h i j k=>zWs (κ:=κ) l1 a b c d e f g h i j k
 simp only [zA.v1,zA.v12,qA,hc1,hr1,Option.bind_some,yr,wo]
 try simp only [nt,nf,zH,zK,Option.bind_some]
 rw [zdK hκ _ _ _ _ _ _ _ _ _ _ ⟨⟨by decide,by decide⟩,⟨by decide,by decide⟩,⟨by decide,by decide⟩,(by decide),(by decide),(fun x hx=>by cases hx)⟩];simp only [Option.bind_some,zA.v49,qf,yk];generalize vQ _ =z;obtain⟨zs,zb⟩:=z;cases zb<;>rfl
theorem zbB{κ:Nat}(hκ:40000≤κ)(l:List UInt8)(hl:l.length≤15000):zA κ 18 (B l)=some (qf 18 (qp κ false (zd 18) l (zt 18))):=by
 unfold zA zd zt;simp only [zbK,Option.bind_some,qp];have hc0:=yc (κ:=κ) l (by omega);have hl0:=zU l;generalize hg0:zX l=q0 at hc0 hl0⊢;obtain⟨a0,l1,m0⟩:=q0;simp only at hc0 hl0⊢;simp only [zA.v1,zA.v12,qA,hc0,Option.bind_some,yr,wo];generalize decide (a0=[100,117,109,112])=d0;cases d0
 ·rfl
 try simp only [nt,nf,zH,zK,Option.bind_some]
 cases m0
 ·rfl
 try simp only [nt,nf,zH,zK,Option.bind_some]
 have hc1:=yc (κ:=κ) l1 (by omega);have hl1:=zU l1;generalize hg1:zX l1=q1 at hc1 hl1;have hr1:=fun a b c d e f g h i j k=>zWs (κ:=κ) l1 a b c d e f g h i j k
 simp only [zA.v1,zA.v12,qA,hc1,hr1,Option.bind_some,yr,wo]
 try simp only [nt,nf,zH,zK,Option.bind_some]
 rw [zeZ hκ _ _ _ _ _ _ _ _ _ _ ⟨⟨by decide,by decide⟩,⟨by decide,by decide⟩,⟨by decide,by decide⟩,(by decide),(by decide),(fun x hx=>by cases hx)⟩];simp only [Option.bind_some,zA.v49,qf,yk];generalize vQ _ =z;obtain⟨zs,zb⟩:=z;cases zb<;>rfl
end Go.Proofs.YtdoifigogbdodaaGreatDoor.Wo

namespace Go.Proofs.YtdoifigogbdodaaGreatDoor.Wo
open Go Ev Ev.Seat Go.Lib
def zNA(a b:zD):Bool:=seq a.name b.name&&seq a.key b.key
def vJ:List zD→List zD→Bool
 |[],[]=>true
 |a::l,b::m=>zNA a b&&vJ l m
 |_,_ =>false
theorem zcn{a b:zD}:zNA a b=true↔a=b:=by
 unfold zNA;rw [Bool.and_eq_true,Va8.zDr,Va8.zDr];cases a;cases b;simp
theorem zIL:∀{a b:List zD},vJ a b=true↔a=b
 |[],[]=>by simp [vJ]
 |a::l,b::m=>by
  unfold vJ;rw [Bool.and_eq_true,zcn,zIL];simp
 |[],_ ::_ =>by simp [vJ]
 |_ ::_,[]=>by simp [vJ]
theorem zJF:∀{a b:List zD},a.length≠b.length→vJ a b=false
 |[],[],h=>absurd rfl h
 |a::l,b::m,h=>by
  unfold vJ;rw [zJF (by simpa using h)];simp
 |[],_ ::_,_ =>rfl
 |_ ::_,[],_ =>rfl
theorem zae{κ:Nat}(a b:List zD)(hb:b.length<1000000)(hab:a.length=b.length):∀(d i K:Nat),a.length=i+d→d<K→
  yl.l0 κ K (a,b,((a.length:Nat):Int),((i:Nat):Int))=some (bif vJ (a.drop i) (b.drop i)then .inl ()else .inr false)
 |d,i,0,_,h=>by omega
 |0,i,K+1,hd,_ =>by
  unfold yl.l0 yl.w0;rw [show decide (((i:Nat):Int)<((a.length:Nat):Int))=false from decide_eq_false (by omega),List.drop_eq_nil_of_le (by omega),List.drop_eq_nil_of_le (by omega)];rfl
 |d+1,i,K+1,hd,hk=>by
  have h1:i<a.length:=by omega
  have h2:i<b.length:=by omega
  have ih:=zae (κ:=κ) a b hb hab d (i+1) K (by omega) (by omega);have hda:a.drop i=a[i]::a.drop (i+1):=List.drop_eq_getElem_cons h1;have hdb:b.drop i=b[i]::b.drop (i+1):=List.drop_eq_getElem_cons h2;unfold yl.l0 yl.w0;rw [hda,hdb];simp only [show decide (((i:Nat):Int)<((a.length:Nat):Int))=true from decide_eq_true (by omega),show decide ((0:Int)≤((i:Nat):Int))=true from decide_eq_true (by omega),zH,Int.toNat_natCast,List.getElem?_eq_getElem h1,List.getElem?_eq_getElem h2,Option.bind_some];rw [zUn i (by omega),ih,show vJ (a[i]::a.drop (i+1)) (b[i]::b.drop (i+1))=(zNA a[i] b[i]&&vJ (a.drop (i+1)) (b.drop (i+1)))from rfl,show(seq a[i].name b[i].name&&seq a[i].key b[i].key)=zNA a[i] b[i]from rfl];cases zNA a[i] b[i]<;>rfl
theorem ze3{κ:Nat}(a b:List zD)(hb:b.length<1000000)(hκ:b.length<κ):yl κ a b=some (vJ a b):=by
 unfold yl;by_cases h:a.length=b.length
 ·have hn:(((a.length:Nat):Int) !=((b.length:Nat):Int))=false:=by simp [h]
  have h1:=zae (κ:=κ) a b hb h a.length 0 κ (by omega) (by omega);rw [hn];simp only [zK];rw [show yl.l0 κ κ (a,b,((a.length:Nat):Int),(0:Int))=_ from h1];simp only [List.drop_zero,Option.bind_some];cases vJ a b<;>rfl
 ·have hn:(((a.length:Nat):Int) !=((b.length:Nat):Int))=true:=by simp [bne];omega
  rw [hn,zJF h];rfl
theorem zZP{κ:Nat}(a b:List zD)(hb:b.length<1000000)(hab:a.length=b.length):∀(d i K:Nat),a.length=i+d→d<K→
  qV.l0 κ K (a,b,((i:Nat):Int))=some (bif vJ (a.drop i) (b.drop i)then .inl ()else .inr false)
 |d,i,0,_,h=>by omega
 |0,i,K+1,hd,_ =>by
  unfold qV.l0 qV.w0;rw [show decide (((i:Nat):Int)<((a.length:Nat):Int))=false from decide_eq_false (by omega),List.drop_eq_nil_of_le (by omega),List.drop_eq_nil_of_le (by omega)];rfl
 |d+1,i,K+1,hd,hk=>by
  have h1:i<a.length:=by omega
  have h2:i<b.length:=by omega
  have ih:=zZP (κ:=κ) a b hb hab d (i+1) K (by omega) (by omega);have hda:a.drop i=a[i]::a.drop (i+1):=List.drop_eq_getElem_cons h1;have hdb:b.drop i=b[i]::b.drop (i+1):=List.drop_eq_getElem_cons h2;unfold qV.l0 qV.w0;rw [hda,hdb];simp only [show decide (((i:Nat):Int)<((a.length:Nat):Int))=true from decide_eq_true (by omega),show decide ((0:Int)≤((i:Nat):Int))=true from decide_eq_true (by omega),zH,Int.toNat_natCast,List.getElem?_eq_getElem h1,List.getElem?_eq_getElem h2,Option.bind_some];rw [zUn i (by omega),ih,show vJ (a[i]::a.drop (i+1)) (b[i]::b.drop (i+1))=(zNA a[i] b[i]&&vJ (a.drop (i+1)) (b.drop (i+1)))from rfl,show(seq a[i].name b[i].name&&seq a[i].key b[i].key)=zNA a[i] b[i]from rfl];cases zNA a[i] b[i]<;>rfl
theorem zbm{κ:Nat}(a b:List zD)(hb:b.length<1000000)(hκ:b.length<κ):qV κ a b=some (vJ a b):=by
 unfold qV;by_cases h:a.length=b.length
 ·have hn:(((a.length:Nat):Int) !=((b.length:Nat):Int))=false:=by simp [h]
  have h1:=zZP (κ:=κ) a b hb h a.length 0 κ (by omega) (by omega);rw [hn];simp only [zK];rw [show qV.l0 κ κ (a,b,(0:Int))=_ from h1];simp only [List.drop_zero,Option.bind_some];cases vJ a b<;>rfl
 ·have hn:(((a.length:Nat):Int) !=((b.length:Nat):Int))=true:=by simp [bne];omega
  rw [hn,zJF h];rfl
def zBX(a b:zM):Bool:=(a.kind==b.kind)&&((a.zR==b.zR)&&(vJ a.zg b.zg&&(seq a.value b.value&&((a.n==b.n)&&((a.running==b.running)&&((a.zO==b.zO)&&(seq a.port b.port&&((a.zm==b.zm)&&((a.size==b.size)&&seq (B (qC a.data)) (B (qC b.data)))))))))))
theorem zgt{κ:Nat}(a b:zM)(hb:b.zg.length<1000000)(hκ:b.zg.length<κ):
  wV κ a.kind a.zR a.zg a.value a.n a.running a.zO a.port a.zm a.size a.data b.kind b.zR b.zg b.value b.n b.running b.zO b.port b.zm b.size b.data=some (zBX a b):=by
 unfold wV wV.v0 zBX;rw [ze3 a.zg b.zg hb hκ];cases a.kind==b.kind
 ·rfl
 cases a.zR==b.zR
 ·rfl
 cases vJ a.zg b.zg
 ·rfl
 cases seq a.value b.value
 ·rfl
 cases a.n==b.n
 ·rfl
 cases a.running==b.running
 ·rfl
 cases a.zO==b.zO
 ·rfl
 cases seq a.port b.port
 ·rfl
 cases a.zm==b.zm
 ·rfl
 cases a.size==b.size
 ·rfl
 ·rfl
theorem zDf{κ:Nat}(a b:zM)(hb:b.zg.length<1000000)(hκ:b.zg.length<κ):
  jN κ a.kind a.zR a.zg a.value a.n a.running a.zO a.port a.zm a.size (B (qC a.data)) b.kind b.zR b.zg b.value b.n b.running b.zO b.port b.zm b.size (B (qC b.data))=some (zBX a b):=by
 unfold jN jN.v0 zBX;rw [zbm a.zg b.zg hb hκ];simp only [Option.bind_some];cases vJ a.zg b.zg
 ·simp
 cases a.kind==b.kind
 ·rfl
 cases a.zR==b.zR
 ·rfl
 cases seq a.value b.value
 ·rfl
 cases a.n==b.n
 ·rfl
 cases a.running==b.running
 ·rfl
 cases a.zO==b.zO
 ·rfl
 cases seq a.port b.port
 ·rfl
 cases a.zm==b.zm
 ·rfl
 cases a.size==b.size
 ·rfl
 ·rfl
theorem zOU(a:zM):zBX a a=true:=by
 unfold zBX;simp [zIL.2 rfl,seq]
def Byt(l:List Int):Prop:=∀x∈l,0≤x∧x<256
theorem zEy{a b:zM}(ha:Byt a.data)(hb:Byt b.data):zBX a b=true↔a=b:=by
 constructor
 ·intro h
  unfold zBX at h;simp only [Bool.and_eq_true,beq_iff_eq,zIL,Va8.zDr]at h;obtain⟨h1,h2,h3,h4,h5,h6,h7,h8,h9,h10,h11⟩:=h;have h12:a.data=b.data:=by rw [←zA2 ha,←zA2 hb,zeR.1 h11]
  cases a;cases b;simp only at h1 h2 h3 h4 h5 h6 h7 h8 h9 h10 h12;subst h1;subst h2;subst h3;subst h4;subst h5;subst h6;subst h7;subst h8;subst h9;subst h10;subst h12;rfl
 ·intro h;subst h;exact zOU a
end Go.Proofs.YtdoifigogbdodaaGreatDoor.Wo

namespace Go.Proofs.YtdoifigogbdodaaGreatDoor.Wo
open Go Ev Ev.Seat Go.Lib
theorem wZ{n:Int}(h:0≤n∧n<18446744073709551616):uR (gB n)=(n,true):=by
 unfold uR gB;rw [Va8.zI9 (Va8.zVr n.toNat (by omega))];rw [Int.toNat_of_nonneg h.1]
theorem kC(n:Int):(32:UInt8)∉gB n:=fun h=>by
 have:=(Va8.zS4 n.toNat 32 h).1;simp at this
theorem je(n:Int):gB n≠[]:=Va8.zdd n.toNat
theorem zTu{w:Int}(h:zk w=true):1≤w∧w≤9:=by
 unfold zk at h;rw [Bool.and_eq_true]at h;exact⟨of_decide_eq_true h.1,of_decide_eq_true h.2⟩
theorem wO{w:Int}(h:zk w=true):uR (y5 w)=(w,true):=by
 have:=zTu h;unfold y5;rw [IntKind.wrap_u64,show w%18446744073709551616=w from by omega];exact wZ (by omega)
theorem vL{w:Int}(h:zk w=true):zgy w=w:=by
 have:=zTu h;unfold zgy;rw [if_neg (by omega),Pa15.q8 _ (by omega) (by omega)]
theorem yJ(w:Int):(32:UInt8)∉y5 w:=kC _
theorem zjp{l:List UInt8}(h:l.all Pa15.wP=true):(32:UInt8)∉l:=fun hm=>by
 have:=List.all_eq_true.1 h 32 hm;revert this;decide
theorem zMB{s:ByteArray}(h:Pa15.vf s=true):(32:UInt8)∉s.data.toList:=by
 rw [←wz s]at h;exact zjp (Pa15.zSh ((Pa15.pR _).symm.trans h))
theorem kH{x:zD}(hb:Pa15.kf x=false):Pa15.vf x.name=true∧(seq x.key (B [])=false→Pa15.vf x.key=true):=Pa15.kH hb
theorem zY6:∀{w:List zD},w.any Pa15.kf=false→(32:UInt8)∉Pa15.jr w
 |[],_ =>by simp [Pa15.jr]
 |x::r,h=>by
  rw [List.any_cons,Bool.or_eq_false_iff]at h;obtain⟨h1,h2⟩:=kH h.1;have ih:=zY6 h.2;unfold Pa15.jr at ih⊢;rw [List.flatMap_cons,List.mem_append,not_or];refine⟨?_,ih⟩;unfold Pa15.ud Pa15.zEP;simp only [List.mem_cons,List.mem_append,not_or];refine⟨by decide,zMB h1, ?_⟩;cases hk:seq x.key (B [])
  ·simp only [zK,List.mem_cons,List.mem_append,not_or]
   exact⟨by decide,zMB (h2 hk),by decide,by simp⟩
  ·simp
theorem zCu(w:List zD):(32:UInt8)∉zCb w:=by
 unfold zCb Pa15.ub;split
 ·decide
 ·split
  ·simp
  ·cases hb:w.any Pa15.kf
   ·exact zY6 hb
   ·simp
theorem zeF{l:List Int}(h:∀x∈l,0≤x∧x<256):unR (zC2 (qC l))=(true,l):=by
 unfold unR;rw [za0];simp only [zA2 h]
theorem j1(a:List UInt8):Lib.join [a] [32]=a:=Lib.join_one a [32]
theorem j2(a b:List UInt8)(r:List (List UInt8)):Lib.join (a::b::r) [32]=a++32::Lib.join (b::r) [32]:=by
 rw [Lib.join_cons,Lib.join_cons];simp [Lib.joinTail]
theorem zK1(b:Bool):(32:UInt8)∉bm b:=by cases b<;>decide
theorem zP2(b:Bool):(32:UInt8)∉zEN b:=by cases b<;>decide
theorem zIY(b:Bool):(b||decide (bm b=[99,97,110,100,105,100,97,116,101]))=true∧decide (bm b=[114,117,110,110,105,110,103])=b:=by cases b<;>decide
theorem zOo(b:Bool):(b||decide (zEN b=[116,101,120,116]))=true∧decide (zEN b=[98,121,116,101,115])=b:=by cases b<;>decide
def zx(k:Nat)(c:zM):zM:=match k with
 |0=>⟨0,c.zR,[],B [],0,false,false,B [],0,0,[]⟩
 |1=>⟨1,c.zR,[],B [],0,false,false,B [],0,0,[]⟩
 |2=>⟨2,c.zR,[],B [],0,false,false,B [],0,0,[]⟩
 |3=>⟨3,c.zR,[],B [],0,false,false,B [],0,0,[]⟩
 |4=>⟨4,c.zR,[],B [],0,false,false,B [],0,0,[]⟩
 |5=>⟨5,c.zR,[],B [],0,false,false,B [],0,0,[]⟩
 |6=>⟨6,c.zR,[],B [],0,false,false,B [],0,0,[]⟩
 |7=>⟨7,c.zR,c.zg,c.value,0,false,false,B [],0,0,[]⟩
 |8=>⟨8,c.zR,c.zg,B [],0,false,false,B [],0,0,[]⟩
 |9=>⟨9,c.zR,[],B [],c.n,false,false,B [],0,0,[]⟩
 |10=>⟨10,c.zR,[],B [],c.n,false,false,B [],0,0,[]⟩
 |11=>⟨11,c.zR,[],B [],c.n,false,false,B [],0,0,[]⟩
 |12=>⟨12,c.zR,[],B [],c.n,c.running,c.zO,B [],0,0,[]⟩
 |13=>⟨13,c.zR,[],B [],0,false,false,B [],0,0,c.data⟩
 |14=>⟨14,c.zR,[],B [],0,false,false,B [],0,0,c.data⟩
 |15=>⟨15,0,[],B [],0,false,false,c.port,c.zm,c.size,[]⟩
 |16=>⟨16,0,[],B [],c.n,false,false,B [],0,0,[]⟩
 |17=>⟨17,0,[],B [],0,false,false,c.port,0,0,[]⟩
 |18=>⟨18,0,[],B [],0,false,false,c.port,0,0,[]⟩
 |_ =>c
theorem rt0{κ:Nat}(hκ:40000≤κ)(c:zM)(hF:Fit c.zg c.value c.n c.zm c.size c.data){ws:List (List UInt8)}(h:zJ 0 c.zR c.zg c.value c.n c.running c.zO c.port c.zm c.size c.data=some ws):qp κ false (zd 0) (Lib.join ws [32]) (zt 0)=some (zx 0 c):=by
 unfold zJ at h;simp only at h;cases h0:zk c.zR
 ·rw [h0]at h;cases h
 rw [h0]at h;simp only [zH]at h;cases h;have hc0:=fun X=>zV (a:=y5 c.zR) X (yJ _)
 unfold zd zt;simp only [j1,j2,qp,wo,hc0,wO h0,vL h0,decide_true,zH,zK,Bool.and_self,Bool.true_and,beq_self_eq_true,gW,List.isEmpty_nil]
 try rfl
theorem rt1{κ:Nat}(hκ:40000≤κ)(c:zM)(hF:Fit c.zg c.value c.n c.zm c.size c.data){ws:List (List UInt8)}(h:zJ 1 c.zR c.zg c.value c.n c.running c.zO c.port c.zm c.size c.data=some ws):qp κ false (zd 1) (Lib.join ws [32]) (zt 1)=some (zx 1 c):=by
 unfold zJ at h;simp only at h;cases h0:zk c.zR
 ·rw [h0]at h;cases h
 rw [h0]at h;simp only [zH]at h;cases h;have hc0:=fun X=>zV (a:=y5 c.zR) X (yJ _)
 unfold zd zt;simp only [j1,j2,qp,wo,hc0,wO h0,vL h0,decide_true,zH,zK,Bool.and_self,Bool.true_and,beq_self_eq_true,gW,List.isEmpty_nil]
 try rfl
theorem rt2{κ:Nat}(hκ:40000≤κ)(c:zM)(hF:Fit c.zg c.value c.n c.zm c.size c.data){ws:List (List UInt8)}(h:zJ 2 c.zR c.zg c.value c.n c.running c.zO c.port c.zm c.size c.data=some ws):qp κ false (zd 2) (Lib.join ws [32]) (zt 2)=some (zx 2 c):=by
 unfold zJ at h;simp only at h;cases h0:zk c.zR
 ·rw [h0]at h;cases h
 rw [h0]at h;simp only [zH]at h;cases h;have hc0:=fun X=>zV (a:=y5 c.zR) X (yJ _)
 unfold zd zt;simp only [j1,j2,qp,wo,hc0,wO h0,vL h0,decide_true,zH,zK,Bool.and_self,Bool.true_and,beq_self_eq_true,gW,List.isEmpty_nil]
 try rfl
theorem rt3{κ:Nat}(hκ:40000≤κ)(c:zM)(hF:Fit c.zg c.value c.n c.zm c.size c.data){ws:List (List UInt8)}(h:zJ 3 c.zR c.zg c.value c.n c.running c.zO c.port c.zm c.size c.data=some ws):qp κ false (zd 3) (Lib.join ws [32]) (zt 3)=some (zx 3 c):=by
 unfold zJ at h;simp only at h;cases h0:zk c.zR
 ·rw [h0]at h;cases h
 rw [h0]at h;simp only [zH]at h;cases h;have hc0:=fun X=>zV (a:=y5 c.zR) X (yJ _)
 unfold zd zt;simp only [j1,j2,qp,wo,hc0,wO h0,vL h0,decide_true,zH,zK,Bool.and_self,Bool.true_and,beq_self_eq_true,gW,List.isEmpty_nil]
 try rfl
theorem rt4{κ:Nat}(hκ:40000≤κ)(c:zM)(hF:Fit c.zg c.value c.n c.zm c.size c.data){ws:List (List UInt8)}(h:zJ 4 c.zR c.zg c.value c.n c.running c.zO c.port c.zm c.size c.data=some ws):qp κ false (zd 4) (Lib.join ws [32]) (zt 4)=some (zx 4 c):=by
 unfold zJ at h;simp only at h;cases h0:zk c.zR
 ·rw [h0]at h;cases h
 rw [h0]at h;simp only [zH]at h;cases h;have hc0:=fun X=>zV (a:=y5 c.zR) X (yJ _)
 unfold zd zt;simp only [j1,j2,qp,wo,hc0,wO h0,vL h0,decide_true,zH,zK,Bool.and_self,Bool.true_and,beq_self_eq_true,gW,List.isEmpty_nil]
 try rfl
theorem rt5{κ:Nat}(hκ:40000≤κ)(c:zM)(hF:Fit c.zg c.value c.n c.zm c.size c.data){ws:List (List UInt8)}(h:zJ 5 c.zR c.zg c.value c.n c.running c.zO c.port c.zm c.size c.data=some ws):qp κ false (zd 5) (Lib.join ws [32]) (zt 5)=some (zx 5 c):=by
 unfold zJ at h;simp only at h;cases h0:zk c.zR
 ·rw [h0]at h;cases h
 rw [h0]at h;simp only [zH]at h;cases h;have hc0:=fun X=>zV (a:=y5 c.zR) X (yJ _)
 unfold zd zt;simp only [j1,j2,qp,wo,hc0,wO h0,vL h0,decide_true,zH,zK,Bool.and_self,Bool.true_and,beq_self_eq_true,gW,List.isEmpty_nil]
 try rfl
theorem rt6{κ:Nat}(hκ:40000≤κ)(c:zM)(hF:Fit c.zg c.value c.n c.zm c.size c.data){ws:List (List UInt8)}(h:zJ 6 c.zR c.zg c.value c.n c.running c.zO c.port c.zm c.size c.data=some ws):qp κ false (zd 6) (Lib.join ws [32]) (zt 6)=some (zx 6 c):=by
 unfold zJ at h;simp only at h;cases h0:zk c.zR
 ·rw [h0]at h;cases h
 rw [h0]at h;simp only [zH]at h;cases h;have hc0:=fun X=>zV (a:=y5 c.zR) X (yJ _)
 unfold zd zt;simp only [j1,j2,qp,wo,hc0,wO h0,vL h0,decide_true,zH,zK,Bool.and_self,Bool.true_and,beq_self_eq_true,gW,List.isEmpty_nil]
 try rfl
theorem rt7{κ:Nat}(hκ:40000≤κ)(c:zM)(hF:Fit c.zg c.value c.n c.zm c.size c.data){ws:List (List UInt8)}(h:zJ 7 c.zR c.zg c.value c.n c.running c.zO c.port c.zm c.size c.data=some ws):qp κ false (zd 7) (Lib.join ws [32]) (zt 7)=some (zx 7 c):=by
 unfold zJ at h;simp only at h;cases h0:zk c.zR
 ·rw [h0]at h;cases h
 rw [h0]at h;simp only [zH]at h;cases h1:qT c.zg
 ·rw [h1]at h;cases h
 rw [h1]at h;simp only [zH]at h;cases h2:Lex5.qa c.value.data.toList
 ·rw [h2]at h;cases h
 rw [h2]at h;simp only [zH]at h;cases h;have hc0:=fun X=>zV (a:=y5 c.zR) X (yJ _)
 have hc1:=fun X=>zV (a:=[115,101,116]) X (by decide)
 have hc2:=fun X=>zV (a:=zCb c.zg) X (zCu _)
 unfold zd zt;simp only [j1,j2,qp,wo,hc0,wO h0,vL h0,hc1,hc2,zXJ (Nat.le_trans (by decide:2000≤40000) hκ) h1,wz,decide_true,zH,zK,Bool.and_self,Bool.true_and,beq_self_eq_true,gW,List.isEmpty_nil]
 try rfl
theorem rt8{κ:Nat}(hκ:40000≤κ)(c:zM)(hF:Fit c.zg c.value c.n c.zm c.size c.data){ws:List (List UInt8)}(h:zJ 8 c.zR c.zg c.value c.n c.running c.zO c.port c.zm c.size c.data=some ws):qp κ false (zd 8) (Lib.join ws [32]) (zt 8)=some (zx 8 c):=by
 unfold zJ at h;simp only at h;cases h0:zk c.zR
 ·rw [h0]at h;cases h
 rw [h0]at h;simp only [zH]at h;cases h1:qT c.zg
 ·rw [h1]at h;cases h
 rw [h1]at h;simp only [zH]at h;cases h;have hc0:=fun X=>zV (a:=y5 c.zR) X (yJ _)
 have hc1:=fun X=>zV (a:=[100,101,108]) X (by decide)
 unfold zd zt;simp only [j1,j2,qp,wo,hc0,wO h0,vL h0,hc1,zXJ (Nat.le_trans (by decide:2000≤40000) hκ) h1,decide_true,zH,zK,Bool.and_self,Bool.true_and,beq_self_eq_true,gW,List.isEmpty_nil]
 try rfl
theorem rt9{κ:Nat}(hκ:40000≤κ)(c:zM)(hF:Fit c.zg c.value c.n c.zm c.size c.data){ws:List (List UInt8)}(h:zJ 9 c.zR c.zg c.value c.n c.running c.zO c.port c.zm c.size c.data=some ws):qp κ true (zd 9) (Lib.join ws [32]) (zt 9)=some (zx 9 c):=by
 unfold zJ at h;simp only at h;cases h0:zk c.zR
 ·rw [h0]at h;cases h
 rw [h0]at h;simp only [zH]at h;by_cases hn:0<c.n
 ·have hn0:decide (c.n>0)=true:=decide_eq_true hn
  rw [decide_eq_true hn]at h;simp only [zH]at h;cases h;have hc0:=fun X=>zV (a:=y5 c.zR) X (yJ _)
  have hc1:=fun X=>zV (a:=[99,111,109,109,105,116]) X (by decide)
  unfold zd zt;simp only [j1,j2,qp,wo,hc0,wO h0,vL h0,hc1,wZ hF.hn,hn0,decide_true,zH,zK,Bool.and_self,Bool.true_and,beq_self_eq_true,gW,List.isEmpty_nil]
  try rfl
 ·rw [decide_eq_false hn]at h;simp only [zK]at h
  cases h;have hc0:=fun X=>zV (a:=y5 c.zR) X (yJ _)
  have hc1:=wA (a:=[99,111,109,109,105,116]) (by decide);unfold zd zt;simp only [j1,j2,qp,wo,hc0,wO h0,vL h0,hc1,decide_true,zH,zK,Bool.and_self,Bool.true_and,beq_self_eq_true,gW,List.isEmpty_nil];have hz:c.n=0:=by have:=hF.hn;omega
  unfold zx;simp only [hz]
theorem zmG{κ:Nat}(hκ:40000≤κ)(c:zM)(hF:Fit c.zg c.value c.n c.zm c.size c.data){ws:List (List UInt8)}(h:zJ 10 c.zR c.zg c.value c.n c.running c.zO c.port c.zm c.size c.data=some ws):qp κ false (zd 10) (Lib.join ws [32]) (zt 10)=some (zx 10 c):=by
 unfold zJ at h;simp only at h;cases h0:zk c.zR
 ·rw [h0]at h;cases h
 rw [h0]at h;simp only [zH]at h;cases h;have hc0:=fun X=>zV (a:=y5 c.zR) X (yJ _)
 have hc1:=fun X=>zV (a:=[114,111,108,108,98,97,99,107]) X (by decide)
 unfold zd zt;simp only [j1,j2,qp,wo,hc0,wO h0,vL h0,hc1,wZ hF.hn,decide_true,zH,zK,Bool.and_self,Bool.true_and,beq_self_eq_true,gW,List.isEmpty_nil]
 try rfl
theorem znI{κ:Nat}(hκ:40000≤κ)(c:zM)(hF:Fit c.zg c.value c.n c.zm c.size c.data){ws:List (List UInt8)}(h:zJ 11 c.zR c.zg c.value c.n c.running c.zO c.port c.zm c.size c.data=some ws):qp κ false (zd 11) (Lib.join ws [32]) (zt 11)=some (zx 11 c):=by
 unfold zJ at h;simp only at h;cases h0:zk c.zR
 ·rw [h0]at h;cases h
 rw [h0]at h;simp only [zH]at h;cases h;have hc0:=fun X=>zV (a:=y5 c.zR) X (yJ _)
 have hc1:=fun X=>zV (a:=[112,114,117,110,101]) X (by decide)
 unfold zd zt;simp only [j1,j2,qp,wo,hc0,wO h0,vL h0,hc1,wZ hF.hn,decide_true,zH,zK,Bool.and_self,Bool.true_and,beq_self_eq_true,gW,List.isEmpty_nil]
 try rfl
theorem znR{κ:Nat}(hκ:40000≤κ)(c:zM)(hF:Fit c.zg c.value c.n c.zm c.size c.data){ws:List (List UInt8)}(h:zJ 12 c.zR c.zg c.value c.n c.running c.zO c.port c.zm c.size c.data=some ws):qp κ false (zd 12) (Lib.join ws [32]) (zt 12)=some (zx 12 c):=by
 unfold zJ at h;simp only at h;cases h0:zk c.zR
 ·rw [h0]at h;cases h
 rw [h0]at h;simp only [zH]at h;cases h;have hc0:=fun X=>zV (a:=y5 c.zR) X (yJ _)
 have hc1:=fun X=>zV (a:=[115,104,111,119]) X (by decide)
 have hc2:=fun X=>zV (a:=bm c.running) X (zK1 _)
 have hc3:=fun X=>zV (a:=zEN c.zO) X (zP2 _)
 unfold zd zt;simp only [j1,j2,qp,wo,hc0,wO h0,vL h0,hc1,hc2,(zIY c.running).1,(zIY c.running).2,hc3,(zOo c.zO).1,(zOo c.zO).2,wZ hF.hn,decide_true,zH,zK,Bool.and_self,Bool.true_and,beq_self_eq_true,gW,List.isEmpty_nil]
 try rfl
theorem znS{κ:Nat}(hκ:40000≤κ)(c:zM)(hF:Fit c.zg c.value c.n c.zm c.size c.data){ws:List (List UInt8)}(h:zJ 13 c.zR c.zg c.value c.n c.running c.zO c.port c.zm c.size c.data=some ws):qp κ false (zd 13) (Lib.join ws [32]) (zt 13)=some (zx 13 c):=by
 unfold zJ at h;simp only at h;cases h0:zk c.zR
 ·rw [h0]at h;cases h
 rw [h0]at h;simp only [zH]at h;cases h;have hc0:=fun X=>zV (a:=y5 c.zR) X (yJ _)
 have hc1:=fun X=>zV (a:=[108,111,97,100]) X (by decide)
 have hc2:=fun X=>zV (a:=[116,101,120,116]) X (by decide)
 unfold zd zt;simp only [j1,j2,qp,wo,hc0,wO h0,vL h0,hc1,hc2,zA2 hF.gE,decide_true,zH,zK,Bool.and_self,Bool.true_and,beq_self_eq_true,gW,List.isEmpty_nil]
 try rfl
theorem zlZ{κ:Nat}(hκ:40000≤κ)(c:zM)(hF:Fit c.zg c.value c.n c.zm c.size c.data){ws:List (List UInt8)}(h:zJ 14 c.zR c.zg c.value c.n c.running c.zO c.port c.zm c.size c.data=some ws):qp κ false (zd 14) (Lib.join ws [32]) (zt 14)=some (zx 14 c):=by
 unfold zJ at h;simp only at h;cases h0:zk c.zR
 ·rw [h0]at h;cases h
 rw [h0]at h;simp only [zH]at h;cases h;have hc0:=fun X=>zV (a:=y5 c.zR) X (yJ _)
 have hc1:=fun X=>zV (a:=[108,111,97,100]) X (by decide)
 have hc2:=fun X=>zV (a:=[98,121,116,101,115]) X (by decide)
 unfold zd zt;simp only [j1,j2,qp,wo,hc0,wO h0,vL h0,hc1,hc2,zeF hF.gE,decide_true,zH,zK,Bool.and_self,Bool.true_and,beq_self_eq_true,gW,List.isEmpty_nil]
 try rfl
theorem zl0{κ:Nat}(hκ:40000≤κ)(c:zM)(hF:Fit c.zg c.value c.n c.zm c.size c.data){ws:List (List UInt8)}(h:zJ 15 c.zR c.zg c.value c.n c.running c.zO c.port c.zm c.size c.data=some ws):qp κ false (zd 15) (Lib.join ws [32]) (zt 15)=some (zx 15 c):=by
 unfold zJ at h;simp only at h;cases h0:Pa15.vf c.port
 ·rw [h0]at h;cases h
 rw [h0]at h;simp only [zH]at h;cases h;have hc0:=fun X=>zV (a:=[112,97,99,107,101,116]) X (by decide)
 have hc1:=fun X=>zV (a:=c.port.data.toList) X (zMB h0)
 have hc2:=fun X=>zV (a:=gB c.zm) X (kC _)
 unfold zd zt;simp only [j1,j2,qp,wo,hc0,hc1,wz,hc2,wZ hF.pq,wZ hF.w9,decide_true,zH,zK,Bool.and_self,Bool.true_and,beq_self_eq_true,gW,List.isEmpty_nil]
 try rfl
theorem zmn{κ:Nat}(hκ:40000≤κ)(c:zM)(hF:Fit c.zg c.value c.n c.zm c.size c.data){ws:List (List UInt8)}(h:zJ 16 c.zR c.zg c.value c.n c.running c.zO c.port c.zm c.size c.data=some ws):qp κ false (zd 16) (Lib.join ws [32]) (zt 16)=some (zx 16 c):=by
 unfold zJ at h;simp only at h;cases h;have hc0:=fun X=>zV (a:=[116,105,99,107]) X (by decide)
 unfold zd zt;simp only [j1,j2,qp,wo,hc0,wZ hF.hn,decide_true,zH,zK,Bool.and_self,Bool.true_and,beq_self_eq_true,gW,List.isEmpty_nil]
 try rfl
theorem zmz{κ:Nat}(hκ:40000≤κ)(c:zM)(hF:Fit c.zg c.value c.n c.zm c.size c.data){ws:List (List UInt8)}(h:zJ 17 c.zR c.zg c.value c.n c.running c.zO c.port c.zm c.size c.data=some ws):qp κ false (zd 17) (Lib.join ws [32]) (zt 17)=some (zx 17 c):=by
 unfold zJ at h;simp only at h;cases h0:Pa15.vf c.port
 ·rw [h0]at h;cases h
 rw [h0]at h;simp only [zH]at h;cases h;have hc0:=fun X=>zV (a:=[110,101,120,116]) X (by decide)
 unfold zd zt;simp only [j1,j2,qp,wo,hc0,wz,decide_true,zH,zK,Bool.and_self,Bool.true_and,beq_self_eq_true,gW,List.isEmpty_nil]
 try rfl
theorem zlu{κ:Nat}(hκ:40000≤κ)(c:zM)(hF:Fit c.zg c.value c.n c.zm c.size c.data){ws:List (List UInt8)}(h:zJ 18 c.zR c.zg c.value c.n c.running c.zO c.port c.zm c.size c.data=some ws):qp κ false (zd 18) (Lib.join ws [32]) (zt 18)=some (zx 18 c):=by
 unfold zJ at h;simp only at h;cases h0:Pa15.vf c.port
 ·rw [h0]at h;cases h
 rw [h0]at h;simp only [zH]at h;cases h;have hc0:=fun X=>zV (a:=[100,117,109,112]) X (by decide)
 unfold zd zt;simp only [j1,j2,qp,wo,hc0,wz,decide_true,zH,zK,Bool.and_self,Bool.true_and,beq_self_eq_true,gW,List.isEmpty_nil]
 try rfl
end Go.Proofs.YtdoifigogbdodaaGreatDoor.Wo
