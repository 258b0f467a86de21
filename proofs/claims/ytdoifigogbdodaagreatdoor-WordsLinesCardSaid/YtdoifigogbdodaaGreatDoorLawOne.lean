import Derived.Test.YtdoifigogbdodaaGreatDoorEvPlain
set_option linter.unusedVariables false
set_option linter.unusedSimpArgs false
set_option maxHeartbeats 1000000
namespace Go.Proofs.YtdoifigogbdodaaGreatDoor.Pa15
open Go Ev Ev.Seat
theorem bif_t{α:Type}(a b:α):(bif true then a else b)=a:=rfl
theorem bif_f{α:Type}(a b:α):(bif false then a else b)=b:=rfl
theorem wrap_in(n:Int)(h0: -9223372036854775808≤n)(h1:n≤9223372036854775807):IntKind.wrap IntKind.i64 n=n:=by
 unfold IntKind.wrap;simp [IntKind.bits,IntKind.signed];omega
abbrev B0:ByteArray:=ByteArray.mk (List.toArray [])
theorem seq_self(s:ByteArray):seq s s=true:=by simp [seq]
def idn(s:ByteArray):Bool:=(scalar_Ident 0 s).getD false
theorem ident_eq(κ:Nat)(s:ByteArray):scalar_Ident κ s=some (idn s)∧(idn s=true→s.size≤12∧seq s B0=false):=by
 have hk:scalar_Ident κ s=scalar_Ident 0 s:=rfl;rw [hk]
 suffices h:∃b,scalar_Ident 0 s=some b∧(b=true→s.size≤12∧seq s B0=false)by
  obtain⟨b,h1,h2⟩:=h;have:idn s=b:=by unfold idn;rw [h1];rfl
  rw [this];exact⟨h1,h2⟩
 unfold scalar_Ident scalar_Ident.v0;cases h0:seq s (ByteArray.mk (List.toArray []))
 ·simp only [Bool.not_false,bif_t]
  by_cases h1:((s.size:Nat):Int)≤12
  ·simp only [h1,decide_true,bif_t]
   have hpos:(1:Int)≤((s.size:Nat):Int):=by
    rcases Nat.eq_zero_or_pos s.size with h|h
    ·exfalso
     have:s=ByteArray.mk (List.toArray []):=by
      cases s with
      |mk d=>cases d with
       |mk l=>cases l with
        |nil=>rfl
        |cons a t=>simp [ByteArray.size]at h
     rw [this]at h0;simp [seq]at h0
    ·omega
   simp only [hpos,decide_true,Int.le_refl,show(0:Int)≤1 from by decide,Bool.and_self,bif_t];generalize Lib.contains _ _ =c;cases c
   ·exact⟨false,rfl,fun h=>by cases h⟩
   ·simp only [bif_t]
    unfold strings_Trim;rw [show asciiB _ =true from by decide+kernel];have hsz:Nat.ble s.size maxI=true:=Nat.ble_eq_true_of_le (by unfold maxI;omega);rw [hsz];refine⟨_,rfl,fun _ =>⟨by omega,by first|exact h0|trivial⟩⟩
  ·simp only [h1,decide_false,bif_f]
   exact⟨false,rfl,fun h=>by cases h⟩
 ·exact⟨false,rfl,fun h=>by cases h⟩
theorem ident(κ:Nat)(s:ByteArray):scalar_Ident κ s=some (idn s):=(ident_eq κ s).1
theorem idn_size{s:ByteArray}(h:idn s=true):s.size≤12:=((ident_eq 0 s).2 h).1
theorem idn_ne{s:ByteArray}(h:idn s=true):seq s B0=false:=((ident_eq 0 s).2 h).2
end Go.Proofs.YtdoifigogbdodaaGreatDoor.Pa15
namespace Go.Proofs.YtdoifigogbdodaaGreatDoor.Pa15
open Go Ev Ev.Seat
def badS(x:ApiStep):Bool:= !(idn x.name)||(!(seq x.key B0)&& !(idn x.key))
def key1(x:ApiStep):List UInt8:=bif seq x.key B0 then []else 91::(x.key.data.toList++[93])
def txt1(x:ApiStep):List UInt8:=47::(x.name.data.toList++key1 x)
def txt(w:List ApiStep):List UInt8:=w.flatMap txt1
def ints(l:List UInt8):List Int:=l.map fun b=>((b.toNat:Nat):Int)
theorem ints_append(a b:List UInt8):ints a++ints b=ints (a++b):=by simp [ints]
theorem ints_len(a:List UInt8):(ints a).length=a.length:=by simp [ints]
theorem bytes_ints(l:List UInt8):bytesOfA C (ints l)=⟨⟨l⟩⟩:=by
 unfold bytesOfA;congr 2
 show List.map (fun x:Int=>UInt8.ofNat x.toNat) (ints l)=l;unfold ints;rw [List.map_map]
 conv=>rhs;rw [←List.map_id l]
 apply List.map_congr_left;intro b _;simp
theorem room_ok(n:Nat)(h:n≤3000000):Nat.ble n (room (0+1))=true:=by
 rw [Nat.ble_eq];exact Nat.le_trans h (by decide)
theorem maxI_ok(n:Nat)(h:n≤3000000):Nat.ble n maxI=true:=by
 rw [Nat.ble_eq];exact Nat.le_trans h (by decide)
theorem ba_size(s:ByteArray):s.size=s.data.toList.length:=rfl
theorem badS_no{x:ApiStep}(hb:badS x=false):idn x.name=true∧(seq x.key B0=false→idn x.key=true):=by
 unfold badS at hb;cases h:idn x.name
 ·rw [h]at hb;simp at hb
 ·refine⟨rfl,fun hk=> ?_⟩
  rw [h,hk]at hb;cases h2:idn x.key
  ·rw [h2]at hb;simp at hb
  ·rfl
theorem write2{κ:Nat}(a:ByteArray)(acc:List UInt8)(h:acc.length+a.size≤3000000):strings_Builder_WriteString_2 κ a (ints acc)=some (((a.size:Nat):Int),ints (acc++a.data.toList)):=by
 unfold strings_Builder_WriteString_2;have e:List.map (fun b:UInt8=>((UInt8.toNat b:Nat):Int)) a.data.toList=ints a.data.toList:=rfl;rw [e,ints_len,ints_len,←ba_size,room_ok _ h,bif_t,ints_append]
theorem write3{κ:Nat}(a:ByteArray)(acc:List UInt8)(h:acc.length+a.size≤3000000):strings_Builder_WriteString_3 κ a (ints acc)=some (((a.size:Nat):Int),ints (acc++a.data.toList)):=by
 unfold strings_Builder_WriteString_3;have e:List.map (fun b:UInt8=>((UInt8.toNat b:Nat):Int)) a.data.toList=ints a.data.toList:=rfl;rw [e,ints_len,ints_len,←ba_size,room_ok _ h,bif_t,ints_append]
theorem cat_list(a b:ByteArray):(a++b).data.toList=a.data.toList++b.data.toList:=by simp
theorem cat_size(a b:ByteArray):(a++b).size=a.size+b.size:=by simp
theorem v25_eq(κ:Nat)(w:List ApiStep)(n i:Int)(x:ApiStep)(acc:List Int):path_Show.v25 κ w n i x.name x.key acc=some (w,n,i,badS x,x.name,x.key,acc):=by
 unfold path_Show.v25 badS;simp only [ident,Option.bind_some];cases idn x.name
 ·rfl
 ·cases seq x.key B0<;>simp only [Bool.not_true,Bool.not_false,bif_f,bif_t,Bool.false_or,Bool.true_and,Bool.false_and]<;>rfl
theorem v27_eq(κ:Nat)(w:List ApiStep)(n i:Int)(x:ApiStep)(acc:List UInt8)(hb:badS x=false)(hacc:acc.length≤1000):
  path_Show.v27 κ w n i (!(seq x.key B0)) x.name x.key (ints acc)=some (w,n,i,ints (acc++key1 x)):=by
 unfold path_Show.v27 key1;cases hk:seq x.key B0
 ·have hi:idn x.key=true:=(badS_no hb).2 hk
  have hs:=idn_size hi;have s1:(ByteArray.mk (List.toArray [(91:UInt8)])).size=1:=rfl;have s2:(ByteArray.mk (List.toArray [(93:UInt8)])).size=1:=rfl;simp only [Bool.not_false,bif_t,bif_f,cat_size,s1,s2];rw [maxI_ok _ (by omega),bif_t,maxI_ok _ (by omega),bif_t,write2 _ _ (by simp only [cat_size,s1,s2];omega)];simp only [Option.bind_some,cat_list];simp
 ·simp
theorem v24_eq(κ:Nat)(w:List ApiStep)(n:Int)(i:Nat)(x:ApiStep)(hx:w[i]? =some x)(acc:List UInt8)(hacc:acc.length≤900):
  path_Show.v24 κ w n (i:Int) (ints acc)=some (bif badS x then .inr B0 else .inl (w,n,(i:Int),ints (acc++txt1 x))):=by
 unfold path_Show.v24;rw [show decide ((0:Int)≤(i:Int))=true from by simp];simp only [bif_t,Int.toNat_natCast,hx,Option.bind_some,v25_eq];cases hb:badS x
 ·have hi:idn x.name=true:=(badS_no hb).1
  have hs:=idn_size hi;have s1:(ByteArray.mk (List.toArray [(47:UInt8)])).size=1:=rfl;simp only [bif_f,s1];rw [maxI_ok _ (by omega),bif_t,write3 _ _ (by simp only [cat_size,s1];omega)];simp only [Option.bind_some];have:=v27_eq κ w n (i:Int) x (acc++(ByteArray.mk (List.toArray [(47:UInt8)])++x.name).data.toList) hb (by rw [List.length_append,←ba_size,cat_size,s1];omega);rw [this];simp only [Option.bind_some,cat_list];simp [txt1]
 ·rfl
theorem v29_eq(κ:Nat)(w:List ApiStep)(n:Int)(i:Nat)(x:ApiStep)(hx:w[i]? =some x)(acc:List UInt8)(hacc:acc.length≤900):
  path_Show.v29 κ w n (i:Int) (ints acc)=some (bif badS x then .inr B0 else .inl (w,n,(i:Int),ints (acc++txt1 x))):=by
 have:path_Show.v29 κ w n (i:Int) (ints acc)=path_Show.v24 κ w n (i:Int) (ints acc):=rfl;rw [this];exact v24_eq κ w n i x hx acc hacc
theorem txt1_len{x:ApiStep}(hb:badS x=false):(txt1 x).length≤30:=by
 have hi:idn x.name=true:=(badS_no hb).1;have hs:=idn_size hi;unfold txt1 key1;cases hk:seq x.key B0
 ·have hi:idn x.key=true:=(badS_no hb).2 hk
  have hs2:=idn_size hi;simp;omega
 ·simp;omega
def endsS(w:List ApiStep)(acc:List UInt8):Option (List UInt8):=bif w.any badS then none else some (acc++txt w)
def isEnd(o:Option ((List Int)⊕(ByteArray⊕(List Int)))):Option (List UInt8)→Prop
 |none=>o=some (.inr (.inl B0))
 |some l=>o=some (.inl (ints l))∨o=some (.inr (.inr (ints l)))
theorem show_loop(κ:Nat)(w:List ApiStep)(hw:w.length≤6):∀(d i K:Nat) (acc:List UInt8),w.length=i+d→acc.length≤30*i→d<K→
  isEnd (path_Show.l23 κ K (.inl (w,((w.length:Nat):Int),(i:Int),ints acc))) (endsS (w.drop i) acc)∧isEnd (path_Show.l23 κ K (.inr (w,((w.length:Nat):Int),(i:Int),ints acc))) (endsS (w.drop i) acc)
 |d,i,0,acc,_,_,h=>by omega
 |0,i,K+1,acc,hd,ha,_ =>by
  have hn:w.drop i=[]:=List.drop_eq_nil_of_le (by omega);rw [hn];unfold path_Show.l23 path_Show.w23 path_Show.w23_1 endsS;rw [show decide ((i:Int)<((w.length:Nat):Int))=false from by simp;omega];simp only [List.any_nil,bif_f,txt,List.flatMap_nil,List.append_nil];exact⟨.inl rfl,.inr rfl⟩
 |d+1,i,K+1,acc,hd,ha,hk=>by
  have hlt:i<w.length:=by omega
  have hx:w[i]? =some w[i]:=List.getElem?_eq_getElem hlt;rw [List.drop_eq_getElem_cons hlt];unfold path_Show.l23 path_Show.w23 path_Show.w23_1;rw [show decide ((i:Int)<((w.length:Nat):Int))=true from by simp;omega];simp only [bif_t];rw [v24_eq κ w _ i _ hx acc (by omega),v29_eq κ w _ i _ hx acc (by omega)];unfold endsS;cases hb:badS w[i]
  ·have hl:=txt1_len hb
   have ih:=(show_loop κ w hw d (i+1) K (acc++txt1 w[i]) (by omega) (by rw [List.length_append];omega) (by omega)).2;simp only [bif_f,Option.bind_some,List.any_cons,hb,Bool.false_or];rw [wrap_in _ (by omega) (by omega),show((i:Int)+1)=((i+1:Nat):Int)from by omega];have he:endsS (w.drop (i+1)) (acc++txt1 w[i])=bif (w.drop (i+1)).any badS then none else some (acc++txt (w[i]::w.drop (i+1))):=by
    unfold endsS txt;simp only [List.flatMap_cons,List.append_assoc]
   rw [he]at ih;exact⟨ih,ih⟩
  ·simp only [bif_t,Option.bind_some,List.any_cons,hb,Bool.true_or]
   exact⟨rfl,rfl⟩
def showV(w:List ApiStep):ByteArray:=if w.length=0 then⟨⟨[47]⟩⟩else if w.length>6 then B0 else bif w.any badS then B0 else⟨⟨txt w⟩⟩
theorem txt_len:∀{w:List ApiStep},w.any badS=false→(txt w).length≤30*w.length
 |[],_ =>by simp [txt]
 |x::l,h=>by
  simp only [List.any_cons,Bool.or_eq_false_iff]at h;have h1:=txt1_len h.1;have h2:=txt_len h.2;unfold txt at h2⊢;simp only [List.flatMap_cons,List.length_append,List.length_cons];omega
theorem show_eq(κ:Nat)(hκ:10≤κ)(w:List ApiStep):path_Show κ w=some (showV w):=by
 unfold path_Show showV;by_cases h0:w.length=0
 ·rw [if_pos h0,h0];rfl
 ·rw [if_neg h0,show(((w.length:Nat):Int)==0)=false from beq_eq_false_iff_ne.2 (by omega)]
  simp only [bif_f];by_cases h6:w.length>6
  ·rw [if_pos h6,show decide (((w.length:Nat):Int)>6)=true from by simp;omega];rfl
  ·have h6':w.length≤6:=Nat.le_of_not_gt h6
   rw [if_neg h6,show decide (((w.length:Nat):Int)>6)=false from decide_eq_false (by omega)];simp only [bif_f];have h:=(show_loop κ w h6' w.length 0 κ [] (by omega) (by simp) (by omega)).1;simp only [List.drop_zero,Int.natCast_zero]at h;have e0:ints []=[]:=rfl;rw [e0]at h;unfold endsS at h;cases hb:w.any badS
   ·rw [hb]at h
    simp only [bif_f,List.nil_append]at h⊢;have hl:=txt_len hb;rcases h with h|h
    ·rw [h]
     simp only [Option.bind_some];unfold strings_Builder_String;rw [ints_len,maxI_ok _ (by omega),bytes_ints];simp
    ·rw [h]
     simp only [Option.bind_some];unfold strings_Builder_String_2;rw [ints_len,maxI_ok _ (by omega),bytes_ints];simp
   ·rw [hb]at h
    have h:path_Show.l23 κ κ _ =_ :=h;rw [h];rfl
end Go.Proofs.YtdoifigogbdodaaGreatDoor.Pa15
namespace Go.Proofs.YtdoifigogbdodaaGreatDoor.Pa15
open Go Ev Ev.Seat Go.Lib
theorem mk_data(s:ByteArray):(⟨s.data.toList.toArray⟩:ByteArray)=s:=by simp
theorem as_list(s:ByteArray):∃l:List UInt8,s=⟨l.toArray⟩:=⟨s.data.toList,(mk_data s).symm⟩
theorem data_of(l:List UInt8):(⟨l.toArray⟩:ByteArray).data.toList=l:=by simp
theorem sized(l:List UInt8):(⟨l.toArray⟩:ByteArray).size=l.length:=by show l.toArray.size=_;simp
theorem bs_inj{a b:List UInt8}:(⟨a.toArray⟩:ByteArray)=⟨b.toArray⟩↔a=b:=by
 constructor
 ·intro h
  have:=congrArg (fun s:ByteArray=>s.data.toList) h
  simpa using this
 ·rintro rfl;rfl
theorem seq_mk(a b:List UInt8):seq ⟨a.toArray⟩ ⟨b.toArray⟩=decide (a=b):=by
 unfold seq;rw [data_of,data_of];exact Bool.eq_iff_iff.2 (by simp)
theorem seq_B0(a:List UInt8):seq ⟨a.toArray⟩ B0=decide (a=[]):=seq_mk a []
theorem ext_mid(l:List UInt8)(a b:Nat):(⟨l.toArray⟩:ByteArray).extract a b=⟨((l.drop a).take (b-a)).toArray⟩:=by
 rw [←mk_data ((⟨l.toArray⟩:ByteArray).extract a b)];congr 2;rw [←Lib.toList_data,Lib.extract_toList]
def small(c:UInt8):Bool:=decide (97≤c.toNat∧c.toNat≤122)
def okc(c:UInt8):Bool:=decide ((97≤c.toNat∧c.toNat≤122)∨c.toNat=45∨(48≤c.toNat∧c.toNat≤57))
def idB:List UInt8→Bool
 |[]=>false
 |c::r=>small c&&r.all okc&&decide (r.length<12)
def smalls:List UInt8:=[97,98,99,100,101,102,103,104,105,106,107,108,109,110,111,112,113,114,115,116,117,118,119,120,121,122]
def oks:List UInt8:=[97,98,99,100,101,102,103,104,105,106,107,108,109,110,111,112,113,114,115,116,117,118,119,120,121,122,48,49,50,51,52,53,54,55,56,57,45]
theorem ok_all:∀n:Fin 256,oks.contains (UInt8.ofNat n.val)=okc (UInt8.ofNat n.val):=by decide+kernel
theorem of_nat(c:UInt8):UInt8.ofNat c.toNat=c:=by simp
theorem ok_eq(c:UInt8):oks.contains c=okc c:=by
 have:=ok_all ⟨c.toNat,c.toNat_lt⟩
 simpa only [of_nat] using this
theorem dropWhile_nil{p:UInt8→Bool}:∀(l:List UInt8),(l.dropWhile p=[])↔l.all p=true
 |[]=>by simp
 |c::l=>by
  rw [List.dropWhile_cons,List.all_cons];cases hc:p c
  ·simp
  ·simpa using dropWhile_nil l
theorem trim_nil(l:List UInt8):(trimS l oks=[])↔l.all okc=true:=by
 have e:(fun c=>oks.contains c)=okc:=funext ok_eq;unfold trimS trimLeftS trimRightS;rw [e,dropWhile_nil];constructor
 ·intro h
  by_cases ha:l.all okc=true
  ·exact ha
  ·exfalso
   have h1:l.reverse.dropWhile okc≠[]:=fun z=>ha (by have:=(dropWhile_nil _).1 z;rwa [List.all_reverse]at this)
   obtain⟨c,r,hcr⟩:=List.exists_cons_of_ne_nil h1;have h2:okc c=false:=by
    have:=List.head?_dropWhile_not okc l.reverse;rw [hcr]at this
    simpa using this
   rw [hcr]at h;simp [h2]at h
 ·intro h
  have:l.reverse.dropWhile okc=[]:=(dropWhile_nil _).2 (by rwa [List.all_reverse]);rw [this];rfl
theorem small_ok{c:UInt8}(h:small c=true):okc c=true:=by
 unfold small at h;unfold okc;simp only [decide_eq_true_eq]at h⊢;exact .inl h
theorem con_all:∀n:Fin 256,Lib.contains smalls [UInt8.ofNat n.val]=small (UInt8.ofNat n.val):=by decide+kernel
theorem con_one(c:UInt8):Lib.contains smalls [c]=small c:=by
 have:=con_all ⟨c.toNat,c.toNat_lt⟩
 simpa only [of_nat] using this
theorem idn_eq(l:List UInt8):idn ⟨l.toArray⟩=idB l:=by
 have h:=ident 0 ⟨l.toArray⟩;unfold scalar_Ident scalar_Ident.v0 at h;rw [show seq (⟨l.toArray⟩:ByteArray) (ByteArray.mk (List.toArray []))=decide (l=[])from seq_mk l []]at h;cases l with
 |nil=>
  simp only [decide_true,Bool.not_true,bif_f,Option.bind_some]at h;exact(Option.some.inj h).symm
 |cons c r=>
  simp only [reduceCtorEq,decide_false,Bool.not_false,bif_t,sized]at h;by_cases h12:(((c::r).length:Nat):Int)≤12
  ·have hl:r.length<12:=by rw [List.length_cons]at h12;omega
   have h1:(1:Int)≤(((c::r).length:Nat):Int):=by rw [List.length_cons];omega
   simp only [h12,h1,decide_true,bif_t,Int.le_refl,show(0:Int)≤1 from by decide,Bool.and_self,Int.toNat_zero,show(1:Int).toNat=1 from rfl]at h;rw [ext_mid,data_of]at h;simp only [List.drop_zero,Nat.sub_zero,List.take_succ_cons,List.take_zero]at h;have hcon:=con_one c;have h:(bif Lib.contains smalls [c]then(strings_Trim 0 ⟨(c::r).toArray⟩ ⟨oks.toArray⟩).bind (fun x0=>some (seq x0 B0))else some false).bind (fun x0=>some x0)=some (idn ⟨(c::r).toArray⟩):=h;rw [hcon]at h
   show idn ⟨(c::r).toArray⟩=(small c&&r.all okc&&decide (r.length<12));cases hs:small c
   ·rw [hs]at h
    simp only [bif_f,Option.bind_some]at h;rw [←Option.some.inj h];rfl
   ·rw [hs]at h
    simp only [bif_t]at h;unfold strings_Trim at h;rw [show asciiB _ =true from by decide+kernel]at h;have hsz:Nat.ble (⟨(c::r).toArray⟩:ByteArray).size maxI=true:=Nat.ble_eq_true_of_le (by rw [sized,List.length_cons];unfold maxI;omega);rw [hsz]at h;have h:some (seq (⟨(trimS (c::r) oks).toArray⟩:ByteArray) B0)=some (idn ⟨(c::r).toArray⟩):=h;rw [←Option.some.inj h,seq_B0];have hok:=small_ok hs;have hall:(c::r).all okc=r.all okc:=by rw [List.all_cons,hok,Bool.true_and]
    have hd:decide (r.length<12)=true:=by simp [hl]
    rw [hd,Bool.true_and,Bool.and_true];cases hr:r.all okc with
    |true=>rw [(trim_nil _).2 (by rw [hall,hr])];rfl
    |false=>
     refine decide_eq_false fun z=> ?_
     have:=(trim_nil _).1 z;rw [hall,hr]at this;cases this
  ·simp only [h12,decide_false,bif_f,Option.bind_some]at h
   rw [←Option.some.inj h];have hl:¬r.length<12:=by rw [List.length_cons]at h12;omega
   unfold idB;simp [hl]
theorem v5_eq(κ:Nat)(l:List UInt8)(i:Nat)(c:UInt8)(h:l[i]? =some c):r06_Ident.v5 κ ⟨l.toArray⟩ (i:Int)=some (⟨l.toArray⟩,(i:Int),small c):=by
 unfold r06_Ident.v5 small;rw [show decide ((0:Int)≤(i:Int))=true from decide_eq_true (by omega)];simp only [bif_t,data_of,Int.toNat_natCast,h,Option.bind_some];by_cases h1:((c.toNat:Nat):Int)≥97
 ·have:decide (97≤c.toNat∧c.toNat≤122)=decide (((c.toNat:Nat):Int)≤122):=by rw [decide_eq_decide];omega
  simp only [h1,decide_true,bif_t,this]
 ·have:decide (97≤c.toNat∧c.toNat≤122)=false:=decide_eq_false (by omega)
  simp only [h1,decide_false,bif_f,this]
theorem v7_eq(κ:Nat)(l:List UInt8)(i:Nat)(c:UInt8)(h:l[i]? =some c)(b:Bool):r06_Ident.v7 κ ⟨l.toArray⟩ (i:Int) b=some (⟨l.toArray⟩,(i:Int), !b&&(decide (i=0)|| !(decide (c.toNat=45∨(48≤c.toNat∧c.toNat≤57))))):=by
 unfold r06_Ident.v7;cases b
 ·simp only [Bool.not_false,bif_t,Bool.true_and]
  by_cases h0:i=0
  ·subst h0;rfl
  ·rw [show((i:Int)==0)=false from beq_eq_false_iff_ne.2 (by omega),show decide (i=0)=false from decide_eq_false h0,show decide ((0:Int)≤(i:Int))=true from decide_eq_true (by omega)]
   simp only [bif_t,bif_f,data_of,Int.toNat_natCast,h,Option.bind_some,Bool.false_or];by_cases h1:((c.toNat:Nat):Int)=45
   ·rw [show(((c.toNat:Nat):Int) !=45)=false from by simp [h1],show decide (c.toNat=45∨(48≤c.toNat∧c.toNat≤57))=true from decide_eq_true (by omega)]
    rfl
   ·rw [show(((c.toNat:Nat):Int) !=45)=true from by simpa using h1]
    simp only [bif_t];by_cases h2:((c.toNat:Nat):Int)<48
    ·rw [show decide (c.toNat=45∨(48≤c.toNat∧c.toNat≤57))=false from decide_eq_false (by omega)]
     simp only [h2,decide_true,bif_t];rfl
    ·simp only [h2,decide_false,bif_f]
     congr 3;by_cases h3:((c.toNat:Nat):Int)>57
     ·rw [decide_eq_true h3,show decide (c.toNat=45∨(48≤c.toNat∧c.toNat≤57))=false from decide_eq_false (by omega)];rfl
     ·rw [decide_eq_false h3,show decide (c.toNat=45∨(48≤c.toNat∧c.toNat≤57))=true from decide_eq_true (by omega)];rfl
 ·rfl
theorem ref_loop(κ:Nat)(l:List UInt8)(hl:l.length≤140737488351232):∀(d i K:Nat),1≤i→l.length=i+d→d<K→
  r06_Ident.l4 κ K (⟨l.toArray⟩,(i:Int))=some (bif (l.drop i).all okc then .inl ⟨l.toArray⟩else .inr false)
 |d,i,0,_,_,h=>by omega
 |0,i,K+1,_,hd,_ =>by
  have hn:l.drop i=[]:=List.drop_eq_nil_of_le (by omega);rw [hn];unfold r06_Ident.l4 r06_Ident.w4;rw [sized,show decide ((i:Int)<((l.length:Nat):Int))=false from decide_eq_false (by omega)];rfl
 |d+1,i,K+1,hi,hd,hk=>by
  have hlt:i<l.length:=by omega
  have hx:l[i]? =some l[i]:=List.getElem?_eq_getElem hlt;unfold r06_Ident.l4 r06_Ident.w4;rw [sized,show decide ((i:Int)<((l.length:Nat):Int))=true from decide_eq_true (by omega)];simp only [bif_t,v5_eq κ l i _ hx,v7_eq κ l i _ hx,Option.bind_some];rw [List.drop_eq_getElem_cons hlt,List.all_cons];have hok:(!small l[i]&&(decide (i=0)|| !(decide (l[i].toNat=45∨(48≤l[i].toNat∧l[i].toNat≤57)))))= !okc l[i]:=by
   rw [show decide (i=0)=false from decide_eq_false (by omega),Bool.false_or];unfold small okc;by_cases h1:97≤l[i].toNat∧l[i].toNat≤122<;>by_cases h2:l[i].toNat=45∨(48≤l[i].toNat∧l[i].toNat≤57)<;>simp [h1,h2]
  rw [hok];cases okc l[i]
  ·rfl
  ·simp only [Bool.not_true,bif_f,Bool.true_and]
   rw [wrap_in _ (by omega) (by omega),show((i:Int)+1)=((i+1:Nat):Int)from by omega];exact ref_loop κ l hl d (i+1) K (by omega) (by omega) (by omega)
theorem refIdent_eq(κ:Nat)(s:ByteArray)(hs:s.size≤140737488351232)(hκ:s.size+1<κ):r06_Ident κ s=some (idn s):=by
 obtain⟨l,rfl⟩:=as_list s;rw [idn_eq];rw [sized]at hs hκ;unfold r06_Ident;cases l with
 |nil=>
  obtain⟨k,rfl⟩:∃k,κ=k+1:=⟨κ-1,by omega⟩
  rfl
 |cons c r=>
  obtain⟨k,hk⟩:∃k,κ=k+1:=⟨κ-1,by omega⟩
  have hx:(c::r)[0]? =some c:=rfl;have first:r06_Ident.l4 κ κ (⟨(c::r).toArray⟩,(0:Int))=some (bif small c&&r.all okc then .inl ⟨(c::r).toArray⟩else .inr false):=by
   conv=>lhs;arg 2;rw [hk]
   unfold r06_Ident.l4 r06_Ident.w4;rw [sized,show decide ((0:Int)<(((c::r).length:Nat):Int))=true from decide_eq_true (by rw [List.length_cons];omega)];have e5:=v5_eq κ (c::r) 0 c hx;have e7:=v7_eq κ (c::r) 0 c hx (small c);simp only [Int.natCast_zero]at e5 e7;simp only [bif_t,e5,e7,Option.bind_some,decide_true,Bool.true_or,Bool.and_true];cases small c
   ·rfl
   ·simp only [Bool.not_true,bif_f,Bool.true_and]
    rw [wrap_in _ (by omega) (by omega),show((0:Int)+1)=((1:Nat):Int)from rfl,ref_loop κ (c::r) hs r.length 1 k (by omega) (by rw [List.length_cons];omega) (by rw [List.length_cons]at hκ;omega)];rfl
  rw [first]
  show _ =some (small c&&r.all okc&&decide (r.length<12));cases hb:small c&&r.all okc
  ·rfl
  ·simp only [bif_t,Option.bind_some,r06_Ident.v10]
   rw [show seq (⟨(c::r).toArray⟩:ByteArray) (ByteArray.mk (List.toArray []))=decide ((c::r)=[])from seq_mk _ []];simp only [reduceCtorEq,decide_false,Bool.not_false,bif_t,sized,Option.bind_some,Bool.true_and];congr 1;rw [decide_eq_decide,List.length_cons];omega
end Go.Proofs.YtdoifigogbdodaaGreatDoor.Pa15
namespace Go.Proofs.YtdoifigogbdodaaGreatDoor.Pa15
open Go Ev Ev.Seat Go.Lib
def Fits(κ:Nat)(w:List ApiStep):Prop:=∀x∈w,x.name.size≤140737488351232∧x.key.size≤140737488351232∧x.name.size+1<κ∧x.key.size+1<κ
end Go.Proofs.YtdoifigogbdodaaGreatDoor.Pa15
namespace Go.Proofs.YtdoifigogbdodaaGreatDoor.Pa15
open Go Ev Ev.Seat Go.Lib
theorem cat_mk(a b:List UInt8):(⟨a.toArray⟩:ByteArray)++(⟨b.toArray⟩:ByteArray)=⟨(a++b).toArray⟩:=by rw [ByteArray.mk_append_mk]
theorem cat_mk'(a:List UInt8)(s:ByteArray):(⟨a.toArray⟩:ByteArray)++s=⟨(a++s.data.toList).toArray⟩:=by
 obtain⟨b,rfl⟩:=as_list s;rw [cat_mk,data_of]
theorem refv7_eq(κ:Nat)(w:List ApiStep)(hf:Fits κ w)(i:Nat)(x:ApiStep)(hx:w[i]? =some x)(acc:List UInt8)(hacc:acc.length≤1000):
  r15_Show.v7 κ w ⟨acc.toArray⟩ (i:Int)=some (bif badS x then .inr B0 else .inl (w,⟨(acc++txt1 x).toArray⟩,(i:Int))):=by
 obtain⟨f1,f2,f3,f4⟩:=hf x (List.mem_of_getElem? hx);unfold r15_Show.v7 r15_Show.v8;simp only [show decide ((0:Int)≤(i:Int))=true from decide_eq_true (by omega),bif_t,Int.toNat_natCast,hx,Option.bind_some,refIdent_eq κ _ f1 f3,refIdent_eq κ _ f2 f4];unfold badS;cases hn:idn x.name
 ·rfl
 ·have hs:=idn_size hn
  simp only [Bool.not_true,bif_f,Bool.false_or];have s1:(ByteArray.mk (List.toArray [(47:UInt8)])).size=1:=rfl;have s2:(ByteArray.mk (List.toArray [(91:UInt8)])).size=1:=rfl;have s3:(ByteArray.mk (List.toArray [(93:UInt8)])).size=1:=rfl;cases hk:idn x.key
  ·simp only [Bool.not_false,bif_t,Option.bind_some]
   cases hq:seq x.key B0
   ·rfl
   ·simp only [Bool.not_true,bif_f,Bool.false_and,show decide ((0:Int)≤(i:Int))=true from decide_eq_true (by omega),bif_t,Int.toNat_natCast,hx,Option.bind_some,s1,cat_size,sized]
    rw [maxI_ok _ (by omega),bif_t,maxI_ok _ (by omega),bif_t];unfold r15_Show.v10 txt1 key1;rw [hq];simp only [bif_f,bif_t,Option.bind_some,cat_mk',cat_list];simp
  ·have hq:=idn_ne hk
   have hs2:=idn_size hk;simp only [Bool.not_true,Bool.and_false,bif_f,show decide ((0:Int)≤(i:Int))=true from decide_eq_true (by omega),bif_t,Int.toNat_natCast,hx,Option.bind_some,s1,cat_size,sized];rw [maxI_ok _ (by omega),bif_t,maxI_ok _ (by omega),bif_t];unfold r15_Show.v10 txt1 key1;rw [hq];simp only [bif_f,bif_t,Option.bind_some,show decide ((0:Int)≤(i:Int))=true from decide_eq_true (by omega),Int.toNat_natCast,hx,s1,s2,s3,cat_size,sized];rw [maxI_ok _ (by omega),bif_t,maxI_ok _ (by omega),bif_t,maxI_ok _ (by omega),bif_t];simp only [Option.bind_some,cat_mk',cat_list];simp
theorem refShow_loop(κ:Nat)(w:List ApiStep)(hw:w.length≤30)(hf:Fits κ w):∀(d i K:Nat) (acc:List UInt8),w.length=i+d→acc.length≤30*i→d<K→
  r15_Show.l6 κ K (w,⟨acc.toArray⟩,(i:Int))=some (bif (w.drop i).any badS then .inr B0 else .inl (w,⟨(acc++txt (w.drop i)).toArray⟩))
 |d,i,0,acc,_,_,h=>by omega
 |0,i,K+1,acc,hd,ha,_ =>by
  have hn:w.drop i=[]:=List.drop_eq_nil_of_le (by omega);rw [hn];unfold r15_Show.l6 r15_Show.w6;rw [show decide ((i:Int)<((w.length:Nat):Int))=false from decide_eq_false (by omega)];simp only [bif_f,List.any_nil,txt,List.flatMap_nil,List.append_nil]
 |d+1,i,K+1,acc,hd,ha,hk=>by
  have hlt:i<w.length:=by omega
  have hx:w[i]? =some w[i]:=List.getElem?_eq_getElem hlt;rw [List.drop_eq_getElem_cons hlt];unfold r15_Show.l6 r15_Show.w6;rw [show decide ((i:Int)<((w.length:Nat):Int))=true from decide_eq_true (by omega)];simp only [bif_t,refv7_eq κ w hf i _ hx acc (by omega),Option.bind_some,List.any_cons];cases hb:badS w[i]
  ·have hl:=txt1_len hb
   simp only [bif_f,Bool.false_or];rw [wrap_in _ (by omega) (by omega),show((i:Int)+1)=((i+1:Nat):Int)from by omega,refShow_loop κ w hw hf d (i+1) K (acc++txt1 w[i]) (by omega) (by rw [List.length_append];omega) (by omega)];unfold txt;simp only [List.flatMap_cons,List.append_assoc]
  ·rfl
theorem refShow_eq(κ:Nat)(w:List ApiStep)(hw:w.length≤30)(hκ:w.length<κ)(hf:Fits κ w):r15_Show κ w=some (showV w):=by
 have h:=refShow_loop κ w hw hf w.length 0 κ [] (by omega) (by simp) hκ;simp only [List.drop_zero,Int.natCast_zero,List.nil_append]at h;unfold r15_Show;rw [show(ByteArray.mk (List.toArray []))=(⟨([]:List UInt8).toArray⟩:ByteArray)from rfl,h];unfold showV;cases hb:w.any badS
 ·simp only [bif_f,Option.bind_some]
  rw [show seq (⟨(txt w).toArray⟩:ByteArray) ⟨([]:List UInt8).toArray⟩=decide (txt w=[])from seq_mk _ _];cases w with
  |nil=>rfl
  |cons x l=>
   rw [show decide (txt (x::l)=[])=false from by simp [txt,txt1],if_neg (by simp)];simp only [bif_f];by_cases h6:(x::l).length>6
   ·rw [if_pos h6,show decide ((((x::l).length:Nat):Int)>6)=true from decide_eq_true (by omega)];rfl
   ·rw [if_neg h6,show decide ((((x::l).length:Nat):Int)>6)=false from decide_eq_false (by omega)];rfl
 ·simp only [bif_t,Option.bind_some]
  cases w with
  |nil=>cases hb
  |cons x l=>
   rw [if_neg (by simp)];split<;>rfl
end Go.Proofs.YtdoifigogbdodaaGreatDoor.Pa15
namespace Go.Proofs.YtdoifigogbdodaaGreatDoor.Pa15
open Go Ev Ev.Seat Go.Lib
abbrev bs(l:List UInt8):ByteArray:=⟨l.toArray⟩
theorem hasP(κ:Nat)(c:UInt8)(l:List UInt8):internal_stringslite_HasPrefix κ (bs l) (bs [c])=some (decide (l.head? =some c)):=by
 unfold internal_stringslite_HasPrefix internal_stringslite_HasPrefix.v0;simp only [sized];cases l with
 |nil=>simp
 |cons d r=>
  have h1:(((d::r).length:Nat):Int)≥(([c].length:Nat):Int):=by simp only [List.length_cons,List.length_nil];omega
  have h2:(([c].length:Nat):Int)≤(((d::r).length:Nat):Int):=h1;have h3:(0:Int)≤(([c].length:Nat):Int):=by omega
  simp only [h1,h2,h3,decide_true,bif_t,Int.le_refl,Bool.and_self,Option.bind_some,Int.toNat_zero,Int.toNat_natCast];rw [ext_mid,seq_mk];congr 1;simp
theorem has1(κ:Nat)(c:UInt8)(l:List UInt8):strings_HasPrefix κ (bs l) (bs [c])=some (decide (l.head? =some c)):=by
 unfold strings_HasPrefix;rw [hasP];rfl
theorem cut1(κ:Nat)(c:UInt8)(r:List UInt8):strings_CutPrefix κ (bs (c::r)) (bs [c])=some (bs r,true):=by
 unfold strings_CutPrefix internal_stringslite_CutPrefix;rw [hasP];have h3:(0:Int)≤(([c].length:Nat):Int):=by omega
 have h2:(([c].length:Nat):Int)≤(((c::r).length:Nat):Int):=by simp only [List.length_cons,List.length_nil];omega
 simp only [List.head?_cons,decide_true,Option.bind_some,Bool.not_true,bif_f,sized,Int.le_refl,h2,h3,Bool.and_self,bif_t,Int.toNat_natCast];rw [ext_mid];simp
theorem sign1(κ:Nat)(c:UInt8)(r:List UInt8)(L e a:Int):path_reader_sign κ (bs [c]) (bs (c::r)) L e a=some (bs r,L,e,a):=by
 unfold path_reader_sign;rw [cut1];rfl
theorem trimL:∀(nm rest:List UInt8),nm.all okc=true→(rest=[]∨∃d r,rest=d::r∧okc d=false)→trimLeftS (nm++rest) oks=rest:=by
 intro nm rest h hr;have e:(fun c=>oks.contains c)=okc:=funext ok_eq;unfold trimLeftS;rw [e]
 induction nm with
 |nil=>
  rcases hr with rfl|⟨d,r,rfl,hd⟩
  ·rfl
  ·rw [List.nil_append,List.dropWhile_cons,hd];rfl
 |cons c l ih=>
  rw [List.all_cons,Bool.and_eq_true]at h;rw [List.cons_append,List.dropWhile_cons,h.1];exact ih h.2
theorem name_def(κ:Nat)(s:ByteArray)(L e a:Int):path_reader_name κ s L e a=
  (fun(r:ByteArray)=>(fun(k:Int)=>
   bif (((decide ((0:Int)≤k)&&decide (k≤((s.size:Nat):Int)))&&decide ((0:Int)≤(0:Int)))&&decide ((0:Int)≤k))then
    Option.bind (scalar_Ident κ (s.extract (Int.toNat 0) (Int.toNat k))) fun x0=>
     Option.bind (path_reader_name.v0 κ r (s.extract (Int.toNat 0) (Int.toNat k)) (!x0) s L e a) fun x1=>
      some (x1.2.1,x1.1,x1.2.2.2.1,x1.2.2.2.2.1,x1.2.2.2.2.2)
   else none) (IntKind.wrap .i64 (((s.size:Nat):Int)-((r.size:Nat):Int)))) (bs (trimLeftS s.data.toList oks)):=rfl
theorem idB_all{l:List UInt8}(h:idB l=true):l.all okc=true:=by
 cases l with
 |nil=>rfl
 |cons c r=>
  unfold idB at h;simp only [Bool.and_eq_true]at h;rw [List.all_cons,small_ok h.1.1,h.1.2];rfl
theorem name1(κ:Nat)(nm rest:List UInt8)(L:Int)(h:idB nm=true)(hr:rest=[]∨∃d r,rest=d::r∧okc d=false)(hl:(nm++rest).length≤1000000):
  path_reader_name κ (bs (nm++rest)) L 0 0=some (bs nm,bs rest,L,0,0):=by
 rw [name_def,data_of,trimL nm rest (idB_all h) hr];simp only [sized];have hlen:(nm++rest).length=nm.length+rest.length:=List.length_append;have hw:IntKind.wrap .i64 ((((nm++rest).length:Nat):Int)-((rest.length:Nat):Int))=(nm.length:Int):=by
  rw [wrap_in _ (by omega) (by omega)];omega
 rw [hw];rw [show decide ((0:Int)≤(nm.length:Int))=true from decide_eq_true (by omega),show decide ((nm.length:Int)≤(((nm++rest).length:Nat):Int))=true from decide_eq_true (by omega)];simp only [Int.le_refl,decide_true,Bool.and_self,bif_t,Int.toNat_natCast,Int.toNat_zero];rw [ext_mid];simp only [List.drop_zero,Nat.sub_zero,List.take_left];rw [ident,idn_eq,h];rfl
theorem step1(κ:Nat)(n:Nat)(hn:n<6)(x:ApiStep)(hx:badS x=false)(rest:List UInt8)(hr:rest=[]∨∃r,rest=47::r)(L:Int)(hl:rest.length≤1000):
  path_reader_step κ (n:Int) (bs (txt1 x++rest)) L 0 0=some (x.name,x.key,bs rest,L,0,0):=by
 obtain⟨hi,hk⟩:=badS_no hx;obtain⟨nm,ky⟩:=x;obtain⟨l,rfl⟩:=as_list nm;obtain⟨q,rfl⟩:=as_list ky;simp only [idn_eq]at hi hk;have hll:l.length≤12:=by have:=idn_size (s:=bs l) (by rw [idn_eq];exact hi);rwa [sized]at this
 unfold path_reader_step path_reader_step.v0;rw [show decide ((n:Int)≥6)=false from decide_eq_false (by omega)];simp only [bif_f,Option.bind_some,path_reader_step.v2];have e1:txt1 ⟨bs l,bs q⟩++rest=47::(l++(key1 ⟨bs l,bs q⟩++rest)):=by simp [txt1]
 rw [e1,show(ByteArray.mk (List.toArray [(47:UInt8)]))=bs [47]from rfl,sign1];simp only [Option.bind_some];unfold key1;rw [seq_B0];have h47:okc 47=false:=by decide
 have h91:okc 91=false:=by decide
 have h93:okc 93=false:=by decide
 by_cases hq:q=[]
 ·subst hq
  simp only [decide_true,bif_t,List.nil_append];rw [name1 κ l rest L hi (hr.imp id fun⟨r,h⟩=>⟨47,r,h,h47⟩) (by rw [List.length_append];omega)];simp only [Option.bind_some];rw [show(ByteArray.mk (List.toArray [(91:UInt8)]))=bs [91]from rfl,has1];have:decide (rest.head? =some 91)=false:=by
   rcases hr with rfl|⟨r,rfl⟩<;>simp
  rw [this];rfl
 ·rw [decide_eq_false hq]
  have hkq:idB q=true:=hk (by rw [seq_B0];exact decide_eq_false hq);have hql:q.length≤12:=by have:=idn_size (s:=bs q) (by rw [idn_eq];exact hkq);rwa [sized]at this
  simp only [bif_f,data_of];rw [show(91::(q++[93])++rest:List UInt8)=91::(q++(93::rest))from by simp];rw [name1 κ l _ L hi (.inr ⟨91,_,rfl,h91⟩) (by simp;omega)];simp only [Option.bind_some];rw [show(ByteArray.mk (List.toArray [(91:UInt8)]))=bs [91]from rfl,has1];simp only [List.head?_cons,decide_true,Option.bind_some,path_reader_step.v4,bif_t];rw [show(ByteArray.mk (List.toArray [(91:UInt8)]))=bs [91]from rfl,sign1];simp only [Option.bind_some];rw [name1 κ q (93::rest) L hkq (.inr ⟨93,rest,rfl,h93⟩) (by simp;omega)];simp only [Option.bind_some];rw [show(ByteArray.mk (List.toArray [(93:UInt8)]))=bs [93]from rfl,sign1];rfl
theorem txt_front:∀w:List ApiStep,txt w=[]∨∃r,txt w=47::r
 |[]=> .inl rfl
 |x::l=> .inr ⟨_,rfl⟩
theorem parse_loop(κ:Nat)(L:Int):∀(w acc:List ApiStep) (K:Nat),w.any badS=false→acc.length+w.length≤6→w.length<K→
  path_Parse.l2 κ K (bs (txt w),L,0,0,acc)=some (bs [],L,0,0,acc++w)
 |w,acc,0,_,_,h=>by omega
 |[],acc,K+1,_,_,_ =>by
  unfold path_Parse.l2 path_Parse.w2 path_Parse.v3;rw [show seq (bs (txt [])) (ByteArray.mk (List.toArray []))=true from rfl];simp only [Bool.not_true,bif_f,Option.bind_some,List.append_nil];rfl
 |x::l,acc,K+1,hb,ha,hk=>by
  have hb':=hb;rw [List.any_cons,Bool.or_eq_false_iff]at hb;rw [List.length_cons]at ha hk;have hl:=txt_len hb.2;unfold path_Parse.l2 path_Parse.w2 path_Parse.v3;rw [show seq (bs (txt (x::l))) (ByteArray.mk (List.toArray []))=false from by rw [show seq (bs (txt (x::l))) (ByteArray.mk (List.toArray []))=decide (txt (x::l)=[])from seq_mk _ _];simp [txt,txt1]];simp only [Bool.not_false,bif_t,Option.bind_some,show((0:Int)==0)=true from rfl];rw [show bs (txt (x::l))=bs (txt1 x++txt l)from rfl,step1 κ acc.length (by omega) x hb.1 (txt l) (txt_front l) L (by omega)];simp only [Option.bind_some];rw [show Nat.ble (acc.length+([(⟨x.name,x.key⟩:ApiStep)]).length) (room (31+1))=true from by rw [Nat.ble_eq];exact Nat.le_trans (show _ ≤10 by simp;omega) (by decide)];simp only [bif_t];have ih:=parse_loop κ L l (acc++[x]) K hb.2 (by rw [List.length_append,List.length_singleton];omega) (by omega);rw [ih];simp
theorem parse_eq(κ:Nat)(hκ:10≤κ)(w:List ApiStep)(hb:w.any badS=false)(h0:w≠[])(h6:w.length≤6):path_Parse κ (bs (txt w))=some (0,0,w):=by
 cases w with
 |nil=>exact(h0 rfl).elim
 |cons x l=>
  have hb':=hb;rw [List.any_cons,Bool.or_eq_false_iff]at hb;rw [List.length_cons]at h6;have hl:=txt_len hb.2;have hi:=(badS_no hb.1).1;unfold path_Parse;rw [show seq (bs (txt (x::l))) (ByteArray.mk (List.toArray [(47:UInt8)]))=decide (txt (x::l)=[47])from seq_mk _ _];rw [show decide (txt (x::l)=[47])=false from by
   refine decide_eq_false fun h=> ?_
   have h2:x.name.data.toList++key1 x++txt l=[]:=by
    have:txt (x::l)=47::(x.name.data.toList++key1 x++txt l):=by simp [txt,txt1]
    rw [this]at h
    simpa using h
   have h3:x.name.data.toList=[]:=by simp at h2;simpa using h2.1
   have:x.name=bs []:=by rw [←mk_data x.name,h3]
   rw [this,idn_eq]at hi;cases hi]
  simp only [bif_f];rw [show bs (txt (x::l))=bs (txt1 x++txt l)from rfl];have hs:=step1 κ 0 (by omega) x hb.1 (txt l) (txt_front l) (((bs (txt1 x++txt l)).size:Nat):Int) (by omega);simp only [Int.natCast_zero]at hs;rw [hs];simp only [Option.bind_some];have h:=parse_loop κ (((bs (txt1 x++txt l)).size:Nat):Int) l [x] κ hb.2 (by simp;omega) (by omega);rw [show [(⟨x.name,x.key⟩:ApiStep)]=[x]from rfl,h];rfl
end Go.Proofs.YtdoifigogbdodaaGreatDoor.Pa15

namespace Go.Proofs.YtdoifigogbdodaaGreatDoor.Va8
open Go Ev Ev.Seat
theorem bif_t{α:Type}(a b:α):(bif true then a else b)=a:=rfl
theorem wrap_in(n:Int)(h0: -9223372036854775808≤n)(h1:n≤9223372036854775807):IntKind.wrap IntKind.i64 n=n:=by
 unfold IntKind.wrap;simp [IntKind.bits,IntKind.signed];omega
theorem seq_self(s:ByteArray):seq s s=true:=by simp [seq]
end Go.Proofs.YtdoifigogbdodaaGreatDoor.Va8
namespace Go.Proofs.YtdoifigogbdodaaGreatDoor.Va8
open Go Ev Ev.Seat
theorem seq_iff{a b:ByteArray}:seq a b=true↔a=b:=by
 constructor
 ·intro h
  have h':a.data.toList=b.data.toList:=by simpa [seq] using h
  cases a with
  |mk a=>cases b with
   |mk b=>cases a with
    |mk a=>cases b with
     |mk b=>exact congrArg (fun l=>(⟨⟨l⟩⟩:ByteArray)) h'
 ·rintro rfl;exact seq_self a
end Go.Proofs.YtdoifigogbdodaaGreatDoor.Va8
namespace Go.Proofs.YtdoifigogbdodaaGreatDoor.Va8
open Go Ev Ev.Seat Go.Lib
theorem mk_data(s:ByteArray):(⟨s.data.toList.toArray⟩:ByteArray)=s:=by simp
theorem as_list(s:ByteArray):∃l:List UInt8,s=⟨l.toArray⟩:=⟨s.data.toList,(mk_data s).symm⟩
theorem data_of(l:List UInt8):(⟨l.toArray⟩:ByteArray).data.toList=l:=by simp
theorem sized(l:List UInt8):(⟨l.toArray⟩:ByteArray).size=l.length:=by show l.toArray.size=_;simp
theorem bs_inj{a b:List UInt8}:(⟨a.toArray⟩:ByteArray)=⟨b.toArray⟩↔a=b:=by
 constructor
 ·intro h
  have:=congrArg (fun s:ByteArray=>s.data.toList) h
  simpa using this
 ·rintro rfl;rfl
end Go.Proofs.YtdoifigogbdodaaGreatDoor.Va8
namespace Go.Proofs.YtdoifigogbdodaaGreatDoor.Va8
open Go Ev Ev.Seat Go.Lib
def uintV(s:ByteArray):Option Nat:=match Lib.parseUintB 64 s.data.toList with
 | .ok u=>if s=⟨(Lib.decDigits u).toArray⟩then some u else none
 |_ =>none
theorem mk_append(a b:List UInt8):(⟨a.toArray⟩:ByteArray)++(⟨b.toArray⟩:ByteArray)=⟨(a++b).toArray⟩:=by rw [ByteArray.mk_append_mk]
theorem uintV_lt{s:ByteArray}{u:Nat}(h:uintV s=some u):u<18446744073709551616:=by
 unfold uintV at h;split at h
 ·rename_i v hv
  split at h
  ·cases h;exact parse_lt hv
  ·cases h
 ·cases h
theorem dec_small{u:Nat}(h:u<10):decDigits u=[UInt8.ofNat (48+u)]:=by rw [decDigits,dif_pos h]
theorem dec_big{u:Nat}(h:¬u<10):decDigits u=decDigits (u/10)++[UInt8.ofNat (48+u%10)]:=by rw [decDigits,dif_neg h]
theorem dec_ne(u:Nat):decDigits u≠[]:=by
 by_cases h:u<10
 ·rw [dec_small h];simp
 ·rw [dec_big h];simp
theorem byte_nat{n:Nat}(h:n<256):(UInt8.ofNat n).toNat=n:=by
 simp [UInt8.toNat_ofNat'];omega
theorem parse_snoc(M:Nat)(c:UInt8):∀(l:List UInt8) (acc v:Nat),parseUintM M acc l= .ok v→48≤c.toNat→c.toNat≤57→v<1844674407370955162→v*10+(c.toNat-48)≤M→parseUintM M acc (l++[c])= .ok (v*10+(c.toNat-48))
 |[],acc,v,h,h1,h2,h3,h4=>by
  simp only [parseUintM]at h;cases h;simp only [List.nil_append,parseUintM];rw [if_pos ⟨h1,h2⟩,if_neg (by omega),if_neg (by omega)]
 |b::l,acc,v,h,h1,h2,h3,h4=>by
  simp only [parseUintM]at h;simp only [List.cons_append,parseUintM];split at h
  ·rename_i hb
   rw [if_pos hb];split at h
   ·cases h
   ·rename_i hr
    rw [if_neg hr];split at h
    ·cases h
    ·rename_i hq
     rw [if_neg hq];exact parse_snoc M c l _ v h h1 h2 h3 h4
  ·cases h
theorem parse_dec(u:Nat)(hu:u≤18446744073709551615):parseUintM 18446744073709551615 0 (decDigits u)= .ok u:=by
 induction u using Nat.strongRecOn with
 |_ u ih=>
  by_cases h:u<10
  ·rw [dec_small h]
   have hb:=byte_nat (n:=48+u) (by omega);simp only [parseUintM,hb];rw [if_pos (by omega),if_neg (by omega),if_neg (by omega)];congr 1;omega
  ·rw [dec_big h]
   have hb:=byte_nat (n:=48+u%10) (by omega);have:=parse_snoc 18446744073709551615 (UInt8.ofNat (48+u%10)) (decDigits (u/10)) 0 (u/10) (ih (u/10) (by omega) (by omega)) (by omega) (by omega) (by omega) (by omega);rw [this,hb];congr 1;omega
theorem uintV_dec(u:Nat)(hu:u<18446744073709551616):uintV ⟨(decDigits u).toArray⟩=some u:=by
 have hp:parseUintB 64 (⟨(decDigits u).toArray⟩:ByteArray).data.toList= .ok u:=by
  show parseUintB 64 (decDigits u)= .ok u;unfold parseUintB;rw [if_neg (dec_ne u)];exact parse_dec u (by omega)
 unfold uintV;rw [hp];simp
theorem dec_digits(u:Nat):∀c∈decDigits u,48≤c.toNat∧c.toNat≤57:=by
 induction u using Nat.strongRecOn with
 |_ u ih=>
  by_cases h:u<10
  ·rw [dec_small h]
   intro c hc;rw [List.mem_singleton.1 hc,byte_nat (by omega)];omega
  ·rw [dec_big h]
   intro c hc;rcases List.mem_append.1 hc with hc|hc
   ·exact ih (u/10) (by omega) c hc
   ·rw [List.mem_singleton.1 hc,byte_nat (by omega)];omega
theorem len_le{u:Nat}(hu:u<18446744073709551616):nDigits u≤20:=by
 rcases Nat.eq_zero_or_pos u with rfl|h1
 ·rw [nDigits_small (by omega)];omega
 ·have:=numDigits_eq u h1 hu;split at this<;>omega
def uintR(s:ByteArray):Int×Bool:=match uintV s with|some u=>((u:Int),true)|none=>(0,false)
theorem uintR_some{s:ByteArray}{u:Nat}(h:uintV s=some u):uintR s=((u:Int),true):=by unfold uintR;rw [h]
theorem uintR_none{s:ByteArray}(h:uintV s=none):uintR s=(0,false):=by unfold uintR;rw [h]
theorem uintOf_eq(s:ByteArray):uintOf s=uintR s:=by
 unfold uintOf uintR uintV;rcases hp:Lib.parseUintB 64 s.data.toList with u|_ |_
 rotate_left
 ·rfl
 ·rfl
 ·have hu:=parse_lt hp
  have h1:Nat.blt u 18446744073709551616=true:=by simpa [Nat.blt_eq] using hu
  simp only [h1,Bool.true_and];by_cases hq:s=⟨(Lib.decDigits u).toArray⟩
  ·have:sameBy (Lib.decDigits u) s.data.toList=true:=by rw [hq,data_of];exact sameBy_self _
   rw [this,if_pos hq];rfl
  ·have:sameBy (Lib.decDigits u) s.data.toList=false:=by
    refine Bool.eq_false_iff.2 fun h=>hq ?_
    rw [sameBy_eq h,mk_data]
   rw [this,if_neg hq];rfl
theorem my_uint(κ:Nat)(s:ByteArray)(hs:s.size≤140737488351232):scalUint κ s=some (uintR s):=by
 unfold scalUint;rw [Nat.ble_eq_true_of_le hs,uintOf_eq];rfl
theorem my_show(κ:Nat)(u:Nat)(h:u<18446744073709551616):scalShow κ (u:Int)=some ⟨(decDigits u).toArray⟩:=by
 unfold scalShow showOf;rw [show decide ((0:Int)≤(u:Int))=true from decide_eq_true (by omega),show decide ((u:Int)<18446744073709551616)=true from decide_eq_true (by omega)];rfl
end Go.Proofs.YtdoifigogbdodaaGreatDoor.Va8
namespace Go.Proofs.YtdoifigogbdodaaGreatDoor.Va8
open Go Ev Ev.Seat Go.Lib
theorem wrapu{x:Int}(h0:0≤x)(h1:x≤18446744073709551615):IntKind.wrap IntKind.u64 x=x:=by rw [IntKind.wrap_u64];omega
theorem wrap8{x:Int}(h0:0≤x)(h1:x≤255):IntKind.wrap IntKind.u8 x=x:=by rw [IntKind.wrap_u8];omega
theorem one_byte(n:Nat):(ByteArray.mk (List.toArray (List.map (fun x=>(UInt8.ofNat (Int.toNat x))) (((n:Nat):Int)::[]))))=⟨[UInt8.ofNat n].toArray⟩:=rfl
theorem show_digit(y:Nat)(hy:y<18446744073709551616):IntKind.wrap IntKind.u8 (IntKind.wrap IntKind.u64 ((48:Int)+Int.tmod (y:Int) 10))=((48+y%10:Nat):Int):=by
 rw [Int.tmod_eq_emod_of_nonneg (by omega),wrapu (by omega) (by omega),wrap8 (by omega) (by omega)];omega
theorem showU_loop(κ:Nat):∀(K x:Nat) (l:List UInt8),x<18446744073709551616→nDigits x<K→l.length+nDigits x≤1000→
  r06_ShowUint.l0 κ K ((x:Int),⟨l.toArray⟩)=some (⟨((if x<10 then []else decDigits (x/10))++l).toArray⟩:ByteArray)
 |0,x,l,_,h,_ =>by omega
 |K+1,x,l,hx,hK,hl=>by
  unfold r06_ShowUint.l0 r06_ShowUint.w0;by_cases h:x<10
  ·rw [if_pos h,show decide (((x:Nat):Int)>9)=false from decide_eq_false (by omega)]
   rfl
  ·have hd:IntKind.wrap IntKind.u64 (Int.tdiv (x:Int) 10)=((x/10:Nat):Int):=by
    rw [Int.tdiv_eq_ediv_of_nonneg (by omega),wrapu (by omega) (by omega)];omega
   have hb:=nDigits_big h;rw [show decide (((x:Nat):Int)>9)=true from decide_eq_true (by omega),hd,show_digit _ (by omega),one_byte];have hle:Nat.ble (ByteArray.size ⟨[UInt8.ofNat (48+x/10%10)].toArray⟩+ByteArray.size ⟨l.toArray⟩) maxI=true:=Nat.ble_eq_true_of_le (by rw [sized,sized,List.length_singleton];unfold maxI;omega);rw [hle];simp only [bif_t];rw [mk_append,List.singleton_append,showU_loop κ K (x/10) (UInt8.ofNat (48+x/10%10)::l) (by omega) (by omega) (by rw [List.length_cons];omega),if_neg h];congr 3;by_cases h2:x/10<10
   ·rw [if_pos h2,dec_small h2]
    have e:x/10%10=x/10:=by omega
    rw [e];rfl
   ·rw [if_neg h2,dec_big h2,List.append_assoc];rfl
theorem ref_show(κ:Nat)(hκ:30≤κ)(u:Nat)(h:u<18446744073709551616):r06_ShowUint κ (u:Int)=some (⟨(decDigits u).toArray⟩:ByteArray):=by
 have hlen:=len_le h;unfold r06_ShowUint;rw [show_digit u h,one_byte,showU_loop κ κ u _ h (by omega) (by rw [List.length_singleton];omega)];simp only [Option.bind_some];congr 3;by_cases hu:u<10
 ·rw [if_pos hu,dec_small hu]
  have e:u%10=u:=by omega
  rw [e];rfl
 ·rw [if_neg hu,dec_big hu]
theorem dec_sz(u:Nat)(h:u<18446744073709551616):(⟨(decDigits u).toArray⟩:ByteArray).size≤40:=by
 have:=len_le h;rw [sized,decDigits_length];omega
end Go.Proofs.YtdoifigogbdodaaGreatDoor.Va8
namespace Go.Proofs.YtdoifigogbdodaaGreatDoor.Va8
open Go Ev Ev.Seat Go.Lib
end Go.Proofs.YtdoifigogbdodaaGreatDoor.Va8

namespace Go.Proofs.YtdoifigogbdodaaGreatDoor.Lex5
open Go Go.Lib
structure Sg where
 t:List UInt8
 ok:Bool
 deriving DecidableEq
def letterB(b:UInt8):Bool:=
 (97≤b.toNat&&b.toNat≤122)||(65≤b.toNat&&b.toNat≤90)||(48≤b.toNat&&b.toNat≤57)||b.toNat==95||b.toNat==45||b.toNat==46
def letter:List UInt8→Bool
 |[b]=>letterB b
 |_ =>false
attribute [irreducible] letterB
end Go.Proofs.YtdoifigogbdodaaGreatDoor.Lex5
namespace Go.Proofs.YtdoifigogbdodaaGreatDoor.Ev
open Go Go.Lib
theorem bs_size(l:List UInt8):(ByteArray.mk (List.toArray l)).size=l.length:=by simp [Lib.size_eq]
theorem bs_data(l:List UInt8):Array.toList (ByteArray.data (ByteArray.mk (List.toArray l)))=l:=by simp
theorem bs_seq(a b:List UInt8):Ev.seq (ByteArray.mk (List.toArray a)) (ByteArray.mk (List.toArray b))=(a==b):=by simp [seq]
theorem bs_extract(l:List UInt8)(i j:Nat):ByteArray.extract (ByteArray.mk (List.toArray l)) i j=ByteArray.mk (List.toArray ((l.drop i).take (j-i))):=by
 rw [Lib.extract_eq]
theorem wrap_in(n:Int)(h0: -9223372036854775808≤n)(h1:n≤9223372036854775807):IntKind.wrap IntKind.i64 n=n:=by
 rw [IntKind.wrap_i64];omega
end Go.Proofs.YtdoifigogbdodaaGreatDoor.Ev
namespace Go.Proofs.YtdoifigogbdodaaGreatDoor.Lex5
open Go Go.Lib Ev Ev.Seat
theorem bif_t{α:Type}(a b:α):(bif true then a else b)=a:=rfl
theorem bif_f{α:Type}(a b:α):(bif false then a else b)=b:=rfl
theorem all_bytes{p:UInt8→Prop}[DecidablePred p](h:∀i:Fin 256,p (UInt8.ofNat i.val))(b:UInt8):p b:=by
 have:=h ⟨b.toNat,b.toNat_lt⟩
 simpa using this
end Go.Proofs.YtdoifigogbdodaaGreatDoor.Lex5
namespace Go.Proofs.YtdoifigogbdodaaGreatDoor.Lex5
open Go Go.Lib Ev Ev.Seat
end Go.Proofs.YtdoifigogbdodaaGreatDoor.Lex5
namespace Go.Proofs.YtdoifigogbdodaaGreatDoor.Lex5
open Go Go.Lib Ev Ev.Seat
theorem maxI_ok(n:Nat)(h:n≤3000000):Nat.ble n maxI=true:=by
 rw [Nat.ble_eq];exact Nat.le_trans h (by decide)
end Go.Proofs.YtdoifigogbdodaaGreatDoor.Lex5
namespace Go.Proofs.YtdoifigogbdodaaGreatDoor.Lex5
open Go Go.Lib Ev Ev.Seat
def letters:List UInt8:=(List.append (97::98::99::100::101::102::103::104::105::106::107::108::109::110::111::112::113::114::115::116::117::118::119::120::121::122::65::66::67::68::69::70::[]) (71::72::73::74::75::76::77::78::79::80::81::82::83::84::85::86::87::88::89::90::48::49::50::51::52::53::54::55::56::57::95::45::46::[]))
theorem letters_mem(b:UInt8):letters.contains b=letterB b:=by
 refine all_bytes (p:=fun b=>letters.contains b=letterB b) ?_ b;decide+kernel
end Go.Proofs.YtdoifigogbdodaaGreatDoor.Lex5
namespace Go.Proofs.YtdoifigogbdodaaGreatDoor.Lex5
open Go Go.Lib Ev Ev.Seat
end Go.Proofs.YtdoifigogbdodaaGreatDoor.Lex5
namespace Go.Proofs.YtdoifigogbdodaaGreatDoor.Lex5
open Go Go.Lib Ev Ev.Seat
end Go.Proofs.YtdoifigogbdodaaGreatDoor.Lex5
namespace Go.Proofs.YtdoifigogbdodaaGreatDoor.Lex5
open Go Go.Lib Ev Ev.Seat
end Go.Proofs.YtdoifigogbdodaaGreatDoor.Lex5
namespace Go.Proofs.YtdoifigogbdodaaGreatDoor.Lex5
open Go Go.Lib Ev Ev.Seat
end Go.Proofs.YtdoifigogbdodaaGreatDoor.Lex5
namespace Go.Proofs.YtdoifigogbdodaaGreatDoor.Lex5
open Go Go.Lib Ev Ev.Seat
theorem letter_eq{κ:Nat}(t:List UInt8):r05_letter κ ((ByteArray.mk (List.toArray t)))=some (letter t):=by
 unfold r05_letter;rw [bs_size,bs_data]
 match t with
 |[]=>rfl
 |[b]=>
  have e:((([b].length:Nat):Int) !=1)=false:=by simp
  rw [e,bif_f];simp only [Int.toNat_zero,List.getElem?_cons_zero,Option.bind_some];have hv:∀x,r05_letter.v0 κ x=r05_letter.v0 0 x:=fun x=>rfl
  rw [hv];have:r05_letter.v0 0 ((b.toNat:Nat):Int)=some (letterB b):=by
   refine all_bytes (p:=fun b=>r05_letter.v0 0 ((b.toNat:Nat):Int)=some (letterB b)) ?_ b;decide+kernel
  rw [this];rfl
 |a::b::t=>
  have e:(((((a::b::t).length:Nat)):Int) !=1)=true:=by simp;omega
  rw [e];rfl
end Go.Proofs.YtdoifigogbdodaaGreatDoor.Lex5
namespace Go.Proofs.YtdoifigogbdodaaGreatDoor.Lex5
open Go Go.Lib Ev Ev.Seat
end Go.Proofs.YtdoifigogbdodaaGreatDoor.Lex5
namespace Go.Proofs.YtdoifigogbdodaaGreatDoor.Lex5
open Go Go.Lib Ev Ev.Seat
theorem wrap_succ{i n:Nat}(h:i+n≤2000000):IntKind.wrap IntKind.i64 ((i:Int)+(n:Int))=((i+n:Nat):Int):=by
 rw [wrap_in _ (by omega) (by omega)];omega
theorem wrap_succ1{i:Nat}(h:i+1≤2000000):IntKind.wrap IntKind.i64 ((i:Int)+1)=((i+1:Nat):Int):=wrap_succ (n:=1) h
theorem d0n(n:Nat):decide ((0:Int)≤(n:Int))=true:=by simp
end Go.Proofs.YtdoifigogbdodaaGreatDoor.Lex5
namespace Go.Proofs.YtdoifigogbdodaaGreatDoor.Lex5
open Go Go.Lib Ev Ev.Seat
end Go.Proofs.YtdoifigogbdodaaGreatDoor.Lex5
namespace Go.Proofs.YtdoifigogbdodaaGreatDoor.Lex5
open Go Go.Lib Ev Ev.Seat
end Go.Proofs.YtdoifigogbdodaaGreatDoor.Lex5
namespace Go.Proofs.YtdoifigogbdodaaGreatDoor.Lex5
open Go Go.Lib
end Go.Proofs.YtdoifigogbdodaaGreatDoor.Lex5
namespace Go.Proofs.YtdoifigogbdodaaGreatDoor.Lex5
open Go Go.Lib Ev Ev.Seat
end Go.Proofs.YtdoifigogbdodaaGreatDoor.Lex5
namespace Go.Proofs.YtdoifigogbdodaaGreatDoor.Lex5
open Go Go.Lib Ev Ev.Seat
end Go.Proofs.YtdoifigogbdodaaGreatDoor.Lex5
namespace Go.Proofs.YtdoifigogbdodaaGreatDoor.Lex5
open Go Go.Lib Ev Ev.Seat
end Go.Proofs.YtdoifigogbdodaaGreatDoor.Lex5
namespace Go.Proofs.YtdoifigogbdodaaGreatDoor.Lex5
open Go Go.Lib
end Go.Proofs.YtdoifigogbdodaaGreatDoor.Lex5
namespace Go.Proofs.YtdoifigogbdodaaGreatDoor.Lex5
open Go Go.Lib Ev Ev.Seat
end Go.Proofs.YtdoifigogbdodaaGreatDoor.Lex5
namespace Go.Proofs.YtdoifigogbdodaaGreatDoor.Lex5
open Go Go.Lib Ev Ev.Seat
def plainB(l:List UInt8):Bool:=l !=[]&&l.all letterB
theorem dropWhile_nil{f:UInt8→Bool}:∀{l:List UInt8},l.dropWhile f=[]↔l.all f=true
 |[]=>by simp
 |b::l=>by
  rw [List.dropWhile_cons,List.all_cons];cases f b
  ·simp
  ·simp only [if_true,Bool.true_and];exact dropWhile_nil
theorem trim_nil(l:List UInt8):(trimS l letters=[])↔l.all letterB=true:=by
 have hf:(fun b=>letters.contains b)=letterB:=funext letters_mem;unfold trimS trimLeftS trimRightS;rw [hf,dropWhile_nil];constructor
 ·intro h
  rw [List.all_reverse]at h;have h2:l.reverse.all letterB=true:=by
   have h3:=List.takeWhile_append_dropWhile (p:=letterB) (l:=l.reverse);rw [←h3,List.all_append,Bool.and_eq_true];refine⟨?_,h⟩;rw [List.all_eq_true];intro x hx;exact List.all_eq_true.1 (List.all_takeWhile (l:=l.reverse) (p:=letterB)) x hx
  rw [List.all_reverse]at h2;exact h2
 ·intro h
  have h2:l.reverse.dropWhile letterB=[]:=dropWhile_nil.2 (by rw [List.all_reverse];exact h);rw [h2];rfl
theorem refPlain_loop{κ:Nat}(l:List UInt8)(hl:l.length≤1000000):∀(n k i:Nat),i+n=l.length→n<k→
  r05_Plain.l0 κ k ((ByteArray.mk (List.toArray l)),(i:Int))=some (if(l.drop i).all letterB=true then .inl ((ByteArray.mk (List.toArray l)))else .inr false):=by
 intro n
 induction n with
 |zero=>
  intro k i hi hk;obtain⟨k,rfl⟩:∃j,k=j+1:=⟨k-1,by omega⟩
  have d:decide ((i:Int)<(l.length:Int))=false:=by simp;omega
  simp only [r05_Plain.l0,r05_Plain.w0,bs_size,d,bif_f];rw [List.drop_eq_nil_of_le (by omega),if_pos (by rfl)]
 |succ n ih=>
  intro k i hi hk;obtain⟨k,rfl⟩:∃j,k=j+1:=⟨k-1,by omega⟩
  have d:decide ((i:Int)<(l.length:Int))=true:=by simp;omega
  have hlt:i<l.length:=by omega
  have w1:=wrap_succ1 (show i+1≤2000000 by omega);have d1:decide ((0:Int)≤((i+1:Nat):Int))=true:=by simp;omega
  have d2:decide (((i+1:Nat):Int)≤(l.length:Int))=true:=by simp;omega
  have d4:decide ((i:Int)≤((i+1:Nat):Int))=true:=by simp;omega
  have hb:(l.drop i).take (i+1-i)=[l[i]]:=by
   rw [show i+1-i=1 by omega,List.drop_eq_getElem_cons hlt];rfl
  have hl1:letter [l[i]]=letterB l[i]:=rfl;simp only [r05_Plain.l0,r05_Plain.w0,bs_size,d,bif_t,w1,d1,d2,d0n,d4,Bool.and_self,bs_extract,Int.toNat_natCast,hb,letter_eq,Option.bind_some,hl1];rw [List.drop_eq_getElem_cons hlt,List.all_cons];cases letterB l[i]
  ·simp only [Bool.not_false,bif_t,Bool.false_and,Bool.false_eq_true,if_false]
  ·simp only [Bool.not_true,bif_f,Bool.true_and]
   exact ih k (i+1) (by omega) (by omega)
theorem refPlain_eq{κ:Nat}(l:List UInt8)(hl:l.length≤1000000)(hκ:l.length<κ):r05_Plain κ ((ByteArray.mk (List.toArray l)))=some (plainB l):=by
 unfold r05_Plain;have h:=refPlain_loop (κ:=κ) l hl l.length κ 0 (by omega) hκ;have h':r05_Plain.l0 κ κ (Prod.mk ((ByteArray.mk (List.toArray l))) (0:Int))=_ :=h;rw [h',List.drop_zero];unfold plainB;cases hall:l.all letterB
 ·simp
 ·simp only [if_true,Option.bind_some,Bool.and_true]
  have e1:Ev.seq ((ByteArray.mk (List.toArray l))) ((ByteArray.mk (List.toArray [])))=(l==[]):=bs_seq l [];rw [e1];rfl
end Go.Proofs.YtdoifigogbdodaaGreatDoor.Lex5

namespace Go.Proofs.YtdoifigogbdodaaGreatDoor.Wo
open Go Ev Ev.Seat Go.Lib
abbrev B(l:List UInt8):ByteArray:=ByteArray.mk (List.toArray l)
theorem bif_t{α:Type}(a b:α):(bif true then a else b)=a:=rfl
theorem bif_f{α:Type}(a b:α):(bif false then a else b)=b:=rfl
def ints(l:List UInt8):List Int:=l.map fun b=>((b.toNat:Nat):Int)
theorem B_data(l:List UInt8):(B l).data.toList=l:=rfl
theorem B_of(s:ByteArray):B s.data.toList=s:=by simp
theorem B_size(l:List UInt8):(B l).size=l.length:=Pa15.sized l
theorem seq_B(a b:List UInt8):seq (B a) (B b)=decide (a=b):=Pa15.seq_mk a b
theorem B_inj{a b:List UInt8}:B a=B b↔a=b:=Pa15.bs_inj
def hexd:List UInt8:=[48,49,50,51,52,53,54,55,56,57,97,98,99,100,101,102]
def hx(n:Nat):UInt8:=hexd.getD n 0
def hexL:List UInt8→List UInt8
 |[]=>[]
 |c::r=>hx (c.toNat/16)::hx (c.toNat%16)::hexL r
theorem hexL_len:∀l:List UInt8,(hexL l).length=2*l.length
 |[]=>rfl
 |c::r=>by simp only [hexL,List.length_cons,hexL_len r];omega
theorem hi_all:∀n:Fin 256,decide ((0:Int)≤(Int.fdiv ((n.val:Nat):Int) ((2:Int)^(Min.min (Int.toNat (4:Int)) (IntKind.bits IntKind.u8)))))=true∧
  hexd[Int.toNat (Int.fdiv ((n.val:Nat):Int) ((2:Int)^(Min.min (Int.toNat (4:Int)) (IntKind.bits IntKind.u8))))]? =some (hx (n.val/16)):=by decide+kernel
theorem lo_all:∀n:Fin 256,hexd[Int.toNat (IntKind.wrap IntKind.u8 (((BitVec.toNat (HAnd.hAnd (BitVec.ofInt (IntKind.bits IntKind.u8) ((n.val:Nat):Int)) (BitVec.ofInt (IntKind.bits IntKind.u8) (15:Int)))):Nat):Int))]? =some (hx (n.val%16)):=by decide+kernel
theorem hi_eq(c:UInt8):decide ((0:Int)≤(Int.fdiv ((c.toNat:Nat):Int) ((2:Int)^(Min.min (Int.toNat (4:Int)) (IntKind.bits IntKind.u8)))))=true∧
  hexd[Int.toNat (Int.fdiv ((c.toNat:Nat):Int) ((2:Int)^(Min.min (Int.toNat (4:Int)) (IntKind.bits IntKind.u8))))]? =some (hx (c.toNat/16)):=hi_all ⟨c.toNat,c.toNat_lt⟩
theorem lo_eq(c:UInt8):hexd[Int.toNat (IntKind.wrap IntKind.u8 (((BitVec.toNat (HAnd.hAnd (BitVec.ofInt (IntKind.bits IntKind.u8) ((c.toNat:Nat):Int)) (BitVec.ofInt (IntKind.bits IntKind.u8) (15:Int)))):Nat):Int))]? =some (hx (c.toNat%16)):=lo_all ⟨c.toNat,c.toNat_lt⟩
theorem room_ok(n:Nat)(h:n≤3000000):Nat.ble n (room (0+1))=true:=Nat.ble_eq_true_of_le (by unfold room;omega)
theorem wb2{κ:Nat}(a:UInt8)(acc:List UInt8)(h:acc.length<1000000):strings_Builder_WriteByte_2 κ ((a.toNat:Nat):Int) (ints acc)=some (ints (acc++[a])):=by
 unfold strings_Builder_WriteByte_2;rw [room_ok _ (by simp [ints];omega)];simp [ints]
theorem wb3{κ:Nat}(a:UInt8)(acc:List UInt8)(h:acc.length<1000000):strings_Builder_WriteByte_3 κ ((a.toNat:Nat):Int) (ints acc)=some (ints (acc++[a])):=wb2 (κ:=κ) a acc h
theorem ints_get(l:List UInt8)(i:Nat):(ints l)[i]? =(l[i]?).map fun b=>((b.toNat:Nat):Int):=by simp [ints]
theorem wrap1(i:Nat)(h:i<1000000):IntKind.wrap IntKind.i64 (((i:Nat):Int)+1)=((i+1:Nat):Int):=by
 rw [Pa15.wrap_in _ (by omega) (by omega)];rfl
theorem hex_step{κ:Nat}(rec:_)(l:List UInt8)(i:Nat)(acc:List UInt8)(c:UInt8)(hi:l[i]? =some c)(hacc:acc.length<100000)(hl:l.length<100000):
  words_hex.w0_1 κ rec (ints l) ((l.length:Nat):Int) ((i:Nat):Int) (ints acc)=rec (.inr (ints l,((l.length:Nat):Int),((i+1:Nat):Int),ints (acc++[hx (c.toNat/16),hx (c.toNat%16)]))):=by
 have hlt:=(List.getElem?_eq_some_iff.1 hi).1;unfold words_hex.w0_1;rw [show decide (((i:Nat):Int)<((l.length:Nat):Int))=true from decide_eq_true (by omega),show decide ((0:Int)≤((i:Nat):Int))=true from decide_eq_true (by omega),Int.toNat_natCast,ints_get,hi];simp only [bif_t,Option.map_some,Option.bind_some];rw [(hi_eq c).1];simp only [bif_t];rw [show([48,49,50,51,52,53,54,55,56,57,97,98,99,100,101,102]:List UInt8)=hexd from rfl,(hi_eq c).2,lo_eq c];simp only [Option.bind_some];rw [wb2 _ _ (by omega)];simp only [Option.bind_some];rw [wb2 _ _ (by simp;omega),wrap1 i (by omega)];simp [List.append_assoc]
theorem hex_stepA{κ:Nat}(rec:_)(l:List UInt8)(i:Nat)(acc:List UInt8)(c:UInt8)(hi:l[i]? =some c)(hacc:acc.length<100000)(hl:l.length<100000):
  words_hex.w0 κ rec (ints l) ((l.length:Nat):Int) ((i:Nat):Int) (ints acc)=rec (.inr (ints l,((l.length:Nat):Int),((i+1:Nat):Int),ints (acc++[hx (c.toNat/16),hx (c.toNat%16)]))):=by
 have hlt:=(List.getElem?_eq_some_iff.1 hi).1;unfold words_hex.w0;rw [show decide (((i:Nat):Int)<((l.length:Nat):Int))=true from decide_eq_true (by omega),show decide ((0:Int)≤((i:Nat):Int))=true from decide_eq_true (by omega),Int.toNat_natCast,ints_get,hi];simp only [bif_t,Option.map_some,Option.bind_some];rw [(hi_eq c).1];simp only [bif_t];rw [show([48,49,50,51,52,53,54,55,56,57,97,98,99,100,101,102]:List UInt8)=hexd from rfl,(hi_eq c).2,lo_eq c];simp only [Option.bind_some];rw [wb3 _ _ (by omega)];simp only [Option.bind_some];rw [wb2 _ _ (by simp;omega),wrap1 i (by omega)];simp [List.append_assoc]
theorem hex_step0{κ:Nat}(rec:_)(l:List UInt8)(c:UInt8)(hi:l[0]? =some c)(hl:l.length<100000):
  words_hex.w0 κ rec (ints l) ((l.length:Nat):Int) 0 []=rec (.inr (ints l,((l.length:Nat):Int),((1:Nat):Int),ints [hx (c.toNat/16),hx (c.toNat%16)])):=by
 have h:=hex_stepA (κ:=κ) rec l 0 [] c hi (by simp) hl;exact h
theorem hex_loop{κ:Nat}(l:List UInt8)(hl:l.length≤40000):∀(d i K:Nat) (acc:List UInt8),l.length=i+d→d<K→acc.length≤2*i→
  words_hex.l0 κ K (.inr (ints l,((l.length:Nat):Int),((i:Nat):Int),ints acc))=some (.inr (ints (acc++hexL (l.drop i))))
 |0,i,K+1,acc,h,_,_ =>by
  simp only [words_hex.l0];unfold words_hex.w0_1;rw [show decide (((i:Nat):Int)<((l.length:Nat):Int))=false from decide_eq_false (by omega)];simp only [bif_f];rw [List.drop_eq_nil_of_le (by omega)];simp [hexL]
 |d+1,i,K+1,acc,h,hk,ha=>by
  have hlt:i<l.length:=by omega
  simp only [words_hex.l0];rw [hex_step _ l i acc l[i] (List.getElem?_eq_getElem hlt) (by omega) (by omega),hex_loop l hl d (i+1) K _ (by omega) (by omega) (by simp;omega),List.drop_eq_getElem_cons hlt];simp [hexL,List.append_assoc]
theorem str_eq{κ:Nat}(l:List UInt8)(h:l.length≤1000000):strings_Builder_String κ (ints l)=some (B l):=by
 unfold strings_Builder_String;have:Nat.ble (List.length (ints l)) maxI=true:=Nat.ble_eq_true_of_le (by simp [ints,maxI];omega);rw [this];simp only [decide_true,Bool.and_self,bif_t];congr 1;exact Pa15.bytes_ints l
theorem hex_eq{κ:Nat}(l:List UInt8)(hl:l.length≤40000)(hκ:l.length<κ):words_hex κ (ints l)=some (B (hexL l)):=by
 unfold words_hex;have hlen:List.length (ints l)=l.length:=by simp [ints]
 rw [hlen];cases κ with
 |zero=>omega
 |succ κ=>
  simp only [words_hex.l0];cases l with
  |nil=>rfl
  |cons c r=>
   rw [hex_step0 _ (c::r) c rfl (by omega),hex_loop (c::r) hl r.length 1 κ _ (by simp;omega) (by simp at hκ;omega) (by simp)];simp only [Option.bind_some];have:=str_eq (κ:=κ+1) ([hx (c.toNat/16),hx (c.toNat%16)]++hexL ((c::r).drop 1)) (by simp [hexL_len]at hl⊢;omega);rw [show strings_Builder_String_2 (κ+1) _ =strings_Builder_String (κ+1) _ from rfl,this];rfl
def numL(n:Int):List UInt8:=decDigits n.toNat
theorem show_num{κ:Nat}{n:Int}(h:0≤n∧n<18446744073709551616):scalShow κ n=some (B (numL n)):=by
 obtain⟨k,rfl⟩:=Int.eq_ofNat_of_zero_le h.1;exact Va8.my_show κ k (by omega)
def whoL(w:Int):List UInt8:=numL (IntKind.u64.wrap w)
theorem show_who{κ:Nat}(w:Int):scalShow κ (IntKind.wrap IntKind.u64 w)=some (B (whoL w)):=show_num (by rw [IntKind.wrap_u64];omega)
def datL(l:List Int):List UInt8:=l.map fun x=>UInt8.ofNat (Int.toNat x)
theorem ints_dat{l:List Int}(h:∀x∈l,0≤x∧x<256):ints (datL l)=l:=by
 unfold ints datL;rw [List.map_map]
 conv=>rhs;rw [←List.map_id l]
 refine List.map_congr_left fun x hx=> ?_
 obtain⟨h1,h2⟩:=h x hx;simp only [Function.comp,id];rw [show(UInt8.ofNat x.toNat).toNat=x.toNat from by simp;omega];omega
end Go.Proofs.YtdoifigogbdodaaGreatDoor.Wo

namespace Go.Proofs.YtdoifigogbdodaaGreatDoor.Wo
open Go Ev Ev.Seat Go.Lib
def whoOk(w:Int):Bool:=decide (1≤w)&&decide (w≤9)
def wayL(w:List ApiStep):List UInt8:=(Pa15.showV w).data.toList
def wayOk(w:List ApiStep):Bool:=decide (0<w.length)&& !(seq (Pa15.showV w) (B []))
def storeL(b:Bool):List UInt8:=bif b then [114,117,110,110,105,110,103]else [99,97,110,100,105,100,97,116,101]
def formL(b:Bool):List UInt8:=bif b then [98,121,116,101,115]else [116,101,120,116]
theorem plain_any{κ:Nat}(s:ByteArray)(hl:s.size≤140737488351232):lex_Plain κ s=some (Lex5.plainB s.data.toList):=by
 rw [←B_of s]at hl⊢;generalize s.data.toList=l at hl⊢;rw [B_size]at hl;unfold lex_Plain lex_Plain.v0 Lex5.plainB;have e1:Ev.seq (B l) (B [])=(l==[]):=Ev.bs_seq l [];rw [e1];by_cases h:l=[]
 ·subst h;rfl
 ·have e2:(l==[])=false:=by simp [h]
  have e3:(l !=[])=true:=by simp [h]
  rw [e2,e3];simp only [Bool.not_false,bif_t,Bool.true_and];have hd:ByteArray.mk (List.toArray (List.append (97::98::99::100::101::102::103::104::105::106::107::108::109::110::111::112::113::114::115::116::117::118::119::120::121::122::65::66::67::68::69::70::[]) (71::72::73::74::75::76::77::78::79::80::81::82::83::84::85::86::87::88::89::90::48::49::50::51::52::53::54::55::56::57::95::45::46::[])))=B Lex5.letters:=rfl;rw [hd];unfold strings_Trim;have g1:asciiB (B Lex5.letters)=true:=by unfold asciiB;rw [Ev.bs_data];decide+kernel
  have g2:Nat.blt (B Lex5.letters).size 4294967281=true:=by rw [Ev.bs_size];decide+kernel
  have g3:Nat.ble (B l).size maxI=true:=by rw [Ev.bs_size];exact Nat.ble_eq_true_of_le (by unfold maxI;omega)
  rw [g1,g2,g3];simp only [Bool.and_self,bif_t,Option.bind_some,Ev.bs_data,Ev.bs_seq];congr 1;cases hall:l.all Lex5.letterB
  ·have:¬trimS l Lex5.letters=[]:=fun hh=>by rw [(Lex5.trim_nil l).1 hh]at hall;cases hall
   simp [this]
  ·have:=(Lex5.trim_nil l).2 hall
   simp [this]
structure Fit(way:List ApiStep)(val:ByteArray)(n fl sz:Int)(dat:List Int):Prop where
 hn:0≤n∧n<18446744073709551616
 hfl:0≤fl∧fl<18446744073709551616
 hsz:0≤sz∧sz<18446744073709551616
 hval:val.size≤140737488351232
 hdat:dat.length≤15000
 hbyt:∀x∈dat,0≤x∧x<256
def resL:Option (List (List UInt8))→ByteArray×Bool
 |some ws=>(B (Lib.join ws [32]),true)
 |none=>(B [],false)
theorem join_ok{κ:Nat}(ws:List (List UInt8))(h:(Lib.join ws [32]).length≤140737488355328)(hl:ws.length≤10):strJoin κ (ws.map B) (B [32])=some (B (Lib.join ws [32])):=by
 have hm:(ws.map B).map (·.data.toList)=ws:=by
  rw [List.map_map]
  conv=>rhs;rw [←List.map_id ws]
  exact List.map_congr_left fun x hx=>rfl
 unfold strJoin joinV;rw [hm];have h1:Nat.ble (Lib.join ws (B [32]).data.toList).length 140737488355328=true:=Nat.ble_eq_true_of_le h;have h2:Nat.ble (ws.map B).length 1000000=true:=Nat.ble_eq_true_of_le (by rw [List.length_map];omega);rw [h1,h2];rfl
theorem ln0:Lib.lens []=0:=rfl
theorem ln1(a:List UInt8)(r:List (List UInt8)):Lib.lens (a::r)=a.length+Lib.lens r:=rfl
theorem lc{α:Type}(a:α)(r:List α):(a::r).length=r.length+1:=rfl
theorem l0{α:Type}:([]:List α).length=0:=rfl
theorem rm2:Nat.ble (0+1+(0+1)) (room (15+1))=true:=rfl
theorem rm3:Nat.ble (0+1+(0+1)+(0+1)) (room (15+1))=true:=rfl
theorem rm4:Nat.ble (0+1+(0+1)+(0+1)+(0+1)) (room (15+1))=true:=rfl
theorem rm5:Nat.ble (0+1+(0+1)+(0+1)+(0+1)+(0+1)) (room (15+1))=true:=rfl
theorem lensum:∀(ws:List (List UInt8)),(Lib.join ws [32]).length≤Lib.lens ws+ws.length
 |[]=>by simp [Lib.join_nil]
 |x::r=>by rw [Lib.join_length];simp;omega
theorem num_len{n:Int}(h:0≤n∧n<18446744073709551616):(numL n).length≤40:=by
 have:=Va8.dec_sz n.toNat (by omega);rw [Va8.sized]at this;exact this
theorem who_len(w:Int):(whoL w).length≤40:=num_len (by rw [IntKind.wrap_u64];omega)
theorem way_len(w:List ApiStep):(wayL w).length≤1000:=by
 unfold wayL Pa15.showV;split
 ·decide
 ·split
  ·decide
  ·rename_i h1 h2
   cases hb:w.any Pa15.badS
   ·simp only [bif_f]
    have:=Pa15.txt_len hb;show(Pa15.txt w).length≤1000;omega
   ·simp only [bif_t];decide
theorem id_len{s:ByteArray}(h:Pa15.idn s=true):s.data.toList.length≤12:=Pa15.idn_size h
theorem dat_len(l:List Int):(datL l).length=l.length:=by simp [datL]
theorem store_len(b:Bool):(storeL b).length≤10:=by cases b<;>decide
theorem form_len(b:Bool):(formL b).length≤10:=by cases b<;>decide
theorem sh1{κ:Nat}(k who:Int)(way:List ApiStep)(val:ByteArray)(n:Int)(run ab:Bool)(port:ByteArray)(fl sz:Int)(dat:List Int)(w:ByteArray):words_show κ w k who way val n run ab port fl sz dat=some (w,true,k,who,way,val,n,run,ab,port,fl,sz,dat):=rfl
theorem sh2{κ:Nat}(k who:Int)(way:List ApiStep)(val:ByteArray)(n:Int)(run ab:Bool)(port:ByteArray)(fl sz:Int)(dat:List Int):words_show_2 κ k who way val n run ab port fl sz dat=some (B (whoL who),whoOk who,k,who,way,val,n,run,ab,port,fl,sz,dat):=by
 unfold words_show_2 whoOk;rw [show_who];simp only [Option.bind_some,ge_iff_le];cases decide (1≤who)<;>rfl
theorem sh3{κ:Nat}(k who:Int)(way:List ApiStep)(val:ByteArray)(n:Int)(run ab:Bool)(port:ByteArray)(fl sz:Int)(dat:List Int):words_show_3 κ k who way val n run ab port fl sz dat=some (port,Pa15.idn port,k,who,way,val,n,run,ab,port,fl,sz,dat):=by
 unfold words_show_3;rw [Pa15.ident];rfl
theorem sh4{κ:Nat}(k who:Int)(way:List ApiStep)(val:ByteArray)(n:Int)(run ab:Bool)(port:ByteArray)(fl sz:Int)(dat:List Int)(h:0≤n∧n<18446744073709551616):words_show_4 κ k who way val n run ab port fl sz dat=some (B (numL n),true,k,who,way,val,n,run,ab,port,fl,sz,dat):=by
 unfold words_show_4;rw [show_num h];rfl
theorem sh5{κ:Nat}(k who:Int)(way:List ApiStep)(val:ByteArray)(n:Int)(run ab:Bool)(port:ByteArray)(fl sz:Int)(dat:List Int)(h:0≤fl∧fl<18446744073709551616):words_show_5 κ k who way val n run ab port fl sz dat=some (B (numL fl),true,k,who,way,val,n,run,ab,port,fl,sz,dat):=by
 unfold words_show_5;rw [show_num h];rfl
theorem sh6{κ:Nat}(k who:Int)(way:List ApiStep)(val:ByteArray)(n:Int)(run ab:Bool)(port:ByteArray)(fl sz:Int)(dat:List Int):words_show_6 κ (B [99,97,110,100,105,100,97,116,101]) (B [114,117,110,110,105,110,103]) k who way val n run ab port fl sz dat=some (B (storeL run),true,k,who,way,val,n,run,ab,port,fl,sz,dat):=by
 unfold words_show_6 storeL;cases run<;>rfl
theorem sh7{κ:Nat}(k who:Int)(way:List ApiStep)(val:ByteArray)(n:Int)(run ab:Bool)(port:ByteArray)(fl sz:Int)(dat:List Int)(h:0≤n∧n<18446744073709551616):words_show_7 κ k who way val n run ab port fl sz dat=some (B (numL n),true,k,who,way,val,n,run,ab,port,fl,sz,dat):=by
 unfold words_show_7;rw [show_num h];rfl
theorem sh8{κ:Nat}(k who:Int)(way:List ApiStep)(val:ByteArray)(n:Int)(run ab:Bool)(port:ByteArray)(fl sz:Int)(dat:List Int)(hκ:10≤κ):words_show_8 κ k who way val n run ab port fl sz dat=some (B (wayL way),wayOk way,k,who,way,val,n,run,ab,port,fl,sz,dat):=by
 unfold words_show_8 wayOk;rw [Pa15.show_eq κ hκ];simp only [Option.bind_some,gt_iff_lt];have hw:B (wayL way)=Pa15.showV way:=B_of _;by_cases h:way.length=0
 ·rw [h,hw];rfl
 ·rw [show decide ((0:Int)<((List.length way:Nat):Int))=true from decide_eq_true (by omega),show decide (0<way.length)=true from decide_eq_true (by omega),hw];rfl
theorem sh9{κ:Nat}(k who:Int)(way:List ApiStep)(val:ByteArray)(n:Int)(run ab:Bool)(port:ByteArray)(fl sz:Int)(dat:List Int)(h:0≤sz∧sz<18446744073709551616):words_show_9 κ k who way val n run ab port fl sz dat=some (B (numL sz),true,k,who,way,val,n,run,ab,port,fl,sz,dat):=by
 unfold words_show_9;rw [show_num h];rfl
theorem sh10{κ:Nat}(k who:Int)(way:List ApiStep)(val:ByteArray)(n:Int)(run ab:Bool)(port:ByteArray)(fl sz:Int)(dat:List Int)(hκ:40000≤κ)(h:dat.length≤15000)(hb:∀x∈dat,0≤x∧x<256):words_show_10 κ k who way val n run ab port fl sz dat=some (B (hexL (datL dat)),true,k,who,way,val,n,run,ab,port,fl,sz,dat):=by
 unfold words_show_10;have he:=hex_eq (κ:=κ) (datL dat) (by rw [dat_len];omega) (by rw [dat_len];omega);rw [ints_dat hb]at he;rw [he];rfl
theorem sh11{κ:Nat}(k who:Int)(way:List ApiStep)(val:ByteArray)(n:Int)(run ab:Bool)(port:ByteArray)(fl sz:Int)(dat:List Int):words_show_11 κ k who way val n run ab port fl sz dat=some (B (datL dat),true,k,who,way,val,n,run,ab,port,fl,sz,dat):=by
 rfl
theorem sh12{κ:Nat}(k who:Int)(way:List ApiStep)(val:ByteArray)(n:Int)(run ab:Bool)(port:ByteArray)(fl sz:Int)(dat:List Int):words_show_12 κ (B [116,101,120,116]) (B [98,121,116,101,115]) k who way val n run ab port fl sz dat=some (B (formL ab),true,k,who,way,val,n,run,ab,port,fl,sz,dat):=by
 unfold words_show_12 formL;cases ab<;>rfl
theorem sh13{κ:Nat}(k who:Int)(way:List ApiStep)(val:ByteArray)(n:Int)(run ab:Bool)(port:ByteArray)(fl sz:Int)(dat:List Int)(h:val.size≤140737488351232):words_show_13 κ k who way val n run ab port fl sz dat=some (val,Lex5.plainB val.data.toList,k,who,way,val,n,run,ab,port,fl,sz,dat):=by
 unfold words_show_13;rw [plain_any _ h];rfl
def wordsOf(k:Nat)(who:Int)(way:List ApiStep)(val:ByteArray)(n:Int)(run ab:Bool)(port:ByteArray)(fl sz:Int)(dat:List Int):Option (List (List UInt8)):=
 match k with
 |0=>bif whoOk who then some [whoL who,[108,111,99,107]]else none
 |1=>bif whoOk who then some [whoL who,[117,110,108,111,99,107]]else none
 |2=>bif whoOk who then some [whoL who,[100,105,115,99,97,114,100]]else none
 |3=>bif whoOk who then some [whoL who,[99,104,101,99,107]]else none
 |4=>bif whoOk who then some [whoL who,[99,111,110,102,105,114,109]]else none
 |5=>bif whoOk who then some [whoL who,[99,97,110,99,101,108]]else none
 |6=>bif whoOk who then some [whoL who,[115,97,118,101]]else none
 |7=>bif whoOk who then bif wayOk way then bif Lex5.plainB val.data.toList then some [whoL who,[115,101,116],wayL way,val.data.toList]else none else none else none
 |8=>bif whoOk who then bif wayOk way then some [whoL who,[100,101,108],wayL way]else none else none
 |9=>bif whoOk who then some (bif decide (0<n)then [whoL who,[99,111,109,109,105,116],numL n]else [whoL who,[99,111,109,109,105,116]])else none
 |10=>bif whoOk who then some [whoL who,[114,111,108,108,98,97,99,107],numL n]else none
 |11=>bif whoOk who then some [whoL who,[112,114,117,110,101],numL n]else none
 |12=>bif whoOk who then some [whoL who,[115,104,111,119],storeL run,formL ab,numL n]else none
 |13=>bif whoOk who then some [whoL who,[108,111,97,100],[116,101,120,116],datL dat]else none
 |14=>bif whoOk who then some [whoL who,[108,111,97,100],[98,121,116,101,115],hexL (datL dat)]else none
 |15=>bif Pa15.idn port then some [[112,97,99,107,101,116],port.data.toList,numL fl,numL sz]else none
 |16=>some [[116,105,99,107],numL n]
 |17=>bif Pa15.idn port then some [[110,101,120,116],port.data.toList]else none
 |18=>bif Pa15.idn port then some [[100,117,109,112],port.data.toList]else none
 |_ =>none
theorem parts_other{κ:Nat}{k:Int}(h:k<0∨18<k):words_parts κ k=some (.inl ()):=by
 have e:∀j:Int,0≤j→j≤18→(k==j)=false:=fun j h1 h2=>by simp;omega
 unfold words_parts words_parts.v0 words_parts.v1 words_parts.v2 words_parts.v3 words_parts.v4 words_parts.v5;simp only [e 0 (by decide) (by decide),e 1 (by decide) (by decide),e 2 (by decide) (by decide),e 3 (by decide) (by decide),e 4 (by decide) (by decide),e 5 (by decide) (by decide),e 6 (by decide) (by decide),e 7 (by decide) (by decide),e 8 (by decide) (by decide),e 9 (by decide) (by decide),e 10 (by decide) (by decide),e 11 (by decide) (by decide),e 12 (by decide) (by decide),e 13 (by decide) (by decide),e 14 (by decide) (by decide),e 15 (by decide) (by decide),e 16 (by decide) (by decide),e 17 (by decide) (by decide),e 18 (by decide) (by decide),bif_f,Option.bind_some]
theorem parts0{κ:Nat}:words_parts κ 0=some (.inr (.inr (.inr (.inr (.inr (.inr (.inr (.inr (.inr (.inr (.inr (B [108,111,99,107])))))))))))):=by kernel_rfl
theorem line0{κ:Nat}(hκ:40000≤κ)(who:Int)(way:List ApiStep)(val:ByteArray)(n:Int)(run ab:Bool)(port:ByteArray)(fl sz:Int)(dat:List Int)(hF:Fit way val n fl sz dat):words_line κ 0 who way val n run ab port fl sz dat=some (resL (wordsOf 0 who way val n run ab port fl sz dat)):=by
 unfold words_line wordsOf;simp only [parts0,Option.bind_some,words_line.v11,words_line.v22,unc13,sh1,sh2];cases h0:whoOk who
 ·simp only [Bool.not_false,Bool.not_true,bif_t,bif_f,Option.bind_some];rfl
 simp only [sh1,sh2,Bool.not_true,Bool.not_false,bif_t,bif_f,Option.bind_some,List.length_cons,List.length_nil,List.length_append,rm2,rm3,rm4,rm5,List.cons_append,List.nil_append];have:=who_len who;have hj:=join_ok (κ:=κ) [whoL who,[108,111,99,107]] (Nat.le_trans (lensum _) (by simp only [ln0,ln1,lc,l0];omega)) (by simp);simp only [List.map_cons,List.map_nil,B_of]at hj;rw [hj];rfl
theorem parts1{κ:Nat}:words_parts κ 1=some (.inr (.inr (.inr (.inr (.inr (.inr (.inr (.inr (.inr (.inr (.inr (B [117,110,108,111,99,107])))))))))))):=by kernel_rfl
theorem line1{κ:Nat}(hκ:40000≤κ)(who:Int)(way:List ApiStep)(val:ByteArray)(n:Int)(run ab:Bool)(port:ByteArray)(fl sz:Int)(dat:List Int)(hF:Fit way val n fl sz dat):words_line κ 1 who way val n run ab port fl sz dat=some (resL (wordsOf 1 who way val n run ab port fl sz dat)):=by
 unfold words_line wordsOf;simp only [parts1,Option.bind_some,words_line.v11,words_line.v22,unc13,sh1,sh2];cases h0:whoOk who
 ·simp only [Bool.not_false,Bool.not_true,bif_t,bif_f,Option.bind_some];rfl
 simp only [sh1,sh2,Bool.not_true,Bool.not_false,bif_t,bif_f,Option.bind_some,List.length_cons,List.length_nil,List.length_append,rm2,rm3,rm4,rm5,List.cons_append,List.nil_append];have:=who_len who;have hj:=join_ok (κ:=κ) [whoL who,[117,110,108,111,99,107]] (Nat.le_trans (lensum _) (by simp only [ln0,ln1,lc,l0];omega)) (by simp);simp only [List.map_cons,List.map_nil,B_of]at hj;rw [hj];rfl
theorem parts2{κ:Nat}:words_parts κ 2=some (.inr (.inr (.inr (.inr (.inr (.inr (.inr (.inr (.inr (.inr (.inr (B [100,105,115,99,97,114,100])))))))))))):=by kernel_rfl
theorem line2{κ:Nat}(hκ:40000≤κ)(who:Int)(way:List ApiStep)(val:ByteArray)(n:Int)(run ab:Bool)(port:ByteArray)(fl sz:Int)(dat:List Int)(hF:Fit way val n fl sz dat):words_line κ 2 who way val n run ab port fl sz dat=some (resL (wordsOf 2 who way val n run ab port fl sz dat)):=by
 unfold words_line wordsOf;simp only [parts2,Option.bind_some,words_line.v11,words_line.v22,unc13,sh1,sh2];cases h0:whoOk who
 ·simp only [Bool.not_false,Bool.not_true,bif_t,bif_f,Option.bind_some];rfl
 simp only [sh1,sh2,Bool.not_true,Bool.not_false,bif_t,bif_f,Option.bind_some,List.length_cons,List.length_nil,List.length_append,rm2,rm3,rm4,rm5,List.cons_append,List.nil_append];have:=who_len who;have hj:=join_ok (κ:=κ) [whoL who,[100,105,115,99,97,114,100]] (Nat.le_trans (lensum _) (by simp only [ln0,ln1,lc,l0];omega)) (by simp);simp only [List.map_cons,List.map_nil,B_of]at hj;rw [hj];rfl
theorem parts3{κ:Nat}:words_parts κ 3=some (.inr (.inr (.inr (.inr (.inr (.inr (.inr (.inr (.inr (.inr (.inr (B [99,104,101,99,107])))))))))))):=by kernel_rfl
theorem line3{κ:Nat}(hκ:40000≤κ)(who:Int)(way:List ApiStep)(val:ByteArray)(n:Int)(run ab:Bool)(port:ByteArray)(fl sz:Int)(dat:List Int)(hF:Fit way val n fl sz dat):words_line κ 3 who way val n run ab port fl sz dat=some (resL (wordsOf 3 who way val n run ab port fl sz dat)):=by
 unfold words_line wordsOf;simp only [parts3,Option.bind_some,words_line.v11,words_line.v22,unc13,sh1,sh2];cases h0:whoOk who
 ·simp only [Bool.not_false,Bool.not_true,bif_t,bif_f,Option.bind_some];rfl
 simp only [sh1,sh2,Bool.not_true,Bool.not_false,bif_t,bif_f,Option.bind_some,List.length_cons,List.length_nil,List.length_append,rm2,rm3,rm4,rm5,List.cons_append,List.nil_append];have:=who_len who;have hj:=join_ok (κ:=κ) [whoL who,[99,104,101,99,107]] (Nat.le_trans (lensum _) (by simp only [ln0,ln1,lc,l0];omega)) (by simp);simp only [List.map_cons,List.map_nil,B_of]at hj;rw [hj];rfl
theorem parts4{κ:Nat}:words_parts κ 4=some (.inr (.inr (.inr (.inr (.inr (.inr (.inr (.inr (.inr (.inr (.inr (B [99,111,110,102,105,114,109])))))))))))):=by kernel_rfl
theorem line4{κ:Nat}(hκ:40000≤κ)(who:Int)(way:List ApiStep)(val:ByteArray)(n:Int)(run ab:Bool)(port:ByteArray)(fl sz:Int)(dat:List Int)(hF:Fit way val n fl sz dat):words_line κ 4 who way val n run ab port fl sz dat=some (resL (wordsOf 4 who way val n run ab port fl sz dat)):=by
 unfold words_line wordsOf;simp only [parts4,Option.bind_some,words_line.v11,words_line.v22,unc13,sh1,sh2];cases h0:whoOk who
 ·simp only [Bool.not_false,Bool.not_true,bif_t,bif_f,Option.bind_some];rfl
 simp only [sh1,sh2,Bool.not_true,Bool.not_false,bif_t,bif_f,Option.bind_some,List.length_cons,List.length_nil,List.length_append,rm2,rm3,rm4,rm5,List.cons_append,List.nil_append];have:=who_len who;have hj:=join_ok (κ:=κ) [whoL who,[99,111,110,102,105,114,109]] (Nat.le_trans (lensum _) (by simp only [ln0,ln1,lc,l0];omega)) (by simp);simp only [List.map_cons,List.map_nil,B_of]at hj;rw [hj];rfl
theorem parts5{κ:Nat}:words_parts κ 5=some (.inr (.inr (.inr (.inr (.inr (.inr (.inr (.inr (.inr (.inr (.inr (B [99,97,110,99,101,108])))))))))))):=by kernel_rfl
theorem line5{κ:Nat}(hκ:40000≤κ)(who:Int)(way:List ApiStep)(val:ByteArray)(n:Int)(run ab:Bool)(port:ByteArray)(fl sz:Int)(dat:List Int)(hF:Fit way val n fl sz dat):words_line κ 5 who way val n run ab port fl sz dat=some (resL (wordsOf 5 who way val n run ab port fl sz dat)):=by
 unfold words_line wordsOf;simp only [parts5,Option.bind_some,words_line.v11,words_line.v22,unc13,sh1,sh2];cases h0:whoOk who
 ·simp only [Bool.not_false,Bool.not_true,bif_t,bif_f,Option.bind_some];rfl
 simp only [sh1,sh2,Bool.not_true,Bool.not_false,bif_t,bif_f,Option.bind_some,List.length_cons,List.length_nil,List.length_append,rm2,rm3,rm4,rm5,List.cons_append,List.nil_append];have:=who_len who;have hj:=join_ok (κ:=κ) [whoL who,[99,97,110,99,101,108]] (Nat.le_trans (lensum _) (by simp only [ln0,ln1,lc,l0];omega)) (by simp);simp only [List.map_cons,List.map_nil,B_of]at hj;rw [hj];rfl
theorem parts6{κ:Nat}:words_parts κ 6=some (.inr (.inr (.inr (.inr (.inr (.inr (.inr (.inr (.inr (.inr (.inr (B [115,97,118,101])))))))))))):=by kernel_rfl
theorem line6{κ:Nat}(hκ:40000≤κ)(who:Int)(way:List ApiStep)(val:ByteArray)(n:Int)(run ab:Bool)(port:ByteArray)(fl sz:Int)(dat:List Int)(hF:Fit way val n fl sz dat):words_line κ 6 who way val n run ab port fl sz dat=some (resL (wordsOf 6 who way val n run ab port fl sz dat)):=by
 unfold words_line wordsOf;simp only [parts6,Option.bind_some,words_line.v11,words_line.v22,unc13,sh1,sh2];cases h0:whoOk who
 ·simp only [Bool.not_false,Bool.not_true,bif_t,bif_f,Option.bind_some];rfl
 simp only [sh1,sh2,Bool.not_true,Bool.not_false,bif_t,bif_f,Option.bind_some,List.length_cons,List.length_nil,List.length_append,rm2,rm3,rm4,rm5,List.cons_append,List.nil_append];have:=who_len who;have hj:=join_ok (κ:=κ) [whoL who,[115,97,118,101]] (Nat.le_trans (lensum _) (by simp only [ln0,ln1,lc,l0];omega)) (by simp);simp only [List.map_cons,List.map_nil,B_of]at hj;rw [hj];rfl
theorem parts7{κ:Nat}:words_parts κ 7=some (.inr (.inr (.inr (.inr (.inr (.inr (.inr (.inr (.inr (.inr (.inl (B [115,101,116])))))))))))):=by kernel_rfl
theorem line7{κ:Nat}(hκ:40000≤κ)(who:Int)(way:List ApiStep)(val:ByteArray)(n:Int)(run ab:Bool)(port:ByteArray)(fl sz:Int)(dat:List Int)(hF:Fit way val n fl sz dat):words_line κ 7 who way val n run ab port fl sz dat=some (resL (wordsOf 7 who way val n run ab port fl sz dat)):=by
 unfold words_line wordsOf;simp only [parts7,Option.bind_some,words_line.v10,words_line.v21,words_line.v32,words_line.v41,unc13,sh1,sh2,sh8 (hκ:=Nat.le_trans (by decide:10≤40000) hκ),sh13 (h:=hF.hval)];cases h0:whoOk who
 ·simp only [Bool.not_false,Bool.not_true,bif_t,bif_f,Option.bind_some];rfl
 simp only [sh1,sh2,sh8 (hκ:=Nat.le_trans (by decide:10≤40000) hκ),sh13 (h:=hF.hval),Bool.not_true,Bool.not_false,bif_t,bif_f,Option.bind_some,List.length_cons,List.length_nil,List.length_append,rm2,rm3,rm4,rm5,List.cons_append,List.nil_append];cases h1:wayOk way
 ·simp only [Bool.not_false,Bool.not_true,bif_t,bif_f,Option.bind_some];rfl
 simp only [sh1,sh2,sh8 (hκ:=Nat.le_trans (by decide:10≤40000) hκ),sh13 (h:=hF.hval),Bool.not_true,Bool.not_false,bif_t,bif_f,Option.bind_some,List.length_cons,List.length_nil,List.length_append,rm2,rm3,rm4,rm5,List.cons_append,List.nil_append];cases h2:Lex5.plainB val.data.toList
 ·simp only [Bool.not_false,Bool.not_true,bif_t,bif_f,Option.bind_some];rfl
 simp only [sh1,sh2,sh8 (hκ:=Nat.le_trans (by decide:10≤40000) hκ),sh13 (h:=hF.hval),Bool.not_true,Bool.not_false,bif_t,bif_f,Option.bind_some,List.length_cons,List.length_nil,List.length_append,rm2,rm3,rm4,rm5,List.cons_append,List.nil_append];have:=who_len who;have:=way_len way;have:val.data.toList.length≤140737488351232:=hF.hval;have hj:=join_ok (κ:=κ) [whoL who,[115,101,116],wayL way,val.data.toList] (Nat.le_trans (lensum _) (by simp only [ln0,ln1,lc,l0];omega)) (by simp);simp only [List.map_cons,List.map_nil,B_of]at hj;rw [hj];rfl
theorem parts8{κ:Nat}:words_parts κ 8=some (.inr (.inr (.inr (.inr (.inr (.inr (.inr (.inr (.inr (.inl (B [100,101,108]))))))))))):=by kernel_rfl
theorem line8{κ:Nat}(hκ:40000≤κ)(who:Int)(way:List ApiStep)(val:ByteArray)(n:Int)(run ab:Bool)(port:ByteArray)(fl sz:Int)(dat:List Int)(hF:Fit way val n fl sz dat):words_line κ 8 who way val n run ab port fl sz dat=some (resL (wordsOf 8 who way val n run ab port fl sz dat)):=by
 unfold words_line wordsOf;simp only [parts8,Option.bind_some,words_line.v20,words_line.v31,words_line.v9,unc13,sh1,sh2,sh8 (hκ:=Nat.le_trans (by decide:10≤40000) hκ)];cases h0:whoOk who
 ·simp only [Bool.not_false,Bool.not_true,bif_t,bif_f,Option.bind_some];rfl
 simp only [sh1,sh2,sh8 (hκ:=Nat.le_trans (by decide:10≤40000) hκ),Bool.not_true,Bool.not_false,bif_t,bif_f,Option.bind_some,List.length_cons,List.length_nil,List.length_append,rm2,rm3,rm4,rm5,List.cons_append,List.nil_append];cases h1:wayOk way
 ·simp only [Bool.not_false,Bool.not_true,bif_t,bif_f,Option.bind_some];rfl
 simp only [sh1,sh2,sh8 (hκ:=Nat.le_trans (by decide:10≤40000) hκ),Bool.not_true,Bool.not_false,bif_t,bif_f,Option.bind_some,List.length_cons,List.length_nil,List.length_append,rm2,rm3,rm4,rm5,List.cons_append,List.nil_append];have:=who_len who;have:=way_len way;have hj:=join_ok (κ:=κ) [whoL who,[100,101,108],wayL way] (Nat.le_trans (lensum _) (by simp only [ln0,ln1,lc,l0];omega)) (by simp);simp only [List.map_cons,List.map_nil,B_of]at hj;rw [hj];rfl
theorem parts9{κ:Nat}:words_parts κ 9=some (.inr (.inr (.inr (.inr (.inr (.inr (.inr (.inr (.inl (B [99,111,109,109,105,116])))))))))):=by kernel_rfl
theorem line9{κ:Nat}(hκ:40000≤κ)(who:Int)(way:List ApiStep)(val:ByteArray)(n:Int)(run ab:Bool)(port:ByteArray)(fl sz:Int)(dat:List Int)(hF:Fit way val n fl sz dat):words_line κ 9 who way val n run ab port fl sz dat=some (resL (wordsOf 9 who way val n run ab port fl sz dat)):=by
 unfold words_line wordsOf;simp only [parts9,Option.bind_some,words_line.v19,words_line.v30,words_line.v8,unc13,sh1,sh2,sh7 (h:=hF.hn)];cases h0:whoOk who
 ·simp only [Bool.not_false,Bool.not_true,bif_t,bif_f,Option.bind_some];rfl
 simp only [sh1,sh2,sh7 (h:=hF.hn),Bool.not_true,Bool.not_false,bif_t,bif_f,Option.bind_some,List.length_cons,List.length_nil,List.length_append,rm2,rm3,rm4,rm5,List.cons_append,List.nil_append];have:=who_len who;have:=num_len hF.hn;by_cases hn:0<n
 ·simp only [gt_iff_lt,hn,decide_true,bif_t,Option.bind_some,List.length_cons,List.length_nil,List.length_append,rm2,rm3,List.cons_append,List.nil_append]
  have hj:=join_ok (κ:=κ) [whoL who,[99,111,109,109,105,116],numL n] (Nat.le_trans (lensum _) (by simp only [ln0,ln1,lc,l0];omega)) (by simp);simp only [List.map_cons,List.map_nil,B_of]at hj;rw [hj];rfl
 ·simp only [gt_iff_lt,hn,decide_false,bif_f,Option.bind_some]
  have hj:=join_ok (κ:=κ) [whoL who,[99,111,109,109,105,116]] (Nat.le_trans (lensum _) (by simp only [ln0,ln1,lc,l0];omega)) (by simp);simp only [List.map_cons,List.map_nil,B_of]at hj;rw [hj];rfl
theorem parts10{κ:Nat}:words_parts κ 10=some (.inr (.inr (.inr (.inr (.inr (.inr (.inr (.inl (B [114,111,108,108,98,97,99,107]))))))))):=by kernel_rfl
theorem line10{κ:Nat}(hκ:40000≤κ)(who:Int)(way:List ApiStep)(val:ByteArray)(n:Int)(run ab:Bool)(port:ByteArray)(fl sz:Int)(dat:List Int)(hF:Fit way val n fl sz dat):words_line κ 10 who way val n run ab port fl sz dat=some (resL (wordsOf 10 who way val n run ab port fl sz dat)):=by
 unfold words_line wordsOf;simp only [parts10,Option.bind_some,words_line.v18,words_line.v29,words_line.v7,unc13,sh1,sh2,sh4 (h:=hF.hn)];cases h0:whoOk who
 ·simp only [Bool.not_false,Bool.not_true,bif_t,bif_f,Option.bind_some];rfl
 simp only [sh1,sh2,sh4 (h:=hF.hn),Bool.not_true,Bool.not_false,bif_t,bif_f,Option.bind_some,List.length_cons,List.length_nil,List.length_append,rm2,rm3,rm4,rm5,List.cons_append,List.nil_append];have:=who_len who;have:=num_len hF.hn;have hj:=join_ok (κ:=κ) [whoL who,[114,111,108,108,98,97,99,107],numL n] (Nat.le_trans (lensum _) (by simp only [ln0,ln1,lc,l0];omega)) (by simp);simp only [List.map_cons,List.map_nil,B_of]at hj;rw [hj];rfl
theorem parts11{κ:Nat}:words_parts κ 11=some (.inr (.inr (.inr (.inr (.inr (.inr (.inr (.inl (B [112,114,117,110,101]))))))))):=by kernel_rfl
theorem line11{κ:Nat}(hκ:40000≤κ)(who:Int)(way:List ApiStep)(val:ByteArray)(n:Int)(run ab:Bool)(port:ByteArray)(fl sz:Int)(dat:List Int)(hF:Fit way val n fl sz dat):words_line κ 11 who way val n run ab port fl sz dat=some (resL (wordsOf 11 who way val n run ab port fl sz dat)):=by
 unfold words_line wordsOf;simp only [parts11,Option.bind_some,words_line.v18,words_line.v29,words_line.v7,unc13,sh1,sh2,sh4 (h:=hF.hn)];cases h0:whoOk who
 ·simp only [Bool.not_false,Bool.not_true,bif_t,bif_f,Option.bind_some];rfl
 simp only [sh1,sh2,sh4 (h:=hF.hn),Bool.not_true,Bool.not_false,bif_t,bif_f,Option.bind_some,List.length_cons,List.length_nil,List.length_append,rm2,rm3,rm4,rm5,List.cons_append,List.nil_append];have:=who_len who;have:=num_len hF.hn;have hj:=join_ok (κ:=κ) [whoL who,[112,114,117,110,101],numL n] (Nat.le_trans (lensum _) (by simp only [ln0,ln1,lc,l0];omega)) (by simp);simp only [List.map_cons,List.map_nil,B_of]at hj;rw [hj];rfl
theorem parts12{κ:Nat}:words_parts κ 12=some (.inr (.inr (.inr (.inr (.inr (.inr (.inl (B [115,104,111,119],B [99,97,110,100,105,100,97,116,101],B [114,117,110,110,105,110,103],B [116,101,120,116],B [98,121,116,101,115])))))))):=by kernel_rfl
theorem line12{κ:Nat}(hκ:40000≤κ)(who:Int)(way:List ApiStep)(val:ByteArray)(n:Int)(run ab:Bool)(port:ByteArray)(fl sz:Int)(dat:List Int)(hF:Fit way val n fl sz dat):words_line κ 12 who way val n run ab port fl sz dat=some (resL (wordsOf 12 who way val n run ab port fl sz dat)):=by
 unfold words_line wordsOf;simp only [parts12,Option.bind_some,words_line.v17,words_line.v28,words_line.v37,words_line.v45,words_line.v6,unc17,sh1,sh2,sh6,sh12,sh4 (h:=hF.hn)];cases h0:whoOk who
 ·simp only [Bool.not_false,Bool.not_true,bif_t,bif_f,Option.bind_some];rfl
 simp only [sh1,sh2,sh6,sh12,sh4 (h:=hF.hn),Bool.not_true,Bool.not_false,bif_t,bif_f,Option.bind_some,List.length_cons,List.length_nil,List.length_append,rm2,rm3,rm4,rm5,List.cons_append,List.nil_append];have:=who_len who;have:=store_len run;have:=form_len ab;have:=num_len hF.hn;have hj:=join_ok (κ:=κ) [whoL who,[115,104,111,119],storeL run,formL ab,numL n] (Nat.le_trans (lensum _) (by simp only [ln0,ln1,lc,l0];omega)) (by simp);simp only [List.map_cons,List.map_nil,B_of]at hj;rw [hj];rfl
theorem parts13{κ:Nat}:words_parts κ 13=some (.inr (.inr (.inr (.inr (.inr (.inl (B [108,111,97,100],B [116,101,120,116]))))))):=by kernel_rfl
theorem line13{κ:Nat}(hκ:40000≤κ)(who:Int)(way:List ApiStep)(val:ByteArray)(n:Int)(run ab:Bool)(port:ByteArray)(fl sz:Int)(dat:List Int)(hF:Fit way val n fl sz dat):words_line κ 13 who way val n run ab port fl sz dat=some (resL (wordsOf 13 who way val n run ab port fl sz dat)):=by
 unfold words_line wordsOf;simp only [parts13,Option.bind_some,words_line.v16,words_line.v27,words_line.v36,words_line.v5,unc14,sh1,sh2,sh11];cases h0:whoOk who
 ·simp only [Bool.not_false,Bool.not_true,bif_t,bif_f,Option.bind_some];rfl
 simp only [sh1,sh2,sh11,Bool.not_true,Bool.not_false,bif_t,bif_f,Option.bind_some,List.length_cons,List.length_nil,List.length_append,rm2,rm3,rm4,rm5,List.cons_append,List.nil_append];have:=who_len who;have:=dat_len dat;have:=hF.hdat;have hj:=join_ok (κ:=κ) [whoL who,[108,111,97,100],[116,101,120,116],datL dat] (Nat.le_trans (lensum _) (by simp only [ln0,ln1,lc,l0];omega)) (by simp);simp only [List.map_cons,List.map_nil,B_of,datL]at hj⊢;rw [hj];rfl
theorem parts14{κ:Nat}:words_parts κ 14=some (.inr (.inr (.inr (.inr (.inl (B [108,111,97,100],B [98,121,116,101,115])))))):=by kernel_rfl
theorem line14{κ:Nat}(hκ:40000≤κ)(who:Int)(way:List ApiStep)(val:ByteArray)(n:Int)(run ab:Bool)(port:ByteArray)(fl sz:Int)(dat:List Int)(hF:Fit way val n fl sz dat):words_line κ 14 who way val n run ab port fl sz dat=some (resL (wordsOf 14 who way val n run ab port fl sz dat)):=by
 unfold words_line wordsOf;simp only [parts14,Option.bind_some,words_line.v15,words_line.v26,words_line.v35,words_line.v4,unc14,sh1,sh2,sh10 (hκ:=hκ) (h:=hF.hdat) (hb:=hF.hbyt)];cases h0:whoOk who
 ·simp only [Bool.not_false,Bool.not_true,bif_t,bif_f,Option.bind_some];rfl
 simp only [sh1,sh2,sh10 (hκ:=hκ) (h:=hF.hdat) (hb:=hF.hbyt),Bool.not_true,Bool.not_false,bif_t,bif_f,Option.bind_some,List.length_cons,List.length_nil,List.length_append,rm2,rm3,rm4,rm5,List.cons_append,List.nil_append];have:=who_len who;have:=hexL_len (datL dat);have:=hF.hdat;have:=dat_len dat;have hj:=join_ok (κ:=κ) [whoL who,[108,111,97,100],[98,121,116,101,115],hexL (datL dat)] (Nat.le_trans (lensum _) (by simp only [ln0,ln1,lc,l0];omega)) (by simp);simp only [List.map_cons,List.map_nil,B_of]at hj;rw [hj];rfl
theorem parts15{κ:Nat}:words_parts κ 15=some (.inr (.inr (.inr (.inl (B [112,97,99,107,101,116]))))):=by kernel_rfl
theorem line15{κ:Nat}(hκ:40000≤κ)(who:Int)(way:List ApiStep)(val:ByteArray)(n:Int)(run ab:Bool)(port:ByteArray)(fl sz:Int)(dat:List Int)(hF:Fit way val n fl sz dat):words_line κ 15 who way val n run ab port fl sz dat=some (resL (wordsOf 15 who way val n run ab port fl sz dat)):=by
 unfold words_line wordsOf;simp only [parts15,Option.bind_some,words_line.v14,words_line.v25,words_line.v34,unc13,sh1,sh3,sh5 (h:=hF.hfl),sh9 (h:=hF.hsz)];cases h0:Pa15.idn port
 ·simp only [Bool.not_false,Bool.not_true,bif_t,bif_f,Option.bind_some];rfl
 simp only [sh1,sh3,sh5 (h:=hF.hfl),sh9 (h:=hF.hsz),Bool.not_true,Bool.not_false,bif_t,bif_f,Option.bind_some,List.length_cons,List.length_nil,List.length_append,rm2,rm3,rm4,rm5,List.cons_append,List.nil_append];have:=id_len h0;have:=num_len hF.hfl;have:=num_len hF.hsz;have hj:=join_ok (κ:=κ) [[112,97,99,107,101,116],port.data.toList,numL fl,numL sz] (Nat.le_trans (lensum _) (by simp only [ln0,ln1,lc,l0];omega)) (by simp);simp only [List.map_cons,List.map_nil,B_of]at hj;rw [hj];rfl
theorem parts16{κ:Nat}:words_parts κ 16=some (.inr (.inr (.inl (B [116,105,99,107])))):=by kernel_rfl
theorem line16{κ:Nat}(hκ:40000≤κ)(who:Int)(way:List ApiStep)(val:ByteArray)(n:Int)(run ab:Bool)(port:ByteArray)(fl sz:Int)(dat:List Int)(hF:Fit way val n fl sz dat):words_line κ 16 who way val n run ab port fl sz dat=some (resL (wordsOf 16 who way val n run ab port fl sz dat)):=by
 unfold words_line wordsOf;simp only [parts16,Option.bind_some,words_line.v13,sh1,sh4 (h:=hF.hn)];simp only [sh1,sh4 (h:=hF.hn),Bool.not_true,Bool.not_false,bif_t,bif_f,Option.bind_some,List.length_cons,List.length_nil,List.length_append,rm2,List.cons_append,List.nil_append];have:=num_len hF.hn;have hj:=join_ok (κ:=κ) [[116,105,99,107],numL n] (Nat.le_trans (lensum _) (by simp only [ln0,ln1,lc,l0];omega)) (by simp);simp only [List.map_cons,List.map_nil,B_of]at hj;rw [hj];rfl
theorem parts17{κ:Nat}:words_parts κ 17=some (.inr (.inl (B [110,101,120,116]))):=by kernel_rfl
theorem line17{κ:Nat}(hκ:40000≤κ)(who:Int)(way:List ApiStep)(val:ByteArray)(n:Int)(run ab:Bool)(port:ByteArray)(fl sz:Int)(dat:List Int)(hF:Fit way val n fl sz dat):words_line κ 17 who way val n run ab port fl sz dat=some (resL (wordsOf 17 who way val n run ab port fl sz dat)):=by
 unfold words_line wordsOf;simp only [parts17,Option.bind_some,words_line.v12,sh1,sh3];cases h0:Pa15.idn port
 ·simp only [Bool.not_false,Bool.not_true,bif_t,bif_f,Option.bind_some];rfl
 simp only [sh1,sh3,Bool.not_true,Bool.not_false,bif_t,bif_f,Option.bind_some,List.length_cons,List.length_nil,List.length_append,rm2,rm3,rm4,rm5,List.cons_append,List.nil_append];have:=id_len h0;have hj:=join_ok (κ:=κ) [[110,101,120,116],port.data.toList] (Nat.le_trans (lensum _) (by simp only [ln0,ln1,lc,l0];omega)) (by simp);simp only [List.map_cons,List.map_nil,B_of]at hj;rw [hj];rfl
theorem parts18{κ:Nat}:words_parts κ 18=some (.inr (.inl (B [100,117,109,112]))):=by kernel_rfl
theorem line18{κ:Nat}(hκ:40000≤κ)(who:Int)(way:List ApiStep)(val:ByteArray)(n:Int)(run ab:Bool)(port:ByteArray)(fl sz:Int)(dat:List Int)(hF:Fit way val n fl sz dat):words_line κ 18 who way val n run ab port fl sz dat=some (resL (wordsOf 18 who way val n run ab port fl sz dat)):=by
 unfold words_line wordsOf;simp only [parts18,Option.bind_some,words_line.v12,sh1,sh3];cases h0:Pa15.idn port
 ·simp only [Bool.not_false,Bool.not_true,bif_t,bif_f,Option.bind_some];rfl
 simp only [sh1,sh3,Bool.not_true,Bool.not_false,bif_t,bif_f,Option.bind_some,List.length_cons,List.length_nil,List.length_append,rm2,rm3,rm4,rm5,List.cons_append,List.nil_append];have:=id_len h0;have hj:=join_ok (κ:=κ) [[100,117,109,112],port.data.toList] (Nat.le_trans (lensum _) (by simp only [ln0,ln1,lc,l0];omega)) (by simp);simp only [List.map_cons,List.map_nil,B_of]at hj;rw [hj];rfl
theorem line_other{κ:Nat}{k:Int}(h:k<0∨18<k)(who:Int)(way:List ApiStep)(val:ByteArray)(n:Int)(run ab:Bool)(port:ByteArray)(fl sz:Int)(dat:List Int):words_line κ k who way val n run ab port fl sz dat=some (B [],false):=by
 unfold words_line;rw [parts_other h];rfl
end Go.Proofs.YtdoifigogbdodaaGreatDoor.Wo

namespace Go.Proofs.YtdoifigogbdodaaGreatDoor.Wo
open Go Ev Ev.Seat Go.Lib
def cutM:List UInt8→List UInt8×List UInt8×Bool
 |[]=>([],[],false)
 |c::r=>if c=32 then([],r,true)else(c::(cutM r).1,(cutM r).2.1,(cutM r).2.2)
theorem cut_idx:∀l:List UInt8,Lib.indexByte l 32=if(cutM l).2.2=true then(((cutM l).1.length:Nat):Int)else-1
 |[]=>rfl
 |c::r=>by
  have ih:=cut_idx r;unfold Lib.indexByte cutM;by_cases h:c=32
  ·subst h;rfl
  ·have hb:(c==32)=false:=by simp [h]
   rw [hb,if_neg h,ih];by_cases hm:(cutM r).2.2=true
   ·simp only [hm,if_true]
    have h1:((((cutM r).1.length:Nat):Int)== -1)=false:=by simp
    rw [h1];simp
   ·simp only [if_neg hm]
    rfl
theorem cut_parts:∀l:List UInt8,if(cutM l).2.2=true then l.take (cutM l).1.length=(cutM l).1∧l.drop ((cutM l).1.length+1)=(cutM l).2.1∧(cutM l).1.length+(cutM l).2.1.length+1=l.length else(cutM l).1=l∧(cutM l).2.1=[]
 |[]=>by simp [cutM]
 |c::r=>by
  have ih:=cut_parts r;unfold cutM;by_cases h:c=32
  ·subst h;simp
  ·rw [if_neg h]
   by_cases hm:(cutM r).2.2=true
   ·simp only [hm,if_true]at ih⊢
    obtain⟨h1,h2,h3⟩:=ih;refine⟨?_, ?_, ?_⟩
    ·rw [List.length_cons,List.take_succ_cons,h1]
    ·rw [List.length_cons,List.drop_succ_cons,h2]
    ·simp only [List.length_cons];omega
   ·simp only [if_neg hm]at ih⊢
    rw [ih.1];exact⟨rfl,ih.2⟩
theorem cut_len(l:List UInt8):(cutM l).1.length≤l.length∧(cutM l).2.1.length≤l.length:=by
 have h:=cut_parts l;split at h
 ·omega
 ·rw [h.1,h.2];simp
theorem cut_some:∀{a:List UInt8} (b:List UInt8),(32:UInt8)∉a→cutM (a++32::b)=(a,b,true)
 |[],b,_ =>by simp [cutM]
 |c::r,b,h=>by
  simp only [List.mem_cons,not_or]at h;rw [List.cons_append];unfold cutM;rw [if_neg (fun e=>h.1 e.symm),cut_some b h.2]
theorem cut_none:∀{a:List UInt8},(32:UInt8)∉a→cutM a=(a,[],false)
 |[],_ =>rfl
 |c::r,h=>by
  simp only [List.mem_cons,not_or]at h;unfold cutM;rw [if_neg (fun e=>h.1 e.symm),cut_none h.2]
theorem cut_eq{κ:Nat}(l:List UInt8)(hl:l.length≤140737488355328):strings_Cut κ (B l) (B [32])=some (B (cutM l).1,B (cutM l).2.1,(cutM l).2.2):=by
 unfold strings_Cut internal_stringslite_Cut;rw [show slIndex κ (B l) (B [32])=some (Lib.indexByte l 32)from rfl,cut_idx];simp only [Option.bind_some];have hp:=cut_parts l;cases hm:(cutM l).2.2
 ·rw [hm]at hp
  simp only [Bool.false_eq_true,if_false]at hp⊢;rw [show decide ((-1:Int)≥0)=false from rfl];simp only [bif_f,Option.bind_some];rw [hp.1,hp.2]
 ·rw [hm]at hp
  simp only [if_true]at hp⊢;obtain⟨h1,h2,h3⟩:=hp;have hs:(B l).size=l.length:=B_size l;have hw:IntKind.wrap IntKind.i64 ((((cutM l).1.length:Nat):Int)+(((B [32]).size:Nat):Int))=(((cutM l).1.length+1:Nat):Int):=by
   rw [show(B [32]).size=1 from rfl,Pa15.wrap_in _ (by omega) (by omega)];rfl
  rw [hw,hs];simp only [show decide ((((cutM l).1.length:Nat):Int)≥0)=true from decide_eq_true (by omega),show decide ((0:Int)≤(((cutM l).1.length:Nat):Int))=true from decide_eq_true (by omega),show decide ((((cutM l).1.length:Nat):Int)≤((l.length:Nat):Int))=true from decide_eq_true (by omega),show decide ((0:Int)≤(0:Int))=true from rfl,show decide (((l.length:Nat):Int)≤((l.length:Nat):Int))=true from decide_eq_true (by omega),show decide ((0:Int)≤(((cutM l).1.length+1:Nat):Int))=true from decide_eq_true (by omega),show decide ((((cutM l).1.length+1:Nat):Int)≤((l.length:Nat):Int))=true from decide_eq_true (by omega),Bool.and_self,bif_t,Option.bind_some,Int.toNat_natCast];rw [show B l=(⟨l.toArray⟩:ByteArray)from rfl,Pa15.ext_mid,Pa15.ext_mid];simp only [Int.toNat_zero,List.drop_zero,Nat.sub_zero];rw [h1,h2,List.take_of_length_le (by omega)]
theorem cutP0{κ:Nat}{c:UInt8}{l:List UInt8}(h:l.head? ≠some c):strings_CutPrefix κ (B l) (B [c])=some (B l,false):=by
 unfold strings_CutPrefix internal_stringslite_CutPrefix;rw [show internal_stringslite_HasPrefix κ (B l) (B [c])=some (decide (l.head? =some c))from Pa15.hasP κ c l,decide_eq_false h];rfl
theorem fail_tot(κ:Nat){c:Int}(hc:c≠0)(s:ByteArray)(L e a:Int):∃e' a',path_reader_fail κ c s L e a=some (s,L,e',a')∧e'≠0:=by
 unfold path_reader_fail path_reader_fail.v0;by_cases he:e=0
 ·subst he;exact⟨_,_,rfl,hc⟩
 ·have:(e==(0:Int))=false:=by simp [he]
  rw [this];exact⟨_,_,rfl,he⟩
theorem sign_tot(κ:Nat)(c:UInt8)(m:List UInt8)(L e a:Int):∃m' e' a',path_reader_sign κ (B [c]) (B m) L e a=some (B m',L,e',a')∧m'.length≤m.length∧(e'=0→e=0∧m'.length<m.length):=by
 by_cases h:m.head? =some c
 ·cases m with
  |nil=>cases h
  |cons d r=>
   have:d=c:=Option.some.inj h;subst this;exact⟨r,e,a,Pa15.sign1 κ d r L e a,by simp,fun h=>⟨h,by simp⟩⟩
 ·unfold path_reader_sign
  rw [cutP0 h];obtain⟨e',a',h1,h2⟩:=fail_tot κ (c:=21) (by decide) (B m) L e a;simp only [Option.bind_some,Bool.not_false,bif_t,h1];exact⟨m,e',a',rfl,Nat.le_refl _,fun h=>absurd h h2⟩
theorem name_tot(κ:Nat)(m:List UInt8)(hm:m.length≤1000000)(L e a:Int):∃x m' e' a',path_reader_name κ (B m) L e a=some (x,B m',L,e',a')∧m'.length≤m.length∧(e'=0→e=0):=by
 rw [Pa15.name_def];have hd:(trimLeftS (B m).data.toList Pa15.oks).length≤m.length:=by
  show(List.dropWhile _ m).length≤_;have:=congrArg List.length (List.takeWhile_append_dropWhile (p:=(Pa15.oks.contains ·)) (l:=m));rw [List.length_append]at this;omega
 generalize trimLeftS (B m).data.toList Pa15.oks=r at hd;have hk:IntKind.wrap .i64 ((((B m).size:Nat):Int)-(((Pa15.bs r).size:Nat):Int))=((m.length-r.length:Nat):Int):=by
  rw [B_size,show(Pa15.bs r).size=r.length from Pa15.sized r,Pa15.wrap_in _ (by omega) (by omega)];omega
 simp only [hk];rw [show decide ((0:Int)≤((m.length-r.length:Nat):Int))=true from decide_eq_true (by omega),show decide (((m.length-r.length:Nat):Int)≤(((B m).size:Nat):Int))=true from decide_eq_true (by rw [B_size];omega)];simp only [Int.le_refl,decide_true,Bool.and_self,bif_t,Pa15.ident,Option.bind_some];unfold path_reader_name.v0;cases hb: !Pa15.idn ((B m).extract (Int.toNat 0) (Int.toNat ((m.length-r.length:Nat):Int)))
 ·exact⟨_,r,e,a,rfl,hd,fun h=>h⟩
 ·obtain⟨e',a',h1,h2⟩:=fail_tot κ (c:=22) (by decide) (B m) L e a
  simp only [bif_t,h1,Option.bind_some];exact⟨_,r,e',a',rfl,hd,fun h=>absurd h h2⟩
theorem step_tot(κ:Nat)(n:Int)(m:List UInt8)(hm:m.length≤1000000)(L e a:Int):∃x k m' e' a',path_reader_step κ n (B m) L e a=some (x,k,B m',L,e',a')∧m'.length≤m.length∧(e'=0→e=0∧m'.length<m.length):=by
 unfold path_reader_step;have h0:∃b,path_reader_step.v0 κ n (B m) L e a (B []) (B [])=some (b,B m,L,e,a,B [],B []):=by
  unfold path_reader_step.v0;cases decide (n≥(6:Int))
  ·exact⟨_,rfl⟩
  ·rw [show strings_HasPrefix κ (B m) (ByteArray.mk (List.toArray ((47:UInt8)::[])))=some (decide (m.head? =some 47))from Pa15.has1 κ 47 m];exact⟨_,rfl⟩
 obtain⟨b,h0⟩:=h0;rw [h0];simp only [Option.bind_some];have h2:∃e1 a1,path_reader_step.v2 κ b (B m) L e a (B []) (B [])=some (B m,L,e1,a1,B [],B [])∧(e1=0→e=0):=by
  unfold path_reader_step.v2;cases b
  ·exact⟨e,a,rfl,fun h=>h⟩
  ·obtain⟨e',a',h1,h2⟩:=fail_tot κ (c:=13) (by decide) (B m) L e a
   simp only [bif_t,h1,Option.bind_some];exact⟨e',a',rfl,fun h=>absurd h h2⟩
 obtain⟨e1,a1,h2,k2⟩:=h2;rw [h2];simp only [Option.bind_some];obtain⟨m3,e3,a3,h3,l3,k3⟩:=sign_tot κ 47 m L e1 a1;rw [show(ByteArray.mk (List.toArray ((47:UInt8)::[])))=B [47]from rfl,h3];simp only [Option.bind_some];obtain⟨x4,m4,e4,a4,h4,l4,k4⟩:=name_tot κ m3 (by omega) L e3 a3;rw [h4];simp only [Option.bind_some];rw [show strings_HasPrefix κ (B m4) (ByteArray.mk (List.toArray ((91:UInt8)::[])))=some (decide (m4.head? =some 91))from Pa15.has1 κ 91 m4];simp only [Option.bind_some];have h5:∃m5 e5 a5 p q,path_reader_step.v4 κ (decide (m4.head? =some 91)) (B m4) L e4 a4 (B []) (B []) x4 (B [])=some (B m5,L,e5,a5,B [],B [],p,q)∧m5.length≤m4.length∧(e5=0→e4=0):=by
  unfold path_reader_step.v4;cases decide (m4.head? =some 91)
  ·exact⟨m4,e4,a4,_,_,rfl,Nat.le_refl _,fun h=>h⟩
  ·obtain⟨m6,e6,a6,h6,l6,k6⟩:=sign_tot κ 91 m4 L e4 a4
   obtain⟨x7,m7,e7,a7,h7,l7,k7⟩:=name_tot κ m6 (by omega) L e6 a6;obtain⟨m8,e8,a8,h8,l8,k8⟩:=sign_tot κ 93 m7 L e7 a7;rw [show(ByteArray.mk (List.toArray ((91:UInt8)::[])))=B [91]from rfl,show(ByteArray.mk (List.toArray ((93:UInt8)::[])))=B [93]from rfl,h6];simp only [bif_t,Option.bind_some,h7,h8];exact⟨m8,e8,a8,_,_,rfl,by omega,fun h=>(k6 (k7 (k8 h).1)).1⟩
 obtain⟨m5,e5,a5,p,q,h5,l5,k5⟩:=h5;rw [h5];simp only [Option.bind_some];refine⟨_,_,m5,e5,a5,rfl,by omega,fun h=> ?_⟩;have:=k3 (k4 (k5 h));exact⟨k2 this.1,by omega⟩
theorem room32(n:Nat)(h:n≤2000000):Nat.ble n (room (31+1))=true:=Nat.ble_eq_true_of_le (by unfold room;omega)
theorem loop_tot(κ:Nat):∀(d:Nat) (m:List UInt8) (L e a:Int) (acc:List ApiStep) (K:Nat),m.length≤d→m.length≤1000000→acc.length+m.length≤1000000→d+2<K→∃r,path_Parse.l2 κ K (B m,L,e,a,acc)=some r
 |d,m,L,e,a,acc,0,_,_,_,h=>by omega
 |d,m,L,e,a,acc,K+1,hd,hm,ha,hK=>by
  simp only [path_Parse.l2];unfold path_Parse.w2 path_Parse.v3;rw [show seq (B m) (ByteArray.mk (List.toArray []))=decide (m=[])from seq_B m []];by_cases hn:m=[]
  ·rw [decide_eq_true hn];exact⟨_,rfl⟩
  ·rw [decide_eq_false hn]
   simp only [Bool.not_false,bif_t,Option.bind_some];by_cases he:e=0
   ·subst he
    simp only [beq_self_eq_true,bif_t];obtain⟨x,k,m',e',a',h1,h2,h3⟩:=step_tot κ ((acc.length:Nat):Int) m hm L 0 a;rw [h1];simp only [Option.bind_some];have hlen:0<m.length:=List.length_pos_iff.2 hn;rw [room32 _ (by simp;omega)];simp only [bif_t];by_cases he':e'=0
    ·have:=(h3 he').2
     cases d with
     |zero=>omega
     |succ d=>exact loop_tot κ d m' L e' a' _ K (by omega) (by omega) (by simp;omega) (by omega)
    ·cases K with
     |zero=>omega
     |succ K=>
      simp only [path_Parse.l2];unfold path_Parse.w2 path_Parse.v3;have:(e'==(0:Int))=false:=by simp [he']
      rw [this];cases !(seq (B m') (ByteArray.mk (List.toArray [])))<;>exact⟨_,rfl⟩
   ·have:(e==(0:Int))=false:=by simp [he]
    rw [this];exact⟨_,rfl⟩
theorem way_tot(κ:Nat)(m:List UInt8)(hm:m.length≤900000)(hκ:m.length+4<κ):∃r,path_Parse κ (B m)=some r:=by
 unfold path_Parse;cases seq (B m) (ByteArray.mk (List.toArray ((47:UInt8)::[])))
 ·simp only [bif_f]
  obtain⟨x,k,m',e',a',h1,h2,h3⟩:=step_tot κ 0 m (by omega) (((B m).size:Nat):Int) 0 0;rw [h1];simp only [Option.bind_some];obtain⟨r,hr⟩:=loop_tot κ m.length m' (((B m).size:Nat):Int) e' a' [ApiStep.mk x k] κ (by omega) (by omega) (by simp;omega) (by omega);rw [hr];simp only [Option.bind_some];cases r.2.2.1 !=(0:Int)<;>exact⟨_,rfl⟩
 ·exact⟨_,rfl⟩
def parV(κ:Nat)(m:List UInt8):Int×Int×List ApiStep:=(path_Parse κ (B m)).getD (0,0,[])
theorem par_eq{κ:Nat}{m:List UInt8}(hm:m.length≤900000)(hκ:m.length+4<κ):path_Parse κ (B m)=some (parV κ m):=by
 obtain⟨r,hr⟩:=way_tot κ m hm hκ;unfold parV;rw [hr];rfl
theorem par_show{κ:Nat}(hκ:2000≤κ){w:List ApiStep}(h:wayOk w=true):parV κ (wayL w)=(0,0,w):=by
 unfold wayOk at h;rw [Bool.and_eq_true]at h;have h0:=of_decide_eq_true h.1;have h1:seq (Pa15.showV w) (B [])=false:=by simpa using h.2
 unfold parV wayL;unfold Pa15.showV at h1⊢;rw [if_neg (by omega)]at h1⊢;by_cases h6:w.length>6
 ·rw [if_pos h6]at h1;simp [seq]at h1
 ·rw [if_neg h6]at h1⊢
  cases hb:w.any Pa15.badS
  ·rw [hb]at h1
   simp only [bif_f]at h1⊢;rw [show path_Parse κ (B (Pa15.txt w))=some (0,0,w)from Pa15.parse_eq κ (by omega) w hb (by intro e;rw [e]at h0;simp at h0) (by omega)];rfl
  ·rw [hb]at h1;simp [seq]at h1
end Go.Proofs.YtdoifigogbdodaaGreatDoor.Wo

namespace Go.Proofs.YtdoifigogbdodaaGreatDoor.Wo
open Go Ev Ev.Seat Go.Lib
def nib(c:UInt8):Int:=Lib.indexByte hexd c
def two(a b:Int):Int:=IntKind.wrap IntKind.u8 (IntKind.wrap IntKind.i64 (((BitVec.toNat (HOr.hOr (BitVec.ofInt (IntKind.bits IntKind.i64) (IntKind.wrap IntKind.i64 (a*((2:Int)^(Min.min (Int.toNat (4:Int)) (IntKind.bits IntKind.i64)))))) (BitVec.ofInt (IntKind.bits IntKind.i64) b))):Nat):Int))
theorem two_u8(a b:Int):∃y:UInt8,two a b=((y.toNat:Nat):Int):=by
 unfold two;rw [IntKind.wrap_u8];generalize IntKind.wrap IntKind.i64 _ =z;refine⟨UInt8.ofNat (z%256).toNat, ?_⟩;rw [show(UInt8.ofNat (z%256).toNat).toNat=(z%256).toNat from by simp;omega];omega
theorem nib_all:∀n:Fin 256,two (nib (hx (n.val/16))) (nib (hx (n.val%16)))=((n.val:Nat):Int)∧decide (nib (hx (n.val/16))<0)=false∧decide (nib (hx (n.val%16))<0)=false:=by decide+kernel
def unM:List UInt8→Option (List UInt8)
 |[]=>some []
 |[_]=>none
 |a::b::r=>if nib a<0∨nib b<0 then none else(unM r).map fun l=>UInt8.ofNat (two (nib a) (nib b)).toNat::l
theorem unM_hex:∀l:List UInt8,unM (hexL l)=some l
 |[]=>rfl
 |c::r=>by
  obtain⟨h1,h2,h3⟩:=nib_all ⟨c.toNat,c.toNat_lt⟩;unfold hexL unM;rw [if_neg (by simp only [not_or];exact⟨of_decide_eq_false h2,of_decide_eq_false h3⟩),unM_hex r,h1];simp
theorem unM_len:∀{l d:List UInt8},unM l=some d→d.length≤l.length
 |[],d,h=>by cases h;simp
 |[_],d,h=>by simp [unM]at h
 |a::b::r,d,h=>by
  unfold unM at h;split at h
  ·cases h
  ·obtain⟨x,hx,rfl⟩:=Option.map_eq_some_iff.1 h
   have:=unM_len hx;simp;omega
theorem un_loop{κ:Nat}(l:List UInt8)(hl:l.length≤900000):∀(d i K:Nat) (acc:List UInt8),l.length=i+2*d→d<K→acc.length≤i→
  ∃b,words_unhex.l4 κ K (B l,((i:Nat):Int),ints acc)=some b∧b=(match unM (l.drop i)with|some r=> .inl (ints (acc++r))|none=> .inr false)
 |0,i,K+1,acc,h,_,_ =>by
  simp only [words_unhex.l4];unfold words_unhex.w4;rw [show decide (((i:Nat):Int)<(((B l).size:Nat):Int))=false from decide_eq_false (by rw [B_size];omega)];simp only [bif_f];rw [List.drop_eq_nil_of_le (by omega)];exact⟨_,rfl,by simp [unM]⟩
 |d+1,i,K+1,acc,h,hk,ha=>by
  have hi:i<l.length:=by omega
  have hi1:i+1<l.length:=by omega
  simp only [words_unhex.l4];unfold words_unhex.w4;rw [show decide (((i:Nat):Int)<(((B l).size:Nat):Int))=true from decide_eq_true (by rw [B_size];omega),show decide ((0:Int)≤((i:Nat):Int))=true from decide_eq_true (by omega),wrap1 i (by omega),show decide ((0:Int)≤((i+1:Nat):Int))=true from decide_eq_true (by omega)];simp only [bif_t];rw [Int.toNat_natCast,Int.toNat_natCast,List.getElem?_eq_getElem hi,List.getElem?_eq_getElem hi1];simp only [Option.bind_some];have hdrop:l.drop i=l[i]::l[i+1]::l.drop (i+2):=by
   rw [List.drop_eq_getElem_cons hi,List.drop_eq_getElem_cons hi1]
  rw [hdrop];have hn:∀c:UInt8,Lib.indexByte [48,49,50,51,52,53,54,55,56,57,97,98,99,100,101,102] (Nat.toUInt8 (Int.toNat ((c.toNat:Nat):Int)))=nib c:=by
   intro c;have:Nat.toUInt8 (Int.toNat ((c.toNat:Nat):Int))=c:=by simp
   rw [this];rfl
  rw [hn,hn];unfold unM words_unhex.v5;by_cases h1:nib l[i]<0
  ·rw [if_pos (.inl h1),decide_eq_true h1];exact⟨_,rfl,rfl⟩
  ·rw [decide_eq_false h1]
   simp only [bif_f,Option.bind_some];by_cases h2:nib l[i+1]<0
   ·rw [if_pos (.inr h2),decide_eq_true h2];exact⟨_,rfl,rfl⟩
   ·rw [if_neg (by simp only [not_or];exact⟨h1,h2⟩),decide_eq_false h2]
    simp only [bif_f];rw [room_ok _ (by simp [ints];omega)];simp only [bif_t];obtain⟨y,hy⟩:=two_u8 (nib l[i]) (nib l[i+1]);have hw2:IntKind.wrap IntKind.i64 (((i:Nat):Int)+2)=((i+2:Nat):Int):=by rw [Pa15.wrap_in _ (by omega) (by omega)];rfl
    have hacc:ints acc++two (nib l[i]) (nib l[i+1])::[]=ints (acc++[y]):=by rw [hy];simp [ints]
    rw [hw2,show ints acc++(IntKind.wrap IntKind.u8 (IntKind.wrap IntKind.i64 (((BitVec.toNat (HOr.hOr (BitVec.ofInt (IntKind.bits IntKind.i64) (IntKind.wrap IntKind.i64 (nib l[i]*((2:Int)^(Min.min (Int.toNat (4:Int)) (IntKind.bits IntKind.i64)))))) (BitVec.ofInt (IntKind.bits IntKind.i64) (nib l[i+1])))):Nat):Int))::[])=ints (acc++[y])from hacc];obtain⟨b,hb,hb2⟩:=un_loop l hl d (i+2) K (acc++[y]) (by omega) (by omega) (by simp;omega);refine⟨b,hb, ?_⟩;rw [hb2,hy];cases unM (l.drop (i+2))with
    |none=>rfl
    |some r=>simp [List.append_assoc]
def unR(l:List UInt8):Bool×List Int:=match unM l with|some d=>(true,ints d)|none=>(false,[])
theorem unM_odd:∀{l:List UInt8},l.length%2=1→unM l=none
 |[],h=>by simp at h
 |[_],_ =>rfl
 |a::b::r,h=>by
  unfold unM;split
  ·rfl
  ·rw [unM_odd (by simp at h;omega)];rfl
theorem un_eq{κ:Nat}(l:List UInt8)(hl:l.length≤900000)(hκ:l.length<κ):words_unhex κ (B l)=some (unR l):=by
 unfold words_unhex unR;rw [B_size];have hm:Int.tmod ((l.length:Nat):Int) 2=((l.length%2:Nat):Int):=by rw [Int.tmod_eq_emod_of_nonneg (by omega)];omega
 rw [hm];by_cases h:l.length%2=1
 ·rw [h,unM_odd h];rfl
 ·have h0:l.length%2=0:=by omega
  rw [h0];obtain⟨b,hb,hb2⟩:=un_loop (κ:=κ) l hl (l.length/2) 0 κ [] (by omega) (by omega) (by simp);simp only [show decide (((0:Nat):Int)>0)=false from rfl,bif_f];rw [show words_unhex.l4 κ κ (B l,(0:Int),[])=some b from hb];simp only [Option.bind_some];rw [List.drop_zero]at hb2;cases hu:unM l with
  |none=>rw [hu]at hb2;rw [hb2]
  |some r=>rw [hu]at hb2;rw [hb2];simp
end Go.Proofs.YtdoifigogbdodaaGreatDoor.Wo

namespace Go.Proofs.YtdoifigogbdodaaGreatDoor.Wo
open Go Ev Ev.Seat Go.Lib
theorem nt:(!true)=false:=rfl
theorem nf:(!false)=true:=rfl
inductive Pt
 |w (l:List UInt8)|who|way|value|port|raw|digits|n|flow|size|sm|store|form
def uR(l:List UInt8):Int×Bool:=Va8.uintR (B l)
def whoV(x:Int):Int:=IntKind.wrap IntKind.i64 (if(10:Int)<x then 10 else x)
def rdP(κ:Nat)(p:Pt)(l:List UInt8)(c:WordsCmd):Bool×WordsCmd:=match p with
 | .w x=>(decide (l=x),c)
 | .who=>((uR l).2,{c with who:=whoV (uR l).1})
 | .way=>((parV κ l).1==0,{c with way:=(parV κ l).2.2})
 | .value=>(true,{c with value:=B l})
 | .port=>(true,{c with port:=B l})
 | .raw=>(true,{c with data:=ints l})
 | .digits=>((unR l).1,{c with data:=(unR l).2})
 | .n=>((uR l).2,{c with n:=(uR l).1})
 | .flow=>((uR l).2,{c with flow:=(uR l).1})
 | .size=>((uR l).2,{c with size:=(uR l).1})
 | .sm=>((uR l).2&&decide ((uR l).1>0),{c with n:=(uR l).1})
 | .store=>(decide (l=[114,117,110,110,105,110,103])||decide (l=[99,97,110,100,105,100,97,116,101]),{c with running:=decide (l=[114,117,110,110,105,110,103])})
 | .form=>(decide (l=[98,121,116,101,115])||decide (l=[116,101,120,116]),{c with asBytes:=decide (l=[98,121,116,101,115])})
def isW:Pt→Bool
 | .w _ =>true
 |_ =>false
def goP(κ:Nat)(cm:Bool):List Pt→List UInt8→WordsCmd→Option WordsCmd
 |[],_,c=>some c
 |[p],l,c=>bif (rdP κ p l c).1 then some (rdP κ p l c).2 else none
 |p::q::ps,l,c=>bif (rdP κ p (cutM l).1 c).1 then
   (bif (cutM l).2.2 then goP κ cm (q::ps) (cutM l).2.1 (rdP κ p (cutM l).1 c).2 else bif cm&&isW p&&ps.isEmpty then some (rdP κ p (cutM l).1 c).2 else none)else none
def zeroC(k:Int):WordsCmd:=⟨k,0,[],B [],0,false,false,B [],0,0,[]⟩
def lineC(k:Nat)(c:WordsCmd):ByteArray×Bool:=resL (wordsOf k c.who c.way c.value c.n c.running c.asBytes c.port c.flow c.size c.data)
def resP(k:Nat):Option WordsCmd→Int×Int×(List ApiStep)×ByteArray×Int×Bool×Bool×ByteArray×Int×Int×(List Int)×Bool
 |none=>(0,0,[],B [],0,false,false,B [],0,0,[],false)
 |some c=>(c.kind,c.who,c.way,c.value,c.n,c.running,c.asBytes,c.port,c.flow,c.size,c.data,(lineC k c).2&& !(seq (lineC k c).1 (B [])))
theorem u_eq{κ:Nat}(l:List UInt8)(h:l.length≤140737488351232):scalUint κ (B l)=some (uR l):=Va8.my_uint κ (B l) (by rw [B_size];exact h)
theorem u_fit(l:List UInt8):0≤(uR l).1∧(uR l).1<18446744073709551616:=by
 unfold uR;cases h:Va8.uintV (B l)with
 |none=>rw [Va8.uintR_none h];exact⟨by decide,by decide⟩
 |some u=>rw [Va8.uintR_some h];have:=Va8.uintV_lt h;constructor<;>simp<;>omega
theorem ints_len(l:List UInt8):(ints l).length=l.length:=by simp [ints]
theorem ints_byt(l:List UInt8):∀x∈ints l,0≤x∧x<256:=by
 intro x hx;obtain⟨b,_,rfl⟩:=List.mem_map.1 hx;have:=b.toNat_lt;omega
theorem un_fit(l:List UInt8):(unR l).2.length≤l.length∧∀x∈(unR l).2,0≤x∧x<256:=by
 unfold unR;cases h:unM l with
 |none=>exact⟨by simp,fun x hx=>by cases hx⟩
 |some d=>exact⟨by rw [ints_len];exact unM_len h,ints_byt d⟩
theorem rd_who(a:List UInt8){κ:Nat}(k who:Int)(way:List ApiStep)(val:ByteArray)(n:Int)(run ab:Bool)(port:ByteArray)(fl sz:Int)(dat:List Int)(h:a.length≤140737488351232):words_read_2 κ (B a) k who way val n run ab port fl sz dat=some ((uR a).2,k,whoV (uR a).1,way,val,n,run,ab,port,fl,sz,dat):=by
 unfold words_read_2;rw [u_eq a h];rfl
theorem rd_port(a:List UInt8){κ:Nat}(k who:Int)(way:List ApiStep)(val:ByteArray)(n:Int)(run ab:Bool)(port:ByteArray)(fl sz:Int)(dat:List Int):words_read_3 κ (B a) k who way val n run ab port fl sz dat=some (true,k,who,way,val,n,run,ab,B a,fl,sz,dat):=by
 rfl
theorem rd_n(a:List UInt8){κ:Nat}(k who:Int)(way:List ApiStep)(val:ByteArray)(n:Int)(run ab:Bool)(port:ByteArray)(fl sz:Int)(dat:List Int)(h:a.length≤140737488351232):words_read_4 κ (B a) k who way val n run ab port fl sz dat=some ((uR a).2,k,who,way,val,(uR a).1,run,ab,port,fl,sz,dat):=by
 unfold words_read_4;rw [u_eq a h];rfl
theorem rd_flow(a:List UInt8){κ:Nat}(k who:Int)(way:List ApiStep)(val:ByteArray)(n:Int)(run ab:Bool)(port:ByteArray)(fl sz:Int)(dat:List Int)(h:a.length≤140737488351232):words_read_5 κ (B a) k who way val n run ab port fl sz dat=some ((uR a).2,k,who,way,val,n,run,ab,port,(uR a).1,sz,dat):=by
 unfold words_read_5;rw [u_eq a h];rfl
theorem rd_size(a:List UInt8){κ:Nat}(k who:Int)(way:List ApiStep)(val:ByteArray)(n:Int)(run ab:Bool)(port:ByteArray)(fl sz:Int)(dat:List Int)(h:a.length≤140737488351232):words_read_9 κ (B a) k who way val n run ab port fl sz dat=some ((uR a).2,k,who,way,val,n,run,ab,port,fl,(uR a).1,dat):=by
 unfold words_read_9;rw [u_eq a h];rfl
theorem rd_sm(a:List UInt8){κ:Nat}(k who:Int)(way:List ApiStep)(val:ByteArray)(n:Int)(run ab:Bool)(port:ByteArray)(fl sz:Int)(dat:List Int)(h:a.length≤140737488351232):words_read_7 κ (B a) k who way val n run ab port fl sz dat=some ((uR a).2&&decide ((uR a).1>0),k,who,way,val,(uR a).1,run,ab,port,fl,sz,dat):=by
 unfold words_read_7;rw [u_eq a h];simp only [Option.bind_some];cases(uR a).2<;>rfl
theorem rd_way(a:List UInt8){κ:Nat}(k who:Int)(way:List ApiStep)(val:ByteArray)(n:Int)(run ab:Bool)(port:ByteArray)(fl sz:Int)(dat:List Int)(h:a.length≤900000)(hκ:a.length+4<κ):words_read_8 κ (B a) k who way val n run ab port fl sz dat=some (((parV κ a).1==0),k,who,val,n,run,ab,port,fl,sz,dat,(parV κ a).2.2):=by
 unfold words_read_8;rw [par_eq h hκ];rfl
theorem rd_digits(a:List UInt8){κ:Nat}(k who:Int)(way:List ApiStep)(val:ByteArray)(n:Int)(run ab:Bool)(port:ByteArray)(fl sz:Int)(dat:List Int)(h:a.length≤900000)(hκ:a.length<κ):words_read_10 κ (B a) k who way val n run ab port fl sz dat=some ((unR a).1,k,who,way,val,n,run,ab,port,fl,sz,(unR a).2):=by
 unfold words_read_10;rw [un_eq a h hκ];rfl
theorem rd_raw(a:List UInt8){κ:Nat}(k who:Int)(way:List ApiStep)(val:ByteArray)(n:Int)(run ab:Bool)(port:ByteArray)(fl sz:Int)(dat:List Int)(h:a.length≤900000):words_read_11 κ (B a) k who way val n run ab port fl sz dat=some (true,k,who,way,val,n,run,ab,port,fl,sz,ints a):=by
 unfold words_read_11;have:Nat.ble (ByteArray.size (B a)) maxI=true:=Nat.ble_eq_true_of_le (by rw [B_size];unfold maxI;omega);rw [this];rfl
theorem rd_store(a:List UInt8){κ:Nat}(k who:Int)(way:List ApiStep)(val:ByteArray)(n:Int)(run ab:Bool)(port:ByteArray)(fl sz:Int)(dat:List Int):words_read_6 κ (B [99,97,110,100,105,100,97,116,101]) (B [114,117,110,110,105,110,103]) (B a) k who way val n run ab port fl sz dat=some ((decide (a=[114,117,110,110,105,110,103])||decide (a=[99,97,110,100,105,100,97,116,101])),k,who,way,val,n,decide (a=[114,117,110,110,105,110,103]),ab,port,fl,sz,dat):=by
 unfold words_read_6;rw [seq_B,seq_B];cases decide (a=[114,117,110,110,105,110,103])<;>rfl
theorem rd_form(a:List UInt8){κ:Nat}(k who:Int)(way:List ApiStep)(val:ByteArray)(n:Int)(run ab:Bool)(port:ByteArray)(fl sz:Int)(dat:List Int):words_read_12 κ (B [116,101,120,116]) (B [98,121,116,101,115]) (B a) k who way val n run ab port fl sz dat=some ((decide (a=[98,121,116,101,115])||decide (a=[116,101,120,116])),k,who,way,val,n,run,decide (a=[98,121,116,101,115]),port,fl,sz,dat):=by
 unfold words_read_12;rw [seq_B,seq_B];cases decide (a=[98,121,116,101,115])<;>rfl
theorem rd_value(a:List UInt8){κ:Nat}(k who:Int)(way:List ApiStep)(val:ByteArray)(n:Int)(run ab:Bool)(port:ByteArray)(fl sz:Int)(dat:List Int):words_read_13 κ (B a) k who way val n run ab port fl sz dat=some (true,k,who,way,B a,n,run,ab,port,fl,sz,dat):=by
 rfl
def partsP(k:Nat):List Pt:=match k with
 |0=>[.who,.w [108,111,99,107]]
 |1=>[.who,.w [117,110,108,111,99,107]]
 |2=>[.who,.w [100,105,115,99,97,114,100]]
 |3=>[.who,.w [99,104,101,99,107]]
 |4=>[.who,.w [99,111,110,102,105,114,109]]
 |5=>[.who,.w [99,97,110,99,101,108]]
 |6=>[.who,.w [115,97,118,101]]
 |7=>[.who,.w [115,101,116],.way,.value]
 |8=>[.who,.w [100,101,108],.way]
 |9=>[.who,.w [99,111,109,109,105,116],.sm]
 |10=>[.who,.w [114,111,108,108,98,97,99,107],.n]
 |11=>[.who,.w [112,114,117,110,101],.n]
 |12=>[.who,.w [115,104,111,119],.store,.form,.n]
 |13=>[.who,.w [108,111,97,100],.w [116,101,120,116],.raw]
 |14=>[.who,.w [108,111,97,100],.w [98,121,116,101,115],.digits]
 |15=>[.w [112,97,99,107,101,116],.port,.flow,.size]
 |16=>[.w [116,105,99,107],.n]
 |17=>[.w [110,101,120,116],.port]
 |18=>[.w [100,117,109,112],.port]
 |_ =>[]
theorem parse0{κ:Nat}(hκ:40000≤κ)(l:List UInt8)(hl:l.length≤15000):words_parse κ 0 (B l)=some (resP 0 (goP κ false (partsP 0) l (zeroC 0))):=by
 unfold words_parse partsP zeroC;simp only [parts0,Option.bind_some,goP];have hc0:=cut_eq (κ:=κ) l (by omega);have hl0:=cut_len l;generalize hg0:cutM l=q0 at hc0 hl0⊢;obtain⟨a0,l1,m0⟩:=q0;simp only at hc0 hl0⊢;have hr0:=fun a b c d e f g h i j k=>rd_who (κ:=κ) a0 a b c d e f g h i j k (by omega)
 simp only [words_parse.v11,words_parse.v22,unc25,hc0,hr0,Option.bind_some,seq_B,rdP];have hu0:=u_fit a0;generalize uR a0=u0 at hu0⊢;obtain⟨x0,d0⟩:=u0;simp only at hu0⊢;cases d0
 ·rfl
 try simp only [nt,nf,bif_t,bif_f,Option.bind_some]
 cases m0
 ·rfl
 try simp only [nt,nf,bif_t,bif_f,Option.bind_some]
 have hc1:=cut_eq (κ:=κ) l1 (by omega);have hl1:=cut_len l1;generalize hg1:cutM l1=q1 at hc1 hl1;simp only [words_parse.v11,words_parse.v22,unc25,hc1,Option.bind_some,seq_B,rdP];generalize decide (l1=[108,111,99,107])=d1;cases d1
 ·rfl
 try simp only [nt,nf,bif_t,bif_f,Option.bind_some]
 rw [line0 hκ _ _ _ _ _ _ _ _ _ _ ⟨⟨by decide,by decide⟩,⟨by decide,by decide⟩,⟨by decide,by decide⟩,(by decide),(by decide),(fun x hx=>by cases hx)⟩];simp only [Option.bind_some,words_parse.v49,resP,lineC];generalize resL _ =z;obtain⟨zs,zb⟩:=z;cases zb<;>rfl
theorem parse1{κ:Nat}(hκ:40000≤κ)(l:List UInt8)(hl:l.length≤15000):words_parse κ 1 (B l)=some (resP 1 (goP κ false (partsP 1) l (zeroC 1))):=by
 unfold words_parse partsP zeroC;simp only [parts1,Option.bind_some,goP];have hc0:=cut_eq (κ:=κ) l (by omega);have hl0:=cut_len l;generalize hg0:cutM l=q0 at hc0 hl0⊢;obtain⟨a0,l1,m0⟩:=q0;simp only at hc0 hl0⊢;have hr0:=fun a b c d e f g h i j k=>rd_who (κ:=κ) a0 a b c d e f g h i j k (by omega)
 simp only [words_parse.v11,words_parse.v22,unc25,hc0,hr0,Option.bind_some,seq_B,rdP];have hu0:=u_fit a0;generalize uR a0=u0 at hu0⊢;obtain⟨x0,d0⟩:=u0;simp only at hu0⊢;cases d0
 ·rfl
 try simp only [nt,nf,bif_t,bif_f,Option.bind_some]
 cases m0
 ·rfl
 try simp only [nt,nf,bif_t,bif_f,Option.bind_some]
 have hc1:=cut_eq (κ:=κ) l1 (by omega);have hl1:=cut_len l1;generalize hg1:cutM l1=q1 at hc1 hl1;simp only [words_parse.v11,words_parse.v22,unc25,hc1,Option.bind_some,seq_B,rdP];generalize decide (l1=[117,110,108,111,99,107])=d1;cases d1
 ·rfl
 try simp only [nt,nf,bif_t,bif_f,Option.bind_some]
 rw [line1 hκ _ _ _ _ _ _ _ _ _ _ ⟨⟨by decide,by decide⟩,⟨by decide,by decide⟩,⟨by decide,by decide⟩,(by decide),(by decide),(fun x hx=>by cases hx)⟩];simp only [Option.bind_some,words_parse.v49,resP,lineC];generalize resL _ =z;obtain⟨zs,zb⟩:=z;cases zb<;>rfl
theorem parse2{κ:Nat}(hκ:40000≤κ)(l:List UInt8)(hl:l.length≤15000):words_parse κ 2 (B l)=some (resP 2 (goP κ false (partsP 2) l (zeroC 2))):=by
 unfold words_parse partsP zeroC;simp only [parts2,Option.bind_some,goP];have hc0:=cut_eq (κ:=κ) l (by omega);have hl0:=cut_len l;generalize hg0:cutM l=q0 at hc0 hl0⊢;obtain⟨a0,l1,m0⟩:=q0;simp only at hc0 hl0⊢;have hr0:=fun a b c d e f g h i j k=>rd_who (κ:=κ) a0 a b c d e f g h i j k (by omega)
 simp only [words_parse.v11,words_parse.v22,unc25,hc0,hr0,Option.bind_some,seq_B,rdP];have hu0:=u_fit a0;generalize uR a0=u0 at hu0⊢;obtain⟨x0,d0⟩:=u0;simp only at hu0⊢;cases d0
 ·rfl
 try simp only [nt,nf,bif_t,bif_f,Option.bind_some]
 cases m0
 ·rfl
 try simp only [nt,nf,bif_t,bif_f,Option.bind_some]
 have hc1:=cut_eq (κ:=κ) l1 (by omega);have hl1:=cut_len l1;generalize hg1:cutM l1=q1 at hc1 hl1;simp only [words_parse.v11,words_parse.v22,unc25,hc1,Option.bind_some,seq_B,rdP];generalize decide (l1=[100,105,115,99,97,114,100])=d1;cases d1
 ·rfl
 try simp only [nt,nf,bif_t,bif_f,Option.bind_some]
 rw [line2 hκ _ _ _ _ _ _ _ _ _ _ ⟨⟨by decide,by decide⟩,⟨by decide,by decide⟩,⟨by decide,by decide⟩,(by decide),(by decide),(fun x hx=>by cases hx)⟩];simp only [Option.bind_some,words_parse.v49,resP,lineC];generalize resL _ =z;obtain⟨zs,zb⟩:=z;cases zb<;>rfl
theorem parse3{κ:Nat}(hκ:40000≤κ)(l:List UInt8)(hl:l.length≤15000):words_parse κ 3 (B l)=some (resP 3 (goP κ false (partsP 3) l (zeroC 3))):=by
 unfold words_parse partsP zeroC;simp only [parts3,Option.bind_some,goP];have hc0:=cut_eq (κ:=κ) l (by omega);have hl0:=cut_len l;generalize hg0:cutM l=q0 at hc0 hl0⊢;obtain⟨a0,l1,m0⟩:=q0;simp only at hc0 hl0⊢;have hr0:=fun a b c d e f g h i j k=>rd_who (κ:=κ) a0 a b c d e f g h i j k (by omega)
 simp only [words_parse.v11,words_parse.v22,unc25,hc0,hr0,Option.bind_some,seq_B,rdP];have hu0:=u_fit a0;generalize uR a0=u0 at hu0⊢;obtain⟨x0,d0⟩:=u0;simp only at hu0⊢;cases d0
 ·rfl
 try simp only [nt,nf,bif_t,bif_f,Option.bind_some]
 cases m0
 ·rfl
 try simp only [nt,nf,bif_t,bif_f,Option.bind_some]
 have hc1:=cut_eq (κ:=κ) l1 (by omega);have hl1:=cut_len l1;generalize hg1:cutM l1=q1 at hc1 hl1;simp only [words_parse.v11,words_parse.v22,unc25,hc1,Option.bind_some,seq_B,rdP];generalize decide (l1=[99,104,101,99,107])=d1;cases d1
 ·rfl
 try simp only [nt,nf,bif_t,bif_f,Option.bind_some]
 rw [line3 hκ _ _ _ _ _ _ _ _ _ _ ⟨⟨by decide,by decide⟩,⟨by decide,by decide⟩,⟨by decide,by decide⟩,(by decide),(by decide),(fun x hx=>by cases hx)⟩];simp only [Option.bind_some,words_parse.v49,resP,lineC];generalize resL _ =z;obtain⟨zs,zb⟩:=z;cases zb<;>rfl
theorem parse4{κ:Nat}(hκ:40000≤κ)(l:List UInt8)(hl:l.length≤15000):words_parse κ 4 (B l)=some (resP 4 (goP κ false (partsP 4) l (zeroC 4))):=by
 unfold words_parse partsP zeroC;simp only [parts4,Option.bind_some,goP];have hc0:=cut_eq (κ:=κ) l (by omega);have hl0:=cut_len l;generalize hg0:cutM l=q0 at hc0 hl0⊢;obtain⟨a0,l1,m0⟩:=q0;simp only at hc0 hl0⊢;have hr0:=fun a b c d e f g h i j k=>rd_who (κ:=κ) a0 a b c d e f g h i j k (by omega)
 simp only [words_parse.v11,words_parse.v22,unc25,hc0,hr0,Option.bind_some,seq_B,rdP];have hu0:=u_fit a0;generalize uR a0=u0 at hu0⊢;obtain⟨x0,d0⟩:=u0;simp only at hu0⊢;cases d0
 ·rfl
 try simp only [nt,nf,bif_t,bif_f,Option.bind_some]
 cases m0
 ·rfl
 try simp only [nt,nf,bif_t,bif_f,Option.bind_some]
 have hc1:=cut_eq (κ:=κ) l1 (by omega);have hl1:=cut_len l1;generalize hg1:cutM l1=q1 at hc1 hl1;simp only [words_parse.v11,words_parse.v22,unc25,hc1,Option.bind_some,seq_B,rdP];generalize decide (l1=[99,111,110,102,105,114,109])=d1;cases d1
 ·rfl
 try simp only [nt,nf,bif_t,bif_f,Option.bind_some]
 rw [line4 hκ _ _ _ _ _ _ _ _ _ _ ⟨⟨by decide,by decide⟩,⟨by decide,by decide⟩,⟨by decide,by decide⟩,(by decide),(by decide),(fun x hx=>by cases hx)⟩];simp only [Option.bind_some,words_parse.v49,resP,lineC];generalize resL _ =z;obtain⟨zs,zb⟩:=z;cases zb<;>rfl
theorem parse5{κ:Nat}(hκ:40000≤κ)(l:List UInt8)(hl:l.length≤15000):words_parse κ 5 (B l)=some (resP 5 (goP κ false (partsP 5) l (zeroC 5))):=by
 unfold words_parse partsP zeroC;simp only [parts5,Option.bind_some,goP];have hc0:=cut_eq (κ:=κ) l (by omega);have hl0:=cut_len l;generalize hg0:cutM l=q0 at hc0 hl0⊢;obtain⟨a0,l1,m0⟩:=q0;simp only at hc0 hl0⊢;have hr0:=fun a b c d e f g h i j k=>rd_who (κ:=κ) a0 a b c d e f g h i j k (by omega)
 simp only [words_parse.v11,words_parse.v22,unc25,hc0,hr0,Option.bind_some,seq_B,rdP];have hu0:=u_fit a0;generalize uR a0=u0 at hu0⊢;obtain⟨x0,d0⟩:=u0;simp only at hu0⊢;cases d0
 ·rfl
 try simp only [nt,nf,bif_t,bif_f,Option.bind_some]
 cases m0
 ·rfl
 try simp only [nt,nf,bif_t,bif_f,Option.bind_some]
 have hc1:=cut_eq (κ:=κ) l1 (by omega);have hl1:=cut_len l1;generalize hg1:cutM l1=q1 at hc1 hl1;simp only [words_parse.v11,words_parse.v22,unc25,hc1,Option.bind_some,seq_B,rdP];generalize decide (l1=[99,97,110,99,101,108])=d1;cases d1
 ·rfl
 try simp only [nt,nf,bif_t,bif_f,Option.bind_some]
 rw [line5 hκ _ _ _ _ _ _ _ _ _ _ ⟨⟨by decide,by decide⟩,⟨by decide,by decide⟩,⟨by decide,by decide⟩,(by decide),(by decide),(fun x hx=>by cases hx)⟩];simp only [Option.bind_some,words_parse.v49,resP,lineC];generalize resL _ =z;obtain⟨zs,zb⟩:=z;cases zb<;>rfl
theorem parse6{κ:Nat}(hκ:40000≤κ)(l:List UInt8)(hl:l.length≤15000):words_parse κ 6 (B l)=some (resP 6 (goP κ false (partsP 6) l (zeroC 6))):=by
 unfold words_parse partsP zeroC;simp only [parts6,Option.bind_some,goP];have hc0:=cut_eq (κ:=κ) l (by omega);have hl0:=cut_len l;generalize hg0:cutM l=q0 at hc0 hl0⊢;obtain⟨a0,l1,m0⟩:=q0;simp only at hc0 hl0⊢;have hr0:=fun a b c d e f g h i j k=>rd_who (κ:=κ) a0 a b c d e f g h i j k (by omega)
 simp only [words_parse.v11,words_parse.v22,unc25,hc0,hr0,Option.bind_some,seq_B,rdP];have hu0:=u_fit a0;generalize uR a0=u0 at hu0⊢;obtain⟨x0,d0⟩:=u0;simp only at hu0⊢;cases d0
 ·rfl
 try simp only [nt,nf,bif_t,bif_f,Option.bind_some]
 cases m0
 ·rfl
 try simp only [nt,nf,bif_t,bif_f,Option.bind_some]
 have hc1:=cut_eq (κ:=κ) l1 (by omega);have hl1:=cut_len l1;generalize hg1:cutM l1=q1 at hc1 hl1;simp only [words_parse.v11,words_parse.v22,unc25,hc1,Option.bind_some,seq_B,rdP];generalize decide (l1=[115,97,118,101])=d1;cases d1
 ·rfl
 try simp only [nt,nf,bif_t,bif_f,Option.bind_some]
 rw [line6 hκ _ _ _ _ _ _ _ _ _ _ ⟨⟨by decide,by decide⟩,⟨by decide,by decide⟩,⟨by decide,by decide⟩,(by decide),(by decide),(fun x hx=>by cases hx)⟩];simp only [Option.bind_some,words_parse.v49,resP,lineC];generalize resL _ =z;obtain⟨zs,zb⟩:=z;cases zb<;>rfl
theorem parse7{κ:Nat}(hκ:40000≤κ)(l:List UInt8)(hl:l.length≤140737488355328)(hw0:(cutM l).1.length≤15000)(hw2:(cutM (cutM (cutM l).2.1).2.1).1.length≤15000)(hw3:(cutM (cutM (cutM l).2.1).2.1).2.1.length≤140737488351232):words_parse κ 7 (B l)=some (resP 7 (goP κ false (partsP 7) l (zeroC 7))):=by
 unfold words_parse partsP zeroC;simp only [parts7,Option.bind_some,goP];have hc0:=cut_eq (κ:=κ) l (by omega);have hl0:=cut_len l;generalize hg0:cutM l=q0 at hc0 hl0 hw0 hw2 hw3⊢;obtain⟨a0,l1,m0⟩:=q0;simp only at hc0 hl0 hw0 hw2 hw3⊢;have hr0:=fun a b c d e f g h i j k=>rd_who (κ:=κ) a0 a b c d e f g h i j k (by omega)
 simp only [words_parse.v10,words_parse.v21,words_parse.v32,words_parse.v41,unc25,hc0,hr0,Option.bind_some,seq_B,rdP];have hu0:=u_fit a0;generalize uR a0=u0 at hu0⊢;obtain⟨x0,d0⟩:=u0;simp only at hu0⊢;cases d0
 ·rfl
 try simp only [nt,nf,bif_t,bif_f,Option.bind_some]
 cases m0
 ·rfl
 try simp only [nt,nf,bif_t,bif_f,Option.bind_some]
 have hc1:=cut_eq (κ:=κ) l1 (by omega);have hl1:=cut_len l1;generalize hg1:cutM l1=q1 at hc1 hl1 hw2 hw3⊢;obtain⟨a1,l2,m1⟩:=q1;simp only at hc1 hl1 hw2 hw3⊢;simp only [words_parse.v10,words_parse.v21,words_parse.v32,words_parse.v41,unc25,hc1,Option.bind_some,seq_B,rdP];generalize decide (a1=[115,101,116])=d1;cases d1
 ·rfl
 try simp only [nt,nf,bif_t,bif_f,Option.bind_some]
 cases m1
 ·rfl
 try simp only [nt,nf,bif_t,bif_f,Option.bind_some]
 have hc2:=cut_eq (κ:=κ) l2 (by omega);have hl2:=cut_len l2;generalize hg2:cutM l2=q2 at hc2 hl2 hw2 hw3⊢;obtain⟨a2,l3,m2⟩:=q2;simp only at hc2 hl2 hw2 hw3⊢;have hr2:=fun a b c d e f g h i j k=>rd_way (κ:=κ) a2 a b c d e f g h i j k (by omega) (by omega)
 simp only [words_parse.v10,words_parse.v21,words_parse.v32,words_parse.v41,unc25,hc2,hr2,Option.bind_some,seq_B,rdP];generalize ((parV κ a2).1==0)=d2;cases d2
 ·rfl
 try simp only [nt,nf,bif_t,bif_f,Option.bind_some]
 cases m2
 ·rfl
 try simp only [nt,nf,bif_t,bif_f,Option.bind_some]
 have hc3:=cut_eq (κ:=κ) l3 (by omega);have hl3:=cut_len l3;generalize hg3:cutM l3=q3 at hc3 hl3;have hr3:=fun a b c d e f g h i j k=>rd_value (κ:=κ) l3 a b c d e f g h i j k
 simp only [words_parse.v10,words_parse.v21,words_parse.v32,words_parse.v41,unc25,hc3,hr3,Option.bind_some,seq_B,rdP]
 try simp only [nt,nf,bif_t,bif_f,Option.bind_some]
 rw [line7 hκ _ _ _ _ _ _ _ _ _ _ ⟨⟨by decide,by decide⟩,⟨by decide,by decide⟩,⟨by decide,by decide⟩,(by rw [B_size];omega),(by decide),(fun x hx=>by cases hx)⟩];simp only [Option.bind_some,words_parse.v49,resP,lineC];generalize resL _ =z;obtain⟨zs,zb⟩:=z;cases zb<;>rfl
theorem parse8{κ:Nat}(hκ:40000≤κ)(l:List UInt8)(hl:l.length≤15000):words_parse κ 8 (B l)=some (resP 8 (goP κ false (partsP 8) l (zeroC 8))):=by
 unfold words_parse partsP zeroC;simp only [parts8,Option.bind_some,goP];have hc0:=cut_eq (κ:=κ) l (by omega);have hl0:=cut_len l;generalize hg0:cutM l=q0 at hc0 hl0⊢;obtain⟨a0,l1,m0⟩:=q0;simp only at hc0 hl0⊢;have hr0:=fun a b c d e f g h i j k=>rd_who (κ:=κ) a0 a b c d e f g h i j k (by omega)
 simp only [words_parse.v20,words_parse.v31,words_parse.v9,unc25,hc0,hr0,Option.bind_some,seq_B,rdP];have hu0:=u_fit a0;generalize uR a0=u0 at hu0⊢;obtain⟨x0,d0⟩:=u0;simp only at hu0⊢;cases d0
 ·rfl
 try simp only [nt,nf,bif_t,bif_f,Option.bind_some]
 cases m0
 ·rfl
 try simp only [nt,nf,bif_t,bif_f,Option.bind_some]
 have hc1:=cut_eq (κ:=κ) l1 (by omega);have hl1:=cut_len l1;generalize hg1:cutM l1=q1 at hc1 hl1⊢;obtain⟨a1,l2,m1⟩:=q1;simp only at hc1 hl1⊢;simp only [words_parse.v20,words_parse.v31,words_parse.v9,unc25,hc1,Option.bind_some,seq_B,rdP];generalize decide (a1=[100,101,108])=d1;cases d1
 ·rfl
 try simp only [nt,nf,bif_t,bif_f,Option.bind_some]
 cases m1
 ·rfl
 try simp only [nt,nf,bif_t,bif_f,Option.bind_some]
 have hc2:=cut_eq (κ:=κ) l2 (by omega);have hl2:=cut_len l2;generalize hg2:cutM l2=q2 at hc2 hl2;have hr2:=fun a b c d e f g h i j k=>rd_way (κ:=κ) l2 a b c d e f g h i j k (by omega) (by omega)
 simp only [words_parse.v20,words_parse.v31,words_parse.v9,unc25,hc2,hr2,Option.bind_some,seq_B,rdP];generalize ((parV κ l2).1==0)=d2;cases d2
 ·rfl
 try simp only [nt,nf,bif_t,bif_f,Option.bind_some]
 rw [line8 hκ _ _ _ _ _ _ _ _ _ _ ⟨⟨by decide,by decide⟩,⟨by decide,by decide⟩,⟨by decide,by decide⟩,(by decide),(by decide),(fun x hx=>by cases hx)⟩];simp only [Option.bind_some,words_parse.v49,resP,lineC];generalize resL _ =z;obtain⟨zs,zb⟩:=z;cases zb<;>rfl
theorem parse9{κ:Nat}(hκ:40000≤κ)(l:List UInt8)(hl:l.length≤15000):words_parse κ 9 (B l)=some (resP 9 (goP κ true (partsP 9) l (zeroC 9))):=by
 unfold words_parse partsP zeroC;simp only [parts9,Option.bind_some,goP];have hc0:=cut_eq (κ:=κ) l (by omega);have hl0:=cut_len l;generalize hg0:cutM l=q0 at hc0 hl0⊢;obtain⟨a0,l1,m0⟩:=q0;simp only at hc0 hl0⊢;have hr0:=fun a b c d e f g h i j k=>rd_who (κ:=κ) a0 a b c d e f g h i j k (by omega)
 simp only [words_parse.v19,words_parse.v30,words_parse.v8,unc25,hc0,hr0,Option.bind_some,seq_B,rdP];have hu0:=u_fit a0;generalize uR a0=u0 at hu0⊢;obtain⟨x0,d0⟩:=u0;simp only at hu0⊢;cases d0
 ·rfl
 try simp only [nt,nf,bif_t,bif_f,Option.bind_some]
 cases m0
 ·rfl
 try simp only [nt,nf,bif_t,bif_f,Option.bind_some]
 have hc1:=cut_eq (κ:=κ) l1 (by omega);have hl1:=cut_len l1;generalize hg1:cutM l1=q1 at hc1 hl1⊢;obtain⟨a1,l2,m1⟩:=q1;simp only at hc1 hl1⊢;simp only [words_parse.v19,words_parse.v30,words_parse.v8,unc25,hc1,Option.bind_some,seq_B,rdP];generalize decide (a1=[99,111,109,109,105,116])=d1;cases d1
 ·rfl
 try simp only [nt,nf,bif_t,bif_f,Option.bind_some]
 cases m1
 ·simp only [nt,nf,bif_t,bif_f,Option.bind_some,Bool.and_self,isW,List.isEmpty_nil,show((9:Int)==9)=true from rfl]
  rw [line9 hκ _ _ _ _ _ _ _ _ _ _ ⟨⟨by decide,by decide⟩,⟨by decide,by decide⟩,⟨by decide,by decide⟩,(by decide),(by decide),(fun x hx=>by cases hx)⟩];simp only [Option.bind_some,words_parse.v49,resP,lineC];generalize resL _ =z;obtain⟨zs,zb⟩:=z;cases zb<;>rfl
 try simp only [nt,nf,bif_t,bif_f,Option.bind_some]
 have hc2:=cut_eq (κ:=κ) l2 (by omega);have hl2:=cut_len l2;generalize hg2:cutM l2=q2 at hc2 hl2;have hr2:=fun a b c d e f g h i j k=>rd_sm (κ:=κ) l2 a b c d e f g h i j k (by omega)
 simp only [words_parse.v19,words_parse.v30,words_parse.v8,unc25,hc2,hr2,Option.bind_some,seq_B,rdP];have hu2:=u_fit l2;generalize ((uR l2).2&&decide ((uR l2).1>0))=d2;cases d2
 ·rfl
 try simp only [nt,nf,bif_t,bif_f,Option.bind_some]
 rw [line9 hκ _ _ _ _ _ _ _ _ _ _ ⟨hu2,⟨by decide,by decide⟩,⟨by decide,by decide⟩,(by decide),(by decide),(fun x hx=>by cases hx)⟩];simp only [Option.bind_some,words_parse.v49,resP,lineC];generalize resL _ =z;obtain⟨zs,zb⟩:=z;cases zb<;>rfl
theorem parse10{κ:Nat}(hκ:40000≤κ)(l:List UInt8)(hl:l.length≤15000):words_parse κ 10 (B l)=some (resP 10 (goP κ false (partsP 10) l (zeroC 10))):=by
 unfold words_parse partsP zeroC;simp only [parts10,Option.bind_some,goP];have hc0:=cut_eq (κ:=κ) l (by omega);have hl0:=cut_len l;generalize hg0:cutM l=q0 at hc0 hl0⊢;obtain⟨a0,l1,m0⟩:=q0;simp only at hc0 hl0⊢;have hr0:=fun a b c d e f g h i j k=>rd_who (κ:=κ) a0 a b c d e f g h i j k (by omega)
 simp only [words_parse.v18,words_parse.v29,words_parse.v7,unc25,hc0,hr0,Option.bind_some,seq_B,rdP];have hu0:=u_fit a0;generalize uR a0=u0 at hu0⊢;obtain⟨x0,d0⟩:=u0;simp only at hu0⊢;cases d0
 ·rfl
 try simp only [nt,nf,bif_t,bif_f,Option.bind_some]
 cases m0
 ·rfl
 try simp only [nt,nf,bif_t,bif_f,Option.bind_some]
 have hc1:=cut_eq (κ:=κ) l1 (by omega);have hl1:=cut_len l1;generalize hg1:cutM l1=q1 at hc1 hl1⊢;obtain⟨a1,l2,m1⟩:=q1;simp only at hc1 hl1⊢;simp only [words_parse.v18,words_parse.v29,words_parse.v7,unc25,hc1,Option.bind_some,seq_B,rdP];generalize decide (a1=[114,111,108,108,98,97,99,107])=d1;cases d1
 ·rfl
 try simp only [nt,nf,bif_t,bif_f,Option.bind_some]
 cases m1
 ·rfl
 try simp only [nt,nf,bif_t,bif_f,Option.bind_some]
 have hc2:=cut_eq (κ:=κ) l2 (by omega);have hl2:=cut_len l2;generalize hg2:cutM l2=q2 at hc2 hl2;have hr2:=fun a b c d e f g h i j k=>rd_n (κ:=κ) l2 a b c d e f g h i j k (by omega)
 simp only [words_parse.v18,words_parse.v29,words_parse.v7,unc25,hc2,hr2,Option.bind_some,seq_B,rdP];have hu2:=u_fit l2;generalize uR l2=u2 at hu2⊢;obtain⟨x2,d2⟩:=u2;simp only at hu2⊢;cases d2
 ·rfl
 try simp only [nt,nf,bif_t,bif_f,Option.bind_some]
 rw [line10 hκ _ _ _ _ _ _ _ _ _ _ ⟨hu2,⟨by decide,by decide⟩,⟨by decide,by decide⟩,(by decide),(by decide),(fun x hx=>by cases hx)⟩];simp only [Option.bind_some,words_parse.v49,resP,lineC];generalize resL _ =z;obtain⟨zs,zb⟩:=z;cases zb<;>rfl
theorem parse11{κ:Nat}(hκ:40000≤κ)(l:List UInt8)(hl:l.length≤15000):words_parse κ 11 (B l)=some (resP 11 (goP κ false (partsP 11) l (zeroC 11))):=by
 unfold words_parse partsP zeroC;simp only [parts11,Option.bind_some,goP];have hc0:=cut_eq (κ:=κ) l (by omega);have hl0:=cut_len l;generalize hg0:cutM l=q0 at hc0 hl0⊢;obtain⟨a0,l1,m0⟩:=q0;simp only at hc0 hl0⊢;have hr0:=fun a b c d e f g h i j k=>rd_who (κ:=κ) a0 a b c d e f g h i j k (by omega)
 simp only [words_parse.v18,words_parse.v29,words_parse.v7,unc25,hc0,hr0,Option.bind_some,seq_B,rdP];have hu0:=u_fit a0;generalize uR a0=u0 at hu0⊢;obtain⟨x0,d0⟩:=u0;simp only at hu0⊢;cases d0
 ·rfl
 try simp only [nt,nf,bif_t,bif_f,Option.bind_some]
 cases m0
 ·rfl
 try simp only [nt,nf,bif_t,bif_f,Option.bind_some]
 have hc1:=cut_eq (κ:=κ) l1 (by omega);have hl1:=cut_len l1;generalize hg1:cutM l1=q1 at hc1 hl1⊢;obtain⟨a1,l2,m1⟩:=q1;simp only at hc1 hl1⊢;simp only [words_parse.v18,words_parse.v29,words_parse.v7,unc25,hc1,Option.bind_some,seq_B,rdP];generalize decide (a1=[112,114,117,110,101])=d1;cases d1
 ·rfl
 try simp only [nt,nf,bif_t,bif_f,Option.bind_some]
 cases m1
 ·rfl
 try simp only [nt,nf,bif_t,bif_f,Option.bind_some]
 have hc2:=cut_eq (κ:=κ) l2 (by omega);have hl2:=cut_len l2;generalize hg2:cutM l2=q2 at hc2 hl2;have hr2:=fun a b c d e f g h i j k=>rd_n (κ:=κ) l2 a b c d e f g h i j k (by omega)
 simp only [words_parse.v18,words_parse.v29,words_parse.v7,unc25,hc2,hr2,Option.bind_some,seq_B,rdP];have hu2:=u_fit l2;generalize uR l2=u2 at hu2⊢;obtain⟨x2,d2⟩:=u2;simp only at hu2⊢;cases d2
 ·rfl
 try simp only [nt,nf,bif_t,bif_f,Option.bind_some]
 rw [line11 hκ _ _ _ _ _ _ _ _ _ _ ⟨hu2,⟨by decide,by decide⟩,⟨by decide,by decide⟩,(by decide),(by decide),(fun x hx=>by cases hx)⟩];simp only [Option.bind_some,words_parse.v49,resP,lineC];generalize resL _ =z;obtain⟨zs,zb⟩:=z;cases zb<;>rfl
theorem parse12{κ:Nat}(hκ:40000≤κ)(l:List UInt8)(hl:l.length≤15000):words_parse κ 12 (B l)=some (resP 12 (goP κ false (partsP 12) l (zeroC 12))):=by
 unfold words_parse partsP zeroC;simp only [parts12,Option.bind_some,goP];have hc0:=cut_eq (κ:=κ) l (by omega);have hl0:=cut_len l;generalize hg0:cutM l=q0 at hc0 hl0⊢;obtain⟨a0,l1,m0⟩:=q0;simp only at hc0 hl0⊢;have hr0:=fun a b c d e f g h i j k=>rd_who (κ:=κ) a0 a b c d e f g h i j k (by omega)
 simp only [words_parse.v17,words_parse.v28,words_parse.v37,words_parse.v45,words_parse.v6,unc29,hc0,hr0,Option.bind_some,seq_B,rdP];have hu0:=u_fit a0;generalize uR a0=u0 at hu0⊢;obtain⟨x0,d0⟩:=u0;simp only at hu0⊢;cases d0
 ·rfl
 try simp only [nt,nf,bif_t,bif_f,Option.bind_some]
 cases m0
 ·rfl
 try simp only [nt,nf,bif_t,bif_f,Option.bind_some]
 have hc1:=cut_eq (κ:=κ) l1 (by omega);have hl1:=cut_len l1;generalize hg1:cutM l1=q1 at hc1 hl1⊢;obtain⟨a1,l2,m1⟩:=q1;simp only at hc1 hl1⊢;simp only [words_parse.v17,words_parse.v28,words_parse.v37,words_parse.v45,words_parse.v6,unc29,hc1,Option.bind_some,seq_B,rdP];generalize decide (a1=[115,104,111,119])=d1;cases d1
 ·rfl
 try simp only [nt,nf,bif_t,bif_f,Option.bind_some]
 cases m1
 ·rfl
 try simp only [nt,nf,bif_t,bif_f,Option.bind_some]
 have hc2:=cut_eq (κ:=κ) l2 (by omega);have hl2:=cut_len l2;generalize hg2:cutM l2=q2 at hc2 hl2⊢;obtain⟨a2,l3,m2⟩:=q2;simp only at hc2 hl2⊢;have hr2:=fun a b c d e f g h i j k=>rd_store (κ:=κ) a2 a b c d e f g h i j k
 simp only [words_parse.v17,words_parse.v28,words_parse.v37,words_parse.v45,words_parse.v6,unc29,hc2,hr2,Option.bind_some,seq_B,rdP];generalize (decide (a2=[114,117,110,110,105,110,103])||decide (a2=[99,97,110,100,105,100,97,116,101]))=d2;cases d2
 ·rfl
 try simp only [nt,nf,bif_t,bif_f,Option.bind_some]
 cases m2
 ·rfl
 try simp only [nt,nf,bif_t,bif_f,Option.bind_some]
 have hc3:=cut_eq (κ:=κ) l3 (by omega);have hl3:=cut_len l3;generalize hg3:cutM l3=q3 at hc3 hl3⊢;obtain⟨a3,l4,m3⟩:=q3;simp only at hc3 hl3⊢;have hr3:=fun a b c d e f g h i j k=>rd_form (κ:=κ) a3 a b c d e f g h i j k
 simp only [words_parse.v17,words_parse.v28,words_parse.v37,words_parse.v45,words_parse.v6,unc29,hc3,hr3,Option.bind_some,seq_B,rdP];generalize (decide (a3=[98,121,116,101,115])||decide (a3=[116,101,120,116]))=d3;cases d3
 ·rfl
 try simp only [nt,nf,bif_t,bif_f,Option.bind_some]
 cases m3
 ·rfl
 try simp only [nt,nf,bif_t,bif_f,Option.bind_some]
 have hc4:=cut_eq (κ:=κ) l4 (by omega);have hl4:=cut_len l4;generalize hg4:cutM l4=q4 at hc4 hl4;have hr4:=fun a b c d e f g h i j k=>rd_n (κ:=κ) l4 a b c d e f g h i j k (by omega)
 simp only [words_parse.v17,words_parse.v28,words_parse.v37,words_parse.v45,words_parse.v6,unc29,hc4,hr4,Option.bind_some,seq_B,rdP];have hu4:=u_fit l4;generalize uR l4=u4 at hu4⊢;obtain⟨x4,d4⟩:=u4;simp only at hu4⊢;cases d4
 ·rfl
 try simp only [nt,nf,bif_t,bif_f,Option.bind_some]
 rw [line12 hκ _ _ _ _ _ _ _ _ _ _ ⟨hu4,⟨by decide,by decide⟩,⟨by decide,by decide⟩,(by decide),(by decide),(fun x hx=>by cases hx)⟩];simp only [Option.bind_some,words_parse.v49,resP,lineC];generalize resL _ =z;obtain⟨zs,zb⟩:=z;cases zb<;>rfl
theorem parse13{κ:Nat}(hκ:40000≤κ)(l:List UInt8)(hl:l.length≤15000):words_parse κ 13 (B l)=some (resP 13 (goP κ false (partsP 13) l (zeroC 13))):=by
 unfold words_parse partsP zeroC;simp only [parts13,Option.bind_some,goP];have hc0:=cut_eq (κ:=κ) l (by omega);have hl0:=cut_len l;generalize hg0:cutM l=q0 at hc0 hl0⊢;obtain⟨a0,l1,m0⟩:=q0;simp only at hc0 hl0⊢;have hr0:=fun a b c d e f g h i j k=>rd_who (κ:=κ) a0 a b c d e f g h i j k (by omega)
 simp only [words_parse.v16,words_parse.v27,words_parse.v36,words_parse.v5,unc26,hc0,hr0,Option.bind_some,seq_B,rdP];have hu0:=u_fit a0;generalize uR a0=u0 at hu0⊢;obtain⟨x0,d0⟩:=u0;simp only at hu0⊢;cases d0
 ·rfl
 try simp only [nt,nf,bif_t,bif_f,Option.bind_some]
 cases m0
 ·rfl
 try simp only [nt,nf,bif_t,bif_f,Option.bind_some]
 have hc1:=cut_eq (κ:=κ) l1 (by omega);have hl1:=cut_len l1;generalize hg1:cutM l1=q1 at hc1 hl1⊢;obtain⟨a1,l2,m1⟩:=q1;simp only at hc1 hl1⊢;simp only [words_parse.v16,words_parse.v27,words_parse.v36,words_parse.v5,unc26,hc1,Option.bind_some,seq_B,rdP];generalize decide (a1=[108,111,97,100])=d1;cases d1
 ·rfl
 try simp only [nt,nf,bif_t,bif_f,Option.bind_some]
 cases m1
 ·rfl
 try simp only [nt,nf,bif_t,bif_f,Option.bind_some]
 have hc2:=cut_eq (κ:=κ) l2 (by omega);have hl2:=cut_len l2;generalize hg2:cutM l2=q2 at hc2 hl2⊢;obtain⟨a2,l3,m2⟩:=q2;simp only at hc2 hl2⊢;simp only [words_parse.v16,words_parse.v27,words_parse.v36,words_parse.v5,unc26,hc2,Option.bind_some,seq_B,rdP];generalize decide (a2=[116,101,120,116])=d2;cases d2
 ·rfl
 try simp only [nt,nf,bif_t,bif_f,Option.bind_some]
 cases m2
 ·rfl
 try simp only [nt,nf,bif_t,bif_f,Option.bind_some]
 have hc3:=cut_eq (κ:=κ) l3 (by omega);have hl3:=cut_len l3;generalize hg3:cutM l3=q3 at hc3 hl3;have hr3:=fun a b c d e f g h i j k=>rd_raw (κ:=κ) l3 a b c d e f g h i j k (by omega)
 simp only [words_parse.v16,words_parse.v27,words_parse.v36,words_parse.v5,unc26,hc3,hr3,Option.bind_some,seq_B,rdP]
 try simp only [nt,nf,bif_t,bif_f,Option.bind_some]
 rw [line13 hκ _ _ _ _ _ _ _ _ _ _ ⟨⟨by decide,by decide⟩,⟨by decide,by decide⟩,⟨by decide,by decide⟩,(by decide),(by rw [ints_len];omega),ints_byt _⟩];simp only [Option.bind_some,words_parse.v49,resP,lineC];generalize resL _ =z;obtain⟨zs,zb⟩:=z;cases zb<;>rfl
theorem parse14{κ:Nat}(hκ:40000≤κ)(l:List UInt8)(hl:l.length≤15000):words_parse κ 14 (B l)=some (resP 14 (goP κ false (partsP 14) l (zeroC 14))):=by
 unfold words_parse partsP zeroC;simp only [parts14,Option.bind_some,goP];have hc0:=cut_eq (κ:=κ) l (by omega);have hl0:=cut_len l;generalize hg0:cutM l=q0 at hc0 hl0⊢;obtain⟨a0,l1,m0⟩:=q0;simp only at hc0 hl0⊢;have hr0:=fun a b c d e f g h i j k=>rd_who (κ:=κ) a0 a b c d e f g h i j k (by omega)
 simp only [words_parse.v15,words_parse.v26,words_parse.v35,words_parse.v4,unc26,hc0,hr0,Option.bind_some,seq_B,rdP];have hu0:=u_fit a0;generalize uR a0=u0 at hu0⊢;obtain⟨x0,d0⟩:=u0;simp only at hu0⊢;cases d0
 ·rfl
 try simp only [nt,nf,bif_t,bif_f,Option.bind_some]
 cases m0
 ·rfl
 try simp only [nt,nf,bif_t,bif_f,Option.bind_some]
 have hc1:=cut_eq (κ:=κ) l1 (by omega);have hl1:=cut_len l1;generalize hg1:cutM l1=q1 at hc1 hl1⊢;obtain⟨a1,l2,m1⟩:=q1;simp only at hc1 hl1⊢;simp only [words_parse.v15,words_parse.v26,words_parse.v35,words_parse.v4,unc26,hc1,Option.bind_some,seq_B,rdP];generalize decide (a1=[108,111,97,100])=d1;cases d1
 ·rfl
 try simp only [nt,nf,bif_t,bif_f,Option.bind_some]
 cases m1
 ·rfl
 try simp only [nt,nf,bif_t,bif_f,Option.bind_some]
 have hc2:=cut_eq (κ:=κ) l2 (by omega);have hl2:=cut_len l2;generalize hg2:cutM l2=q2 at hc2 hl2⊢;obtain⟨a2,l3,m2⟩:=q2;simp only at hc2 hl2⊢;simp only [words_parse.v15,words_parse.v26,words_parse.v35,words_parse.v4,unc26,hc2,Option.bind_some,seq_B,rdP];generalize decide (a2=[98,121,116,101,115])=d2;cases d2
 ·rfl
 try simp only [nt,nf,bif_t,bif_f,Option.bind_some]
 cases m2
 ·rfl
 try simp only [nt,nf,bif_t,bif_f,Option.bind_some]
 have hc3:=cut_eq (κ:=κ) l3 (by omega);have hl3:=cut_len l3;generalize hg3:cutM l3=q3 at hc3 hl3;have hr3:=fun a b c d e f g h i j k=>rd_digits (κ:=κ) l3 a b c d e f g h i j k (by omega) (by omega)
 simp only [words_parse.v15,words_parse.v26,words_parse.v35,words_parse.v4,unc26,hc3,hr3,Option.bind_some,seq_B,rdP];have hu3:=un_fit l3;generalize unR l3=u3 at hu3⊢;obtain⟨d3,x3⟩:=u3;simp only at hu3⊢;cases d3
 ·rfl
 try simp only [nt,nf,bif_t,bif_f,Option.bind_some]
 rw [line14 hκ _ _ _ _ _ _ _ _ _ _ ⟨⟨by decide,by decide⟩,⟨by decide,by decide⟩,⟨by decide,by decide⟩,(by decide),(by omega),hu3.2⟩];simp only [Option.bind_some,words_parse.v49,resP,lineC];generalize resL _ =z;obtain⟨zs,zb⟩:=z;cases zb<;>rfl
theorem parse15{κ:Nat}(hκ:40000≤κ)(l:List UInt8)(hl:l.length≤15000):words_parse κ 15 (B l)=some (resP 15 (goP κ false (partsP 15) l (zeroC 15))):=by
 unfold words_parse partsP zeroC;simp only [parts15,Option.bind_some,goP];have hc0:=cut_eq (κ:=κ) l (by omega);have hl0:=cut_len l;generalize hg0:cutM l=q0 at hc0 hl0⊢;obtain⟨a0,l1,m0⟩:=q0;simp only at hc0 hl0⊢;simp only [words_parse.v14,words_parse.v25,words_parse.v3,words_parse.v34,unc25,hc0,Option.bind_some,seq_B,rdP];generalize decide (a0=[112,97,99,107,101,116])=d0;cases d0
 ·rfl
 try simp only [nt,nf,bif_t,bif_f,Option.bind_some]
 cases m0
 ·rfl
 try simp only [nt,nf,bif_t,bif_f,Option.bind_some]
 have hc1:=cut_eq (κ:=κ) l1 (by omega);have hl1:=cut_len l1;generalize hg1:cutM l1=q1 at hc1 hl1⊢;obtain⟨a1,l2,m1⟩:=q1;simp only at hc1 hl1⊢;have hr1:=fun a b c d e f g h i j k=>rd_port (κ:=κ) a1 a b c d e f g h i j k
 simp only [words_parse.v14,words_parse.v25,words_parse.v3,words_parse.v34,unc25,hc1,hr1,Option.bind_some,seq_B,rdP]
 try simp only [nt,nf,bif_t,bif_f,Option.bind_some]
 cases m1
 ·rfl
 try simp only [nt,nf,bif_t,bif_f,Option.bind_some]
 have hc2:=cut_eq (κ:=κ) l2 (by omega);have hl2:=cut_len l2;generalize hg2:cutM l2=q2 at hc2 hl2⊢;obtain⟨a2,l3,m2⟩:=q2;simp only at hc2 hl2⊢;have hr2:=fun a b c d e f g h i j k=>rd_flow (κ:=κ) a2 a b c d e f g h i j k (by omega)
 simp only [words_parse.v14,words_parse.v25,words_parse.v3,words_parse.v34,unc25,hc2,hr2,Option.bind_some,seq_B,rdP];have hu2:=u_fit a2;generalize uR a2=u2 at hu2⊢;obtain⟨x2,d2⟩:=u2;simp only at hu2⊢;cases d2
 ·rfl
 try simp only [nt,nf,bif_t,bif_f,Option.bind_some]
 cases m2
 ·rfl
 try simp only [nt,nf,bif_t,bif_f,Option.bind_some]
 have hc3:=cut_eq (κ:=κ) l3 (by omega);have hl3:=cut_len l3;generalize hg3:cutM l3=q3 at hc3 hl3;have hr3:=fun a b c d e f g h i j k=>rd_size (κ:=κ) l3 a b c d e f g h i j k (by omega)
 simp only [words_parse.v14,words_parse.v25,words_parse.v3,words_parse.v34,unc25,hc3,hr3,Option.bind_some,seq_B,rdP];have hu3:=u_fit l3;generalize uR l3=u3 at hu3⊢;obtain⟨x3,d3⟩:=u3;simp only at hu3⊢;cases d3
 ·rfl
 try simp only [nt,nf,bif_t,bif_f,Option.bind_some]
 rw [line15 hκ _ _ _ _ _ _ _ _ _ _ ⟨⟨by decide,by decide⟩,hu2,hu3,(by decide),(by decide),(fun x hx=>by cases hx)⟩];simp only [Option.bind_some,words_parse.v49,resP,lineC];generalize resL _ =z;obtain⟨zs,zb⟩:=z;cases zb<;>rfl
theorem parse16{κ:Nat}(hκ:40000≤κ)(l:List UInt8)(hl:l.length≤15000):words_parse κ 16 (B l)=some (resP 16 (goP κ false (partsP 16) l (zeroC 16))):=by
 unfold words_parse partsP zeroC;simp only [parts16,Option.bind_some,goP];have hc0:=cut_eq (κ:=κ) l (by omega);have hl0:=cut_len l;generalize hg0:cutM l=q0 at hc0 hl0⊢;obtain⟨a0,l1,m0⟩:=q0;simp only at hc0 hl0⊢;simp only [words_parse.v13,words_parse.v2,unc25,hc0,Option.bind_some,seq_B,rdP];generalize decide (a0=[116,105,99,107])=d0;cases d0
 ·rfl
 try simp only [nt,nf,bif_t,bif_f,Option.bind_some]
 cases m0
 ·rfl
 try simp only [nt,nf,bif_t,bif_f,Option.bind_some]
 have hc1:=cut_eq (κ:=κ) l1 (by omega);have hl1:=cut_len l1;generalize hg1:cutM l1=q1 at hc1 hl1;have hr1:=fun a b c d e f g h i j k=>rd_n (κ:=κ) l1 a b c d e f g h i j k (by omega)
 simp only [words_parse.v13,words_parse.v2,unc25,hc1,hr1,Option.bind_some,seq_B,rdP];have hu1:=u_fit l1;generalize uR l1=u1 at hu1⊢;obtain⟨x1,d1⟩:=u1;simp only at hu1⊢;cases d1
 ·rfl
 try simp only [nt,nf,bif_t,bif_f,Option.bind_some]
 rw [line16 hκ _ _ _ _ _ _ _ _ _ _ ⟨hu1,⟨by decide,by decide⟩,⟨by decide,by decide⟩,(by decide),(by decide),(fun x hx=>by cases hx)⟩];simp only [Option.bind_some,words_parse.v49,resP,lineC];generalize resL _ =z;obtain⟨zs,zb⟩:=z;cases zb<;>rfl
theorem parse17{κ:Nat}(hκ:40000≤κ)(l:List UInt8)(hl:l.length≤15000):words_parse κ 17 (B l)=some (resP 17 (goP κ false (partsP 17) l (zeroC 17))):=by
 unfold words_parse partsP zeroC;simp only [parts17,Option.bind_some,goP];have hc0:=cut_eq (κ:=κ) l (by omega);have hl0:=cut_len l;generalize hg0:cutM l=q0 at hc0 hl0⊢;obtain⟨a0,l1,m0⟩:=q0;simp only at hc0 hl0⊢;simp only [words_parse.v1,words_parse.v12,unc25,hc0,Option.bind_some,seq_B,rdP];generalize decide (a0=[110,101,120,116])=d0;cases d0
 ·rfl
 try simp only [nt,nf,bif_t,bif_f,Option.bind_some]
 cases m0
 ·rfl
 try simp only [nt,nf,bif_t,bif_f,Option.bind_some]
 have hc1:=cut_eq (κ:=κ) l1 (by omega);have hl1:=cut_len l1;generalize hg1:cutM l1=q1 at hc1 hl1;have hr1:=fun a b c d e f g h i j k=>rd_port (κ:=κ) l1 a b c d e f g h i j k
 simp only [words_parse.v1,words_parse.v12,unc25,hc1,hr1,Option.bind_some,seq_B,rdP]
 try simp only [nt,nf,bif_t,bif_f,Option.bind_some]
 rw [line17 hκ _ _ _ _ _ _ _ _ _ _ ⟨⟨by decide,by decide⟩,⟨by decide,by decide⟩,⟨by decide,by decide⟩,(by decide),(by decide),(fun x hx=>by cases hx)⟩];simp only [Option.bind_some,words_parse.v49,resP,lineC];generalize resL _ =z;obtain⟨zs,zb⟩:=z;cases zb<;>rfl
theorem parse18{κ:Nat}(hκ:40000≤κ)(l:List UInt8)(hl:l.length≤15000):words_parse κ 18 (B l)=some (resP 18 (goP κ false (partsP 18) l (zeroC 18))):=by
 unfold words_parse partsP zeroC;simp only [parts18,Option.bind_some,goP];have hc0:=cut_eq (κ:=κ) l (by omega);have hl0:=cut_len l;generalize hg0:cutM l=q0 at hc0 hl0⊢;obtain⟨a0,l1,m0⟩:=q0;simp only at hc0 hl0⊢;simp only [words_parse.v1,words_parse.v12,unc25,hc0,Option.bind_some,seq_B,rdP];generalize decide (a0=[100,117,109,112])=d0;cases d0
 ·rfl
 try simp only [nt,nf,bif_t,bif_f,Option.bind_some]
 cases m0
 ·rfl
 try simp only [nt,nf,bif_t,bif_f,Option.bind_some]
 have hc1:=cut_eq (κ:=κ) l1 (by omega);have hl1:=cut_len l1;generalize hg1:cutM l1=q1 at hc1 hl1;have hr1:=fun a b c d e f g h i j k=>rd_port (κ:=κ) l1 a b c d e f g h i j k
 simp only [words_parse.v1,words_parse.v12,unc25,hc1,hr1,Option.bind_some,seq_B,rdP]
 try simp only [nt,nf,bif_t,bif_f,Option.bind_some]
 rw [line18 hκ _ _ _ _ _ _ _ _ _ _ ⟨⟨by decide,by decide⟩,⟨by decide,by decide⟩,⟨by decide,by decide⟩,(by decide),(by decide),(fun x hx=>by cases hx)⟩];simp only [Option.bind_some,words_parse.v49,resP,lineC];generalize resL _ =z;obtain⟨zs,zb⟩:=z;cases zb<;>rfl
end Go.Proofs.YtdoifigogbdodaaGreatDoor.Wo

namespace Go.Proofs.YtdoifigogbdodaaGreatDoor.Wo
open Go Ev Ev.Seat Go.Lib
def stepB(a b:ApiStep):Bool:=seq a.name b.name&&seq a.key b.key
def stepsB:List ApiStep→List ApiStep→Bool
 |[],[]=>true
 |a::l,b::m=>stepB a b&&stepsB l m
 |_,_ =>false
theorem stepB_iff{a b:ApiStep}:stepB a b=true↔a=b:=by
 unfold stepB;rw [Bool.and_eq_true,Va8.seq_iff,Va8.seq_iff];cases a;cases b;simp
theorem stepsB_iff:∀{a b:List ApiStep},stepsB a b=true↔a=b
 |[],[]=>by simp [stepsB]
 |a::l,b::m=>by
  unfold stepsB;rw [Bool.and_eq_true,stepB_iff,stepsB_iff];simp
 |[],_ ::_ =>by simp [stepsB]
 |_ ::_,[]=>by simp [stepsB]
theorem stepsB_len:∀{a b:List ApiStep},a.length≠b.length→stepsB a b=false
 |[],[],h=>absurd rfl h
 |a::l,b::m,h=>by
  unfold stepsB;rw [stepsB_len (by simpa using h)];simp
 |[],_ ::_,_ =>rfl
 |_ ::_,[],_ =>rfl
theorem eq_loop{κ:Nat}(a b:List ApiStep)(hb:b.length<1000000)(hab:a.length=b.length):∀(d i K:Nat),a.length=i+d→d<K→
  slices_Equal.l0 κ K (a,b,((a.length:Nat):Int),((i:Nat):Int))=some (bif stepsB (a.drop i) (b.drop i)then .inl ()else .inr false)
 |d,i,0,_,h=>by omega
 |0,i,K+1,hd,_ =>by
  unfold slices_Equal.l0 slices_Equal.w0;rw [show decide (((i:Nat):Int)<((a.length:Nat):Int))=false from decide_eq_false (by omega),List.drop_eq_nil_of_le (by omega),List.drop_eq_nil_of_le (by omega)];rfl
 |d+1,i,K+1,hd,hk=>by
  have h1:i<a.length:=by omega
  have h2:i<b.length:=by omega
  have ih:=eq_loop (κ:=κ) a b hb hab d (i+1) K (by omega) (by omega);have hda:a.drop i=a[i]::a.drop (i+1):=List.drop_eq_getElem_cons h1;have hdb:b.drop i=b[i]::b.drop (i+1):=List.drop_eq_getElem_cons h2;unfold slices_Equal.l0 slices_Equal.w0;rw [hda,hdb];simp only [show decide (((i:Nat):Int)<((a.length:Nat):Int))=true from decide_eq_true (by omega),show decide ((0:Int)≤((i:Nat):Int))=true from decide_eq_true (by omega),bif_t,Int.toNat_natCast,List.getElem?_eq_getElem h1,List.getElem?_eq_getElem h2,Option.bind_some];rw [wrap1 i (by omega),ih,show stepsB (a[i]::a.drop (i+1)) (b[i]::b.drop (i+1))=(stepB a[i] b[i]&&stepsB (a.drop (i+1)) (b.drop (i+1)))from rfl,show(seq a[i].name b[i].name&&seq a[i].key b[i].key)=stepB a[i] b[i]from rfl];cases stepB a[i] b[i]<;>rfl
theorem equal_eq{κ:Nat}(a b:List ApiStep)(hb:b.length<1000000)(hκ:b.length<κ):slices_Equal κ a b=some (stepsB a b):=by
 unfold slices_Equal;by_cases h:a.length=b.length
 ·have hn:(((a.length:Nat):Int) !=((b.length:Nat):Int))=false:=by simp [h]
  have h1:=eq_loop (κ:=κ) a b hb h a.length 0 κ (by omega) (by omega);rw [hn];simp only [bif_f];rw [show slices_Equal.l0 κ κ (a,b,((a.length:Nat):Int),(0:Int))=_ from h1];simp only [List.drop_zero,Option.bind_some];cases stepsB a b<;>rfl
 ·have hn:(((a.length:Nat):Int) !=((b.length:Nat):Int))=true:=by simp [bne];omega
  rw [hn,stepsB_len h];rfl
theorem req_loop{κ:Nat}(a b:List ApiStep)(hb:b.length<1000000)(hab:a.length=b.length):∀(d i K:Nat),a.length=i+d→d<K→
  r10_Steps.l0 κ K (a,b,((i:Nat):Int))=some (bif stepsB (a.drop i) (b.drop i)then .inl ()else .inr false)
 |d,i,0,_,h=>by omega
 |0,i,K+1,hd,_ =>by
  unfold r10_Steps.l0 r10_Steps.w0;rw [show decide (((i:Nat):Int)<((a.length:Nat):Int))=false from decide_eq_false (by omega),List.drop_eq_nil_of_le (by omega),List.drop_eq_nil_of_le (by omega)];rfl
 |d+1,i,K+1,hd,hk=>by
  have h1:i<a.length:=by omega
  have h2:i<b.length:=by omega
  have ih:=req_loop (κ:=κ) a b hb hab d (i+1) K (by omega) (by omega);have hda:a.drop i=a[i]::a.drop (i+1):=List.drop_eq_getElem_cons h1;have hdb:b.drop i=b[i]::b.drop (i+1):=List.drop_eq_getElem_cons h2;unfold r10_Steps.l0 r10_Steps.w0;rw [hda,hdb];simp only [show decide (((i:Nat):Int)<((a.length:Nat):Int))=true from decide_eq_true (by omega),show decide ((0:Int)≤((i:Nat):Int))=true from decide_eq_true (by omega),bif_t,Int.toNat_natCast,List.getElem?_eq_getElem h1,List.getElem?_eq_getElem h2,Option.bind_some];rw [wrap1 i (by omega),ih,show stepsB (a[i]::a.drop (i+1)) (b[i]::b.drop (i+1))=(stepB a[i] b[i]&&stepsB (a.drop (i+1)) (b.drop (i+1)))from rfl,show(seq a[i].name b[i].name&&seq a[i].key b[i].key)=stepB a[i] b[i]from rfl];cases stepB a[i] b[i]<;>rfl
theorem requal_eq{κ:Nat}(a b:List ApiStep)(hb:b.length<1000000)(hκ:b.length<κ):r10_Steps κ a b=some (stepsB a b):=by
 unfold r10_Steps;by_cases h:a.length=b.length
 ·have hn:(((a.length:Nat):Int) !=((b.length:Nat):Int))=false:=by simp [h]
  have h1:=req_loop (κ:=κ) a b hb h a.length 0 κ (by omega) (by omega);rw [hn];simp only [bif_f];rw [show r10_Steps.l0 κ κ (a,b,(0:Int))=_ from h1];simp only [List.drop_zero,Option.bind_some];cases stepsB a b<;>rfl
 ·have hn:(((a.length:Nat):Int) !=((b.length:Nat):Int))=true:=by simp [bne];omega
  rw [hn,stepsB_len h];rfl
def sameB(a b:WordsCmd):Bool:=(a.kind==b.kind)&&((a.who==b.who)&&(stepsB a.way b.way&&(seq a.value b.value&&((a.n==b.n)&&((a.running==b.running)&&((a.asBytes==b.asBytes)&&(seq a.port b.port&&((a.flow==b.flow)&&((a.size==b.size)&&seq (B (datL a.data)) (B (datL b.data)))))))))))
theorem same_eq{κ:Nat}(a b:WordsCmd)(hb:b.way.length<1000000)(hκ:b.way.length<κ):
  words_Same κ a.kind a.who a.way a.value a.n a.running a.asBytes a.port a.flow a.size a.data b.kind b.who b.way b.value b.n b.running b.asBytes b.port b.flow b.size b.data=some (sameB a b):=by
 unfold words_Same words_Same.v0 sameB;rw [equal_eq a.way b.way hb hκ];cases a.kind==b.kind
 ·rfl
 cases a.who==b.who
 ·rfl
 cases stepsB a.way b.way
 ·rfl
 cases seq a.value b.value
 ·rfl
 cases a.n==b.n
 ·rfl
 cases a.running==b.running
 ·rfl
 cases a.asBytes==b.asBytes
 ·rfl
 cases seq a.port b.port
 ·rfl
 cases a.flow==b.flow
 ·rfl
 cases a.size==b.size
 ·rfl
 ·rfl
theorem refsame_eq{κ:Nat}(a b:WordsCmd)(hb:b.way.length<1000000)(hκ:b.way.length<κ):
  r33_Same κ a.kind a.who a.way a.value a.n a.running a.asBytes a.port a.flow a.size (B (datL a.data)) b.kind b.who b.way b.value b.n b.running b.asBytes b.port b.flow b.size (B (datL b.data))=some (sameB a b):=by
 unfold r33_Same r33_Same.v0 sameB;rw [requal_eq a.way b.way hb hκ];simp only [Option.bind_some];cases stepsB a.way b.way
 ·simp
 cases a.kind==b.kind
 ·rfl
 cases a.who==b.who
 ·rfl
 cases seq a.value b.value
 ·rfl
 cases a.n==b.n
 ·rfl
 cases a.running==b.running
 ·rfl
 cases a.asBytes==b.asBytes
 ·rfl
 cases seq a.port b.port
 ·rfl
 cases a.flow==b.flow
 ·rfl
 cases a.size==b.size
 ·rfl
 ·rfl
theorem same_self(a:WordsCmd):sameB a a=true:=by
 unfold sameB;simp [stepsB_iff.2 rfl,seq]
def Byt(l:List Int):Prop:=∀x∈l,0≤x∧x<256
theorem same_iff{a b:WordsCmd}(ha:Byt a.data)(hb:Byt b.data):sameB a b=true↔a=b:=by
 constructor
 ·intro h
  unfold sameB at h;simp only [Bool.and_eq_true,beq_iff_eq,stepsB_iff,Va8.seq_iff]at h;obtain⟨h1,h2,h3,h4,h5,h6,h7,h8,h9,h10,h11⟩:=h;have h12:a.data=b.data:=by rw [←ints_dat ha,←ints_dat hb,B_inj.1 h11]
  cases a;cases b;simp only at h1 h2 h3 h4 h5 h6 h7 h8 h9 h10 h12;subst h1;subst h2;subst h3;subst h4;subst h5;subst h6;subst h7;subst h8;subst h9;subst h10;subst h12;rfl
 ·intro h;subst h;exact same_self a
end Go.Proofs.YtdoifigogbdodaaGreatDoor.Wo

namespace Go.Proofs.YtdoifigogbdodaaGreatDoor.Wo
open Go Ev Ev.Seat Go.Lib
theorem num_read{n:Int}(h:0≤n∧n<18446744073709551616):uR (numL n)=(n,true):=by
 unfold uR numL;rw [Va8.uintR_some (Va8.uintV_dec n.toNat (by omega))];rw [Int.toNat_of_nonneg h.1]
theorem num_free(n:Int):(32:UInt8)∉numL n:=fun h=>by
 have:=(Va8.dec_digits n.toNat 32 h).1;simp at this
theorem num_ne(n:Int):numL n≠[]:=Va8.dec_ne n.toNat
theorem who_wrap{w:Int}(h:whoOk w=true):1≤w∧w≤9:=by
 unfold whoOk at h;rw [Bool.and_eq_true]at h;exact⟨of_decide_eq_true h.1,of_decide_eq_true h.2⟩
theorem who_read{w:Int}(h:whoOk w=true):uR (whoL w)=(w,true):=by
 have:=who_wrap h;unfold whoL;rw [IntKind.wrap_u64,show w%18446744073709551616=w from by omega];exact num_read (by omega)
theorem who_val{w:Int}(h:whoOk w=true):whoV w=w:=by
 have:=who_wrap h;unfold whoV;rw [if_neg (by omega),Pa15.wrap_in _ (by omega) (by omega)]
theorem who_free(w:Int):(32:UInt8)∉whoL w:=num_free _
theorem okc_32{l:List UInt8}(h:l.all Pa15.okc=true):(32:UInt8)∉l:=fun hm=>by
 have:=List.all_eq_true.1 h 32 hm;revert this;decide
theorem id_free{s:ByteArray}(h:Pa15.idn s=true):(32:UInt8)∉s.data.toList:=by
 rw [←B_of s]at h;exact okc_32 (Pa15.idB_all ((Pa15.idn_eq _).symm.trans h))
theorem badS_no{x:ApiStep}(hb:Pa15.badS x=false):Pa15.idn x.name=true∧(seq x.key (B [])=false→Pa15.idn x.key=true):=Pa15.badS_no hb
theorem txt_free:∀{w:List ApiStep},w.any Pa15.badS=false→(32:UInt8)∉Pa15.txt w
 |[],_ =>by simp [Pa15.txt]
 |x::r,h=>by
  rw [List.any_cons,Bool.or_eq_false_iff]at h;obtain⟨h1,h2⟩:=badS_no h.1;have ih:=txt_free h.2;unfold Pa15.txt at ih⊢;rw [List.flatMap_cons,List.mem_append,not_or];refine⟨?_,ih⟩;unfold Pa15.txt1 Pa15.key1;simp only [List.mem_cons,List.mem_append,not_or];refine⟨by decide,id_free h1, ?_⟩;cases hk:seq x.key (B [])
  ·simp only [bif_f,List.mem_cons,List.mem_append,not_or]
   exact⟨by decide,id_free (h2 hk),by decide,by simp⟩
  ·simp
theorem way_free(w:List ApiStep):(32:UInt8)∉wayL w:=by
 unfold wayL Pa15.showV;split
 ·decide
 ·split
  ·simp
  ·cases hb:w.any Pa15.badS
   ·exact txt_free hb
   ·simp
theorem dig_read{l:List Int}(h:∀x∈l,0≤x∧x<256):unR (hexL (datL l))=(true,l):=by
 unfold unR;rw [unM_hex];simp only [ints_dat h]
theorem j1(a:List UInt8):Lib.join [a] [32]=a:=Lib.join_one a [32]
theorem j2(a b:List UInt8)(r:List (List UInt8)):Lib.join (a::b::r) [32]=a++32::Lib.join (b::r) [32]:=by
 rw [Lib.join_cons,Lib.join_cons];simp [Lib.joinTail]
theorem store_free(b:Bool):(32:UInt8)∉storeL b:=by cases b<;>decide
theorem form_free(b:Bool):(32:UInt8)∉formL b:=by cases b<;>decide
theorem store_read(b:Bool):(b||decide (storeL b=[99,97,110,100,105,100,97,116,101]))=true∧decide (storeL b=[114,117,110,110,105,110,103])=b:=by cases b<;>decide
theorem form_read(b:Bool):(b||decide (formL b=[116,101,120,116]))=true∧decide (formL b=[98,121,116,101,115])=b:=by cases b<;>decide
def onlyC(k:Nat)(c:WordsCmd):WordsCmd:=match k with
 |0=>⟨0,c.who,[],B [],0,false,false,B [],0,0,[]⟩
 |1=>⟨1,c.who,[],B [],0,false,false,B [],0,0,[]⟩
 |2=>⟨2,c.who,[],B [],0,false,false,B [],0,0,[]⟩
 |3=>⟨3,c.who,[],B [],0,false,false,B [],0,0,[]⟩
 |4=>⟨4,c.who,[],B [],0,false,false,B [],0,0,[]⟩
 |5=>⟨5,c.who,[],B [],0,false,false,B [],0,0,[]⟩
 |6=>⟨6,c.who,[],B [],0,false,false,B [],0,0,[]⟩
 |7=>⟨7,c.who,c.way,c.value,0,false,false,B [],0,0,[]⟩
 |8=>⟨8,c.who,c.way,B [],0,false,false,B [],0,0,[]⟩
 |9=>⟨9,c.who,[],B [],c.n,false,false,B [],0,0,[]⟩
 |10=>⟨10,c.who,[],B [],c.n,false,false,B [],0,0,[]⟩
 |11=>⟨11,c.who,[],B [],c.n,false,false,B [],0,0,[]⟩
 |12=>⟨12,c.who,[],B [],c.n,c.running,c.asBytes,B [],0,0,[]⟩
 |13=>⟨13,c.who,[],B [],0,false,false,B [],0,0,c.data⟩
 |14=>⟨14,c.who,[],B [],0,false,false,B [],0,0,c.data⟩
 |15=>⟨15,0,[],B [],0,false,false,c.port,c.flow,c.size,[]⟩
 |16=>⟨16,0,[],B [],c.n,false,false,B [],0,0,[]⟩
 |17=>⟨17,0,[],B [],0,false,false,c.port,0,0,[]⟩
 |18=>⟨18,0,[],B [],0,false,false,c.port,0,0,[]⟩
 |_ =>c
theorem rt0{κ:Nat}(hκ:40000≤κ)(c:WordsCmd)(hF:Fit c.way c.value c.n c.flow c.size c.data){ws:List (List UInt8)}(h:wordsOf 0 c.who c.way c.value c.n c.running c.asBytes c.port c.flow c.size c.data=some ws):goP κ false (partsP 0) (Lib.join ws [32]) (zeroC 0)=some (onlyC 0 c):=by
 unfold wordsOf at h;simp only at h;cases h0:whoOk c.who
 ·rw [h0]at h;cases h
 rw [h0]at h;simp only [bif_t]at h;cases h;have hc0:=fun X=>cut_some (a:=whoL c.who) X (who_free _)
 unfold partsP zeroC;simp only [j1,j2,goP,rdP,hc0,who_read h0,who_val h0,decide_true,bif_t,bif_f,Bool.and_self,Bool.true_and,beq_self_eq_true,isW,List.isEmpty_nil]
 try rfl
theorem rt1{κ:Nat}(hκ:40000≤κ)(c:WordsCmd)(hF:Fit c.way c.value c.n c.flow c.size c.data){ws:List (List UInt8)}(h:wordsOf 1 c.who c.way c.value c.n c.running c.asBytes c.port c.flow c.size c.data=some ws):goP κ false (partsP 1) (Lib.join ws [32]) (zeroC 1)=some (onlyC 1 c):=by
 unfold wordsOf at h;simp only at h;cases h0:whoOk c.who
 ·rw [h0]at h;cases h
 rw [h0]at h;simp only [bif_t]at h;cases h;have hc0:=fun X=>cut_some (a:=whoL c.who) X (who_free _)
 unfold partsP zeroC;simp only [j1,j2,goP,rdP,hc0,who_read h0,who_val h0,decide_true,bif_t,bif_f,Bool.and_self,Bool.true_and,beq_self_eq_true,isW,List.isEmpty_nil]
 try rfl
theorem rt2{κ:Nat}(hκ:40000≤κ)(c:WordsCmd)(hF:Fit c.way c.value c.n c.flow c.size c.data){ws:List (List UInt8)}(h:wordsOf 2 c.who c.way c.value c.n c.running c.asBytes c.port c.flow c.size c.data=some ws):goP κ false (partsP 2) (Lib.join ws [32]) (zeroC 2)=some (onlyC 2 c):=by
 unfold wordsOf at h;simp only at h;cases h0:whoOk c.who
 ·rw [h0]at h;cases h
 rw [h0]at h;simp only [bif_t]at h;cases h;have hc0:=fun X=>cut_some (a:=whoL c.who) X (who_free _)
 unfold partsP zeroC;simp only [j1,j2,goP,rdP,hc0,who_read h0,who_val h0,decide_true,bif_t,bif_f,Bool.and_self,Bool.true_and,beq_self_eq_true,isW,List.isEmpty_nil]
 try rfl
theorem rt3{κ:Nat}(hκ:40000≤κ)(c:WordsCmd)(hF:Fit c.way c.value c.n c.flow c.size c.data){ws:List (List UInt8)}(h:wordsOf 3 c.who c.way c.value c.n c.running c.asBytes c.port c.flow c.size c.data=some ws):goP κ false (partsP 3) (Lib.join ws [32]) (zeroC 3)=some (onlyC 3 c):=by
 unfold wordsOf at h;simp only at h;cases h0:whoOk c.who
 ·rw [h0]at h;cases h
 rw [h0]at h;simp only [bif_t]at h;cases h;have hc0:=fun X=>cut_some (a:=whoL c.who) X (who_free _)
 unfold partsP zeroC;simp only [j1,j2,goP,rdP,hc0,who_read h0,who_val h0,decide_true,bif_t,bif_f,Bool.and_self,Bool.true_and,beq_self_eq_true,isW,List.isEmpty_nil]
 try rfl
theorem rt4{κ:Nat}(hκ:40000≤κ)(c:WordsCmd)(hF:Fit c.way c.value c.n c.flow c.size c.data){ws:List (List UInt8)}(h:wordsOf 4 c.who c.way c.value c.n c.running c.asBytes c.port c.flow c.size c.data=some ws):goP κ false (partsP 4) (Lib.join ws [32]) (zeroC 4)=some (onlyC 4 c):=by
 unfold wordsOf at h;simp only at h;cases h0:whoOk c.who
 ·rw [h0]at h;cases h
 rw [h0]at h;simp only [bif_t]at h;cases h;have hc0:=fun X=>cut_some (a:=whoL c.who) X (who_free _)
 unfold partsP zeroC;simp only [j1,j2,goP,rdP,hc0,who_read h0,who_val h0,decide_true,bif_t,bif_f,Bool.and_self,Bool.true_and,beq_self_eq_true,isW,List.isEmpty_nil]
 try rfl
theorem rt5{κ:Nat}(hκ:40000≤κ)(c:WordsCmd)(hF:Fit c.way c.value c.n c.flow c.size c.data){ws:List (List UInt8)}(h:wordsOf 5 c.who c.way c.value c.n c.running c.asBytes c.port c.flow c.size c.data=some ws):goP κ false (partsP 5) (Lib.join ws [32]) (zeroC 5)=some (onlyC 5 c):=by
 unfold wordsOf at h;simp only at h;cases h0:whoOk c.who
 ·rw [h0]at h;cases h
 rw [h0]at h;simp only [bif_t]at h;cases h;have hc0:=fun X=>cut_some (a:=whoL c.who) X (who_free _)
 unfold partsP zeroC;simp only [j1,j2,goP,rdP,hc0,who_read h0,who_val h0,decide_true,bif_t,bif_f,Bool.and_self,Bool.true_and,beq_self_eq_true,isW,List.isEmpty_nil]
 try rfl
theorem rt6{κ:Nat}(hκ:40000≤κ)(c:WordsCmd)(hF:Fit c.way c.value c.n c.flow c.size c.data){ws:List (List UInt8)}(h:wordsOf 6 c.who c.way c.value c.n c.running c.asBytes c.port c.flow c.size c.data=some ws):goP κ false (partsP 6) (Lib.join ws [32]) (zeroC 6)=some (onlyC 6 c):=by
 unfold wordsOf at h;simp only at h;cases h0:whoOk c.who
 ·rw [h0]at h;cases h
 rw [h0]at h;simp only [bif_t]at h;cases h;have hc0:=fun X=>cut_some (a:=whoL c.who) X (who_free _)
 unfold partsP zeroC;simp only [j1,j2,goP,rdP,hc0,who_read h0,who_val h0,decide_true,bif_t,bif_f,Bool.and_self,Bool.true_and,beq_self_eq_true,isW,List.isEmpty_nil]
 try rfl
theorem rt7{κ:Nat}(hκ:40000≤κ)(c:WordsCmd)(hF:Fit c.way c.value c.n c.flow c.size c.data){ws:List (List UInt8)}(h:wordsOf 7 c.who c.way c.value c.n c.running c.asBytes c.port c.flow c.size c.data=some ws):goP κ false (partsP 7) (Lib.join ws [32]) (zeroC 7)=some (onlyC 7 c):=by
 unfold wordsOf at h;simp only at h;cases h0:whoOk c.who
 ·rw [h0]at h;cases h
 rw [h0]at h;simp only [bif_t]at h;cases h1:wayOk c.way
 ·rw [h1]at h;cases h
 rw [h1]at h;simp only [bif_t]at h;cases h2:Lex5.plainB c.value.data.toList
 ·rw [h2]at h;cases h
 rw [h2]at h;simp only [bif_t]at h;cases h;have hc0:=fun X=>cut_some (a:=whoL c.who) X (who_free _)
 have hc1:=fun X=>cut_some (a:=[115,101,116]) X (by decide)
 have hc2:=fun X=>cut_some (a:=wayL c.way) X (way_free _)
 unfold partsP zeroC;simp only [j1,j2,goP,rdP,hc0,who_read h0,who_val h0,hc1,hc2,par_show (Nat.le_trans (by decide:2000≤40000) hκ) h1,B_of,decide_true,bif_t,bif_f,Bool.and_self,Bool.true_and,beq_self_eq_true,isW,List.isEmpty_nil]
 try rfl
theorem rt8{κ:Nat}(hκ:40000≤κ)(c:WordsCmd)(hF:Fit c.way c.value c.n c.flow c.size c.data){ws:List (List UInt8)}(h:wordsOf 8 c.who c.way c.value c.n c.running c.asBytes c.port c.flow c.size c.data=some ws):goP κ false (partsP 8) (Lib.join ws [32]) (zeroC 8)=some (onlyC 8 c):=by
 unfold wordsOf at h;simp only at h;cases h0:whoOk c.who
 ·rw [h0]at h;cases h
 rw [h0]at h;simp only [bif_t]at h;cases h1:wayOk c.way
 ·rw [h1]at h;cases h
 rw [h1]at h;simp only [bif_t]at h;cases h;have hc0:=fun X=>cut_some (a:=whoL c.who) X (who_free _)
 have hc1:=fun X=>cut_some (a:=[100,101,108]) X (by decide)
 unfold partsP zeroC;simp only [j1,j2,goP,rdP,hc0,who_read h0,who_val h0,hc1,par_show (Nat.le_trans (by decide:2000≤40000) hκ) h1,decide_true,bif_t,bif_f,Bool.and_self,Bool.true_and,beq_self_eq_true,isW,List.isEmpty_nil]
 try rfl
theorem rt9{κ:Nat}(hκ:40000≤κ)(c:WordsCmd)(hF:Fit c.way c.value c.n c.flow c.size c.data){ws:List (List UInt8)}(h:wordsOf 9 c.who c.way c.value c.n c.running c.asBytes c.port c.flow c.size c.data=some ws):goP κ true (partsP 9) (Lib.join ws [32]) (zeroC 9)=some (onlyC 9 c):=by
 unfold wordsOf at h;simp only at h;cases h0:whoOk c.who
 ·rw [h0]at h;cases h
 rw [h0]at h;simp only [bif_t]at h;by_cases hn:0<c.n
 ·have hn0:decide (c.n>0)=true:=decide_eq_true hn
  rw [decide_eq_true hn]at h;simp only [bif_t]at h;cases h;have hc0:=fun X=>cut_some (a:=whoL c.who) X (who_free _)
  have hc1:=fun X=>cut_some (a:=[99,111,109,109,105,116]) X (by decide)
  unfold partsP zeroC;simp only [j1,j2,goP,rdP,hc0,who_read h0,who_val h0,hc1,num_read hF.hn,hn0,decide_true,bif_t,bif_f,Bool.and_self,Bool.true_and,beq_self_eq_true,isW,List.isEmpty_nil]
  try rfl
 ·rw [decide_eq_false hn]at h;simp only [bif_f]at h
  cases h;have hc0:=fun X=>cut_some (a:=whoL c.who) X (who_free _)
  have hc1:=cut_none (a:=[99,111,109,109,105,116]) (by decide);unfold partsP zeroC;simp only [j1,j2,goP,rdP,hc0,who_read h0,who_val h0,hc1,decide_true,bif_t,bif_f,Bool.and_self,Bool.true_and,beq_self_eq_true,isW,List.isEmpty_nil];have hz:c.n=0:=by have:=hF.hn;omega
  unfold onlyC;simp only [hz]
theorem rt10{κ:Nat}(hκ:40000≤κ)(c:WordsCmd)(hF:Fit c.way c.value c.n c.flow c.size c.data){ws:List (List UInt8)}(h:wordsOf 10 c.who c.way c.value c.n c.running c.asBytes c.port c.flow c.size c.data=some ws):goP κ false (partsP 10) (Lib.join ws [32]) (zeroC 10)=some (onlyC 10 c):=by
 unfold wordsOf at h;simp only at h;cases h0:whoOk c.who
 ·rw [h0]at h;cases h
 rw [h0]at h;simp only [bif_t]at h;cases h;have hc0:=fun X=>cut_some (a:=whoL c.who) X (who_free _)
 have hc1:=fun X=>cut_some (a:=[114,111,108,108,98,97,99,107]) X (by decide)
 unfold partsP zeroC;simp only [j1,j2,goP,rdP,hc0,who_read h0,who_val h0,hc1,num_read hF.hn,decide_true,bif_t,bif_f,Bool.and_self,Bool.true_and,beq_self_eq_true,isW,List.isEmpty_nil]
 try rfl
theorem rt11{κ:Nat}(hκ:40000≤κ)(c:WordsCmd)(hF:Fit c.way c.value c.n c.flow c.size c.data){ws:List (List UInt8)}(h:wordsOf 11 c.who c.way c.value c.n c.running c.asBytes c.port c.flow c.size c.data=some ws):goP κ false (partsP 11) (Lib.join ws [32]) (zeroC 11)=some (onlyC 11 c):=by
 unfold wordsOf at h;simp only at h;cases h0:whoOk c.who
 ·rw [h0]at h;cases h
 rw [h0]at h;simp only [bif_t]at h;cases h;have hc0:=fun X=>cut_some (a:=whoL c.who) X (who_free _)
 have hc1:=fun X=>cut_some (a:=[112,114,117,110,101]) X (by decide)
 unfold partsP zeroC;simp only [j1,j2,goP,rdP,hc0,who_read h0,who_val h0,hc1,num_read hF.hn,decide_true,bif_t,bif_f,Bool.and_self,Bool.true_and,beq_self_eq_true,isW,List.isEmpty_nil]
 try rfl
theorem rt12{κ:Nat}(hκ:40000≤κ)(c:WordsCmd)(hF:Fit c.way c.value c.n c.flow c.size c.data){ws:List (List UInt8)}(h:wordsOf 12 c.who c.way c.value c.n c.running c.asBytes c.port c.flow c.size c.data=some ws):goP κ false (partsP 12) (Lib.join ws [32]) (zeroC 12)=some (onlyC 12 c):=by
 unfold wordsOf at h;simp only at h;cases h0:whoOk c.who
 ·rw [h0]at h;cases h
 rw [h0]at h;simp only [bif_t]at h;cases h;have hc0:=fun X=>cut_some (a:=whoL c.who) X (who_free _)
 have hc1:=fun X=>cut_some (a:=[115,104,111,119]) X (by decide)
 have hc2:=fun X=>cut_some (a:=storeL c.running) X (store_free _)
 have hc3:=fun X=>cut_some (a:=formL c.asBytes) X (form_free _)
 unfold partsP zeroC;simp only [j1,j2,goP,rdP,hc0,who_read h0,who_val h0,hc1,hc2,(store_read c.running).1,(store_read c.running).2,hc3,(form_read c.asBytes).1,(form_read c.asBytes).2,num_read hF.hn,decide_true,bif_t,bif_f,Bool.and_self,Bool.true_and,beq_self_eq_true,isW,List.isEmpty_nil]
 try rfl
theorem rt13{κ:Nat}(hκ:40000≤κ)(c:WordsCmd)(hF:Fit c.way c.value c.n c.flow c.size c.data){ws:List (List UInt8)}(h:wordsOf 13 c.who c.way c.value c.n c.running c.asBytes c.port c.flow c.size c.data=some ws):goP κ false (partsP 13) (Lib.join ws [32]) (zeroC 13)=some (onlyC 13 c):=by
 unfold wordsOf at h;simp only at h;cases h0:whoOk c.who
 ·rw [h0]at h;cases h
 rw [h0]at h;simp only [bif_t]at h;cases h;have hc0:=fun X=>cut_some (a:=whoL c.who) X (who_free _)
 have hc1:=fun X=>cut_some (a:=[108,111,97,100]) X (by decide)
 have hc2:=fun X=>cut_some (a:=[116,101,120,116]) X (by decide)
 unfold partsP zeroC;simp only [j1,j2,goP,rdP,hc0,who_read h0,who_val h0,hc1,hc2,ints_dat hF.hbyt,decide_true,bif_t,bif_f,Bool.and_self,Bool.true_and,beq_self_eq_true,isW,List.isEmpty_nil]
 try rfl
theorem rt14{κ:Nat}(hκ:40000≤κ)(c:WordsCmd)(hF:Fit c.way c.value c.n c.flow c.size c.data){ws:List (List UInt8)}(h:wordsOf 14 c.who c.way c.value c.n c.running c.asBytes c.port c.flow c.size c.data=some ws):goP κ false (partsP 14) (Lib.join ws [32]) (zeroC 14)=some (onlyC 14 c):=by
 unfold wordsOf at h;simp only at h;cases h0:whoOk c.who
 ·rw [h0]at h;cases h
 rw [h0]at h;simp only [bif_t]at h;cases h;have hc0:=fun X=>cut_some (a:=whoL c.who) X (who_free _)
 have hc1:=fun X=>cut_some (a:=[108,111,97,100]) X (by decide)
 have hc2:=fun X=>cut_some (a:=[98,121,116,101,115]) X (by decide)
 unfold partsP zeroC;simp only [j1,j2,goP,rdP,hc0,who_read h0,who_val h0,hc1,hc2,dig_read hF.hbyt,decide_true,bif_t,bif_f,Bool.and_self,Bool.true_and,beq_self_eq_true,isW,List.isEmpty_nil]
 try rfl
theorem rt15{κ:Nat}(hκ:40000≤κ)(c:WordsCmd)(hF:Fit c.way c.value c.n c.flow c.size c.data){ws:List (List UInt8)}(h:wordsOf 15 c.who c.way c.value c.n c.running c.asBytes c.port c.flow c.size c.data=some ws):goP κ false (partsP 15) (Lib.join ws [32]) (zeroC 15)=some (onlyC 15 c):=by
 unfold wordsOf at h;simp only at h;cases h0:Pa15.idn c.port
 ·rw [h0]at h;cases h
 rw [h0]at h;simp only [bif_t]at h;cases h;have hc0:=fun X=>cut_some (a:=[112,97,99,107,101,116]) X (by decide)
 have hc1:=fun X=>cut_some (a:=c.port.data.toList) X (id_free h0)
 have hc2:=fun X=>cut_some (a:=numL c.flow) X (num_free _)
 unfold partsP zeroC;simp only [j1,j2,goP,rdP,hc0,hc1,B_of,hc2,num_read hF.hfl,num_read hF.hsz,decide_true,bif_t,bif_f,Bool.and_self,Bool.true_and,beq_self_eq_true,isW,List.isEmpty_nil]
 try rfl
theorem rt16{κ:Nat}(hκ:40000≤κ)(c:WordsCmd)(hF:Fit c.way c.value c.n c.flow c.size c.data){ws:List (List UInt8)}(h:wordsOf 16 c.who c.way c.value c.n c.running c.asBytes c.port c.flow c.size c.data=some ws):goP κ false (partsP 16) (Lib.join ws [32]) (zeroC 16)=some (onlyC 16 c):=by
 unfold wordsOf at h;simp only at h;cases h;have hc0:=fun X=>cut_some (a:=[116,105,99,107]) X (by decide)
 unfold partsP zeroC;simp only [j1,j2,goP,rdP,hc0,num_read hF.hn,decide_true,bif_t,bif_f,Bool.and_self,Bool.true_and,beq_self_eq_true,isW,List.isEmpty_nil]
 try rfl
theorem rt17{κ:Nat}(hκ:40000≤κ)(c:WordsCmd)(hF:Fit c.way c.value c.n c.flow c.size c.data){ws:List (List UInt8)}(h:wordsOf 17 c.who c.way c.value c.n c.running c.asBytes c.port c.flow c.size c.data=some ws):goP κ false (partsP 17) (Lib.join ws [32]) (zeroC 17)=some (onlyC 17 c):=by
 unfold wordsOf at h;simp only at h;cases h0:Pa15.idn c.port
 ·rw [h0]at h;cases h
 rw [h0]at h;simp only [bif_t]at h;cases h;have hc0:=fun X=>cut_some (a:=[110,101,120,116]) X (by decide)
 unfold partsP zeroC;simp only [j1,j2,goP,rdP,hc0,B_of,decide_true,bif_t,bif_f,Bool.and_self,Bool.true_and,beq_self_eq_true,isW,List.isEmpty_nil]
 try rfl
theorem rt18{κ:Nat}(hκ:40000≤κ)(c:WordsCmd)(hF:Fit c.way c.value c.n c.flow c.size c.data){ws:List (List UInt8)}(h:wordsOf 18 c.who c.way c.value c.n c.running c.asBytes c.port c.flow c.size c.data=some ws):goP κ false (partsP 18) (Lib.join ws [32]) (zeroC 18)=some (onlyC 18 c):=by
 unfold wordsOf at h;simp only at h;cases h0:Pa15.idn c.port
 ·rw [h0]at h;cases h
 rw [h0]at h;simp only [bif_t]at h;cases h;have hc0:=fun X=>cut_some (a:=[100,117,109,112]) X (by decide)
 unfold partsP zeroC;simp only [j1,j2,goP,rdP,hc0,B_of,decide_true,bif_t,bif_f,Bool.and_self,Bool.true_and,beq_self_eq_true,isW,List.isEmpty_nil]
 try rfl
end Go.Proofs.YtdoifigogbdodaaGreatDoor.Wo
