import Derived.Test.YtdoifigogbdodaaGreatDoorLawOne
set_option linter.unusedVariables false
set_option linter.unusedSimpArgs false
set_option maxHeartbeats 1000000
namespace Go.Proofs.YtdoifigogbdodaaGreatDoor.Wo
open Go Ev Ev.Seat Go.Lib
structure FitC(c:WordsCmd):Prop where
 f:Fit c.way c.value c.n c.flow c.size c.data
 d:c.data.length≤7000
structure GF(l:List UInt8)(c:WordsCmd):Prop where
 n:0≤c.n∧c.n<18446744073709551616
 fl:0≤c.flow∧c.flow<18446744073709551616
 sz:0≤c.size∧c.size<18446744073709551616
 val:c.value.size≤l.length
 dat:c.data.length≤l.length
 byt:Byt c.data
theorem who_ne(w:Int)(x:UInt8)(r:List UInt8)(h:57<x.toNat):(whoL w==x::r)=false:=by
 rw [beq_eq_false_iff_ne];intro e;have:=(Va8.dec_digits (IntKind.u64.wrap w).toNat x (by rw [show decDigits (IntKind.u64.wrap w).toNat=x::r from e];simp)).2;omega
theorem zfit:(0:Int)≤0∧(0:Int)<18446744073709551616:=by decide
def kd(l:List UInt8):Nat:=
 bif (cutM l).1==[112,97,99,107,101,116]then 15 else bif (cutM l).1==[116,105,99,107]then 16 else bif (cutM l).1==[110,101,120,116]then 17 else bif (cutM l).1==[100,117,109,112]then 18 else bif (cutM (cutM l).2.1).1==[108,111,99,107]then 0 else bif (cutM (cutM l).2.1).1==[117,110,108,111,99,107]then 1 else bif (cutM (cutM l).2.1).1==[100,105,115,99,97,114,100]then 2 else bif (cutM (cutM l).2.1).1==[99,104,101,99,107]then 3 else bif (cutM (cutM l).2.1).1==[99,111,110,102,105,114,109]then 4 else bif (cutM (cutM l).2.1).1==[99,97,110,99,101,108]then 5 else bif (cutM (cutM l).2.1).1==[115,97,118,101]then 6 else bif (cutM (cutM l).2.1).1==[115,101,116]then 7 else bif (cutM (cutM l).2.1).1==[100,101,108]then 8 else bif (cutM (cutM l).2.1).1==[99,111,109,109,105,116]then 9 else bif (cutM (cutM l).2.1).1==[114,111,108,108,98,97,99,107]then 10 else bif (cutM (cutM l).2.1).1==[112,114,117,110,101]then 11 else bif (cutM (cutM l).2.1).1==[115,104,111,119]then 12 else bif (cutM (cutM l).2.1).1==[108,111,97,100]then(bif (cutM (cutM (cutM l).2.1).2.1).1==[116,101,120,116]then 13 else 14)else 19
theorem prt0{κ:Nat}(hκ:40000≤κ)(c:WordsCmd)(hF:FitC c){ws:List (List UInt8)}(h:wordsOf 0 c.who c.way c.value c.n c.running c.asBytes c.port c.flow c.size c.data=some ws):words_parse κ 0 (B (Lib.join ws [32]))=some (resP 0 (some (onlyC 0 c)))∧Lib.join ws [32]≠[]∧kd (Lib.join ws [32])=0:=by
 have hrt:=rt0 hκ c hF.f h;unfold wordsOf at h;simp only at h;cases h0:whoOk c.who
 ·rw [h0]at h;cases h
 rw [h0]at h;simp only [bif_t]at h;cases h;have:=hF.d;have:=who_len c.who;have hc0:=fun X=>cut_some (a:=whoL c.who) X (who_free _)
 have hc1:=cut_none (a:=[108,111,99,107]) (by decide);refine⟨?_, ?_, ?_⟩
 ·rw [parse0 hκ _ (Nat.le_trans (lensum _) (by simp only [ln0,ln1,lc,l0];omega)),hrt]
 ·rw [j2];intro e;exact num_ne _ (List.append_eq_nil_iff.1 e).1
 ·unfold kd
  simp only [j1,j2,hc0,hc1,who_ne c.who _ _ (by decide:57<(112:UInt8).toNat),who_ne c.who _ _ (by decide:57<(116:UInt8).toNat),who_ne c.who _ _ (by decide:57<(110:UInt8).toNat),who_ne c.who _ _ (by decide:57<(100:UInt8).toNat),bif_f]
  try rfl
theorem len0(c:WordsCmd)(hF:FitC c){ws:List (List UInt8)}(h:wordsOf 0 c.who c.way c.value c.n c.running c.asBytes c.port c.flow c.size c.data=some ws):(Lib.join ws [32]).length≤140737488353000:=by
 unfold wordsOf at h;simp only at h;cases h0:whoOk c.who
 ·rw [h0]at h;cases h
 rw [h0]at h;simp only [bif_t]at h;cases h;have:=hF.d;have:=who_len c.who;exact Nat.le_trans (lensum _) (by simp only [ln0,ln1,lc,l0];omega)
theorem gof0{κ:Nat}(l:List UInt8)(c:WordsCmd)(h:goP κ false (partsP 0) l (zeroC 0)=some c):c.kind=0∧onlyC 0 c=c∧GF l c:=by
 unfold partsP zeroC at h;simp only [goP,rdP]at h;have hl0:=cut_len l;generalize cutM l=q0 at h hl0;obtain⟨a0,l1,m0⟩:=q0;simp only at h hl0;have hu0:=u_fit a0;generalize uR a0=u0 at hu0 h;obtain⟨x0,d0⟩:=u0;simp only at hu0 h;cases d0
 ·cases h
 try simp only [bif_t,bif_f]at h
 cases m0
 ·first|(cases h;done)|(simp only [bif_f,isW,List.isEmpty_cons,Bool.and_false,Bool.false_and,Bool.and_self]at h;cases h;done)
 try simp only [bif_t]at h
 generalize decide (l1=[108,111,99,107])=d1 at h;cases d1
 ·cases h
 try simp only [bif_t,bif_f]at h
 cases h;exact⟨rfl,rfl,⟨zfit,zfit,zfit,(Nat.zero_le _),(Nat.zero_le _),(fun x hx=>by cases hx)⟩⟩
theorem prt1{κ:Nat}(hκ:40000≤κ)(c:WordsCmd)(hF:FitC c){ws:List (List UInt8)}(h:wordsOf 1 c.who c.way c.value c.n c.running c.asBytes c.port c.flow c.size c.data=some ws):words_parse κ 1 (B (Lib.join ws [32]))=some (resP 1 (some (onlyC 1 c)))∧Lib.join ws [32]≠[]∧kd (Lib.join ws [32])=1:=by
 have hrt:=rt1 hκ c hF.f h;unfold wordsOf at h;simp only at h;cases h0:whoOk c.who
 ·rw [h0]at h;cases h
 rw [h0]at h;simp only [bif_t]at h;cases h;have:=hF.d;have:=who_len c.who;have hc0:=fun X=>cut_some (a:=whoL c.who) X (who_free _)
 have hc1:=cut_none (a:=[117,110,108,111,99,107]) (by decide);refine⟨?_, ?_, ?_⟩
 ·rw [parse1 hκ _ (Nat.le_trans (lensum _) (by simp only [ln0,ln1,lc,l0];omega)),hrt]
 ·rw [j2];intro e;exact num_ne _ (List.append_eq_nil_iff.1 e).1
 ·unfold kd
  simp only [j1,j2,hc0,hc1,who_ne c.who _ _ (by decide:57<(112:UInt8).toNat),who_ne c.who _ _ (by decide:57<(116:UInt8).toNat),who_ne c.who _ _ (by decide:57<(110:UInt8).toNat),who_ne c.who _ _ (by decide:57<(100:UInt8).toNat),bif_f]
  try rfl
theorem len1(c:WordsCmd)(hF:FitC c){ws:List (List UInt8)}(h:wordsOf 1 c.who c.way c.value c.n c.running c.asBytes c.port c.flow c.size c.data=some ws):(Lib.join ws [32]).length≤140737488353000:=by
 unfold wordsOf at h;simp only at h;cases h0:whoOk c.who
 ·rw [h0]at h;cases h
 rw [h0]at h;simp only [bif_t]at h;cases h;have:=hF.d;have:=who_len c.who;exact Nat.le_trans (lensum _) (by simp only [ln0,ln1,lc,l0];omega)
theorem gof1{κ:Nat}(l:List UInt8)(c:WordsCmd)(h:goP κ false (partsP 1) l (zeroC 1)=some c):c.kind=1∧onlyC 1 c=c∧GF l c:=by
 unfold partsP zeroC at h;simp only [goP,rdP]at h;have hl0:=cut_len l;generalize cutM l=q0 at h hl0;obtain⟨a0,l1,m0⟩:=q0;simp only at h hl0;have hu0:=u_fit a0;generalize uR a0=u0 at hu0 h;obtain⟨x0,d0⟩:=u0;simp only at hu0 h;cases d0
 ·cases h
 try simp only [bif_t,bif_f]at h
 cases m0
 ·first|(cases h;done)|(simp only [bif_f,isW,List.isEmpty_cons,Bool.and_false,Bool.false_and,Bool.and_self]at h;cases h;done)
 try simp only [bif_t]at h
 generalize decide (l1=[117,110,108,111,99,107])=d1 at h;cases d1
 ·cases h
 try simp only [bif_t,bif_f]at h
 cases h;exact⟨rfl,rfl,⟨zfit,zfit,zfit,(Nat.zero_le _),(Nat.zero_le _),(fun x hx=>by cases hx)⟩⟩
theorem prt2{κ:Nat}(hκ:40000≤κ)(c:WordsCmd)(hF:FitC c){ws:List (List UInt8)}(h:wordsOf 2 c.who c.way c.value c.n c.running c.asBytes c.port c.flow c.size c.data=some ws):words_parse κ 2 (B (Lib.join ws [32]))=some (resP 2 (some (onlyC 2 c)))∧Lib.join ws [32]≠[]∧kd (Lib.join ws [32])=2:=by
 have hrt:=rt2 hκ c hF.f h;unfold wordsOf at h;simp only at h;cases h0:whoOk c.who
 ·rw [h0]at h;cases h
 rw [h0]at h;simp only [bif_t]at h;cases h;have:=hF.d;have:=who_len c.who;have hc0:=fun X=>cut_some (a:=whoL c.who) X (who_free _)
 have hc1:=cut_none (a:=[100,105,115,99,97,114,100]) (by decide);refine⟨?_, ?_, ?_⟩
 ·rw [parse2 hκ _ (Nat.le_trans (lensum _) (by simp only [ln0,ln1,lc,l0];omega)),hrt]
 ·rw [j2];intro e;exact num_ne _ (List.append_eq_nil_iff.1 e).1
 ·unfold kd
  simp only [j1,j2,hc0,hc1,who_ne c.who _ _ (by decide:57<(112:UInt8).toNat),who_ne c.who _ _ (by decide:57<(116:UInt8).toNat),who_ne c.who _ _ (by decide:57<(110:UInt8).toNat),who_ne c.who _ _ (by decide:57<(100:UInt8).toNat),bif_f]
  try rfl
theorem len2(c:WordsCmd)(hF:FitC c){ws:List (List UInt8)}(h:wordsOf 2 c.who c.way c.value c.n c.running c.asBytes c.port c.flow c.size c.data=some ws):(Lib.join ws [32]).length≤140737488353000:=by
 unfold wordsOf at h;simp only at h;cases h0:whoOk c.who
 ·rw [h0]at h;cases h
 rw [h0]at h;simp only [bif_t]at h;cases h;have:=hF.d;have:=who_len c.who;exact Nat.le_trans (lensum _) (by simp only [ln0,ln1,lc,l0];omega)
theorem gof2{κ:Nat}(l:List UInt8)(c:WordsCmd)(h:goP κ false (partsP 2) l (zeroC 2)=some c):c.kind=2∧onlyC 2 c=c∧GF l c:=by
 unfold partsP zeroC at h;simp only [goP,rdP]at h;have hl0:=cut_len l;generalize cutM l=q0 at h hl0;obtain⟨a0,l1,m0⟩:=q0;simp only at h hl0;have hu0:=u_fit a0;generalize uR a0=u0 at hu0 h;obtain⟨x0,d0⟩:=u0;simp only at hu0 h;cases d0
 ·cases h
 try simp only [bif_t,bif_f]at h
 cases m0
 ·first|(cases h;done)|(simp only [bif_f,isW,List.isEmpty_cons,Bool.and_false,Bool.false_and,Bool.and_self]at h;cases h;done)
 try simp only [bif_t]at h
 generalize decide (l1=[100,105,115,99,97,114,100])=d1 at h;cases d1
 ·cases h
 try simp only [bif_t,bif_f]at h
 cases h;exact⟨rfl,rfl,⟨zfit,zfit,zfit,(Nat.zero_le _),(Nat.zero_le _),(fun x hx=>by cases hx)⟩⟩
theorem prt3{κ:Nat}(hκ:40000≤κ)(c:WordsCmd)(hF:FitC c){ws:List (List UInt8)}(h:wordsOf 3 c.who c.way c.value c.n c.running c.asBytes c.port c.flow c.size c.data=some ws):words_parse κ 3 (B (Lib.join ws [32]))=some (resP 3 (some (onlyC 3 c)))∧Lib.join ws [32]≠[]∧kd (Lib.join ws [32])=3:=by
 have hrt:=rt3 hκ c hF.f h;unfold wordsOf at h;simp only at h;cases h0:whoOk c.who
 ·rw [h0]at h;cases h
 rw [h0]at h;simp only [bif_t]at h;cases h;have:=hF.d;have:=who_len c.who;have hc0:=fun X=>cut_some (a:=whoL c.who) X (who_free _)
 have hc1:=cut_none (a:=[99,104,101,99,107]) (by decide);refine⟨?_, ?_, ?_⟩
 ·rw [parse3 hκ _ (Nat.le_trans (lensum _) (by simp only [ln0,ln1,lc,l0];omega)),hrt]
 ·rw [j2];intro e;exact num_ne _ (List.append_eq_nil_iff.1 e).1
 ·unfold kd
  simp only [j1,j2,hc0,hc1,who_ne c.who _ _ (by decide:57<(112:UInt8).toNat),who_ne c.who _ _ (by decide:57<(116:UInt8).toNat),who_ne c.who _ _ (by decide:57<(110:UInt8).toNat),who_ne c.who _ _ (by decide:57<(100:UInt8).toNat),bif_f]
  try rfl
theorem len3(c:WordsCmd)(hF:FitC c){ws:List (List UInt8)}(h:wordsOf 3 c.who c.way c.value c.n c.running c.asBytes c.port c.flow c.size c.data=some ws):(Lib.join ws [32]).length≤140737488353000:=by
 unfold wordsOf at h;simp only at h;cases h0:whoOk c.who
 ·rw [h0]at h;cases h
 rw [h0]at h;simp only [bif_t]at h;cases h;have:=hF.d;have:=who_len c.who;exact Nat.le_trans (lensum _) (by simp only [ln0,ln1,lc,l0];omega)
theorem gof3{κ:Nat}(l:List UInt8)(c:WordsCmd)(h:goP κ false (partsP 3) l (zeroC 3)=some c):c.kind=3∧onlyC 3 c=c∧GF l c:=by
 unfold partsP zeroC at h;simp only [goP,rdP]at h;have hl0:=cut_len l;generalize cutM l=q0 at h hl0;obtain⟨a0,l1,m0⟩:=q0;simp only at h hl0;have hu0:=u_fit a0;generalize uR a0=u0 at hu0 h;obtain⟨x0,d0⟩:=u0;simp only at hu0 h;cases d0
 ·cases h
 try simp only [bif_t,bif_f]at h
 cases m0
 ·first|(cases h;done)|(simp only [bif_f,isW,List.isEmpty_cons,Bool.and_false,Bool.false_and,Bool.and_self]at h;cases h;done)
 try simp only [bif_t]at h
 generalize decide (l1=[99,104,101,99,107])=d1 at h;cases d1
 ·cases h
 try simp only [bif_t,bif_f]at h
 cases h;exact⟨rfl,rfl,⟨zfit,zfit,zfit,(Nat.zero_le _),(Nat.zero_le _),(fun x hx=>by cases hx)⟩⟩
theorem prt4{κ:Nat}(hκ:40000≤κ)(c:WordsCmd)(hF:FitC c){ws:List (List UInt8)}(h:wordsOf 4 c.who c.way c.value c.n c.running c.asBytes c.port c.flow c.size c.data=some ws):words_parse κ 4 (B (Lib.join ws [32]))=some (resP 4 (some (onlyC 4 c)))∧Lib.join ws [32]≠[]∧kd (Lib.join ws [32])=4:=by
 have hrt:=rt4 hκ c hF.f h;unfold wordsOf at h;simp only at h;cases h0:whoOk c.who
 ·rw [h0]at h;cases h
 rw [h0]at h;simp only [bif_t]at h;cases h;have:=hF.d;have:=who_len c.who;have hc0:=fun X=>cut_some (a:=whoL c.who) X (who_free _)
 have hc1:=cut_none (a:=[99,111,110,102,105,114,109]) (by decide);refine⟨?_, ?_, ?_⟩
 ·rw [parse4 hκ _ (Nat.le_trans (lensum _) (by simp only [ln0,ln1,lc,l0];omega)),hrt]
 ·rw [j2];intro e;exact num_ne _ (List.append_eq_nil_iff.1 e).1
 ·unfold kd
  simp only [j1,j2,hc0,hc1,who_ne c.who _ _ (by decide:57<(112:UInt8).toNat),who_ne c.who _ _ (by decide:57<(116:UInt8).toNat),who_ne c.who _ _ (by decide:57<(110:UInt8).toNat),who_ne c.who _ _ (by decide:57<(100:UInt8).toNat),bif_f]
  try rfl
theorem len4(c:WordsCmd)(hF:FitC c){ws:List (List UInt8)}(h:wordsOf 4 c.who c.way c.value c.n c.running c.asBytes c.port c.flow c.size c.data=some ws):(Lib.join ws [32]).length≤140737488353000:=by
 unfold wordsOf at h;simp only at h;cases h0:whoOk c.who
 ·rw [h0]at h;cases h
 rw [h0]at h;simp only [bif_t]at h;cases h;have:=hF.d;have:=who_len c.who;exact Nat.le_trans (lensum _) (by simp only [ln0,ln1,lc,l0];omega)
theorem gof4{κ:Nat}(l:List UInt8)(c:WordsCmd)(h:goP κ false (partsP 4) l (zeroC 4)=some c):c.kind=4∧onlyC 4 c=c∧GF l c:=by
 unfold partsP zeroC at h;simp only [goP,rdP]at h;have hl0:=cut_len l;generalize cutM l=q0 at h hl0;obtain⟨a0,l1,m0⟩:=q0;simp only at h hl0;have hu0:=u_fit a0;generalize uR a0=u0 at hu0 h;obtain⟨x0,d0⟩:=u0;simp only at hu0 h;cases d0
 ·cases h
 try simp only [bif_t,bif_f]at h
 cases m0
 ·first|(cases h;done)|(simp only [bif_f,isW,List.isEmpty_cons,Bool.and_false,Bool.false_and,Bool.and_self]at h;cases h;done)
 try simp only [bif_t]at h
 generalize decide (l1=[99,111,110,102,105,114,109])=d1 at h;cases d1
 ·cases h
 try simp only [bif_t,bif_f]at h
 cases h;exact⟨rfl,rfl,⟨zfit,zfit,zfit,(Nat.zero_le _),(Nat.zero_le _),(fun x hx=>by cases hx)⟩⟩
theorem prt5{κ:Nat}(hκ:40000≤κ)(c:WordsCmd)(hF:FitC c){ws:List (List UInt8)}(h:wordsOf 5 c.who c.way c.value c.n c.running c.asBytes c.port c.flow c.size c.data=some ws):words_parse κ 5 (B (Lib.join ws [32]))=some (resP 5 (some (onlyC 5 c)))∧Lib.join ws [32]≠[]∧kd (Lib.join ws [32])=5:=by
 have hrt:=rt5 hκ c hF.f h;unfold wordsOf at h;simp only at h;cases h0:whoOk c.who
 ·rw [h0]at h;cases h
 rw [h0]at h;simp only [bif_t]at h;cases h;have:=hF.d;have:=who_len c.who;have hc0:=fun X=>cut_some (a:=whoL c.who) X (who_free _)
 have hc1:=cut_none (a:=[99,97,110,99,101,108]) (by decide);refine⟨?_, ?_, ?_⟩
 ·rw [parse5 hκ _ (Nat.le_trans (lensum _) (by simp only [ln0,ln1,lc,l0];omega)),hrt]
 ·rw [j2];intro e;exact num_ne _ (List.append_eq_nil_iff.1 e).1
 ·unfold kd
  simp only [j1,j2,hc0,hc1,who_ne c.who _ _ (by decide:57<(112:UInt8).toNat),who_ne c.who _ _ (by decide:57<(116:UInt8).toNat),who_ne c.who _ _ (by decide:57<(110:UInt8).toNat),who_ne c.who _ _ (by decide:57<(100:UInt8).toNat),bif_f]
  try rfl
theorem len5(c:WordsCmd)(hF:FitC c){ws:List (List UInt8)}(h:wordsOf 5 c.who c.way c.value c.n c.running c.asBytes c.port c.flow c.size c.data=some ws):(Lib.join ws [32]).length≤140737488353000:=by
 unfold wordsOf at h;simp only at h;cases h0:whoOk c.who
 ·rw [h0]at h;cases h
 rw [h0]at h;simp only [bif_t]at h;cases h;have:=hF.d;have:=who_len c.who;exact Nat.le_trans (lensum _) (by simp only [ln0,ln1,lc,l0];omega)
theorem gof5{κ:Nat}(l:List UInt8)(c:WordsCmd)(h:goP κ false (partsP 5) l (zeroC 5)=some c):c.kind=5∧onlyC 5 c=c∧GF l c:=by
 unfold partsP zeroC at h;simp only [goP,rdP]at h;have hl0:=cut_len l;generalize cutM l=q0 at h hl0;obtain⟨a0,l1,m0⟩:=q0;simp only at h hl0;have hu0:=u_fit a0;generalize uR a0=u0 at hu0 h;obtain⟨x0,d0⟩:=u0;simp only at hu0 h;cases d0
 ·cases h
 try simp only [bif_t,bif_f]at h
 cases m0
 ·first|(cases h;done)|(simp only [bif_f,isW,List.isEmpty_cons,Bool.and_false,Bool.false_and,Bool.and_self]at h;cases h;done)
 try simp only [bif_t]at h
 generalize decide (l1=[99,97,110,99,101,108])=d1 at h;cases d1
 ·cases h
 try simp only [bif_t,bif_f]at h
 cases h;exact⟨rfl,rfl,⟨zfit,zfit,zfit,(Nat.zero_le _),(Nat.zero_le _),(fun x hx=>by cases hx)⟩⟩
theorem prt6{κ:Nat}(hκ:40000≤κ)(c:WordsCmd)(hF:FitC c){ws:List (List UInt8)}(h:wordsOf 6 c.who c.way c.value c.n c.running c.asBytes c.port c.flow c.size c.data=some ws):words_parse κ 6 (B (Lib.join ws [32]))=some (resP 6 (some (onlyC 6 c)))∧Lib.join ws [32]≠[]∧kd (Lib.join ws [32])=6:=by
 have hrt:=rt6 hκ c hF.f h;unfold wordsOf at h;simp only at h;cases h0:whoOk c.who
 ·rw [h0]at h;cases h
 rw [h0]at h;simp only [bif_t]at h;cases h;have:=hF.d;have:=who_len c.who;have hc0:=fun X=>cut_some (a:=whoL c.who) X (who_free _)
 have hc1:=cut_none (a:=[115,97,118,101]) (by decide);refine⟨?_, ?_, ?_⟩
 ·rw [parse6 hκ _ (Nat.le_trans (lensum _) (by simp only [ln0,ln1,lc,l0];omega)),hrt]
 ·rw [j2];intro e;exact num_ne _ (List.append_eq_nil_iff.1 e).1
 ·unfold kd
  simp only [j1,j2,hc0,hc1,who_ne c.who _ _ (by decide:57<(112:UInt8).toNat),who_ne c.who _ _ (by decide:57<(116:UInt8).toNat),who_ne c.who _ _ (by decide:57<(110:UInt8).toNat),who_ne c.who _ _ (by decide:57<(100:UInt8).toNat),bif_f]
  try rfl
theorem len6(c:WordsCmd)(hF:FitC c){ws:List (List UInt8)}(h:wordsOf 6 c.who c.way c.value c.n c.running c.asBytes c.port c.flow c.size c.data=some ws):(Lib.join ws [32]).length≤140737488353000:=by
 unfold wordsOf at h;simp only at h;cases h0:whoOk c.who
 ·rw [h0]at h;cases h
 rw [h0]at h;simp only [bif_t]at h;cases h;have:=hF.d;have:=who_len c.who;exact Nat.le_trans (lensum _) (by simp only [ln0,ln1,lc,l0];omega)
theorem gof6{κ:Nat}(l:List UInt8)(c:WordsCmd)(h:goP κ false (partsP 6) l (zeroC 6)=some c):c.kind=6∧onlyC 6 c=c∧GF l c:=by
 unfold partsP zeroC at h;simp only [goP,rdP]at h;have hl0:=cut_len l;generalize cutM l=q0 at h hl0;obtain⟨a0,l1,m0⟩:=q0;simp only at h hl0;have hu0:=u_fit a0;generalize uR a0=u0 at hu0 h;obtain⟨x0,d0⟩:=u0;simp only at hu0 h;cases d0
 ·cases h
 try simp only [bif_t,bif_f]at h
 cases m0
 ·first|(cases h;done)|(simp only [bif_f,isW,List.isEmpty_cons,Bool.and_false,Bool.false_and,Bool.and_self]at h;cases h;done)
 try simp only [bif_t]at h
 generalize decide (l1=[115,97,118,101])=d1 at h;cases d1
 ·cases h
 try simp only [bif_t,bif_f]at h
 cases h;exact⟨rfl,rfl,⟨zfit,zfit,zfit,(Nat.zero_le _),(Nat.zero_le _),(fun x hx=>by cases hx)⟩⟩
theorem prt7{κ:Nat}(hκ:40000≤κ)(c:WordsCmd)(hF:FitC c){ws:List (List UInt8)}(h:wordsOf 7 c.who c.way c.value c.n c.running c.asBytes c.port c.flow c.size c.data=some ws):words_parse κ 7 (B (Lib.join ws [32]))=some (resP 7 (some (onlyC 7 c)))∧Lib.join ws [32]≠[]∧kd (Lib.join ws [32])=7:=by
 have hrt:=rt7 hκ c hF.f h;unfold wordsOf at h;simp only at h;cases h0:whoOk c.who
 ·rw [h0]at h;cases h
 rw [h0]at h;simp only [bif_t]at h;cases h1:wayOk c.way
 ·rw [h1]at h;cases h
 rw [h1]at h;simp only [bif_t]at h;cases h2:Lex5.plainB c.value.data.toList
 ·rw [h2]at h;cases h
 rw [h2]at h;simp only [bif_t]at h;cases h;have:=hF.d;have:=who_len c.who;have:=way_len c.way;have:c.value.data.toList.length≤140737488351232:=hF.f.hval;have hc0:=fun X=>cut_some (a:=whoL c.who) X (who_free _)
 have hc1:=fun X=>cut_some (a:=[115,101,116]) X (by decide)
 have hc2:=fun X=>cut_some (a:=wayL c.way) X (way_free _)
 refine⟨?_, ?_, ?_⟩
 ·rw [parse7 hκ _ (Nat.le_trans (lensum _) (by simp only [ln0,ln1,lc,l0];omega)) (by simp only [j2,hc0];omega) (by simp only [j1,j2,hc0,hc1,hc2];omega) (by simp only [j1,j2,hc0,hc1,hc2];omega),hrt]
 ·rw [j2];intro e;exact num_ne _ (List.append_eq_nil_iff.1 e).1
 ·unfold kd
  simp only [j1,j2,hc0,hc1,hc2,who_ne c.who _ _ (by decide:57<(112:UInt8).toNat),who_ne c.who _ _ (by decide:57<(116:UInt8).toNat),who_ne c.who _ _ (by decide:57<(110:UInt8).toNat),who_ne c.who _ _ (by decide:57<(100:UInt8).toNat),bif_f]
  try rfl
theorem len7(c:WordsCmd)(hF:FitC c){ws:List (List UInt8)}(h:wordsOf 7 c.who c.way c.value c.n c.running c.asBytes c.port c.flow c.size c.data=some ws):(Lib.join ws [32]).length≤140737488353000:=by
 unfold wordsOf at h;simp only at h;cases h0:whoOk c.who
 ·rw [h0]at h;cases h
 rw [h0]at h;simp only [bif_t]at h;cases h1:wayOk c.way
 ·rw [h1]at h;cases h
 rw [h1]at h;simp only [bif_t]at h;cases h2:Lex5.plainB c.value.data.toList
 ·rw [h2]at h;cases h
 rw [h2]at h;simp only [bif_t]at h;cases h;have:=hF.d;have:=who_len c.who;have:=way_len c.way;have:c.value.data.toList.length≤140737488351232:=hF.f.hval;exact Nat.le_trans (lensum _) (by simp only [ln0,ln1,lc,l0];omega)
theorem gof7{κ:Nat}(l:List UInt8)(c:WordsCmd)(h:goP κ false (partsP 7) l (zeroC 7)=some c):c.kind=7∧onlyC 7 c=c∧GF l c:=by
 unfold partsP zeroC at h;simp only [goP,rdP]at h;have hl0:=cut_len l;generalize cutM l=q0 at h hl0;obtain⟨a0,l1,m0⟩:=q0;simp only at h hl0;have hu0:=u_fit a0;generalize uR a0=u0 at hu0 h;obtain⟨x0,d0⟩:=u0;simp only at hu0 h;cases d0
 ·cases h
 try simp only [bif_t,bif_f]at h
 cases m0
 ·first|(cases h;done)|(simp only [bif_f,isW,List.isEmpty_cons,Bool.and_false,Bool.false_and,Bool.and_self]at h;cases h;done)
 try simp only [bif_t]at h
 have hl1:=cut_len l1;generalize cutM l1=q1 at h hl1;obtain⟨a1,l2,m1⟩:=q1;simp only at h hl1;generalize decide (a1=[115,101,116])=d1 at h;cases d1
 ·cases h
 try simp only [bif_t,bif_f]at h
 cases m1
 ·first|(cases h;done)|(simp only [bif_f,isW,List.isEmpty_cons,Bool.and_false,Bool.false_and,Bool.and_self]at h;cases h;done)
 try simp only [bif_t]at h
 have hl2:=cut_len l2;generalize cutM l2=q2 at h hl2;obtain⟨a2,l3,m2⟩:=q2;simp only at h hl2;generalize ((parV κ a2).1==0)=d2 at h;cases d2
 ·cases h
 try simp only [bif_t,bif_f]at h
 cases m2
 ·first|(cases h;done)|(simp only [bif_f,isW,List.isEmpty_cons,Bool.and_false,Bool.false_and,Bool.and_self]at h;cases h;done)
 try simp only [bif_t]at h
 try simp only [bif_t,bif_f]at h
 cases h;exact⟨rfl,rfl,⟨zfit,zfit,zfit,(by simp only [B_size];omega),(Nat.zero_le _),(fun x hx=>by cases hx)⟩⟩
theorem prt8{κ:Nat}(hκ:40000≤κ)(c:WordsCmd)(hF:FitC c){ws:List (List UInt8)}(h:wordsOf 8 c.who c.way c.value c.n c.running c.asBytes c.port c.flow c.size c.data=some ws):words_parse κ 8 (B (Lib.join ws [32]))=some (resP 8 (some (onlyC 8 c)))∧Lib.join ws [32]≠[]∧kd (Lib.join ws [32])=8:=by
 have hrt:=rt8 hκ c hF.f h;unfold wordsOf at h;simp only at h;cases h0:whoOk c.who
 ·rw [h0]at h;cases h
 rw [h0]at h;simp only [bif_t]at h;cases h1:wayOk c.way
 ·rw [h1]at h;cases h
 rw [h1]at h;simp only [bif_t]at h;cases h;have:=hF.d;have:=who_len c.who;have:=way_len c.way;have hc0:=fun X=>cut_some (a:=whoL c.who) X (who_free _)
 have hc1:=fun X=>cut_some (a:=[100,101,108]) X (by decide)
 refine⟨?_, ?_, ?_⟩
 ·rw [parse8 hκ _ (Nat.le_trans (lensum _) (by simp only [ln0,ln1,lc,l0];omega)),hrt]
 ·rw [j2];intro e;exact num_ne _ (List.append_eq_nil_iff.1 e).1
 ·unfold kd
  simp only [j1,j2,hc0,hc1,who_ne c.who _ _ (by decide:57<(112:UInt8).toNat),who_ne c.who _ _ (by decide:57<(116:UInt8).toNat),who_ne c.who _ _ (by decide:57<(110:UInt8).toNat),who_ne c.who _ _ (by decide:57<(100:UInt8).toNat),bif_f]
  try rfl
theorem len8(c:WordsCmd)(hF:FitC c){ws:List (List UInt8)}(h:wordsOf 8 c.who c.way c.value c.n c.running c.asBytes c.port c.flow c.size c.data=some ws):(Lib.join ws [32]).length≤140737488353000:=by
 unfold wordsOf at h;simp only at h;cases h0:whoOk c.who
 ·rw [h0]at h;cases h
 rw [h0]at h;simp only [bif_t]at h;cases h1:wayOk c.way
 ·rw [h1]at h;cases h
 rw [h1]at h;simp only [bif_t]at h;cases h;have:=hF.d;have:=who_len c.who;have:=way_len c.way;exact Nat.le_trans (lensum _) (by simp only [ln0,ln1,lc,l0];omega)
theorem gof8{κ:Nat}(l:List UInt8)(c:WordsCmd)(h:goP κ false (partsP 8) l (zeroC 8)=some c):c.kind=8∧onlyC 8 c=c∧GF l c:=by
 unfold partsP zeroC at h;simp only [goP,rdP]at h;have hl0:=cut_len l;generalize cutM l=q0 at h hl0;obtain⟨a0,l1,m0⟩:=q0;simp only at h hl0;have hu0:=u_fit a0;generalize uR a0=u0 at hu0 h;obtain⟨x0,d0⟩:=u0;simp only at hu0 h;cases d0
 ·cases h
 try simp only [bif_t,bif_f]at h
 cases m0
 ·first|(cases h;done)|(simp only [bif_f,isW,List.isEmpty_cons,Bool.and_false,Bool.false_and,Bool.and_self]at h;cases h;done)
 try simp only [bif_t]at h
 have hl1:=cut_len l1;generalize cutM l1=q1 at h hl1;obtain⟨a1,l2,m1⟩:=q1;simp only at h hl1;generalize decide (a1=[100,101,108])=d1 at h;cases d1
 ·cases h
 try simp only [bif_t,bif_f]at h
 cases m1
 ·first|(cases h;done)|(simp only [bif_f,isW,List.isEmpty_cons,Bool.and_false,Bool.false_and,Bool.and_self]at h;cases h;done)
 try simp only [bif_t]at h
 generalize ((parV κ l2).1==0)=d2 at h;cases d2
 ·cases h
 try simp only [bif_t,bif_f]at h
 cases h;exact⟨rfl,rfl,⟨zfit,zfit,zfit,(Nat.zero_le _),(Nat.zero_le _),(fun x hx=>by cases hx)⟩⟩
theorem prt9{κ:Nat}(hκ:40000≤κ)(c:WordsCmd)(hF:FitC c){ws:List (List UInt8)}(h:wordsOf 9 c.who c.way c.value c.n c.running c.asBytes c.port c.flow c.size c.data=some ws):words_parse κ 9 (B (Lib.join ws [32]))=some (resP 9 (some (onlyC 9 c)))∧Lib.join ws [32]≠[]∧kd (Lib.join ws [32])=9:=by
 have hrt:=rt9 hκ c hF.f h;unfold wordsOf at h;simp only at h;cases h0:whoOk c.who
 ·rw [h0]at h;cases h
 rw [h0]at h;simp only [bif_t]at h;by_cases hn:0<c.n
 ·rw [decide_eq_true hn]at h;simp only [bif_t]at h
  cases h;have:=hF.d;have:=who_len c.who;have:=num_len hF.f.hn;have hc0:=fun X=>cut_some (a:=whoL c.who) X (who_free _)
  have hc1:=fun X=>cut_some (a:=[99,111,109,109,105,116]) X (by decide)
  refine⟨?_, ?_, ?_⟩
  ·rw [parse9 hκ _ (Nat.le_trans (lensum _) (by simp only [ln0,ln1,lc,l0];omega)),hrt]
  ·rw [j2];intro e;exact num_ne _ (List.append_eq_nil_iff.1 e).1
  ·unfold kd
   simp only [j1,j2,hc0,hc1,who_ne c.who _ _ (by decide:57<(112:UInt8).toNat),who_ne c.who _ _ (by decide:57<(116:UInt8).toNat),who_ne c.who _ _ (by decide:57<(110:UInt8).toNat),who_ne c.who _ _ (by decide:57<(100:UInt8).toNat),bif_f]
   try rfl
 ·rw [decide_eq_false hn]at h;simp only [bif_f]at h
  cases h;have:=hF.d;have:=who_len c.who;have:=num_len hF.f.hn;have hc0:=fun X=>cut_some (a:=whoL c.who) X (who_free _)
  have hc1:=cut_none (a:=[99,111,109,109,105,116]) (by decide);refine⟨?_, ?_, ?_⟩
  ·rw [parse9 hκ _ (Nat.le_trans (lensum _) (by simp only [ln0,ln1,lc,l0];omega)),hrt]
  ·rw [j2];intro e;exact num_ne _ (List.append_eq_nil_iff.1 e).1
  ·unfold kd
   simp only [j1,j2,hc0,hc1,who_ne c.who _ _ (by decide:57<(112:UInt8).toNat),who_ne c.who _ _ (by decide:57<(116:UInt8).toNat),who_ne c.who _ _ (by decide:57<(110:UInt8).toNat),who_ne c.who _ _ (by decide:57<(100:UInt8).toNat),bif_f]
   try rfl
theorem len9(c:WordsCmd)(hF:FitC c){ws:List (List UInt8)}(h:wordsOf 9 c.who c.way c.value c.n c.running c.asBytes c.port c.flow c.size c.data=some ws):(Lib.join ws [32]).length≤140737488353000:=by
 unfold wordsOf at h;simp only at h;cases h0:whoOk c.who
 ·rw [h0]at h;cases h
 rw [h0]at h;simp only [bif_t]at h;by_cases hn:0<c.n
 ·rw [decide_eq_true hn]at h;simp only [bif_t]at h
  cases h;have:=hF.d;have:=who_len c.who;have:=num_len hF.f.hn;exact Nat.le_trans (lensum _) (by simp only [ln0,ln1,lc,l0];omega)
 ·rw [decide_eq_false hn]at h;simp only [bif_f]at h
  cases h;have:=hF.d;have:=who_len c.who;have:=num_len hF.f.hn;exact Nat.le_trans (lensum _) (by simp only [ln0,ln1,lc,l0];omega)
theorem gof9{κ:Nat}(l:List UInt8)(c:WordsCmd)(h:goP κ true (partsP 9) l (zeroC 9)=some c):c.kind=9∧onlyC 9 c=c∧GF l c:=by
 unfold partsP zeroC at h;simp only [goP,rdP]at h;have hl0:=cut_len l;generalize cutM l=q0 at h hl0;obtain⟨a0,l1,m0⟩:=q0;simp only at h hl0;have hu0:=u_fit a0;generalize uR a0=u0 at hu0 h;obtain⟨x0,d0⟩:=u0;simp only at hu0 h;cases d0
 ·cases h
 try simp only [bif_t,bif_f]at h
 cases m0
 ·first|(cases h;done)|(simp only [bif_f,isW,List.isEmpty_cons,Bool.and_false,Bool.false_and,Bool.and_self]at h;cases h;done)
 try simp only [bif_t]at h
 have hl1:=cut_len l1;generalize cutM l1=q1 at h hl1;obtain⟨a1,l2,m1⟩:=q1;simp only at h hl1;generalize decide (a1=[99,111,109,109,105,116])=d1 at h;cases d1
 ·cases h
 try simp only [bif_t,bif_f]at h
 cases m1
 ·simp only [bif_f,isW,List.isEmpty_nil,Bool.and_self,bif_t]at h
  cases h;exact⟨rfl,rfl,⟨zfit,zfit,zfit,(Nat.zero_le _),(Nat.zero_le _),(fun x hx=>by cases hx)⟩⟩
 try simp only [bif_t]at h
 have hu2:=u_fit l2;generalize ((uR l2).2&&decide ((uR l2).1>0))=d2 at h;cases d2
 ·cases h
 try simp only [bif_t,bif_f]at h
 cases h;exact⟨rfl,rfl,⟨hu2,zfit,zfit,(Nat.zero_le _),(Nat.zero_le _),(fun x hx=>by cases hx)⟩⟩
theorem prt10{κ:Nat}(hκ:40000≤κ)(c:WordsCmd)(hF:FitC c){ws:List (List UInt8)}(h:wordsOf 10 c.who c.way c.value c.n c.running c.asBytes c.port c.flow c.size c.data=some ws):words_parse κ 10 (B (Lib.join ws [32]))=some (resP 10 (some (onlyC 10 c)))∧Lib.join ws [32]≠[]∧kd (Lib.join ws [32])=10:=by
 have hrt:=rt10 hκ c hF.f h;unfold wordsOf at h;simp only at h;cases h0:whoOk c.who
 ·rw [h0]at h;cases h
 rw [h0]at h;simp only [bif_t]at h;cases h;have:=hF.d;have:=who_len c.who;have:=num_len hF.f.hn;have hc0:=fun X=>cut_some (a:=whoL c.who) X (who_free _)
 have hc1:=fun X=>cut_some (a:=[114,111,108,108,98,97,99,107]) X (by decide)
 refine⟨?_, ?_, ?_⟩
 ·rw [parse10 hκ _ (Nat.le_trans (lensum _) (by simp only [ln0,ln1,lc,l0];omega)),hrt]
 ·rw [j2];intro e;exact num_ne _ (List.append_eq_nil_iff.1 e).1
 ·unfold kd
  simp only [j1,j2,hc0,hc1,who_ne c.who _ _ (by decide:57<(112:UInt8).toNat),who_ne c.who _ _ (by decide:57<(116:UInt8).toNat),who_ne c.who _ _ (by decide:57<(110:UInt8).toNat),who_ne c.who _ _ (by decide:57<(100:UInt8).toNat),bif_f]
  try rfl
theorem len10(c:WordsCmd)(hF:FitC c){ws:List (List UInt8)}(h:wordsOf 10 c.who c.way c.value c.n c.running c.asBytes c.port c.flow c.size c.data=some ws):(Lib.join ws [32]).length≤140737488353000:=by
 unfold wordsOf at h;simp only at h;cases h0:whoOk c.who
 ·rw [h0]at h;cases h
 rw [h0]at h;simp only [bif_t]at h;cases h;have:=hF.d;have:=who_len c.who;have:=num_len hF.f.hn;exact Nat.le_trans (lensum _) (by simp only [ln0,ln1,lc,l0];omega)
theorem gof10{κ:Nat}(l:List UInt8)(c:WordsCmd)(h:goP κ false (partsP 10) l (zeroC 10)=some c):c.kind=10∧onlyC 10 c=c∧GF l c:=by
 unfold partsP zeroC at h;simp only [goP,rdP]at h;have hl0:=cut_len l;generalize cutM l=q0 at h hl0;obtain⟨a0,l1,m0⟩:=q0;simp only at h hl0;have hu0:=u_fit a0;generalize uR a0=u0 at hu0 h;obtain⟨x0,d0⟩:=u0;simp only at hu0 h;cases d0
 ·cases h
 try simp only [bif_t,bif_f]at h
 cases m0
 ·first|(cases h;done)|(simp only [bif_f,isW,List.isEmpty_cons,Bool.and_false,Bool.false_and,Bool.and_self]at h;cases h;done)
 try simp only [bif_t]at h
 have hl1:=cut_len l1;generalize cutM l1=q1 at h hl1;obtain⟨a1,l2,m1⟩:=q1;simp only at h hl1;generalize decide (a1=[114,111,108,108,98,97,99,107])=d1 at h;cases d1
 ·cases h
 try simp only [bif_t,bif_f]at h
 cases m1
 ·first|(cases h;done)|(simp only [bif_f,isW,List.isEmpty_cons,Bool.and_false,Bool.false_and,Bool.and_self]at h;cases h;done)
 try simp only [bif_t]at h
 have hu2:=u_fit l2;generalize uR l2=u2 at hu2 h;obtain⟨x2,d2⟩:=u2;simp only at hu2 h;cases d2
 ·cases h
 try simp only [bif_t,bif_f]at h
 cases h;exact⟨rfl,rfl,⟨hu2,zfit,zfit,(Nat.zero_le _),(Nat.zero_le _),(fun x hx=>by cases hx)⟩⟩
theorem prt11{κ:Nat}(hκ:40000≤κ)(c:WordsCmd)(hF:FitC c){ws:List (List UInt8)}(h:wordsOf 11 c.who c.way c.value c.n c.running c.asBytes c.port c.flow c.size c.data=some ws):words_parse κ 11 (B (Lib.join ws [32]))=some (resP 11 (some (onlyC 11 c)))∧Lib.join ws [32]≠[]∧kd (Lib.join ws [32])=11:=by
 have hrt:=rt11 hκ c hF.f h;unfold wordsOf at h;simp only at h;cases h0:whoOk c.who
 ·rw [h0]at h;cases h
 rw [h0]at h;simp only [bif_t]at h;cases h;have:=hF.d;have:=who_len c.who;have:=num_len hF.f.hn;have hc0:=fun X=>cut_some (a:=whoL c.who) X (who_free _)
 have hc1:=fun X=>cut_some (a:=[112,114,117,110,101]) X (by decide)
 refine⟨?_, ?_, ?_⟩
 ·rw [parse11 hκ _ (Nat.le_trans (lensum _) (by simp only [ln0,ln1,lc,l0];omega)),hrt]
 ·rw [j2];intro e;exact num_ne _ (List.append_eq_nil_iff.1 e).1
 ·unfold kd
  simp only [j1,j2,hc0,hc1,who_ne c.who _ _ (by decide:57<(112:UInt8).toNat),who_ne c.who _ _ (by decide:57<(116:UInt8).toNat),who_ne c.who _ _ (by decide:57<(110:UInt8).toNat),who_ne c.who _ _ (by decide:57<(100:UInt8).toNat),bif_f]
  try rfl
theorem len11(c:WordsCmd)(hF:FitC c){ws:List (List UInt8)}(h:wordsOf 11 c.who c.way c.value c.n c.running c.asBytes c.port c.flow c.size c.data=some ws):(Lib.join ws [32]).length≤140737488353000:=by
 unfold wordsOf at h;simp only at h;cases h0:whoOk c.who
 ·rw [h0]at h;cases h
 rw [h0]at h;simp only [bif_t]at h;cases h;have:=hF.d;have:=who_len c.who;have:=num_len hF.f.hn;exact Nat.le_trans (lensum _) (by simp only [ln0,ln1,lc,l0];omega)
theorem gof11{κ:Nat}(l:List UInt8)(c:WordsCmd)(h:goP κ false (partsP 11) l (zeroC 11)=some c):c.kind=11∧onlyC 11 c=c∧GF l c:=by
 unfold partsP zeroC at h;simp only [goP,rdP]at h;have hl0:=cut_len l;generalize cutM l=q0 at h hl0;obtain⟨a0,l1,m0⟩:=q0;simp only at h hl0;have hu0:=u_fit a0;generalize uR a0=u0 at hu0 h;obtain⟨x0,d0⟩:=u0;simp only at hu0 h;cases d0
 ·cases h
 try simp only [bif_t,bif_f]at h
 cases m0
 ·first|(cases h;done)|(simp only [bif_f,isW,List.isEmpty_cons,Bool.and_false,Bool.false_and,Bool.and_self]at h;cases h;done)
 try simp only [bif_t]at h
 have hl1:=cut_len l1;generalize cutM l1=q1 at h hl1;obtain⟨a1,l2,m1⟩:=q1;simp only at h hl1;generalize decide (a1=[112,114,117,110,101])=d1 at h;cases d1
 ·cases h
 try simp only [bif_t,bif_f]at h
 cases m1
 ·first|(cases h;done)|(simp only [bif_f,isW,List.isEmpty_cons,Bool.and_false,Bool.false_and,Bool.and_self]at h;cases h;done)
 try simp only [bif_t]at h
 have hu2:=u_fit l2;generalize uR l2=u2 at hu2 h;obtain⟨x2,d2⟩:=u2;simp only at hu2 h;cases d2
 ·cases h
 try simp only [bif_t,bif_f]at h
 cases h;exact⟨rfl,rfl,⟨hu2,zfit,zfit,(Nat.zero_le _),(Nat.zero_le _),(fun x hx=>by cases hx)⟩⟩
theorem prt12{κ:Nat}(hκ:40000≤κ)(c:WordsCmd)(hF:FitC c){ws:List (List UInt8)}(h:wordsOf 12 c.who c.way c.value c.n c.running c.asBytes c.port c.flow c.size c.data=some ws):words_parse κ 12 (B (Lib.join ws [32]))=some (resP 12 (some (onlyC 12 c)))∧Lib.join ws [32]≠[]∧kd (Lib.join ws [32])=12:=by
 have hrt:=rt12 hκ c hF.f h;unfold wordsOf at h;simp only at h;cases h0:whoOk c.who
 ·rw [h0]at h;cases h
 rw [h0]at h;simp only [bif_t]at h;cases h;have:=hF.d;have:=who_len c.who;have:=store_len c.running;have:=form_len c.asBytes;have:=num_len hF.f.hn;have hc0:=fun X=>cut_some (a:=whoL c.who) X (who_free _)
 have hc1:=fun X=>cut_some (a:=[115,104,111,119]) X (by decide)
 have hc2:=fun X=>cut_some (a:=storeL c.running) X (store_free _)
 have hc3:=fun X=>cut_some (a:=formL c.asBytes) X (form_free _)
 refine⟨?_, ?_, ?_⟩
 ·rw [parse12 hκ _ (Nat.le_trans (lensum _) (by simp only [ln0,ln1,lc,l0];omega)),hrt]
 ·rw [j2];intro e;exact num_ne _ (List.append_eq_nil_iff.1 e).1
 ·unfold kd
  simp only [j1,j2,hc0,hc1,hc2,hc3,who_ne c.who _ _ (by decide:57<(112:UInt8).toNat),who_ne c.who _ _ (by decide:57<(116:UInt8).toNat),who_ne c.who _ _ (by decide:57<(110:UInt8).toNat),who_ne c.who _ _ (by decide:57<(100:UInt8).toNat),bif_f]
  try rfl
theorem len12(c:WordsCmd)(hF:FitC c){ws:List (List UInt8)}(h:wordsOf 12 c.who c.way c.value c.n c.running c.asBytes c.port c.flow c.size c.data=some ws):(Lib.join ws [32]).length≤140737488353000:=by
 unfold wordsOf at h;simp only at h;cases h0:whoOk c.who
 ·rw [h0]at h;cases h
 rw [h0]at h;simp only [bif_t]at h;cases h;have:=hF.d;have:=who_len c.who;have:=store_len c.running;have:=form_len c.asBytes;have:=num_len hF.f.hn;exact Nat.le_trans (lensum _) (by simp only [ln0,ln1,lc,l0];omega)
theorem gof12{κ:Nat}(l:List UInt8)(c:WordsCmd)(h:goP κ false (partsP 12) l (zeroC 12)=some c):c.kind=12∧onlyC 12 c=c∧GF l c:=by
 unfold partsP zeroC at h;simp only [goP,rdP]at h;have hl0:=cut_len l;generalize cutM l=q0 at h hl0;obtain⟨a0,l1,m0⟩:=q0;simp only at h hl0;have hu0:=u_fit a0;generalize uR a0=u0 at hu0 h;obtain⟨x0,d0⟩:=u0;simp only at hu0 h;cases d0
 ·cases h
 try simp only [bif_t,bif_f]at h
 cases m0
 ·first|(cases h;done)|(simp only [bif_f,isW,List.isEmpty_cons,Bool.and_false,Bool.false_and,Bool.and_self]at h;cases h;done)
 try simp only [bif_t]at h
 have hl1:=cut_len l1;generalize cutM l1=q1 at h hl1;obtain⟨a1,l2,m1⟩:=q1;simp only at h hl1;generalize decide (a1=[115,104,111,119])=d1 at h;cases d1
 ·cases h
 try simp only [bif_t,bif_f]at h
 cases m1
 ·first|(cases h;done)|(simp only [bif_f,isW,List.isEmpty_cons,Bool.and_false,Bool.false_and,Bool.and_self]at h;cases h;done)
 try simp only [bif_t]at h
 have hl2:=cut_len l2;generalize cutM l2=q2 at h hl2;obtain⟨a2,l3,m2⟩:=q2;simp only at h hl2;generalize (decide (a2=[114,117,110,110,105,110,103])||decide (a2=[99,97,110,100,105,100,97,116,101]))=d2 at h;cases d2
 ·cases h
 try simp only [bif_t,bif_f]at h
 cases m2
 ·first|(cases h;done)|(simp only [bif_f,isW,List.isEmpty_cons,Bool.and_false,Bool.false_and,Bool.and_self]at h;cases h;done)
 try simp only [bif_t]at h
 have hl3:=cut_len l3;generalize cutM l3=q3 at h hl3;obtain⟨a3,l4,m3⟩:=q3;simp only at h hl3;generalize (decide (a3=[98,121,116,101,115])||decide (a3=[116,101,120,116]))=d3 at h;cases d3
 ·cases h
 try simp only [bif_t,bif_f]at h
 cases m3
 ·first|(cases h;done)|(simp only [bif_f,isW,List.isEmpty_cons,Bool.and_false,Bool.false_and,Bool.and_self]at h;cases h;done)
 try simp only [bif_t]at h
 have hu4:=u_fit l4;generalize uR l4=u4 at hu4 h;obtain⟨x4,d4⟩:=u4;simp only at hu4 h;cases d4
 ·cases h
 try simp only [bif_t,bif_f]at h
 cases h;exact⟨rfl,rfl,⟨hu4,zfit,zfit,(Nat.zero_le _),(Nat.zero_le _),(fun x hx=>by cases hx)⟩⟩
theorem prt13{κ:Nat}(hκ:40000≤κ)(c:WordsCmd)(hF:FitC c){ws:List (List UInt8)}(h:wordsOf 13 c.who c.way c.value c.n c.running c.asBytes c.port c.flow c.size c.data=some ws):words_parse κ 13 (B (Lib.join ws [32]))=some (resP 13 (some (onlyC 13 c)))∧Lib.join ws [32]≠[]∧kd (Lib.join ws [32])=13:=by
 have hrt:=rt13 hκ c hF.f h;unfold wordsOf at h;simp only at h;cases h0:whoOk c.who
 ·rw [h0]at h;cases h
 rw [h0]at h;simp only [bif_t]at h;cases h;have:=hF.d;have:=who_len c.who;have:=dat_len c.data;have hc0:=fun X=>cut_some (a:=whoL c.who) X (who_free _)
 have hc1:=fun X=>cut_some (a:=[108,111,97,100]) X (by decide)
 have hc2:=fun X=>cut_some (a:=[116,101,120,116]) X (by decide)
 refine⟨?_, ?_, ?_⟩
 ·rw [parse13 hκ _ (Nat.le_trans (lensum _) (by simp only [ln0,ln1,lc,l0];omega)),hrt]
 ·rw [j2];intro e;exact num_ne _ (List.append_eq_nil_iff.1 e).1
 ·unfold kd
  simp only [j1,j2,hc0,hc1,hc2,who_ne c.who _ _ (by decide:57<(112:UInt8).toNat),who_ne c.who _ _ (by decide:57<(116:UInt8).toNat),who_ne c.who _ _ (by decide:57<(110:UInt8).toNat),who_ne c.who _ _ (by decide:57<(100:UInt8).toNat),bif_f]
  try rfl
theorem len13(c:WordsCmd)(hF:FitC c){ws:List (List UInt8)}(h:wordsOf 13 c.who c.way c.value c.n c.running c.asBytes c.port c.flow c.size c.data=some ws):(Lib.join ws [32]).length≤140737488353000:=by
 unfold wordsOf at h;simp only at h;cases h0:whoOk c.who
 ·rw [h0]at h;cases h
 rw [h0]at h;simp only [bif_t]at h;cases h;have:=hF.d;have:=who_len c.who;have:=dat_len c.data;exact Nat.le_trans (lensum _) (by simp only [ln0,ln1,lc,l0];omega)
theorem gof13{κ:Nat}(l:List UInt8)(c:WordsCmd)(h:goP κ false (partsP 13) l (zeroC 13)=some c):c.kind=13∧onlyC 13 c=c∧GF l c:=by
 unfold partsP zeroC at h;simp only [goP,rdP]at h;have hl0:=cut_len l;generalize cutM l=q0 at h hl0;obtain⟨a0,l1,m0⟩:=q0;simp only at h hl0;have hu0:=u_fit a0;generalize uR a0=u0 at hu0 h;obtain⟨x0,d0⟩:=u0;simp only at hu0 h;cases d0
 ·cases h
 try simp only [bif_t,bif_f]at h
 cases m0
 ·first|(cases h;done)|(simp only [bif_f,isW,List.isEmpty_cons,Bool.and_false,Bool.false_and,Bool.and_self]at h;cases h;done)
 try simp only [bif_t]at h
 have hl1:=cut_len l1;generalize cutM l1=q1 at h hl1;obtain⟨a1,l2,m1⟩:=q1;simp only at h hl1;generalize decide (a1=[108,111,97,100])=d1 at h;cases d1
 ·cases h
 try simp only [bif_t,bif_f]at h
 cases m1
 ·first|(cases h;done)|(simp only [bif_f,isW,List.isEmpty_cons,Bool.and_false,Bool.false_and,Bool.and_self]at h;cases h;done)
 try simp only [bif_t]at h
 have hl2:=cut_len l2;generalize cutM l2=q2 at h hl2;obtain⟨a2,l3,m2⟩:=q2;simp only at h hl2;generalize decide (a2=[116,101,120,116])=d2 at h;cases d2
 ·cases h
 try simp only [bif_t,bif_f]at h
 cases m2
 ·first|(cases h;done)|(simp only [bif_f,isW,List.isEmpty_cons,Bool.and_false,Bool.false_and,Bool.and_self]at h;cases h;done)
 try simp only [bif_t]at h
 try simp only [bif_t,bif_f]at h
 cases h;exact⟨rfl,rfl,⟨zfit,zfit,zfit,(Nat.zero_le _),(by simp only [ints_len];omega),ints_byt _⟩⟩
theorem prt14{κ:Nat}(hκ:40000≤κ)(c:WordsCmd)(hF:FitC c){ws:List (List UInt8)}(h:wordsOf 14 c.who c.way c.value c.n c.running c.asBytes c.port c.flow c.size c.data=some ws):words_parse κ 14 (B (Lib.join ws [32]))=some (resP 14 (some (onlyC 14 c)))∧Lib.join ws [32]≠[]∧kd (Lib.join ws [32])=14:=by
 have hrt:=rt14 hκ c hF.f h;unfold wordsOf at h;simp only at h;cases h0:whoOk c.who
 ·rw [h0]at h;cases h
 rw [h0]at h;simp only [bif_t]at h;cases h;have:=hF.d;have:=who_len c.who;have:=hexL_len (datL c.data);have:=dat_len c.data;have hc0:=fun X=>cut_some (a:=whoL c.who) X (who_free _)
 have hc1:=fun X=>cut_some (a:=[108,111,97,100]) X (by decide)
 have hc2:=fun X=>cut_some (a:=[98,121,116,101,115]) X (by decide)
 refine⟨?_, ?_, ?_⟩
 ·rw [parse14 hκ _ (Nat.le_trans (lensum _) (by simp only [ln0,ln1,lc,l0];omega)),hrt]
 ·rw [j2];intro e;exact num_ne _ (List.append_eq_nil_iff.1 e).1
 ·unfold kd
  simp only [j1,j2,hc0,hc1,hc2,who_ne c.who _ _ (by decide:57<(112:UInt8).toNat),who_ne c.who _ _ (by decide:57<(116:UInt8).toNat),who_ne c.who _ _ (by decide:57<(110:UInt8).toNat),who_ne c.who _ _ (by decide:57<(100:UInt8).toNat),bif_f]
  try rfl
theorem len14(c:WordsCmd)(hF:FitC c){ws:List (List UInt8)}(h:wordsOf 14 c.who c.way c.value c.n c.running c.asBytes c.port c.flow c.size c.data=some ws):(Lib.join ws [32]).length≤140737488353000:=by
 unfold wordsOf at h;simp only at h;cases h0:whoOk c.who
 ·rw [h0]at h;cases h
 rw [h0]at h;simp only [bif_t]at h;cases h;have:=hF.d;have:=who_len c.who;have:=hexL_len (datL c.data);have:=dat_len c.data;exact Nat.le_trans (lensum _) (by simp only [ln0,ln1,lc,l0];omega)
theorem gof14{κ:Nat}(l:List UInt8)(c:WordsCmd)(h:goP κ false (partsP 14) l (zeroC 14)=some c):c.kind=14∧onlyC 14 c=c∧GF l c:=by
 unfold partsP zeroC at h;simp only [goP,rdP]at h;have hl0:=cut_len l;generalize cutM l=q0 at h hl0;obtain⟨a0,l1,m0⟩:=q0;simp only at h hl0;have hu0:=u_fit a0;generalize uR a0=u0 at hu0 h;obtain⟨x0,d0⟩:=u0;simp only at hu0 h;cases d0
 ·cases h
 try simp only [bif_t,bif_f]at h
 cases m0
 ·first|(cases h;done)|(simp only [bif_f,isW,List.isEmpty_cons,Bool.and_false,Bool.false_and,Bool.and_self]at h;cases h;done)
 try simp only [bif_t]at h
 have hl1:=cut_len l1;generalize cutM l1=q1 at h hl1;obtain⟨a1,l2,m1⟩:=q1;simp only at h hl1;generalize decide (a1=[108,111,97,100])=d1 at h;cases d1
 ·cases h
 try simp only [bif_t,bif_f]at h
 cases m1
 ·first|(cases h;done)|(simp only [bif_f,isW,List.isEmpty_cons,Bool.and_false,Bool.false_and,Bool.and_self]at h;cases h;done)
 try simp only [bif_t]at h
 have hl2:=cut_len l2;generalize cutM l2=q2 at h hl2;obtain⟨a2,l3,m2⟩:=q2;simp only at h hl2;generalize decide (a2=[98,121,116,101,115])=d2 at h;cases d2
 ·cases h
 try simp only [bif_t,bif_f]at h
 cases m2
 ·first|(cases h;done)|(simp only [bif_f,isW,List.isEmpty_cons,Bool.and_false,Bool.false_and,Bool.and_self]at h;cases h;done)
 try simp only [bif_t]at h
 have hu3:=un_fit l3;generalize unR l3=u3 at hu3 h;obtain⟨d3,x3⟩:=u3;simp only at hu3 h;cases d3
 ·cases h
 try simp only [bif_t,bif_f]at h
 cases h;exact⟨rfl,rfl,⟨zfit,zfit,zfit,(Nat.zero_le _),(Nat.le_trans hu3.1 (by omega)),hu3.2⟩⟩
theorem prt15{κ:Nat}(hκ:40000≤κ)(c:WordsCmd)(hF:FitC c){ws:List (List UInt8)}(h:wordsOf 15 c.who c.way c.value c.n c.running c.asBytes c.port c.flow c.size c.data=some ws):words_parse κ 15 (B (Lib.join ws [32]))=some (resP 15 (some (onlyC 15 c)))∧Lib.join ws [32]≠[]∧kd (Lib.join ws [32])=15:=by
 have hrt:=rt15 hκ c hF.f h;unfold wordsOf at h;simp only at h;cases h0:Pa15.idn c.port
 ·rw [h0]at h;cases h
 rw [h0]at h;simp only [bif_t]at h;cases h;have:=hF.d;have:=id_len h0;have:=num_len hF.f.hfl;have:=num_len hF.f.hsz;have hc0:=fun X=>cut_some (a:=[112,97,99,107,101,116]) X (by decide)
 have hc1:=fun X=>cut_some (a:=c.port.data.toList) X (id_free h0)
 have hc2:=fun X=>cut_some (a:=numL c.flow) X (num_free _)
 refine⟨?_, ?_, ?_⟩
 ·rw [parse15 hκ _ (Nat.le_trans (lensum _) (by simp only [ln0,ln1,lc,l0];omega)),hrt]
 ·rw [j2];simp
 ·unfold kd
  simp only [j1,j2,hc0,hc1,hc2]
  try rfl
theorem len15(c:WordsCmd)(hF:FitC c){ws:List (List UInt8)}(h:wordsOf 15 c.who c.way c.value c.n c.running c.asBytes c.port c.flow c.size c.data=some ws):(Lib.join ws [32]).length≤140737488353000:=by
 unfold wordsOf at h;simp only at h;cases h0:Pa15.idn c.port
 ·rw [h0]at h;cases h
 rw [h0]at h;simp only [bif_t]at h;cases h;have:=hF.d;have:=id_len h0;have:=num_len hF.f.hfl;have:=num_len hF.f.hsz;exact Nat.le_trans (lensum _) (by simp only [ln0,ln1,lc,l0];omega)
theorem gof15{κ:Nat}(l:List UInt8)(c:WordsCmd)(h:goP κ false (partsP 15) l (zeroC 15)=some c):c.kind=15∧onlyC 15 c=c∧GF l c:=by
 unfold partsP zeroC at h;simp only [goP,rdP]at h;have hl0:=cut_len l;generalize cutM l=q0 at h hl0;obtain⟨a0,l1,m0⟩:=q0;simp only at h hl0;generalize decide (a0=[112,97,99,107,101,116])=d0 at h;cases d0
 ·cases h
 try simp only [bif_t,bif_f]at h
 cases m0
 ·first|(cases h;done)|(simp only [bif_f,isW,List.isEmpty_cons,Bool.and_false,Bool.false_and,Bool.and_self]at h;cases h;done)
 try simp only [bif_t]at h
 have hl1:=cut_len l1;generalize cutM l1=q1 at h hl1;obtain⟨a1,l2,m1⟩:=q1;simp only at h hl1
 try simp only [bif_t,bif_f]at h
 cases m1
 ·first|(cases h;done)|(simp only [bif_f,isW,List.isEmpty_cons,Bool.and_false,Bool.false_and,Bool.and_self]at h;cases h;done)
 try simp only [bif_t]at h
 have hl2:=cut_len l2;generalize cutM l2=q2 at h hl2;obtain⟨a2,l3,m2⟩:=q2;simp only at h hl2;have hu2:=u_fit a2;generalize uR a2=u2 at hu2 h;obtain⟨x2,d2⟩:=u2;simp only at hu2 h;cases d2
 ·cases h
 try simp only [bif_t,bif_f]at h
 cases m2
 ·first|(cases h;done)|(simp only [bif_f,isW,List.isEmpty_cons,Bool.and_false,Bool.false_and,Bool.and_self]at h;cases h;done)
 try simp only [bif_t]at h
 have hu3:=u_fit l3;generalize uR l3=u3 at hu3 h;obtain⟨x3,d3⟩:=u3;simp only at hu3 h;cases d3
 ·cases h
 try simp only [bif_t,bif_f]at h
 cases h;exact⟨rfl,rfl,⟨zfit,hu2,hu3,(Nat.zero_le _),(Nat.zero_le _),(fun x hx=>by cases hx)⟩⟩
theorem prt16{κ:Nat}(hκ:40000≤κ)(c:WordsCmd)(hF:FitC c){ws:List (List UInt8)}(h:wordsOf 16 c.who c.way c.value c.n c.running c.asBytes c.port c.flow c.size c.data=some ws):words_parse κ 16 (B (Lib.join ws [32]))=some (resP 16 (some (onlyC 16 c)))∧Lib.join ws [32]≠[]∧kd (Lib.join ws [32])=16:=by
 have hrt:=rt16 hκ c hF.f h;unfold wordsOf at h;simp only at h;cases h;have:=hF.d;have:=num_len hF.f.hn;have hc0:=fun X=>cut_some (a:=[116,105,99,107]) X (by decide)
 refine⟨?_, ?_, ?_⟩
 ·rw [parse16 hκ _ (Nat.le_trans (lensum _) (by simp only [ln0,ln1,lc,l0];omega)),hrt]
 ·rw [j2];simp
 ·unfold kd
  simp only [j1,j2,hc0]
  try rfl
theorem len16(c:WordsCmd)(hF:FitC c){ws:List (List UInt8)}(h:wordsOf 16 c.who c.way c.value c.n c.running c.asBytes c.port c.flow c.size c.data=some ws):(Lib.join ws [32]).length≤140737488353000:=by
 unfold wordsOf at h;simp only at h;cases h;have:=hF.d;have:=num_len hF.f.hn;exact Nat.le_trans (lensum _) (by simp only [ln0,ln1,lc,l0];omega)
theorem gof16{κ:Nat}(l:List UInt8)(c:WordsCmd)(h:goP κ false (partsP 16) l (zeroC 16)=some c):c.kind=16∧onlyC 16 c=c∧GF l c:=by
 unfold partsP zeroC at h;simp only [goP,rdP]at h;have hl0:=cut_len l;generalize cutM l=q0 at h hl0;obtain⟨a0,l1,m0⟩:=q0;simp only at h hl0;generalize decide (a0=[116,105,99,107])=d0 at h;cases d0
 ·cases h
 try simp only [bif_t,bif_f]at h
 cases m0
 ·first|(cases h;done)|(simp only [bif_f,isW,List.isEmpty_cons,Bool.and_false,Bool.false_and,Bool.and_self]at h;cases h;done)
 try simp only [bif_t]at h
 have hu1:=u_fit l1;generalize uR l1=u1 at hu1 h;obtain⟨x1,d1⟩:=u1;simp only at hu1 h;cases d1
 ·cases h
 try simp only [bif_t,bif_f]at h
 cases h;exact⟨rfl,rfl,⟨hu1,zfit,zfit,(Nat.zero_le _),(Nat.zero_le _),(fun x hx=>by cases hx)⟩⟩
theorem prt17{κ:Nat}(hκ:40000≤κ)(c:WordsCmd)(hF:FitC c){ws:List (List UInt8)}(h:wordsOf 17 c.who c.way c.value c.n c.running c.asBytes c.port c.flow c.size c.data=some ws):words_parse κ 17 (B (Lib.join ws [32]))=some (resP 17 (some (onlyC 17 c)))∧Lib.join ws [32]≠[]∧kd (Lib.join ws [32])=17:=by
 have hrt:=rt17 hκ c hF.f h;unfold wordsOf at h;simp only at h;cases h0:Pa15.idn c.port
 ·rw [h0]at h;cases h
 rw [h0]at h;simp only [bif_t]at h;cases h;have:=hF.d;have:=id_len h0;have hc0:=fun X=>cut_some (a:=[110,101,120,116]) X (by decide)
 refine⟨?_, ?_, ?_⟩
 ·rw [parse17 hκ _ (Nat.le_trans (lensum _) (by simp only [ln0,ln1,lc,l0];omega)),hrt]
 ·rw [j2];simp
 ·unfold kd
  simp only [j1,j2,hc0]
  try rfl
theorem len17(c:WordsCmd)(hF:FitC c){ws:List (List UInt8)}(h:wordsOf 17 c.who c.way c.value c.n c.running c.asBytes c.port c.flow c.size c.data=some ws):(Lib.join ws [32]).length≤140737488353000:=by
 unfold wordsOf at h;simp only at h;cases h0:Pa15.idn c.port
 ·rw [h0]at h;cases h
 rw [h0]at h;simp only [bif_t]at h;cases h;have:=hF.d;have:=id_len h0;exact Nat.le_trans (lensum _) (by simp only [ln0,ln1,lc,l0];omega)
theorem gof17{κ:Nat}(l:List UInt8)(c:WordsCmd)(h:goP κ false (partsP 17) l (zeroC 17)=some c):c.kind=17∧onlyC 17 c=c∧GF l c:=by
 unfold partsP zeroC at h;simp only [goP,rdP]at h;have hl0:=cut_len l;generalize cutM l=q0 at h hl0;obtain⟨a0,l1,m0⟩:=q0;simp only at h hl0;generalize decide (a0=[110,101,120,116])=d0 at h;cases d0
 ·cases h
 try simp only [bif_t,bif_f]at h
 cases m0
 ·first|(cases h;done)|(simp only [bif_f,isW,List.isEmpty_cons,Bool.and_false,Bool.false_and,Bool.and_self]at h;cases h;done)
 try simp only [bif_t]at h
 try simp only [bif_t,bif_f]at h
 cases h;exact⟨rfl,rfl,⟨zfit,zfit,zfit,(Nat.zero_le _),(Nat.zero_le _),(fun x hx=>by cases hx)⟩⟩
theorem prt18{κ:Nat}(hκ:40000≤κ)(c:WordsCmd)(hF:FitC c){ws:List (List UInt8)}(h:wordsOf 18 c.who c.way c.value c.n c.running c.asBytes c.port c.flow c.size c.data=some ws):words_parse κ 18 (B (Lib.join ws [32]))=some (resP 18 (some (onlyC 18 c)))∧Lib.join ws [32]≠[]∧kd (Lib.join ws [32])=18:=by
 have hrt:=rt18 hκ c hF.f h;unfold wordsOf at h;simp only at h;cases h0:Pa15.idn c.port
 ·rw [h0]at h;cases h
 rw [h0]at h;simp only [bif_t]at h;cases h;have:=hF.d;have:=id_len h0;have hc0:=fun X=>cut_some (a:=[100,117,109,112]) X (by decide)
 refine⟨?_, ?_, ?_⟩
 ·rw [parse18 hκ _ (Nat.le_trans (lensum _) (by simp only [ln0,ln1,lc,l0];omega)),hrt]
 ·rw [j2];simp
 ·unfold kd
  simp only [j1,j2,hc0]
  try rfl
theorem len18(c:WordsCmd)(hF:FitC c){ws:List (List UInt8)}(h:wordsOf 18 c.who c.way c.value c.n c.running c.asBytes c.port c.flow c.size c.data=some ws):(Lib.join ws [32]).length≤140737488353000:=by
 unfold wordsOf at h;simp only at h;cases h0:Pa15.idn c.port
 ·rw [h0]at h;cases h
 rw [h0]at h;simp only [bif_t]at h;cases h;have:=hF.d;have:=id_len h0;exact Nat.le_trans (lensum _) (by simp only [ln0,ln1,lc,l0];omega)
theorem gof18{κ:Nat}(l:List UInt8)(c:WordsCmd)(h:goP κ false (partsP 18) l (zeroC 18)=some c):c.kind=18∧onlyC 18 c=c∧GF l c:=by
 unfold partsP zeroC at h;simp only [goP,rdP]at h;have hl0:=cut_len l;generalize cutM l=q0 at h hl0;obtain⟨a0,l1,m0⟩:=q0;simp only at h hl0;generalize decide (a0=[100,117,109,112])=d0 at h;cases d0
 ·cases h
 try simp only [bif_t,bif_f]at h
 cases m0
 ·first|(cases h;done)|(simp only [bif_f,isW,List.isEmpty_cons,Bool.and_false,Bool.false_and,Bool.and_self]at h;cases h;done)
 try simp only [bif_t]at h
 try simp only [bif_t,bif_f]at h
 cases h;exact⟨rfl,rfl,⟨zfit,zfit,zfit,(Nat.zero_le _),(Nat.zero_le _),(fun x hx=>by cases hx)⟩⟩
theorem prt_all{κ:Nat}(hκ:40000≤κ)(c:WordsCmd)(hF:FitC c){ws:List (List UInt8)}:∀(j:Nat) (hj:j<19),wordsOf j c.who c.way c.value c.n c.running c.asBytes c.port c.flow c.size c.data=some ws→words_parse κ (j:Int) (B (Lib.join ws [32]))=some (resP j (some (onlyC j c)))∧Lib.join ws [32]≠[]∧kd (Lib.join ws [32])=j
 |0,_,h=>prt0 hκ c hF h
 |1,_,h=>prt1 hκ c hF h
 |2,_,h=>prt2 hκ c hF h
 |3,_,h=>prt3 hκ c hF h
 |4,_,h=>prt4 hκ c hF h
 |5,_,h=>prt5 hκ c hF h
 |6,_,h=>prt6 hκ c hF h
 |7,_,h=>prt7 hκ c hF h
 |8,_,h=>prt8 hκ c hF h
 |9,_,h=>prt9 hκ c hF h
 |10,_,h=>prt10 hκ c hF h
 |11,_,h=>prt11 hκ c hF h
 |12,_,h=>prt12 hκ c hF h
 |13,_,h=>prt13 hκ c hF h
 |14,_,h=>prt14 hκ c hF h
 |15,_,h=>prt15 hκ c hF h
 |16,_,h=>prt16 hκ c hF h
 |17,_,h=>prt17 hκ c hF h
 |18,_,h=>prt18 hκ c hF h
 |n+19,h,_ =>absurd h (by omega)
theorem line_all{κ:Nat}(hκ:40000≤κ)(c:WordsCmd)(hF:Fit c.way c.value c.n c.flow c.size c.data):∀(j:Nat) (hj:j<19),words_line κ (j:Int) c.who c.way c.value c.n c.running c.asBytes c.port c.flow c.size c.data=some (lineC j c)
 |0,_ =>line0 hκ _ _ _ _ _ _ _ _ _ _ hF
 |1,_ =>line1 hκ _ _ _ _ _ _ _ _ _ _ hF
 |2,_ =>line2 hκ _ _ _ _ _ _ _ _ _ _ hF
 |3,_ =>line3 hκ _ _ _ _ _ _ _ _ _ _ hF
 |4,_ =>line4 hκ _ _ _ _ _ _ _ _ _ _ hF
 |5,_ =>line5 hκ _ _ _ _ _ _ _ _ _ _ hF
 |6,_ =>line6 hκ _ _ _ _ _ _ _ _ _ _ hF
 |7,_ =>line7 hκ _ _ _ _ _ _ _ _ _ _ hF
 |8,_ =>line8 hκ _ _ _ _ _ _ _ _ _ _ hF
 |9,_ =>line9 hκ _ _ _ _ _ _ _ _ _ _ hF
 |10,_ =>line10 hκ _ _ _ _ _ _ _ _ _ _ hF
 |11,_ =>line11 hκ _ _ _ _ _ _ _ _ _ _ hF
 |12,_ =>line12 hκ _ _ _ _ _ _ _ _ _ _ hF
 |13,_ =>line13 hκ _ _ _ _ _ _ _ _ _ _ hF
 |14,_ =>line14 hκ _ _ _ _ _ _ _ _ _ _ hF
 |15,_ =>line15 hκ _ _ _ _ _ _ _ _ _ _ hF
 |16,_ =>line16 hκ _ _ _ _ _ _ _ _ _ _ hF
 |17,_ =>line17 hκ _ _ _ _ _ _ _ _ _ _ hF
 |18,_ =>line18 hκ _ _ _ _ _ _ _ _ _ _ hF
 |n+19,h=>absurd h (by omega)
theorem parse_all{κ:Nat}(hκ:40000≤κ)(l:List UInt8)(hl:l.length≤15000):∀(j:Nat) (hj:j<19),words_parse κ (j:Int) (B l)=some (resP j (goP κ (j==9) (partsP j) l (zeroC j)))
 |0,_ =>parse0 hκ l hl
 |1,_ =>parse1 hκ l hl
 |2,_ =>parse2 hκ l hl
 |3,_ =>parse3 hκ l hl
 |4,_ =>parse4 hκ l hl
 |5,_ =>parse5 hκ l hl
 |6,_ =>parse6 hκ l hl
 |7,_ =>parse7 hκ l (by omega) (by have:=cut_len l;omega) (by have:=cut_len l;have:=cut_len (cutM l).2.1;have:=cut_len (cutM (cutM l).2.1).2.1;omega) (by have:=cut_len l;have:=cut_len (cutM l).2.1;have:=cut_len (cutM (cutM l).2.1).2.1;omega)
 |8,_ =>parse8 hκ l hl
 |9,_ =>parse9 hκ l hl
 |10,_ =>parse10 hκ l hl
 |11,_ =>parse11 hκ l hl
 |12,_ =>parse12 hκ l hl
 |13,_ =>parse13 hκ l hl
 |14,_ =>parse14 hκ l hl
 |15,_ =>parse15 hκ l hl
 |16,_ =>parse16 hκ l hl
 |17,_ =>parse17 hκ l hl
 |18,_ =>parse18 hκ l hl
 |n+19,h=>absurd h (by omega)
theorem gof_all{κ:Nat}(l:List UInt8)(c:WordsCmd):∀(j:Nat) (hj:j<19),goP κ (j==9) (partsP j) l (zeroC j)=some c→c.kind=j∧onlyC j c=c∧GF l c
 |0,_,h=>gof0 l c h
 |1,_,h=>gof1 l c h
 |2,_,h=>gof2 l c h
 |3,_,h=>gof3 l c h
 |4,_,h=>gof4 l c h
 |5,_,h=>gof5 l c h
 |6,_,h=>gof6 l c h
 |7,_,h=>gof7 l c h
 |8,_,h=>gof8 l c h
 |9,_,h=>gof9 l c h
 |10,_,h=>gof10 l c h
 |11,_,h=>gof11 l c h
 |12,_,h=>gof12 l c h
 |13,_,h=>gof13 l c h
 |14,_,h=>gof14 l c h
 |15,_,h=>gof15 l c h
 |16,_,h=>gof16 l c h
 |17,_,h=>gof17 l c h
 |18,_,h=>gof18 l c h
 |n+19,h,_ =>absurd h (by omega)
theorem rt_all{κ:Nat}(hκ:40000≤κ)(c:WordsCmd)(hF:Fit c.way c.value c.n c.flow c.size c.data){ws:List (List UInt8)}:∀(j:Nat) (hj:j<19),wordsOf j c.who c.way c.value c.n c.running c.asBytes c.port c.flow c.size c.data=some ws→goP κ (j==9) (partsP j) (Lib.join ws [32]) (zeroC j)=some (onlyC j c)
 |0,_,h=>rt0 hκ c hF h
 |1,_,h=>rt1 hκ c hF h
 |2,_,h=>rt2 hκ c hF h
 |3,_,h=>rt3 hκ c hF h
 |4,_,h=>rt4 hκ c hF h
 |5,_,h=>rt5 hκ c hF h
 |6,_,h=>rt6 hκ c hF h
 |7,_,h=>rt7 hκ c hF h
 |8,_,h=>rt8 hκ c hF h
 |9,_,h=>rt9 hκ c hF h
 |10,_,h=>rt10 hκ c hF h
 |11,_,h=>rt11 hκ c hF h
 |12,_,h=>rt12 hκ c hF h
 |13,_,h=>rt13 hκ c hF h
 |14,_,h=>rt14 hκ c hF h
 |15,_,h=>rt15 hκ c hF h
 |16,_,h=>rt16 hκ c hF h
 |17,_,h=>rt17 hκ c hF h
 |18,_,h=>rt18 hκ c hF h
 |n+19,h,_ =>absurd h (by omega)
theorem only_line(c:WordsCmd):∀(j:Nat) (hj:j<19),lineC j (onlyC j c)=lineC j c
 |0,_ =>rfl
 |1,_ =>rfl
 |2,_ =>rfl
 |3,_ =>rfl
 |4,_ =>rfl
 |5,_ =>rfl
 |6,_ =>rfl
 |7,_ =>rfl
 |8,_ =>rfl
 |9,_ =>rfl
 |10,_ =>rfl
 |11,_ =>rfl
 |12,_ =>rfl
 |13,_ =>rfl
 |14,_ =>rfl
 |15,_ =>rfl
 |16,_ =>rfl
 |17,_ =>rfl
 |18,_ =>rfl
 |n+19,h=>absurd h (by omega)
theorem only_fit(c:WordsCmd)(hF:FitC c):∀(j:Nat) (hj:j<19),FitC (onlyC j c)
 |0,_ =>⟨⟨zfit,zfit,zfit,Nat.zero_le _,Nat.zero_le _,(fun x hx=>by cases hx)⟩,Nat.zero_le _⟩
 |1,_ =>⟨⟨zfit,zfit,zfit,Nat.zero_le _,Nat.zero_le _,(fun x hx=>by cases hx)⟩,Nat.zero_le _⟩
 |2,_ =>⟨⟨zfit,zfit,zfit,Nat.zero_le _,Nat.zero_le _,(fun x hx=>by cases hx)⟩,Nat.zero_le _⟩
 |3,_ =>⟨⟨zfit,zfit,zfit,Nat.zero_le _,Nat.zero_le _,(fun x hx=>by cases hx)⟩,Nat.zero_le _⟩
 |4,_ =>⟨⟨zfit,zfit,zfit,Nat.zero_le _,Nat.zero_le _,(fun x hx=>by cases hx)⟩,Nat.zero_le _⟩
 |5,_ =>⟨⟨zfit,zfit,zfit,Nat.zero_le _,Nat.zero_le _,(fun x hx=>by cases hx)⟩,Nat.zero_le _⟩
 |6,_ =>⟨⟨zfit,zfit,zfit,Nat.zero_le _,Nat.zero_le _,(fun x hx=>by cases hx)⟩,Nat.zero_le _⟩
 |7,_ =>⟨⟨zfit,zfit,zfit,hF.f.hval,Nat.zero_le _,(fun x hx=>by cases hx)⟩,Nat.zero_le _⟩
 |8,_ =>⟨⟨zfit,zfit,zfit,Nat.zero_le _,Nat.zero_le _,(fun x hx=>by cases hx)⟩,Nat.zero_le _⟩
 |9,_ =>⟨⟨hF.f.hn,zfit,zfit,Nat.zero_le _,Nat.zero_le _,(fun x hx=>by cases hx)⟩,Nat.zero_le _⟩
 |10,_ =>⟨⟨hF.f.hn,zfit,zfit,Nat.zero_le _,Nat.zero_le _,(fun x hx=>by cases hx)⟩,Nat.zero_le _⟩
 |11,_ =>⟨⟨hF.f.hn,zfit,zfit,Nat.zero_le _,Nat.zero_le _,(fun x hx=>by cases hx)⟩,Nat.zero_le _⟩
 |12,_ =>⟨⟨hF.f.hn,zfit,zfit,Nat.zero_le _,Nat.zero_le _,(fun x hx=>by cases hx)⟩,Nat.zero_le _⟩
 |13,_ =>⟨⟨zfit,zfit,zfit,Nat.zero_le _,hF.f.hdat,hF.f.hbyt⟩,hF.d⟩
 |14,_ =>⟨⟨zfit,zfit,zfit,Nat.zero_le _,hF.f.hdat,hF.f.hbyt⟩,hF.d⟩
 |15,_ =>⟨⟨zfit,hF.f.hfl,hF.f.hsz,Nat.zero_le _,Nat.zero_le _,(fun x hx=>by cases hx)⟩,Nat.zero_le _⟩
 |16,_ =>⟨⟨hF.f.hn,zfit,zfit,Nat.zero_le _,Nat.zero_le _,(fun x hx=>by cases hx)⟩,Nat.zero_le _⟩
 |17,_ =>⟨⟨zfit,zfit,zfit,Nat.zero_le _,Nat.zero_le _,(fun x hx=>by cases hx)⟩,Nat.zero_le _⟩
 |18,_ =>⟨⟨zfit,zfit,zfit,Nat.zero_le _,Nat.zero_le _,(fun x hx=>by cases hx)⟩,Nat.zero_le _⟩
 |n+19,h=>absurd h (by omega)
theorem len_all(c:WordsCmd)(hF:FitC c){ws:List (List UInt8)}:∀(j:Nat) (hj:j<19),wordsOf j c.who c.way c.value c.n c.running c.asBytes c.port c.flow c.size c.data=some ws→(Lib.join ws [32]).length≤140737488353000
 |0,_,h=>len0 c hF h
 |1,_,h=>len1 c hF h
 |2,_,h=>len2 c hF h
 |3,_,h=>len3 c hF h
 |4,_,h=>len4 c hF h
 |5,_,h=>len5 c hF h
 |6,_,h=>len6 c hF h
 |7,_,h=>len7 c hF h
 |8,_,h=>len8 c hF h
 |9,_,h=>len9 c hF h
 |10,_,h=>len10 c hF h
 |11,_,h=>len11 c hF h
 |12,_,h=>len12 c hF h
 |13,_,h=>len13 c hF h
 |14,_,h=>len14 c hF h
 |15,_,h=>len15 c hF h
 |16,_,h=>len16 c hF h
 |17,_,h=>len17 c hF h
 |18,_,h=>len18 c hF h
 |n+19,h,_ =>absurd h (by omega)
theorem way_short{w:List ApiStep}(h:wayOk w=true):w.length≤6:=by
 unfold wayOk at h;rw [Bool.and_eq_true]at h;have h1:seq (Pa15.showV w) (B [])=false:=by simpa using h.2
 unfold Pa15.showV at h1;by_cases h6:w.length>6
 ·have:=of_decide_eq_true h.1
  rw [if_neg (by omega),if_pos h6]at h1;simp [seq]at h1
 ·omega
theorem only_way(c:WordsCmd){ws:List (List UInt8)}:∀(j:Nat) (hj:j<19),wordsOf j c.who c.way c.value c.n c.running c.asBytes c.port c.flow c.size c.data=some ws→(onlyC j c).way.length≤6
 |0,_,_ =>Nat.zero_le _
 |1,_,_ =>Nat.zero_le _
 |2,_,_ =>Nat.zero_le _
 |3,_,_ =>Nat.zero_le _
 |4,_,_ =>Nat.zero_le _
 |5,_,_ =>Nat.zero_le _
 |6,_,_ =>Nat.zero_le _
 |7,_,h=>by
  unfold wordsOf at h;simp only at h;cases h0:whoOk c.who
  ·rw [h0]at h;cases h
  ·cases h1:wayOk c.way
   ·rw [h0,h1]at h;cases h
   ·exact way_short h1
 |8,_,h=>by
  unfold wordsOf at h;simp only at h;cases h0:whoOk c.who
  ·rw [h0]at h;cases h
  ·cases h1:wayOk c.way
   ·rw [h0,h1]at h;cases h
   ·exact way_short h1
 |9,_,_ =>Nat.zero_le _
 |10,_,_ =>Nat.zero_le _
 |11,_,_ =>Nat.zero_le _
 |12,_,_ =>Nat.zero_le _
 |13,_,_ =>Nat.zero_le _
 |14,_,_ =>Nat.zero_le _
 |15,_,_ =>Nat.zero_le _
 |16,_,_ =>Nat.zero_le _
 |17,_,_ =>Nat.zero_le _
 |18,_,_ =>Nat.zero_le _
 |n+19,h,_ =>absurd h (by omega)
end Go.Proofs.YtdoifigogbdodaaGreatDoor.Wo

namespace Go.Proofs.YtdoifigogbdodaaGreatDoor.Wo
open Go Ev Ev.Seat Go.Lib
def kj(c:WordsCmd):Option Nat:=if 0≤c.kind∧c.kind<19 then some c.kind.toNat else none
theorem kj_some{c:WordsCmd}{j:Nat}(h:kj c=some j):j<19∧c.kind=(j:Int):=by
 unfold kj at h;split at h
 ·cases h;omega
 ·cases h
theorem kj_none{c:WordsCmd}(h:kj c=none):c.kind<0∨18<c.kind:=by
 unfold kj at h;split at h
 ·cases h
 ·omega
theorem kj_of{c:WordsCmd}{j:Nat}(hj:j<19)(h:c.kind=(j:Int)):kj c=some j:=by
 unfold kj;rw [h,if_pos (by omega)];simp
def rightB(c:WordsCmd):Bool:=match kj c with
 |some j=>(lineC j c).2&&sameB c (onlyC j c)
 |none=>false
def lineB(c:WordsCmd):ByteArray:=match kj c with
 |some j=>bif rightB c then(lineC j c).1 else B []
 |none=>B []
theorem resL_some{o:Option (List (List UInt8))}(h:(resL o).2=true):∃ws,o=some ws:=by
 cases o with
 |none=>cases h
 |some ws=>exact⟨ws,rfl⟩
theorem right_eq{κ:Nat}(hκ:40000≤κ)(c:WordsCmd)(hF:FitC c):words_Right κ c.kind c.who c.way c.value c.n c.running c.asBytes c.port c.flow c.size c.data=some (rightB c):=by
 unfold words_Right rightB;cases hk:kj c with
 |none=>
  rw [line_other (kj_none hk)];rfl
 |some j=>
  obtain⟨hj,hkind⟩:=kj_some hk;have hl:=line_all hκ c hF.f j hj;rw [←hkind]at hl;rw [hl];simp only [Option.bind_some];cases hw:wordsOf j c.who c.way c.value c.n c.running c.asBytes c.port c.flow c.size c.data with
  |none=>
   have hz:lineC j c=(B [],false):=by unfold lineC;rw [hw];rfl
   rw [hz];rfl
  |some ws=>
   have hz:lineC j c=(B (Lib.join ws [32]),true):=by unfold lineC;rw [hw];rfl
   obtain⟨h1,h2,h3⟩:=prt_all hκ c hF j hj hw;rw [hz];simp only [Bool.not_true,bif_f];rw [hkind,h1];have hs:seq (B (Lib.join ws [32])) (B [])=false:=by rw [seq_B];exact decide_eq_false h2
   have h4:=same_eq (κ:=κ) c (onlyC j c) (by have:=only_way c j hj hw;omega) (by have:=only_way c j hj hw;omega);rw [hkind]at h4;simp only [Option.bind_some,resP,only_line c j hj,hz,hs,Bool.not_false,Bool.and_self,words_Right.v0,bif_t,h4,Bool.true_and]
theorem line_eq{κ:Nat}(hκ:40000≤κ)(c:WordsCmd)(hF:FitC c):words_Line κ c.kind c.who c.way c.value c.n c.running c.asBytes c.port c.flow c.size c.data=some (lineB c):=by
 unfold words_Line;rw [right_eq hκ c hF];simp only [Option.bind_some];unfold lineB;cases hk:kj c with
 |none=>
  have:rightB c=false:=by unfold rightB;rw [hk]
  rw [this];rfl
 |some j=>
  cases hr:rightB c
  ·rfl
  ·obtain⟨hj,hkind⟩:=kj_some hk
   have hl:=line_all hκ c hF.f j hj;rw [←hkind]at hl;rw [hl];rfl
structure VL(j:Nat)(l:List UInt8)(c:WordsCmd):Prop where
 lt:j<19
 kind:c.kind=(j:Int)
 only:onlyC j c=c
 ws:∃ws,wordsOf j c.who c.way c.value c.n c.running c.asBytes c.port c.flow c.size c.data=some ws∧Lib.join ws [32]=l
theorem VL.lineC{j:Nat}{l:List UInt8}{c:WordsCmd}(h:VL j l c):lineC j c=(B l,true):=by
 obtain⟨ws,h1,h2⟩:=h.ws;unfold Wo.lineC;rw [h1,←h2];rfl
theorem VL.right{j:Nat}{l:List UInt8}{c:WordsCmd}(h:VL j l c):rightB c=true∧lineB c=B l:=by
 have hr:rightB c=true:=by
  unfold rightB;rw [kj_of h.lt h.kind];simp only [h.lineC,h.only,same_self,Bool.and_self]
 refine⟨hr, ?_⟩;unfold lineB;rw [kj_of h.lt h.kind,hr];simp only [h.lineC,bif_t]
theorem right_vl{c:WordsCmd}(hF:FitC c)(h:rightB c=true):∃j l,VL j l c:=by
 unfold rightB at h;split at h
 ·rename_i j hk
  obtain⟨hj,hkind⟩:=kj_some hk;rw [Bool.and_eq_true]at h;obtain⟨ws,hw⟩:=resL_some h.1;exact⟨j,_,hj,hkind,((same_iff hF.f.hbyt (only_fit c hF j hj).f.hbyt).1 h.2).symm,ws,hw,rfl⟩
 ·cases h
theorem VL.read{κ:Nat}(hκ:40000≤κ){j:Nat}{l:List UInt8}{c:WordsCmd}(h:VL j l c)(hF:Fit c.way c.value c.n c.flow c.size c.data):goP κ (j==9) (partsP j) l (zeroC j)=some c:=by
 obtain⟨ws,h1,h2⟩:=h.ws;have:=rt_all hκ c hF j h.lt h1;rw [h2,h.only]at this;exact this
theorem VL.kd{j:Nat}{l:List UInt8}{c:WordsCmd}(h:VL j l c)(hF:FitC c):kd l=j∧l≠[]:=by
 obtain⟨ws,h1,h2⟩:=h.ws;obtain⟨_,h3,h4⟩:=prt_all (κ:=40000) (Nat.le_refl _) c hF j h.lt h1;rw [h2]at h3 h4;exact⟨h4,h3⟩
theorem VL.same{i j:Nat}{l:List UInt8}{c d:WordsCmd}(hc:VL i l c)(hd:VL j l d)(fc:FitC c)(fd:FitC d):c=d:=by
 have h1:=(hc.kd fc).1;have h2:=(hd.kd fd).1;have h3:i=j:=h1.symm.trans h2;subst h3;have e1:=hc.read (κ:=40000) (Nat.le_refl _) fc.f;have e2:=hd.read (κ:=40000) (Nat.le_refl _) fd.f;rw [e1]at e2;exact Option.some.inj e2
def findJ(κ:Nat)(l:List UInt8)(j:Nat):Option WordsCmd:=match goP κ (j==9) (partsP j) l (zeroC j)with
 |some c=>bif (lineC j c).2&&seq (lineC j c).1 (B l)then some c else none
 |none=>none
def firstF(κ:Nat)(l:List UInt8):Nat→Nat→Option WordsCmd
 |0,_ =>none
 |d+1,j=>match findJ κ l j with
  |some c=>some c
  |none=>firstF κ l d (j+1)
theorem fit_of{l:List UInt8}{c:WordsCmd}(h:GF l c)(hl:l.length≤7000):FitC c:=
 ⟨⟨h.n,h.fl,h.sz,Nat.le_trans h.val (by omega),Nat.le_trans h.dat (by omega),h.byt⟩,Nat.le_trans h.dat hl⟩
theorem find_vl{κ:Nat}{l:List UInt8}{j:Nat}(hj:j<19){c:WordsCmd}(h:findJ κ l j=some c):VL j l c∧GF l c:=by
 unfold findJ at h;split at h
 ·rename_i d hd
  obtain⟨h1,h2,h3⟩:=gof_all l d j hj hd;cases hb:(lineC j d).2&&seq (lineC j d).1 (B l)
  ·rw [hb]at h;cases h
  ·rw [hb]at h
   cases h;rw [Bool.and_eq_true]at hb;obtain⟨ws,hw⟩:=resL_some hb.1;refine⟨⟨hj,h1,h2,ws,hw, ?_⟩,h3⟩;have h4:=Va8.seq_iff.1 hb.2;have h5:lineC j c=(B (Lib.join ws [32]),true):=by unfold lineC;rw [hw];rfl
   rw [h5]at h4;exact B_inj.1 h4
 ·cases h
theorem vl_find{κ:Nat}(hκ:40000≤κ){l:List UInt8}{j:Nat}{c:WordsCmd}(h:VL j l c)(hF:FitC c):findJ κ l j=some c:=by
 unfold findJ;rw [h.read hκ hF.f];simp only [h.lineC,seq_B,decide_true,Bool.and_self,bif_t]
def zeroT:Int×Int×ByteArray×Int×Bool×Bool×ByteArray×Int×Int:=(0,0,B [],0,false,false,B [],0,0)
theorem parse_loop{κ:Nat}(hκ:40000≤κ)(l:List UInt8)(hl:l.length≤7000):∀(d j K:Nat),d+j=19→d<K→
  words_Parse.l2 κ K (B l,(j:Int),0,0,B [],0,false,false,B [],0,0)=some (match firstF κ l d j with
   |some c=> .inr (0,c.kind,c.who,c.way,c.value,c.n,c.running,c.asBytes,c.port,c.flow,c.size,c.data)
   |none=> .inl (0,0,B [],0,false,false,B [],0,0))
 |d,j,0,_,h=>by omega
 |0,j,K+1,h,_ =>by
  simp only [words_Parse.l2];unfold words_Parse.w2;rw [show decide ((j:Int)≤18)=false from decide_eq_false (by omega)];rfl
 |d+1,j,K+1,h,hk=>by
  have hj:j<19:=by omega
  simp only [words_Parse.l2];unfold words_Parse.w2;rw [show decide ((j:Int)≤18)=true from decide_eq_true (by omega),parse_all hκ l (by omega) j hj];simp only [bif_t,Option.bind_some];have ih:=parse_loop hκ l hl d (j+1) K (by omega) (by omega);have hw:IntKind.wrap IntKind.i64 ((j:Int)+1)=((j+1:Nat):Int):=wrap1 j (by omega);have hfirst:firstF κ l (d+1) j=(match findJ κ l j with|some c=>some c|none=>firstF κ l d (j+1)):=rfl;rw [hfirst];unfold findJ;cases hg:goP κ (j==9) (partsP j) l (zeroC j)with
  |none=>
   simp only [resP,words_Parse.v3,bif_f,Option.bind_some,hw];exact ih
  |some c=>
   obtain⟨h1,h2,h3⟩:=gof_all l c j hj hg;have hF:=fit_of h3 hl;cases hb:(lineC j c).2
   ·simp only [resP,hb,Bool.false_and,words_Parse.v3,bif_f,Option.bind_some,hw]
    exact ih
   ·obtain⟨ws,hws⟩:=resL_some hb
    have hz:lineC j c=(B (Lib.join ws [32]),true):=by unfold lineC;rw [hws];rfl
    have hv:VL j (Lib.join ws [32]) c:=⟨hj,h1,h2,ws,hws,rfl⟩
    have hne:seq (B (Lib.join ws [32])) (B [])=false:=by rw [seq_B];exact decide_eq_false (hv.kd hF).2
    have hline:=line_eq hκ c hF;rw [hv.right.2]at hline;simp only [resP,hz,hne,Bool.not_false,Bool.and_self,words_Parse.v3,bif_t,hline,Option.bind_some,Bool.true_and];cases seq (B (Lib.join ws [32])) (B l)
    ·simp only [bif_f,hw]
     exact ih
    ·rfl
def ParseR(o:Option WordsCmd):Int×Int×(List ApiStep)×ByteArray×Int×Bool×Bool×ByteArray×Int×Int×(List Int)×Int:=match o with
 |some c=>(c.kind,c.who,c.way,c.value,c.n,c.running,c.asBytes,c.port,c.flow,c.size,c.data,0)
 |none=>(0,0,[],B [],0,false,false,B [],0,0,[],40)
theorem Parse_eq{κ:Nat}(hκ:40000≤κ)(l:List UInt8)(hl:l.length≤7000):words_Parse κ (B l)=some (ParseR (firstF κ l 19 0)):=by
 unfold words_Parse;rw [show words_Parse.l2 κ κ (B l,(0:Int),0,0,(ByteArray.mk (List.toArray [])),0,false,false,(ByteArray.mk (List.toArray [])),0,0)=_ from parse_loop hκ l hl 19 0 κ (by omega) (by omega)];cases firstF κ l 19 0<;>rfl
theorem first_find{κ:Nat}{l:List UInt8}:∀{d j:Nat} {c:WordsCmd},d+j=19→firstF κ l d j=some c→∃i,i<19∧findJ κ l i=some c
 |0,j,c,_,h=>by cases h
 |d+1,j,c,hd,h=>by
  unfold firstF at h;split at h
  ·rename_i x hx;cases h;exact⟨j,by omega,hx⟩
  ·exact first_find (by omega) h
theorem first_none{κ:Nat}{l:List UInt8}:∀{d j:Nat},d+j=19→firstF κ l d j=none→∀i,j≤i→i<19→findJ κ l i=none
 |0,j,hd,h,i,h1,h2=>by omega
 |d+1,j,hd,h,i,h1,h2=>by
  unfold firstF at h;split at h
  ·cases h
  ·rename_i hx
   by_cases e:i=j
   ·subst e;exact hx
   ·exact first_none (by omega) h i (by omega) h2
theorem first_of{κ:Nat}(hκ:40000≤κ){l:List UInt8}(hl:l.length≤7000){j:Nat}{c:WordsCmd}(h:VL j l c)(hF:FitC c):firstF κ l 19 0=some c:=by
 cases hf:firstF κ l 19 0 with
 |none=>
  have:=first_none (d:=19) (j:=0) rfl hf j (Nat.zero_le _) h.lt;rw [vl_find hκ h hF]at this;cases this
 |some d=>
  obtain⟨i,hi,hd⟩:=first_find rfl hf;obtain⟨h1,h2⟩:=find_vl hi hd;rw [h1.same h (fit_of h2 hl) hF]
end Go.Proofs.YtdoifigogbdodaaGreatDoor.Wo

namespace Go.Proofs.YtdoifigogbdodaaGreatDoor.Wo
open Go Ev Ev.Seat Go.Lib
theorem fitC_of{c:WordsCmd}(n:0≤c.n∧c.n<18446744073709551616)(fl:0≤c.flow∧c.flow<18446744073709551616)(sz:0≤c.size∧c.size<18446744073709551616)
  (val:c.value.size≤140737488351232) (byt:Byt c.data) (d:c.data.length≤7000):FitC c:=⟨⟨n,fl,sz,val,by omega,byt⟩,d⟩
theorem VL.len{j:Nat}{l:List UInt8}{c:WordsCmd}(h:VL j l c)(hF:FitC c):l.length≤140737488353000:=by
 obtain⟨ws,h1,h2⟩:=h.ws;rw [←h2];exact len_all c hF j h.lt h1
theorem VL.way{j:Nat}{l:List UInt8}{c:WordsCmd}(h:VL j l c):c.way.length≤6:=by
 obtain⟨ws,h1,h2⟩:=h.ws;have:=only_way c j h.lt h1
 rwa [h.only]at this
end Go.Proofs.YtdoifigogbdodaaGreatDoor.Wo
namespace Go.Proofs.YtdoifigogbdodaaGreatDoor.Wo
open Go Ev Ev.Seat Go.Lib
theorem u64_of{a:Int}(w:(Lit.int .u64 a).wf=true):0≤a∧a<18446744073709551616:=by
 have:0≤a∧a≤18446744073709551615:=by simpa [Lit.wf,IntKind.min,IntKind.max,IntKind.signed,IntKind.bits] using w
 omega
theorem u8_of{a:Int}(w:(Lit.int .u8 a).wf=true):0≤a∧a<256:=by
 have:0≤a∧a≤255:=by simpa [Lit.wf,IntKind.min,IntKind.max,IntKind.signed,IntKind.bits] using w
 omega
theorem fitC_row{c:WordsCmd}{K1 K2 K3 K4 K5 K6:Prop}{n:Nat}(w:K1∧K2∧K3∧(c.value.size≤140737488351232)∧((Lit.int .u64 c.n).wf=true)∧K4∧K5∧K6∧((Lit.int .u64 c.flow).wf=true)∧((Lit.int .u64 c.size).wf=true)∧(WfL n (fun y=>(Lit.int .u8 y).wf=true) c.data))(h:c.data.length≤7000):FitC c:=by
 obtain⟨_,_,_,h1,h2,_,_,_,h3,h4,h5⟩:=w;exact fitC_of (u64_of h2) (u64_of h3) (u64_of h4) h1 (fun x hx=>u8_of (h5.2.2 x hx)) h
end Go.Proofs.YtdoifigogbdodaaGreatDoor.Wo

namespace Go.Proofs.YtdoifigogbdodaaGreatDoor.Wo
open Go Ev Ev.Seat Go.Lib
structure FitR(κ:Nat)(c:WordsCmd):Prop where
 f:FitC c
 val:c.value.size≤20000
 port:c.port.size≤20000
 way:c.way.length≤30
 fits:Pa15.Fits κ c.way
def nmL:Nat→List UInt8
 |0=>[108,111,99,107]
 |1=>[117,110,108,111,99,107]
 |2=>[100,105,115,99,97,114,100]
 |3=>[99,104,101,99,107]
 |4=>[99,111,110,102,105,114,109]
 |5=>[99,97,110,99,101,108]
 |6=>[115,97,118,101]
 |7=>[115,101,116]
 |8=>[100,101,108]
 |9=>[99,111,109,109,105,116]
 |10=>[114,111,108,108,98,97,99,107]
 |11=>[112,114,117,110,101]
 |12=>[115,104,111,119]
 |13=>[108,111,97,100]
 |14=>[108,111,97,100]
 |15=>[112,97,99,107,101,116]
 |16=>[116,105,99,107]
 |17=>[110,101,120,116]
 |18=>[100,117,109,112]
 |_ =>[]
theorem rname{κ:Nat}:∀(j:Nat) (hj:j<19),r33_name κ (j:Int)=some (B (nmL j))
 |0,_ =>by kernel_rfl
 |1,_ =>by kernel_rfl
 |2,_ =>by kernel_rfl
 |3,_ =>by kernel_rfl
 |4,_ =>by kernel_rfl
 |5,_ =>by kernel_rfl
 |6,_ =>by kernel_rfl
 |7,_ =>by kernel_rfl
 |8,_ =>by kernel_rfl
 |9,_ =>by kernel_rfl
 |10,_ =>by kernel_rfl
 |11,_ =>by kernel_rfl
 |12,_ =>by kernel_rfl
 |13,_ =>by kernel_rfl
 |14,_ =>by kernel_rfl
 |15,_ =>by kernel_rfl
 |16,_ =>by kernel_rfl
 |17,_ =>by kernel_rfl
 |18,_ =>by kernel_rfl
 |n+19,h=>absurd h (by omega)
theorem nm_ne:∀(j:Nat) (hj:j<19),seq (B (nmL j)) (B [])=false
 |0,_ =>by kernel_rfl
 |1,_ =>by kernel_rfl
 |2,_ =>by kernel_rfl
 |3,_ =>by kernel_rfl
 |4,_ =>by kernel_rfl
 |5,_ =>by kernel_rfl
 |6,_ =>by kernel_rfl
 |7,_ =>by kernel_rfl
 |8,_ =>by kernel_rfl
 |9,_ =>by kernel_rfl
 |10,_ =>by kernel_rfl
 |11,_ =>by kernel_rfl
 |12,_ =>by kernel_rfl
 |13,_ =>by kernel_rfl
 |14,_ =>by kernel_rfl
 |15,_ =>by kernel_rfl
 |16,_ =>by kernel_rfl
 |17,_ =>by kernel_rfl
 |18,_ =>by kernel_rfl
 |n+19,h=>absurd h (by omega)
theorem rname_other{κ:Nat}{k:Int}(h:k<0∨18<k):r33_name κ k=some (B []):=by
 unfold r33_name r33_name.v0;by_cases h0:k<0
 ·rw [decide_eq_true h0];rfl
 ·rw [decide_eq_false h0]
  simp only [bif_f,Option.bind_some,List.length_cons,List.length_nil];rw [show decide (k≥_)=true from decide_eq_true (by omega)];rfl
theorem ronly{κ:Nat}(c:WordsCmd):∀(j:Nat) (hj:j<19),r33_only κ (j:Int) c.who c.way c.value c.n c.running c.asBytes c.port c.flow c.size (B (datL c.data))=
  some ((onlyC j c).kind,(onlyC j c).who,(onlyC j c).way,(onlyC j c).value,(onlyC j c).n,(onlyC j c).running,(onlyC j c).asBytes,(onlyC j c).port,(onlyC j c).flow,(onlyC j c).size,B (datL (onlyC j c).data))
 |0,_ =>by kernel_rfl
 |1,_ =>by kernel_rfl
 |2,_ =>by kernel_rfl
 |3,_ =>by kernel_rfl
 |4,_ =>by kernel_rfl
 |5,_ =>by kernel_rfl
 |6,_ =>by kernel_rfl
 |7,_ =>by kernel_rfl
 |8,_ =>by kernel_rfl
 |9,_ =>by kernel_rfl
 |10,_ =>by kernel_rfl
 |11,_ =>by kernel_rfl
 |12,_ =>by kernel_rfl
 |13,_ =>by kernel_rfl
 |14,_ =>by kernel_rfl
 |15,_ =>by kernel_rfl
 |16,_ =>by kernel_rfl
 |17,_ =>by kernel_rfl
 |18,_ =>by kernel_rfl
 |n+19,h=>absurd h (by omega)
theorem ronly_neg{κ:Nat}(c:WordsCmd){k:Int}(h:k<0):r33_only κ k c.who c.way c.value c.n c.running c.asBytes c.port c.flow c.size (B (datL c.data))=some (k,c.who,[],B [],0,false,false,B [],0,0,B []):=by
 have e:∀j:Int,0≤j→(k==j)=false:=fun j h1=>by simp;omega
 unfold r33_only;rw [show decide (k<15)=true from decide_eq_true (by omega)];simp only [r33_only.v0,r33_only.v2,r33_only.v4,r33_only.v6,r33_only.v8,r33_only.v10,r33_only.v12,r33_only.v14,r33_only.v16,r33_only.v18,r33_only.v20,r33_only.v22,bif_t,bif_f,Option.bind_some,e 7 (by decide),e 8 (by decide),e 9 (by decide),e 12 (by decide),e 13 (by decide),e 14 (by decide),e 15 (by decide),e 16 (by decide),
  show decide (k≥9)=false from decide_eq_false (by omega),show decide (k>16)=false from decide_eq_false (by omega)]
theorem ronly_big{κ:Nat}(c:WordsCmd){k:Int}(h:18<k):r33_only κ k c.who c.way c.value c.n c.running c.asBytes c.port c.flow c.size (B (datL c.data))=some (k,0,[],B [],0,false,false,c.port,0,0,B []):=by
 have e:∀j:Int,j≤18→(k==j)=false:=fun j h1=>by simp;omega
 unfold r33_only;rw [show decide (k<15)=false from decide_eq_false (by omega)];simp only [r33_only.v0,r33_only.v2,r33_only.v4,r33_only.v6,r33_only.v8,r33_only.v10,r33_only.v12,r33_only.v14,r33_only.v16,r33_only.v18,r33_only.v20,r33_only.v22,bif_t,bif_f,Option.bind_some,e 7 (by decide),e 8 (by decide),e 9 (by decide),e 12 (by decide),e 13 (by decide),e 14 (by decide),e 15 (by decide),e 16 (by decide),
  show decide (k≥9)=true from decide_eq_true (by omega),show decide (k≤12)=false from decide_eq_false (by omega),show decide (k>16)=true from decide_eq_true (by omega)]
def okR(k:Int)(who way plain port:Bool):Bool:=(bif decide (k<15)then who else true)&&((bif k==7||k==8 then way else true)&&((bif k==7 then plain else true)&&(bif decide (k<15)then true else bif k==16 then true else port)))
theorem line_ok(c:WordsCmd):∀(j:Nat) (hj:j<19),(lineC j c).2=okR (j:Int) (whoOk c.who) (wayOk c.way) (Lex5.plainB c.value.data.toList) (Pa15.idn c.port)
 |0,_ =>by unfold lineC wordsOf;simp only;cases whoOk c.who<;>cases wayOk c.way<;>cases Lex5.plainB c.value.data.toList<;>cases Pa15.idn c.port<;>rfl
 |1,_ =>by unfold lineC wordsOf;simp only;cases whoOk c.who<;>cases wayOk c.way<;>cases Lex5.plainB c.value.data.toList<;>cases Pa15.idn c.port<;>rfl
 |2,_ =>by unfold lineC wordsOf;simp only;cases whoOk c.who<;>cases wayOk c.way<;>cases Lex5.plainB c.value.data.toList<;>cases Pa15.idn c.port<;>rfl
 |3,_ =>by unfold lineC wordsOf;simp only;cases whoOk c.who<;>cases wayOk c.way<;>cases Lex5.plainB c.value.data.toList<;>cases Pa15.idn c.port<;>rfl
 |4,_ =>by unfold lineC wordsOf;simp only;cases whoOk c.who<;>cases wayOk c.way<;>cases Lex5.plainB c.value.data.toList<;>cases Pa15.idn c.port<;>rfl
 |5,_ =>by unfold lineC wordsOf;simp only;cases whoOk c.who<;>cases wayOk c.way<;>cases Lex5.plainB c.value.data.toList<;>cases Pa15.idn c.port<;>rfl
 |6,_ =>by unfold lineC wordsOf;simp only;cases whoOk c.who<;>cases wayOk c.way<;>cases Lex5.plainB c.value.data.toList<;>cases Pa15.idn c.port<;>rfl
 |7,_ =>by unfold lineC wordsOf;simp only;cases whoOk c.who<;>cases wayOk c.way<;>cases Lex5.plainB c.value.data.toList<;>cases Pa15.idn c.port<;>rfl
 |8,_ =>by unfold lineC wordsOf;simp only;cases whoOk c.who<;>cases wayOk c.way<;>cases Lex5.plainB c.value.data.toList<;>cases Pa15.idn c.port<;>rfl
 |9,_ =>by unfold lineC wordsOf;simp only;cases whoOk c.who<;>cases wayOk c.way<;>cases Lex5.plainB c.value.data.toList<;>cases Pa15.idn c.port<;>rfl
 |10,_ =>by unfold lineC wordsOf;simp only;cases whoOk c.who<;>cases wayOk c.way<;>cases Lex5.plainB c.value.data.toList<;>cases Pa15.idn c.port<;>rfl
 |11,_ =>by unfold lineC wordsOf;simp only;cases whoOk c.who<;>cases wayOk c.way<;>cases Lex5.plainB c.value.data.toList<;>cases Pa15.idn c.port<;>rfl
 |12,_ =>by unfold lineC wordsOf;simp only;cases whoOk c.who<;>cases wayOk c.way<;>cases Lex5.plainB c.value.data.toList<;>cases Pa15.idn c.port<;>rfl
 |13,_ =>by unfold lineC wordsOf;simp only;cases whoOk c.who<;>cases wayOk c.way<;>cases Lex5.plainB c.value.data.toList<;>cases Pa15.idn c.port<;>rfl
 |14,_ =>by unfold lineC wordsOf;simp only;cases whoOk c.who<;>cases wayOk c.way<;>cases Lex5.plainB c.value.data.toList<;>cases Pa15.idn c.port<;>rfl
 |15,_ =>by unfold lineC wordsOf;simp only;cases whoOk c.who<;>cases wayOk c.way<;>cases Lex5.plainB c.value.data.toList<;>cases Pa15.idn c.port<;>rfl
 |16,_ =>by unfold lineC wordsOf;simp only;cases whoOk c.who<;>cases wayOk c.way<;>cases Lex5.plainB c.value.data.toList<;>cases Pa15.idn c.port<;>rfl
 |17,_ =>by unfold lineC wordsOf;simp only;cases whoOk c.who<;>cases wayOk c.way<;>cases Lex5.plainB c.value.data.toList<;>cases Pa15.idn c.port<;>rfl
 |18,_ =>by unfold lineC wordsOf;simp only;cases whoOk c.who<;>cases wayOk c.way<;>cases Lex5.plainB c.value.data.toList<;>cases Pa15.idn c.port<;>rfl
 |n+19,h=>absurd h (by omega)
theorem rv0{κ:Nat}{nm:ByteArray}(hn:seq nm (B [])=false)(b:Bool)(k who:Int)(way:List ApiStep)(val:ByteArray)(n:Int)(run ab:Bool)(port:ByteArray)(fl sz:Int)(dat:ByteArray):
  r33_Right.v0 κ nm b k who way val n run ab port fl sz dat=some (!b|| !(bif decide (k<15)then whoOk who else true),k,who,way,val,n,run,ab,port,fl,sz,dat):=by
 unfold r33_Right.v0 whoOk;rw [show ByteArray.mk (List.toArray [])=B []from rfl,hn];cases b
 ·rfl
 cases decide (k<15)
 ·rfl
 by_cases h1:1≤who
 ·by_cases h9:who≤9
  ·simp [h1,h9,Int.not_lt.2 h1,Int.not_lt.2 h9]
  ·simp [h1,h9,Int.not_lt.2 h1,Int.not_le.1 h9]
 ·simp [h1,Int.not_le.1 h1]
theorem rv2{κ:Nat}(hκ:40000≤κ)(a b:Bool)(k who:Int){way:List ApiStep}(hw:way.length≤30)(hf:Pa15.Fits κ way)(val:ByteArray)(n:Int)(run ab:Bool)(port:ByteArray)(fl sz:Int)(dat:ByteArray):
  r33_Right.v2 κ a b k who way val n run ab port fl sz dat=some (a,b, !(bif k==7||k==8 then wayOk way else true),k,who,way,val,n,run,ab,port,fl,sz,dat):=by
 unfold r33_Right.v2 wayOk;rw [Pa15.refShow_eq κ way hw (by omega) hf];cases h7:(k==7)
 ·cases h8:(k==8)
  ·rfl
  ·by_cases h0:way.length=0
   ·rw [h0];rfl
   ·rw [show(((List.length way:Nat):Int)==0)=false from beq_eq_false_iff_ne.2 (by omega),show decide (0<way.length)=true from decide_eq_true (by omega)]
    simp [B]
 ·by_cases h0:way.length=0
  ·rw [h0];rfl
  ·rw [show(((List.length way:Nat):Int)==0)=false from beq_eq_false_iff_ne.2 (by omega),show decide (0<way.length)=true from decide_eq_true (by omega)]
   simp [B]
theorem rv4{κ:Nat}(a b:Bool)(k who:Int)(way:List ApiStep)(val:ByteArray)(n:Int)(run ab:Bool)(port:ByteArray)(fl sz:Int)(dat:ByteArray):
  r33_Right.v4 κ a b k who way val n run ab port fl sz dat=some ((bif k==7 then b else true)&&(bif decide (k<15)then true else bif k==16 then true else a)):=by
 unfold r33_Right.v4;simp only [bne];cases k==7<;>cases b<;>cases decide (k<15)<;>cases k==16<;>rfl
theorem same_comm{a b:WordsCmd}(ha:Byt a.data)(hb:Byt b.data):sameB a b=sameB b a:=by
 cases h:sameB a b
 ·cases h':sameB b a
  ·rfl
  ·have:=(same_iff hb ha).1 h'
   rw [(same_iff ha hb).2 this.symm]at h;cases h
 ·exact((same_iff hb ha).2 ((same_iff ha hb).1 h).symm).symm
theorem rright_eq{κ:Nat}(hκ:40000≤κ)(c:WordsCmd)(hF:FitR κ c):r33_Right κ c.kind c.who c.way c.value c.n c.running c.asBytes c.port c.flow c.size (B (datL c.data))=some (rightB c):=by
 have hway:=hF.way;unfold r33_Right rightB;cases hk:kj c with
 |none=>
  have h:=kj_none hk;rw [rname_other h];simp only [Option.bind_some];have hv:∀(b:Bool) (k who:Int) (way:List ApiStep) (val:ByteArray) (n:Int) (run ab:Bool) (port:ByteArray) (fl sz:Int) (dat:ByteArray),r33_Right.v0 κ (B []) b k who way val n run ab port fl sz dat=some (true,k,who,way,val,n,run,ab,port,fl,sz,dat):=fun _ _ _ _ _ _ _ _ _ _ _ _ =>by
   unfold r33_Right.v0;rw [show seq (B []) (ByteArray.mk (List.toArray []))=true from rfl];rfl
  rcases h with h|h
  ·rw [ronly_neg c h]
   simp only [Option.bind_some];have hs:=refsame_eq (κ:=κ) ⟨c.kind,c.who,[],B [],0,false,false,B [],0,0,[]⟩ c (by omega) (by omega);simp only [show datL []=[]from rfl]at hs;rw [hs];simp only [Option.bind_some,hv,bif_t]
  ·rw [ronly_big c h]
   simp only [Option.bind_some];have hs:=refsame_eq (κ:=κ) ⟨c.kind,0,[],B [],0,false,false,c.port,0,0,[]⟩ c (by omega) (by omega);simp only [show datL []=[]from rfl]at hs;rw [hs];simp only [Option.bind_some,hv,bif_t]
 |some j=>
  obtain⟨hj,hkind⟩:=kj_some hk;have hn:=rname (κ:=κ) j hj;have ho:=ronly (κ:=κ) c j hj;rw [←hkind]at hn ho;have hs:=refsame_eq (κ:=κ) (onlyC j c) c (by omega) (by omega);rw [hn,ho];simp only [Option.bind_some];rw [hs];simp only [Option.bind_some,rv0 (nm_ne j hj)];have hid:=Pa15.refIdent_eq κ c.port (by have:=hF.port;omega) (by have:=hF.port;omega);have hpl:r05_Plain κ c.value=some (Lex5.plainB c.value.data.toList):=by
   have hv:=hF.val;have:=Lex5.refPlain_eq (κ:=κ) c.value.data.toList (by rw [←B_of c.value,B_size]at hv;omega) (by rw [←B_of c.value,B_size]at hv;omega);rw [show ByteArray.mk (List.toArray c.value.data.toList)=c.value from B_of _]at this;exact this
  simp only [hid,hpl,Option.bind_some,rv2 hκ _ _ _ _ hF.way hF.fits,rv4];rw [line_ok c j hj,same_comm hF.f.f.hbyt (only_fit c hF.f j hj).f.hbyt,←hkind];unfold okR;generalize sameB (onlyC j c) c=s;generalize (bif decide (c.kind<15)then whoOk c.who else true)=x;generalize (bif c.kind==7||c.kind==8 then wayOk c.way else true)=y;cases s<;>cases x<;>cases y<;>simp
end Go.Proofs.YtdoifigogbdodaaGreatDoor.Wo

namespace Go.Proofs.YtdoifigogbdodaaGreatDoor.Wo
open Go Ev Ev.Seat Go.Lib
def hiP(x:Int):Int:=IntKind.wrap IntKind.i64 (Int.tdiv (IntKind.wrap IntKind.i64 x) 16)
def loP(x:Int):Int:=Int.tmod (IntKind.wrap IntKind.i64 x) 16
def sucP(x:Int):Int:=IntKind.wrap IntKind.i64 (x+1)
def cutP(x:Int):Bool:=((((decide ((0:Int)≤sucP x))&&(decide (sucP x≤(((ByteArray.size (B hexd)):Nat):Int))))&&(decide ((0:Int)≤x)))&&(decide (x≤sucP x)))
theorem rhex_all:∀n:Fin 256,cutP (hiP ((n.val:Nat):Int))=true∧cutP (loP ((n.val:Nat):Int))=true∧
  ByteArray.extract (B hexd) (Int.toNat (hiP ((n.val:Nat):Int))) (Int.toNat (sucP (hiP ((n.val:Nat):Int))))=B [hx (n.val/16)]∧
  ByteArray.extract (B hexd) (Int.toNat (loP ((n.val:Nat):Int))) (Int.toNat (sucP (loP ((n.val:Nat):Int))))=B [hx (n.val%16)]:=by decide+kernel
theorem rhex_c(c:UInt8):cutP (hiP ((c.toNat:Nat):Int))=true∧cutP (loP ((c.toNat:Nat):Int))=true∧
  ByteArray.extract (B hexd) (Int.toNat (hiP ((c.toNat:Nat):Int))) (Int.toNat (sucP (hiP ((c.toNat:Nat):Int))))=B [hx (c.toNat/16)]∧
  ByteArray.extract (B hexd) (Int.toNat (loP ((c.toNat:Nat):Int))) (Int.toNat (sucP (loP ((c.toNat:Nat):Int))))=B [hx (c.toNat%16)]:=rhex_all ⟨c.toNat,c.toNat_lt⟩
theorem ble_ok{n:Nat}(h:n≤1000000):Nat.ble n maxI=true:=Nat.ble_eq_true_of_le (by unfold maxI;omega)
theorem B_app(a b:List UInt8):B a++B b=B (a++b):=Va8.mk_append a b
theorem rhex_w{κ:Nat}(rec:_)(s acc:ByteArray)(i:Int):r33_hex.w0 κ rec s acc i=(bif (decide (i<(((ByteArray.size s):Nat):Int)))then
  bif (decide ((0:Int)≤i))then
   Option.bind ((Array.toList (ByteArray.data s))[(Int.toNat i)]?) fun x0=>
    bif (decide ((0:Int)≤i))then
     Option.bind ((Array.toList (ByteArray.data s))[(Int.toNat i)]?) fun x1=>
      bif cutP (hiP ((x0.toNat:Nat):Int))then
       bif cutP (loP ((x1.toNat:Nat):Int))then
        bif (Nat.ble ((ByteArray.size (ByteArray.extract (B hexd) (Int.toNat (hiP ((x0.toNat:Nat):Int))) (Int.toNat (sucP (hiP ((x0.toNat:Nat):Int))))))+(ByteArray.size (ByteArray.extract (B hexd) (Int.toNat (loP ((x1.toNat:Nat):Int))) (Int.toNat (sucP (loP ((x1.toNat:Nat):Int))))))) Ev.maxI)then
         bif (Nat.ble ((ByteArray.size acc)+(ByteArray.size ((ByteArray.extract (B hexd) (Int.toNat (hiP ((x0.toNat:Nat):Int))) (Int.toNat (sucP (hiP ((x0.toNat:Nat):Int)))))++(ByteArray.extract (B hexd) (Int.toNat (loP ((x1.toNat:Nat):Int))) (Int.toNat (sucP (loP ((x1.toNat:Nat):Int)))))))) Ev.maxI)then
          rec (s,(acc++((ByteArray.extract (B hexd) (Int.toNat (hiP ((x0.toNat:Nat):Int))) (Int.toNat (sucP (hiP ((x0.toNat:Nat):Int)))))++(ByteArray.extract (B hexd) (Int.toNat (loP ((x1.toNat:Nat):Int))) (Int.toNat (sucP (loP ((x1.toNat:Nat):Int))))))),sucP i)
         else none
        else none
       else none
      else none
    else none
  else none
 else some acc):=rfl
theorem rhex_loop{κ:Nat}(l:List UInt8)(hl:l.length≤40000):∀(d i K:Nat) (acc:List UInt8),l.length=i+d→d<K→acc.length≤2*i→
  r33_hex.l0 κ K (B l,B acc,((i:Nat):Int))=some (B (acc++hexL (l.drop i)))
 |d,i,0,acc,_,h,_ =>by omega
 |0,i,K+1,acc,h,_,_ =>by
  unfold r33_hex.l0;rw [rhex_w,B_size,show decide (((i:Nat):Int)<((l.length:Nat):Int))=false from decide_eq_false (by omega)];simp only [bif_f];rw [List.drop_eq_nil_of_le (by omega)];simp [hexL]
 |d+1,i,K+1,acc,h,hk,ha=>by
  have hlt:i<l.length:=by omega
  unfold r33_hex.l0;obtain⟨h1,h2,h3,h4⟩:=rhex_c l[i];rw [rhex_w,B_size,show decide (((i:Nat):Int)<((l.length:Nat):Int))=true from decide_eq_true (by omega),show decide ((0:Int)≤((i:Nat):Int))=true from decide_eq_true (by omega),Int.toNat_natCast,B_data,List.getElem?_eq_getElem hlt];simp only [bif_t,Option.bind_some,h1,h2,h3,h4,B_app,B_size,List.cons_append,List.nil_append,List.length_cons,List.length_nil];rw [ble_ok (by omega),ble_ok (by omega)];simp only [bif_t];rw [show sucP ((i:Nat):Int)=((i+1:Nat):Int)from wrap1 i (by omega),rhex_loop l hl d (i+1) K _ (by omega) (by omega) (by simp;omega),List.drop_eq_getElem_cons hlt];simp [hexL,List.append_assoc]
theorem rhex_eq{κ:Nat}(l:List UInt8)(hl:l.length≤40000)(hκ:l.length<κ):r33_hex κ (B l)=some (B (hexL l)):=by
 unfold r33_hex;have h:=rhex_loop (κ:=κ) l hl l.length 0 κ [] (by omega) hκ (by simp);rw [show r33_hex.l0 κ κ (B l,(ByteArray.mk (List.toArray [])),(0:Int))=_ from h];simp
theorem rshow_num{κ:Nat}(hκ:40000≤κ){n:Int}(h:0≤n∧n<18446744073709551616):r06_ShowUint κ n=some (B (numL n)):=by
 obtain⟨k,rfl⟩:=Int.eq_ofNat_of_zero_le h.1;exact Va8.ref_show κ (by omega) k (by omega)
theorem rshow_who{κ:Nat}(hκ:40000≤κ)(w:Int):r06_ShowUint κ (IntKind.wrap IntKind.u64 w)=some (B (whoL w)):=rshow_num hκ (by rw [IntKind.wrap_u64];omega)
theorem rline0{κ:Nat}(hκ:40000≤κ)(c:WordsCmd)(hF:FitR κ c)(hr:r33_Right κ 0 c.who c.way c.value c.n c.running c.asBytes c.port c.flow c.size (B (datL c.data))=some true){ws:List (List UInt8)}(h:wordsOf 0 c.who c.way c.value c.n c.running c.asBytes c.port c.flow c.size c.data=some ws):r33_Line κ 0 c.who c.way c.value c.n c.running c.asBytes c.port c.flow c.size (B (datL c.data))=some (B (Lib.join ws [32])):=by
 unfold wordsOf at h;simp only at h;cases h0:whoOk c.who
 ·rw [h0]at h;cases h
 rw [h0,bif_t]at h;cases h;have l1:=who_len c.who;have l2:=num_len hF.f.f.hn;have l3:=num_len hF.f.f.hfl;have l4:=num_len hF.f.f.hsz;unfold r33_Line;rw [hr,show r33_name κ 0=some (B (nmL 0))from rname 0 (by decide)];simp only [Option.bind_some,Bool.not_true,bif_f,r33_Line.v0,rshow_who hκ,rshow_num hκ hF.f.f.hn,show∀l:List UInt8,ByteArray.mk (List.toArray l)=B l from fun _ =>rfl,B_app,B_size,Int.reduceLT,decide_true,decide_false,bif_t,List.length_append,List.length_cons,List.length_nil,nmL];cases hru:c.running<;>cases hab:c.asBytes<;>(simp(disch:=omega) only [Option.bind_some,rshow_num hκ hF.f.f.hn,Bool.not_true,Bool.not_false,bif_t,bif_f,ble_ok,B_app,B_size,show∀l:List UInt8,ByteArray.mk (List.toArray l)=B l from fun _ =>rfl,List.length_append,List.length_cons,List.length_nil,r33_Line.v2,r33_Line.v4,r33_Line.v6,r33_Line.v7,r33_Line.v10,Int.reduceBEq];simp [j1,j2,List.append_assoc])
theorem rline1{κ:Nat}(hκ:40000≤κ)(c:WordsCmd)(hF:FitR κ c)(hr:r33_Right κ 1 c.who c.way c.value c.n c.running c.asBytes c.port c.flow c.size (B (datL c.data))=some true){ws:List (List UInt8)}(h:wordsOf 1 c.who c.way c.value c.n c.running c.asBytes c.port c.flow c.size c.data=some ws):r33_Line κ 1 c.who c.way c.value c.n c.running c.asBytes c.port c.flow c.size (B (datL c.data))=some (B (Lib.join ws [32])):=by
 unfold wordsOf at h;simp only at h;cases h0:whoOk c.who
 ·rw [h0]at h;cases h
 rw [h0,bif_t]at h;cases h;have l1:=who_len c.who;have l2:=num_len hF.f.f.hn;have l3:=num_len hF.f.f.hfl;have l4:=num_len hF.f.f.hsz;unfold r33_Line;rw [hr,show r33_name κ 1=some (B (nmL 1))from rname 1 (by decide)];simp only [Option.bind_some,Bool.not_true,bif_f,r33_Line.v0,rshow_who hκ,rshow_num hκ hF.f.f.hn,show∀l:List UInt8,ByteArray.mk (List.toArray l)=B l from fun _ =>rfl,B_app,B_size,Int.reduceLT,decide_true,decide_false,bif_t,List.length_append,List.length_cons,List.length_nil,nmL];cases hru:c.running<;>cases hab:c.asBytes<;>(simp(disch:=omega) only [Option.bind_some,rshow_num hκ hF.f.f.hn,Bool.not_true,Bool.not_false,bif_t,bif_f,ble_ok,B_app,B_size,show∀l:List UInt8,ByteArray.mk (List.toArray l)=B l from fun _ =>rfl,List.length_append,List.length_cons,List.length_nil,r33_Line.v2,r33_Line.v4,r33_Line.v6,r33_Line.v7,r33_Line.v10,Int.reduceBEq];simp [j1,j2,List.append_assoc])
theorem rline2{κ:Nat}(hκ:40000≤κ)(c:WordsCmd)(hF:FitR κ c)(hr:r33_Right κ 2 c.who c.way c.value c.n c.running c.asBytes c.port c.flow c.size (B (datL c.data))=some true){ws:List (List UInt8)}(h:wordsOf 2 c.who c.way c.value c.n c.running c.asBytes c.port c.flow c.size c.data=some ws):r33_Line κ 2 c.who c.way c.value c.n c.running c.asBytes c.port c.flow c.size (B (datL c.data))=some (B (Lib.join ws [32])):=by
 unfold wordsOf at h;simp only at h;cases h0:whoOk c.who
 ·rw [h0]at h;cases h
 rw [h0,bif_t]at h;cases h;have l1:=who_len c.who;have l2:=num_len hF.f.f.hn;have l3:=num_len hF.f.f.hfl;have l4:=num_len hF.f.f.hsz;unfold r33_Line;rw [hr,show r33_name κ 2=some (B (nmL 2))from rname 2 (by decide)];simp only [Option.bind_some,Bool.not_true,bif_f,r33_Line.v0,rshow_who hκ,rshow_num hκ hF.f.f.hn,show∀l:List UInt8,ByteArray.mk (List.toArray l)=B l from fun _ =>rfl,B_app,B_size,Int.reduceLT,decide_true,decide_false,bif_t,List.length_append,List.length_cons,List.length_nil,nmL];cases hru:c.running<;>cases hab:c.asBytes<;>(simp(disch:=omega) only [Option.bind_some,rshow_num hκ hF.f.f.hn,Bool.not_true,Bool.not_false,bif_t,bif_f,ble_ok,B_app,B_size,show∀l:List UInt8,ByteArray.mk (List.toArray l)=B l from fun _ =>rfl,List.length_append,List.length_cons,List.length_nil,r33_Line.v2,r33_Line.v4,r33_Line.v6,r33_Line.v7,r33_Line.v10,Int.reduceBEq];simp [j1,j2,List.append_assoc])
theorem rline3{κ:Nat}(hκ:40000≤κ)(c:WordsCmd)(hF:FitR κ c)(hr:r33_Right κ 3 c.who c.way c.value c.n c.running c.asBytes c.port c.flow c.size (B (datL c.data))=some true){ws:List (List UInt8)}(h:wordsOf 3 c.who c.way c.value c.n c.running c.asBytes c.port c.flow c.size c.data=some ws):r33_Line κ 3 c.who c.way c.value c.n c.running c.asBytes c.port c.flow c.size (B (datL c.data))=some (B (Lib.join ws [32])):=by
 unfold wordsOf at h;simp only at h;cases h0:whoOk c.who
 ·rw [h0]at h;cases h
 rw [h0,bif_t]at h;cases h;have l1:=who_len c.who;have l2:=num_len hF.f.f.hn;have l3:=num_len hF.f.f.hfl;have l4:=num_len hF.f.f.hsz;unfold r33_Line;rw [hr,show r33_name κ 3=some (B (nmL 3))from rname 3 (by decide)];simp only [Option.bind_some,Bool.not_true,bif_f,r33_Line.v0,rshow_who hκ,rshow_num hκ hF.f.f.hn,show∀l:List UInt8,ByteArray.mk (List.toArray l)=B l from fun _ =>rfl,B_app,B_size,Int.reduceLT,decide_true,decide_false,bif_t,List.length_append,List.length_cons,List.length_nil,nmL];cases hru:c.running<;>cases hab:c.asBytes<;>(simp(disch:=omega) only [Option.bind_some,rshow_num hκ hF.f.f.hn,Bool.not_true,Bool.not_false,bif_t,bif_f,ble_ok,B_app,B_size,show∀l:List UInt8,ByteArray.mk (List.toArray l)=B l from fun _ =>rfl,List.length_append,List.length_cons,List.length_nil,r33_Line.v2,r33_Line.v4,r33_Line.v6,r33_Line.v7,r33_Line.v10,Int.reduceBEq];simp [j1,j2,List.append_assoc])
theorem rline4{κ:Nat}(hκ:40000≤κ)(c:WordsCmd)(hF:FitR κ c)(hr:r33_Right κ 4 c.who c.way c.value c.n c.running c.asBytes c.port c.flow c.size (B (datL c.data))=some true){ws:List (List UInt8)}(h:wordsOf 4 c.who c.way c.value c.n c.running c.asBytes c.port c.flow c.size c.data=some ws):r33_Line κ 4 c.who c.way c.value c.n c.running c.asBytes c.port c.flow c.size (B (datL c.data))=some (B (Lib.join ws [32])):=by
 unfold wordsOf at h;simp only at h;cases h0:whoOk c.who
 ·rw [h0]at h;cases h
 rw [h0,bif_t]at h;cases h;have l1:=who_len c.who;have l2:=num_len hF.f.f.hn;have l3:=num_len hF.f.f.hfl;have l4:=num_len hF.f.f.hsz;unfold r33_Line;rw [hr,show r33_name κ 4=some (B (nmL 4))from rname 4 (by decide)];simp only [Option.bind_some,Bool.not_true,bif_f,r33_Line.v0,rshow_who hκ,rshow_num hκ hF.f.f.hn,show∀l:List UInt8,ByteArray.mk (List.toArray l)=B l from fun _ =>rfl,B_app,B_size,Int.reduceLT,decide_true,decide_false,bif_t,List.length_append,List.length_cons,List.length_nil,nmL];cases hru:c.running<;>cases hab:c.asBytes<;>(simp(disch:=omega) only [Option.bind_some,rshow_num hκ hF.f.f.hn,Bool.not_true,Bool.not_false,bif_t,bif_f,ble_ok,B_app,B_size,show∀l:List UInt8,ByteArray.mk (List.toArray l)=B l from fun _ =>rfl,List.length_append,List.length_cons,List.length_nil,r33_Line.v2,r33_Line.v4,r33_Line.v6,r33_Line.v7,r33_Line.v10,Int.reduceBEq];simp [j1,j2,List.append_assoc])
theorem rline5{κ:Nat}(hκ:40000≤κ)(c:WordsCmd)(hF:FitR κ c)(hr:r33_Right κ 5 c.who c.way c.value c.n c.running c.asBytes c.port c.flow c.size (B (datL c.data))=some true){ws:List (List UInt8)}(h:wordsOf 5 c.who c.way c.value c.n c.running c.asBytes c.port c.flow c.size c.data=some ws):r33_Line κ 5 c.who c.way c.value c.n c.running c.asBytes c.port c.flow c.size (B (datL c.data))=some (B (Lib.join ws [32])):=by
 unfold wordsOf at h;simp only at h;cases h0:whoOk c.who
 ·rw [h0]at h;cases h
 rw [h0,bif_t]at h;cases h;have l1:=who_len c.who;have l2:=num_len hF.f.f.hn;have l3:=num_len hF.f.f.hfl;have l4:=num_len hF.f.f.hsz;unfold r33_Line;rw [hr,show r33_name κ 5=some (B (nmL 5))from rname 5 (by decide)];simp only [Option.bind_some,Bool.not_true,bif_f,r33_Line.v0,rshow_who hκ,rshow_num hκ hF.f.f.hn,show∀l:List UInt8,ByteArray.mk (List.toArray l)=B l from fun _ =>rfl,B_app,B_size,Int.reduceLT,decide_true,decide_false,bif_t,List.length_append,List.length_cons,List.length_nil,nmL];cases hru:c.running<;>cases hab:c.asBytes<;>(simp(disch:=omega) only [Option.bind_some,rshow_num hκ hF.f.f.hn,Bool.not_true,Bool.not_false,bif_t,bif_f,ble_ok,B_app,B_size,show∀l:List UInt8,ByteArray.mk (List.toArray l)=B l from fun _ =>rfl,List.length_append,List.length_cons,List.length_nil,r33_Line.v2,r33_Line.v4,r33_Line.v6,r33_Line.v7,r33_Line.v10,Int.reduceBEq];simp [j1,j2,List.append_assoc])
theorem rline6{κ:Nat}(hκ:40000≤κ)(c:WordsCmd)(hF:FitR κ c)(hr:r33_Right κ 6 c.who c.way c.value c.n c.running c.asBytes c.port c.flow c.size (B (datL c.data))=some true){ws:List (List UInt8)}(h:wordsOf 6 c.who c.way c.value c.n c.running c.asBytes c.port c.flow c.size c.data=some ws):r33_Line κ 6 c.who c.way c.value c.n c.running c.asBytes c.port c.flow c.size (B (datL c.data))=some (B (Lib.join ws [32])):=by
 unfold wordsOf at h;simp only at h;cases h0:whoOk c.who
 ·rw [h0]at h;cases h
 rw [h0,bif_t]at h;cases h;have l1:=who_len c.who;have l2:=num_len hF.f.f.hn;have l3:=num_len hF.f.f.hfl;have l4:=num_len hF.f.f.hsz;unfold r33_Line;rw [hr,show r33_name κ 6=some (B (nmL 6))from rname 6 (by decide)];simp only [Option.bind_some,Bool.not_true,bif_f,r33_Line.v0,rshow_who hκ,rshow_num hκ hF.f.f.hn,show∀l:List UInt8,ByteArray.mk (List.toArray l)=B l from fun _ =>rfl,B_app,B_size,Int.reduceLT,decide_true,decide_false,bif_t,List.length_append,List.length_cons,List.length_nil,nmL];cases hru:c.running<;>cases hab:c.asBytes<;>(simp(disch:=omega) only [Option.bind_some,rshow_num hκ hF.f.f.hn,Bool.not_true,Bool.not_false,bif_t,bif_f,ble_ok,B_app,B_size,show∀l:List UInt8,ByteArray.mk (List.toArray l)=B l from fun _ =>rfl,List.length_append,List.length_cons,List.length_nil,r33_Line.v2,r33_Line.v4,r33_Line.v6,r33_Line.v7,r33_Line.v10,Int.reduceBEq];simp [j1,j2,List.append_assoc])
theorem rline7{κ:Nat}(hκ:40000≤κ)(c:WordsCmd)(hF:FitR κ c)(hr:r33_Right κ 7 c.who c.way c.value c.n c.running c.asBytes c.port c.flow c.size (B (datL c.data))=some true){ws:List (List UInt8)}(h:wordsOf 7 c.who c.way c.value c.n c.running c.asBytes c.port c.flow c.size c.data=some ws):r33_Line κ 7 c.who c.way c.value c.n c.running c.asBytes c.port c.flow c.size (B (datL c.data))=some (B (Lib.join ws [32])):=by
 unfold wordsOf at h;simp only at h;cases h0:whoOk c.who
 ·rw [h0]at h;cases h
 rw [h0,bif_t]at h;cases h1:wayOk c.way
 ·rw [h1]at h;cases h
 rw [h1,bif_t]at h;cases h2:Lex5.plainB c.value.data.toList
 ·rw [h2]at h;cases h
 rw [h2,bif_t]at h;cases h;have l1:=who_len c.who;have l2:=num_len hF.f.f.hn;have l3:=num_len hF.f.f.hfl;have l4:=num_len hF.f.f.hsz;unfold r33_Line;rw [hr,show r33_name κ 7=some (B (nmL 7))from rname 7 (by decide)];simp only [Option.bind_some,Bool.not_true,bif_f,r33_Line.v0,rshow_who hκ,rshow_num hκ hF.f.f.hn,show∀l:List UInt8,ByteArray.mk (List.toArray l)=B l from fun _ =>rfl,B_app,B_size,Int.reduceLT,decide_true,decide_false,bif_t,List.length_append,List.length_cons,List.length_nil,nmL];have l5:=way_len c.way;have hw:B (wayL c.way)=Pa15.showV c.way:=B_of _;have hsh:=Pa15.refShow_eq κ c.way hF.way (by have:=hF.way;omega) hF.fits;rw [←hw]at hsh;have l6:=hF.val;have hv:B c.value.data.toList=c.value:=B_of _;have hv2:c.value.data.toList.length=c.value.size:=by rw [←B_size,hv]
 rw [←hv];cases hru:c.running<;>cases hab:c.asBytes<;>(simp(disch:=omega) only [Option.bind_some,rshow_num hκ hF.f.f.hn,Bool.not_true,Bool.not_false,bif_t,bif_f,ble_ok,B_app,B_size,show∀l:List UInt8,ByteArray.mk (List.toArray l)=B l from fun _ =>rfl,List.length_append,List.length_cons,List.length_nil,r33_Line.v2,r33_Line.v4,r33_Line.v6,r33_Line.v7,r33_Line.v10,Int.reduceBEq,hsh];simp [j1,j2,List.append_assoc])
theorem rline8{κ:Nat}(hκ:40000≤κ)(c:WordsCmd)(hF:FitR κ c)(hr:r33_Right κ 8 c.who c.way c.value c.n c.running c.asBytes c.port c.flow c.size (B (datL c.data))=some true){ws:List (List UInt8)}(h:wordsOf 8 c.who c.way c.value c.n c.running c.asBytes c.port c.flow c.size c.data=some ws):r33_Line κ 8 c.who c.way c.value c.n c.running c.asBytes c.port c.flow c.size (B (datL c.data))=some (B (Lib.join ws [32])):=by
 unfold wordsOf at h;simp only at h;cases h0:whoOk c.who
 ·rw [h0]at h;cases h
 rw [h0,bif_t]at h;cases h1:wayOk c.way
 ·rw [h1]at h;cases h
 rw [h1,bif_t]at h;cases h;have l1:=who_len c.who;have l2:=num_len hF.f.f.hn;have l3:=num_len hF.f.f.hfl;have l4:=num_len hF.f.f.hsz;unfold r33_Line;rw [hr,show r33_name κ 8=some (B (nmL 8))from rname 8 (by decide)];simp only [Option.bind_some,Bool.not_true,bif_f,r33_Line.v0,rshow_who hκ,rshow_num hκ hF.f.f.hn,show∀l:List UInt8,ByteArray.mk (List.toArray l)=B l from fun _ =>rfl,B_app,B_size,Int.reduceLT,decide_true,decide_false,bif_t,List.length_append,List.length_cons,List.length_nil,nmL];have l5:=way_len c.way;have hw:B (wayL c.way)=Pa15.showV c.way:=B_of _;have hsh:=Pa15.refShow_eq κ c.way hF.way (by have:=hF.way;omega) hF.fits;rw [←hw]at hsh;cases hru:c.running<;>cases hab:c.asBytes<;>(simp(disch:=omega) only [Option.bind_some,rshow_num hκ hF.f.f.hn,Bool.not_true,Bool.not_false,bif_t,bif_f,ble_ok,B_app,B_size,show∀l:List UInt8,ByteArray.mk (List.toArray l)=B l from fun _ =>rfl,List.length_append,List.length_cons,List.length_nil,r33_Line.v2,r33_Line.v4,r33_Line.v6,r33_Line.v7,r33_Line.v10,Int.reduceBEq,hsh];simp [j1,j2,List.append_assoc])
theorem rline9{κ:Nat}(hκ:40000≤κ)(c:WordsCmd)(hF:FitR κ c)(hr:r33_Right κ 9 c.who c.way c.value c.n c.running c.asBytes c.port c.flow c.size (B (datL c.data))=some true){ws:List (List UInt8)}(h:wordsOf 9 c.who c.way c.value c.n c.running c.asBytes c.port c.flow c.size c.data=some ws):r33_Line κ 9 c.who c.way c.value c.n c.running c.asBytes c.port c.flow c.size (B (datL c.data))=some (B (Lib.join ws [32])):=by
 unfold wordsOf at h;simp only at h;cases h0:whoOk c.who
 ·rw [h0]at h;cases h
 rw [h0,bif_t]at h;cases h;have l1:=who_len c.who;have l2:=num_len hF.f.f.hn;have l3:=num_len hF.f.f.hfl;have l4:=num_len hF.f.f.hsz;unfold r33_Line;rw [hr,show r33_name κ 9=some (B (nmL 9))from rname 9 (by decide)];simp only [Option.bind_some,Bool.not_true,bif_f,r33_Line.v0,rshow_who hκ,rshow_num hκ hF.f.f.hn,show∀l:List UInt8,ByteArray.mk (List.toArray l)=B l from fun _ =>rfl,B_app,B_size,Int.reduceLT,decide_true,decide_false,bif_t,List.length_append,List.length_cons,List.length_nil,nmL];by_cases hz:c.n=0
 ·have e1:(c.n==0)=true:=by simp [hz]
  have e2:decide (0<c.n)=false:=by simp [hz]
  cases hru:c.running<;>cases hab:c.asBytes<;>(simp(disch:=omega) only [Option.bind_some,rshow_num hκ hF.f.f.hn,Bool.not_true,Bool.not_false,bif_t,bif_f,ble_ok,B_app,B_size,show∀l:List UInt8,ByteArray.mk (List.toArray l)=B l from fun _ =>rfl,List.length_append,List.length_cons,List.length_nil,r33_Line.v2,r33_Line.v4,r33_Line.v6,r33_Line.v7,r33_Line.v10,Int.reduceBEq,e1,e2];simp [j1,j2])
 ·have h1:=hF.f.f.hn
  have e1:(c.n==0)=false:=beq_eq_false_iff_ne.2 hz;have e2:decide (0<c.n)=true:=decide_eq_true (by omega);cases hru:c.running<;>cases hab:c.asBytes<;>(simp(disch:=omega) only [Option.bind_some,rshow_num hκ hF.f.f.hn,Bool.not_true,Bool.not_false,bif_t,bif_f,ble_ok,B_app,B_size,show∀l:List UInt8,ByteArray.mk (List.toArray l)=B l from fun _ =>rfl,List.length_append,List.length_cons,List.length_nil,r33_Line.v2,r33_Line.v4,r33_Line.v6,r33_Line.v7,r33_Line.v10,Int.reduceBEq,e1,e2];simp [j1,j2])
theorem rline10{κ:Nat}(hκ:40000≤κ)(c:WordsCmd)(hF:FitR κ c)(hr:r33_Right κ 10 c.who c.way c.value c.n c.running c.asBytes c.port c.flow c.size (B (datL c.data))=some true){ws:List (List UInt8)}(h:wordsOf 10 c.who c.way c.value c.n c.running c.asBytes c.port c.flow c.size c.data=some ws):r33_Line κ 10 c.who c.way c.value c.n c.running c.asBytes c.port c.flow c.size (B (datL c.data))=some (B (Lib.join ws [32])):=by
 unfold wordsOf at h;simp only at h;cases h0:whoOk c.who
 ·rw [h0]at h;cases h
 rw [h0,bif_t]at h;cases h;have l1:=who_len c.who;have l2:=num_len hF.f.f.hn;have l3:=num_len hF.f.f.hfl;have l4:=num_len hF.f.f.hsz;unfold r33_Line;rw [hr,show r33_name κ 10=some (B (nmL 10))from rname 10 (by decide)];simp only [Option.bind_some,Bool.not_true,bif_f,r33_Line.v0,rshow_who hκ,rshow_num hκ hF.f.f.hn,show∀l:List UInt8,ByteArray.mk (List.toArray l)=B l from fun _ =>rfl,B_app,B_size,Int.reduceLT,decide_true,decide_false,bif_t,List.length_append,List.length_cons,List.length_nil,nmL];cases hru:c.running<;>cases hab:c.asBytes<;>(simp(disch:=omega) only [Option.bind_some,rshow_num hκ hF.f.f.hn,Bool.not_true,Bool.not_false,bif_t,bif_f,ble_ok,B_app,B_size,show∀l:List UInt8,ByteArray.mk (List.toArray l)=B l from fun _ =>rfl,List.length_append,List.length_cons,List.length_nil,r33_Line.v2,r33_Line.v4,r33_Line.v6,r33_Line.v7,r33_Line.v10,Int.reduceBEq];simp [j1,j2,List.append_assoc])
theorem rline11{κ:Nat}(hκ:40000≤κ)(c:WordsCmd)(hF:FitR κ c)(hr:r33_Right κ 11 c.who c.way c.value c.n c.running c.asBytes c.port c.flow c.size (B (datL c.data))=some true){ws:List (List UInt8)}(h:wordsOf 11 c.who c.way c.value c.n c.running c.asBytes c.port c.flow c.size c.data=some ws):r33_Line κ 11 c.who c.way c.value c.n c.running c.asBytes c.port c.flow c.size (B (datL c.data))=some (B (Lib.join ws [32])):=by
 unfold wordsOf at h;simp only at h;cases h0:whoOk c.who
 ·rw [h0]at h;cases h
 rw [h0,bif_t]at h;cases h;have l1:=who_len c.who;have l2:=num_len hF.f.f.hn;have l3:=num_len hF.f.f.hfl;have l4:=num_len hF.f.f.hsz;unfold r33_Line;rw [hr,show r33_name κ 11=some (B (nmL 11))from rname 11 (by decide)];simp only [Option.bind_some,Bool.not_true,bif_f,r33_Line.v0,rshow_who hκ,rshow_num hκ hF.f.f.hn,show∀l:List UInt8,ByteArray.mk (List.toArray l)=B l from fun _ =>rfl,B_app,B_size,Int.reduceLT,decide_true,decide_false,bif_t,List.length_append,List.length_cons,List.length_nil,nmL];cases hru:c.running<;>cases hab:c.asBytes<;>(simp(disch:=omega) only [Option.bind_some,rshow_num hκ hF.f.f.hn,Bool.not_true,Bool.not_false,bif_t,bif_f,ble_ok,B_app,B_size,show∀l:List UInt8,ByteArray.mk (List.toArray l)=B l from fun _ =>rfl,List.length_append,List.length_cons,List.length_nil,r33_Line.v2,r33_Line.v4,r33_Line.v6,r33_Line.v7,r33_Line.v10,Int.reduceBEq];simp [j1,j2,List.append_assoc])
theorem rline12{κ:Nat}(hκ:40000≤κ)(c:WordsCmd)(hF:FitR κ c)(hr:r33_Right κ 12 c.who c.way c.value c.n c.running c.asBytes c.port c.flow c.size (B (datL c.data))=some true){ws:List (List UInt8)}(h:wordsOf 12 c.who c.way c.value c.n c.running c.asBytes c.port c.flow c.size c.data=some ws):r33_Line κ 12 c.who c.way c.value c.n c.running c.asBytes c.port c.flow c.size (B (datL c.data))=some (B (Lib.join ws [32])):=by
 unfold wordsOf at h;simp only at h;cases h0:whoOk c.who
 ·rw [h0]at h;cases h
 rw [h0,bif_t]at h;cases h;have l1:=who_len c.who;have l2:=num_len hF.f.f.hn;have l3:=num_len hF.f.f.hfl;have l4:=num_len hF.f.f.hsz;unfold r33_Line;rw [hr,show r33_name κ 12=some (B (nmL 12))from rname 12 (by decide)];simp only [Option.bind_some,Bool.not_true,bif_f,r33_Line.v0,rshow_who hκ,rshow_num hκ hF.f.f.hn,show∀l:List UInt8,ByteArray.mk (List.toArray l)=B l from fun _ =>rfl,B_app,B_size,Int.reduceLT,decide_true,decide_false,bif_t,List.length_append,List.length_cons,List.length_nil,nmL];cases hru:c.running<;>cases hab:c.asBytes<;>(simp(disch:=omega) only [Option.bind_some,rshow_num hκ hF.f.f.hn,Bool.not_true,Bool.not_false,bif_t,bif_f,ble_ok,B_app,B_size,show∀l:List UInt8,ByteArray.mk (List.toArray l)=B l from fun _ =>rfl,List.length_append,List.length_cons,List.length_nil,r33_Line.v2,r33_Line.v4,r33_Line.v6,r33_Line.v7,r33_Line.v10,Int.reduceBEq];simp [j1,j2,storeL,formL,hru,hab])
theorem rline13{κ:Nat}(hκ:40000≤κ)(c:WordsCmd)(hF:FitR κ c)(hr:r33_Right κ 13 c.who c.way c.value c.n c.running c.asBytes c.port c.flow c.size (B (datL c.data))=some true){ws:List (List UInt8)}(h:wordsOf 13 c.who c.way c.value c.n c.running c.asBytes c.port c.flow c.size c.data=some ws):r33_Line κ 13 c.who c.way c.value c.n c.running c.asBytes c.port c.flow c.size (B (datL c.data))=some (B (Lib.join ws [32])):=by
 unfold wordsOf at h;simp only at h;cases h0:whoOk c.who
 ·rw [h0]at h;cases h
 rw [h0,bif_t]at h;cases h;have l1:=who_len c.who;have l2:=num_len hF.f.f.hn;have l3:=num_len hF.f.f.hfl;have l4:=num_len hF.f.f.hsz;unfold r33_Line;rw [hr,show r33_name κ 13=some (B (nmL 13))from rname 13 (by decide)];simp only [Option.bind_some,Bool.not_true,bif_f,r33_Line.v0,rshow_who hκ,rshow_num hκ hF.f.f.hn,show∀l:List UInt8,ByteArray.mk (List.toArray l)=B l from fun _ =>rfl,B_app,B_size,Int.reduceLT,decide_true,decide_false,bif_t,List.length_append,List.length_cons,List.length_nil,nmL];have l7:(datL c.data).length≤7000:=by rw [dat_len];exact hF.f.d
 cases hru:c.running<;>cases hab:c.asBytes<;>(simp(disch:=omega) only [Option.bind_some,rshow_num hκ hF.f.f.hn,Bool.not_true,Bool.not_false,bif_t,bif_f,ble_ok,B_app,B_size,show∀l:List UInt8,ByteArray.mk (List.toArray l)=B l from fun _ =>rfl,List.length_append,List.length_cons,List.length_nil,r33_Line.v2,r33_Line.v4,r33_Line.v6,r33_Line.v7,r33_Line.v10,Int.reduceBEq];simp [j1,j2,List.append_assoc])
theorem rline14{κ:Nat}(hκ:40000≤κ)(c:WordsCmd)(hF:FitR κ c)(hr:r33_Right κ 14 c.who c.way c.value c.n c.running c.asBytes c.port c.flow c.size (B (datL c.data))=some true){ws:List (List UInt8)}(h:wordsOf 14 c.who c.way c.value c.n c.running c.asBytes c.port c.flow c.size c.data=some ws):r33_Line κ 14 c.who c.way c.value c.n c.running c.asBytes c.port c.flow c.size (B (datL c.data))=some (B (Lib.join ws [32])):=by
 unfold wordsOf at h;simp only at h;cases h0:whoOk c.who
 ·rw [h0]at h;cases h
 rw [h0,bif_t]at h;cases h;have l1:=who_len c.who;have l2:=num_len hF.f.f.hn;have l3:=num_len hF.f.f.hfl;have l4:=num_len hF.f.f.hsz;unfold r33_Line;rw [hr,show r33_name κ 14=some (B (nmL 14))from rname 14 (by decide)];simp only [Option.bind_some,Bool.not_true,bif_f,r33_Line.v0,rshow_who hκ,rshow_num hκ hF.f.f.hn,show∀l:List UInt8,ByteArray.mk (List.toArray l)=B l from fun _ =>rfl,B_app,B_size,Int.reduceLT,decide_true,decide_false,bif_t,List.length_append,List.length_cons,List.length_nil,nmL];have l7:(datL c.data).length≤7000:=by rw [dat_len];exact hF.f.d
 have l8:=hexL_len (datL c.data);have hh:=rhex_eq (κ:=κ) (datL c.data) (by omega) (by omega);cases hru:c.running<;>cases hab:c.asBytes<;>(simp(disch:=omega) only [Option.bind_some,rshow_num hκ hF.f.f.hn,Bool.not_true,Bool.not_false,bif_t,bif_f,ble_ok,B_app,B_size,show∀l:List UInt8,ByteArray.mk (List.toArray l)=B l from fun _ =>rfl,List.length_append,List.length_cons,List.length_nil,r33_Line.v2,r33_Line.v4,r33_Line.v6,r33_Line.v7,r33_Line.v10,Int.reduceBEq,hh];simp [j1,j2,List.append_assoc])
theorem rline15{κ:Nat}(hκ:40000≤κ)(c:WordsCmd)(hF:FitR κ c)(hr:r33_Right κ 15 c.who c.way c.value c.n c.running c.asBytes c.port c.flow c.size (B (datL c.data))=some true){ws:List (List UInt8)}(h:wordsOf 15 c.who c.way c.value c.n c.running c.asBytes c.port c.flow c.size c.data=some ws):r33_Line κ 15 c.who c.way c.value c.n c.running c.asBytes c.port c.flow c.size (B (datL c.data))=some (B (Lib.join ws [32])):=by
 unfold wordsOf at h;simp only at h;cases h0:Pa15.idn c.port
 ·rw [h0]at h;cases h
 rw [h0,bif_t]at h;cases h;have l1:=who_len c.who;have l2:=num_len hF.f.f.hn;have l3:=num_len hF.f.f.hfl;have l4:=num_len hF.f.f.hsz;unfold r33_Line;rw [hr,show r33_name κ 15=some (B (nmL 15))from rname 15 (by decide)];simp only [Option.bind_some,Bool.not_true,bif_f,r33_Line.v0,rshow_who hκ,rshow_num hκ hF.f.f.hn,show∀l:List UInt8,ByteArray.mk (List.toArray l)=B l from fun _ =>rfl,B_app,B_size,Int.reduceLT,decide_true,decide_false,bif_t,List.length_append,List.length_cons,List.length_nil,nmL];have l9:=hF.port;have hv:B c.port.data.toList=c.port:=B_of _;have hv2:c.port.data.toList.length=c.port.size:=by rw [←B_size,hv]
 rw [←hv];cases hru:c.running<;>cases hab:c.asBytes<;>(simp(disch:=omega) only [Option.bind_some,rshow_num hκ hF.f.f.hn,Bool.not_true,Bool.not_false,bif_t,bif_f,ble_ok,B_app,B_size,show∀l:List UInt8,ByteArray.mk (List.toArray l)=B l from fun _ =>rfl,List.length_append,List.length_cons,List.length_nil,r33_Line.v2,r33_Line.v4,r33_Line.v6,r33_Line.v7,r33_Line.v10,Int.reduceBEq,rshow_num hκ hF.f.f.hfl,rshow_num hκ hF.f.f.hsz];simp [j1,j2,List.append_assoc])
theorem rline16{κ:Nat}(hκ:40000≤κ)(c:WordsCmd)(hF:FitR κ c)(hr:r33_Right κ 16 c.who c.way c.value c.n c.running c.asBytes c.port c.flow c.size (B (datL c.data))=some true){ws:List (List UInt8)}(h:wordsOf 16 c.who c.way c.value c.n c.running c.asBytes c.port c.flow c.size c.data=some ws):r33_Line κ 16 c.who c.way c.value c.n c.running c.asBytes c.port c.flow c.size (B (datL c.data))=some (B (Lib.join ws [32])):=by
 unfold wordsOf at h;simp only at h;cases h;have l1:=who_len c.who;have l2:=num_len hF.f.f.hn;have l3:=num_len hF.f.f.hfl;have l4:=num_len hF.f.f.hsz;unfold r33_Line;rw [hr,show r33_name κ 16=some (B (nmL 16))from rname 16 (by decide)];simp only [Option.bind_some,Bool.not_true,bif_f,r33_Line.v0,rshow_who hκ,rshow_num hκ hF.f.f.hn,show∀l:List UInt8,ByteArray.mk (List.toArray l)=B l from fun _ =>rfl,B_app,B_size,Int.reduceLT,decide_true,decide_false,bif_t,List.length_append,List.length_cons,List.length_nil,nmL];cases hru:c.running<;>cases hab:c.asBytes<;>(simp(disch:=omega) only [Option.bind_some,rshow_num hκ hF.f.f.hn,Bool.not_true,Bool.not_false,bif_t,bif_f,ble_ok,B_app,B_size,show∀l:List UInt8,ByteArray.mk (List.toArray l)=B l from fun _ =>rfl,List.length_append,List.length_cons,List.length_nil,r33_Line.v2,r33_Line.v4,r33_Line.v6,r33_Line.v7,r33_Line.v10,Int.reduceBEq];simp [j1,j2,List.append_assoc])
theorem rline17{κ:Nat}(hκ:40000≤κ)(c:WordsCmd)(hF:FitR κ c)(hr:r33_Right κ 17 c.who c.way c.value c.n c.running c.asBytes c.port c.flow c.size (B (datL c.data))=some true){ws:List (List UInt8)}(h:wordsOf 17 c.who c.way c.value c.n c.running c.asBytes c.port c.flow c.size c.data=some ws):r33_Line κ 17 c.who c.way c.value c.n c.running c.asBytes c.port c.flow c.size (B (datL c.data))=some (B (Lib.join ws [32])):=by
 unfold wordsOf at h;simp only at h;cases h0:Pa15.idn c.port
 ·rw [h0]at h;cases h
 rw [h0,bif_t]at h;cases h;have l1:=who_len c.who;have l2:=num_len hF.f.f.hn;have l3:=num_len hF.f.f.hfl;have l4:=num_len hF.f.f.hsz;unfold r33_Line;rw [hr,show r33_name κ 17=some (B (nmL 17))from rname 17 (by decide)];simp only [Option.bind_some,Bool.not_true,bif_f,r33_Line.v0,rshow_who hκ,rshow_num hκ hF.f.f.hn,show∀l:List UInt8,ByteArray.mk (List.toArray l)=B l from fun _ =>rfl,B_app,B_size,Int.reduceLT,decide_true,decide_false,bif_t,List.length_append,List.length_cons,List.length_nil,nmL];have l9:=hF.port;have hv:B c.port.data.toList=c.port:=B_of _;have hv2:c.port.data.toList.length=c.port.size:=by rw [←B_size,hv]
 rw [←hv];cases hru:c.running<;>cases hab:c.asBytes<;>(simp(disch:=omega) only [Option.bind_some,rshow_num hκ hF.f.f.hn,Bool.not_true,Bool.not_false,bif_t,bif_f,ble_ok,B_app,B_size,show∀l:List UInt8,ByteArray.mk (List.toArray l)=B l from fun _ =>rfl,List.length_append,List.length_cons,List.length_nil,r33_Line.v2,r33_Line.v4,r33_Line.v6,r33_Line.v7,r33_Line.v10,Int.reduceBEq];simp [j1,j2,List.append_assoc])
theorem rline18{κ:Nat}(hκ:40000≤κ)(c:WordsCmd)(hF:FitR κ c)(hr:r33_Right κ 18 c.who c.way c.value c.n c.running c.asBytes c.port c.flow c.size (B (datL c.data))=some true){ws:List (List UInt8)}(h:wordsOf 18 c.who c.way c.value c.n c.running c.asBytes c.port c.flow c.size c.data=some ws):r33_Line κ 18 c.who c.way c.value c.n c.running c.asBytes c.port c.flow c.size (B (datL c.data))=some (B (Lib.join ws [32])):=by
 unfold wordsOf at h;simp only at h;cases h0:Pa15.idn c.port
 ·rw [h0]at h;cases h
 rw [h0,bif_t]at h;cases h;have l1:=who_len c.who;have l2:=num_len hF.f.f.hn;have l3:=num_len hF.f.f.hfl;have l4:=num_len hF.f.f.hsz;unfold r33_Line;rw [hr,show r33_name κ 18=some (B (nmL 18))from rname 18 (by decide)];simp only [Option.bind_some,Bool.not_true,bif_f,r33_Line.v0,rshow_who hκ,rshow_num hκ hF.f.f.hn,show∀l:List UInt8,ByteArray.mk (List.toArray l)=B l from fun _ =>rfl,B_app,B_size,Int.reduceLT,decide_true,decide_false,bif_t,List.length_append,List.length_cons,List.length_nil,nmL];have l9:=hF.port;have hv:B c.port.data.toList=c.port:=B_of _;have hv2:c.port.data.toList.length=c.port.size:=by rw [←B_size,hv]
 rw [←hv];cases hru:c.running<;>cases hab:c.asBytes<;>(simp(disch:=omega) only [Option.bind_some,rshow_num hκ hF.f.f.hn,Bool.not_true,Bool.not_false,bif_t,bif_f,ble_ok,B_app,B_size,show∀l:List UInt8,ByteArray.mk (List.toArray l)=B l from fun _ =>rfl,List.length_append,List.length_cons,List.length_nil,r33_Line.v2,r33_Line.v4,r33_Line.v6,r33_Line.v7,r33_Line.v10,Int.reduceBEq];simp [j1,j2,List.append_assoc])
end Go.Proofs.YtdoifigogbdodaaGreatDoor.Wo

namespace Go.Proofs.YtdoifigogbdodaaGreatDoor.Wo
open Go Ev Ev.Seat Go.Lib
theorem rline{κ:Nat}(hκ:40000≤κ)(c:WordsCmd)(hF:FitR κ c):∀(j:Nat) (hj:j<19) (hr:r33_Right κ (j:Int) c.who c.way c.value c.n c.running c.asBytes c.port c.flow c.size (B (datL c.data))=some true) {ws:List (List UInt8)} (h:wordsOf j c.who c.way c.value c.n c.running c.asBytes c.port c.flow c.size c.data=some ws),r33_Line κ (j:Int) c.who c.way c.value c.n c.running c.asBytes c.port c.flow c.size (B (datL c.data))=some (B (Lib.join ws [32]))
 |0,_,hr,_,h=>rline0 hκ c hF hr h
 |1,_,hr,_,h=>rline1 hκ c hF hr h
 |2,_,hr,_,h=>rline2 hκ c hF hr h
 |3,_,hr,_,h=>rline3 hκ c hF hr h
 |4,_,hr,_,h=>rline4 hκ c hF hr h
 |5,_,hr,_,h=>rline5 hκ c hF hr h
 |6,_,hr,_,h=>rline6 hκ c hF hr h
 |7,_,hr,_,h=>rline7 hκ c hF hr h
 |8,_,hr,_,h=>rline8 hκ c hF hr h
 |9,_,hr,_,h=>rline9 hκ c hF hr h
 |10,_,hr,_,h=>rline10 hκ c hF hr h
 |11,_,hr,_,h=>rline11 hκ c hF hr h
 |12,_,hr,_,h=>rline12 hκ c hF hr h
 |13,_,hr,_,h=>rline13 hκ c hF hr h
 |14,_,hr,_,h=>rline14 hκ c hF hr h
 |15,_,hr,_,h=>rline15 hκ c hF hr h
 |16,_,hr,_,h=>rline16 hκ c hF hr h
 |17,_,hr,_,h=>rline17 hκ c hF hr h
 |18,_,hr,_,h=>rline18 hκ c hF hr h
 |n+19,hj,_,_,_ =>absurd hj (by omega)
theorem short{c:WordsCmd}(hF:FitC c)(hv:c.value.size≤4000)(hd:c.data.length≤3000){ws:List (List UInt8)}:∀(j:Nat) (hj:j<19) (h:wordsOf j c.who c.way c.value c.n c.running c.asBytes c.port c.flow c.size c.data=some ws),(Lib.join ws [32]).length≤7000
 |0,_,h=>by
  unfold wordsOf at h;simp only at h;cases h0:whoOk c.who
  ·rw [h0]at h;cases h
  rw [h0,bif_t]at h;have l1:=who_len c.who;have l2:=num_len hF.f.hn;have l3:=num_len hF.f.hfl;have l4:=num_len hF.f.hsz;have l5:=way_len c.way;have l6:=store_len c.running;have l7:=form_len c.asBytes;have l8:=dat_len c.data;have l9:=hexL_len (datL c.data);have la:c.value.data.toList.length=c.value.size:=by rw [←B_size,B_of]
  cases h;exact Nat.le_trans (lensum _) (by simp only [ln0,ln1,lc,l0];omega)
 |1,_,h=>by
  unfold wordsOf at h;simp only at h;cases h0:whoOk c.who
  ·rw [h0]at h;cases h
  rw [h0,bif_t]at h;have l1:=who_len c.who;have l2:=num_len hF.f.hn;have l3:=num_len hF.f.hfl;have l4:=num_len hF.f.hsz;have l5:=way_len c.way;have l6:=store_len c.running;have l7:=form_len c.asBytes;have l8:=dat_len c.data;have l9:=hexL_len (datL c.data);have la:c.value.data.toList.length=c.value.size:=by rw [←B_size,B_of]
  cases h;exact Nat.le_trans (lensum _) (by simp only [ln0,ln1,lc,l0];omega)
 |2,_,h=>by
  unfold wordsOf at h;simp only at h;cases h0:whoOk c.who
  ·rw [h0]at h;cases h
  rw [h0,bif_t]at h;have l1:=who_len c.who;have l2:=num_len hF.f.hn;have l3:=num_len hF.f.hfl;have l4:=num_len hF.f.hsz;have l5:=way_len c.way;have l6:=store_len c.running;have l7:=form_len c.asBytes;have l8:=dat_len c.data;have l9:=hexL_len (datL c.data);have la:c.value.data.toList.length=c.value.size:=by rw [←B_size,B_of]
  cases h;exact Nat.le_trans (lensum _) (by simp only [ln0,ln1,lc,l0];omega)
 |3,_,h=>by
  unfold wordsOf at h;simp only at h;cases h0:whoOk c.who
  ·rw [h0]at h;cases h
  rw [h0,bif_t]at h;have l1:=who_len c.who;have l2:=num_len hF.f.hn;have l3:=num_len hF.f.hfl;have l4:=num_len hF.f.hsz;have l5:=way_len c.way;have l6:=store_len c.running;have l7:=form_len c.asBytes;have l8:=dat_len c.data;have l9:=hexL_len (datL c.data);have la:c.value.data.toList.length=c.value.size:=by rw [←B_size,B_of]
  cases h;exact Nat.le_trans (lensum _) (by simp only [ln0,ln1,lc,l0];omega)
 |4,_,h=>by
  unfold wordsOf at h;simp only at h;cases h0:whoOk c.who
  ·rw [h0]at h;cases h
  rw [h0,bif_t]at h;have l1:=who_len c.who;have l2:=num_len hF.f.hn;have l3:=num_len hF.f.hfl;have l4:=num_len hF.f.hsz;have l5:=way_len c.way;have l6:=store_len c.running;have l7:=form_len c.asBytes;have l8:=dat_len c.data;have l9:=hexL_len (datL c.data);have la:c.value.data.toList.length=c.value.size:=by rw [←B_size,B_of]
  cases h;exact Nat.le_trans (lensum _) (by simp only [ln0,ln1,lc,l0];omega)
 |5,_,h=>by
  unfold wordsOf at h;simp only at h;cases h0:whoOk c.who
  ·rw [h0]at h;cases h
  rw [h0,bif_t]at h;have l1:=who_len c.who;have l2:=num_len hF.f.hn;have l3:=num_len hF.f.hfl;have l4:=num_len hF.f.hsz;have l5:=way_len c.way;have l6:=store_len c.running;have l7:=form_len c.asBytes;have l8:=dat_len c.data;have l9:=hexL_len (datL c.data);have la:c.value.data.toList.length=c.value.size:=by rw [←B_size,B_of]
  cases h;exact Nat.le_trans (lensum _) (by simp only [ln0,ln1,lc,l0];omega)
 |6,_,h=>by
  unfold wordsOf at h;simp only at h;cases h0:whoOk c.who
  ·rw [h0]at h;cases h
  rw [h0,bif_t]at h;have l1:=who_len c.who;have l2:=num_len hF.f.hn;have l3:=num_len hF.f.hfl;have l4:=num_len hF.f.hsz;have l5:=way_len c.way;have l6:=store_len c.running;have l7:=form_len c.asBytes;have l8:=dat_len c.data;have l9:=hexL_len (datL c.data);have la:c.value.data.toList.length=c.value.size:=by rw [←B_size,B_of]
  cases h;exact Nat.le_trans (lensum _) (by simp only [ln0,ln1,lc,l0];omega)
 |7,_,h=>by
  unfold wordsOf at h;simp only at h;cases h0:whoOk c.who
  ·rw [h0]at h;cases h
  rw [h0,bif_t]at h;cases h1:wayOk c.way
  ·rw [h1]at h;cases h
  rw [h1,bif_t]at h;cases h2:Lex5.plainB c.value.data.toList
  ·rw [h2]at h;cases h
  rw [h2,bif_t]at h;have l1:=who_len c.who;have l2:=num_len hF.f.hn;have l3:=num_len hF.f.hfl;have l4:=num_len hF.f.hsz;have l5:=way_len c.way;have l6:=store_len c.running;have l7:=form_len c.asBytes;have l8:=dat_len c.data;have l9:=hexL_len (datL c.data);have la:c.value.data.toList.length=c.value.size:=by rw [←B_size,B_of]
  cases h;exact Nat.le_trans (lensum _) (by simp only [ln0,ln1,lc,l0];omega)
 |8,_,h=>by
  unfold wordsOf at h;simp only at h;cases h0:whoOk c.who
  ·rw [h0]at h;cases h
  rw [h0,bif_t]at h;cases h1:wayOk c.way
  ·rw [h1]at h;cases h
  rw [h1,bif_t]at h;have l1:=who_len c.who;have l2:=num_len hF.f.hn;have l3:=num_len hF.f.hfl;have l4:=num_len hF.f.hsz;have l5:=way_len c.way;have l6:=store_len c.running;have l7:=form_len c.asBytes;have l8:=dat_len c.data;have l9:=hexL_len (datL c.data);have la:c.value.data.toList.length=c.value.size:=by rw [←B_size,B_of]
  cases h;exact Nat.le_trans (lensum _) (by simp only [ln0,ln1,lc,l0];omega)
 |9,_,h=>by
  unfold wordsOf at h;simp only at h;cases h0:whoOk c.who
  ·rw [h0]at h;cases h
  rw [h0,bif_t]at h;have l1:=who_len c.who;have l2:=num_len hF.f.hn;have l3:=num_len hF.f.hfl;have l4:=num_len hF.f.hsz;have l5:=way_len c.way;have l6:=store_len c.running;have l7:=form_len c.asBytes;have l8:=dat_len c.data;have l9:=hexL_len (datL c.data);have la:c.value.data.toList.length=c.value.size:=by rw [←B_size,B_of]
  cases h;cases decide (0<c.n)<;>exact Nat.le_trans (lensum _) (by simp only [bif_t,bif_f,ln0,ln1,lc,l0];omega)
 |10,_,h=>by
  unfold wordsOf at h;simp only at h;cases h0:whoOk c.who
  ·rw [h0]at h;cases h
  rw [h0,bif_t]at h;have l1:=who_len c.who;have l2:=num_len hF.f.hn;have l3:=num_len hF.f.hfl;have l4:=num_len hF.f.hsz;have l5:=way_len c.way;have l6:=store_len c.running;have l7:=form_len c.asBytes;have l8:=dat_len c.data;have l9:=hexL_len (datL c.data);have la:c.value.data.toList.length=c.value.size:=by rw [←B_size,B_of]
  cases h;exact Nat.le_trans (lensum _) (by simp only [ln0,ln1,lc,l0];omega)
 |11,_,h=>by
  unfold wordsOf at h;simp only at h;cases h0:whoOk c.who
  ·rw [h0]at h;cases h
  rw [h0,bif_t]at h;have l1:=who_len c.who;have l2:=num_len hF.f.hn;have l3:=num_len hF.f.hfl;have l4:=num_len hF.f.hsz;have l5:=way_len c.way;have l6:=store_len c.running;have l7:=form_len c.asBytes;have l8:=dat_len c.data;have l9:=hexL_len (datL c.data);have la:c.value.data.toList.length=c.value.size:=by rw [←B_size,B_of]
  cases h;exact Nat.le_trans (lensum _) (by simp only [ln0,ln1,lc,l0];omega)
 |12,_,h=>by
  unfold wordsOf at h;simp only at h;cases h0:whoOk c.who
  ·rw [h0]at h;cases h
  rw [h0,bif_t]at h;have l1:=who_len c.who;have l2:=num_len hF.f.hn;have l3:=num_len hF.f.hfl;have l4:=num_len hF.f.hsz;have l5:=way_len c.way;have l6:=store_len c.running;have l7:=form_len c.asBytes;have l8:=dat_len c.data;have l9:=hexL_len (datL c.data);have la:c.value.data.toList.length=c.value.size:=by rw [←B_size,B_of]
  cases h;exact Nat.le_trans (lensum _) (by simp only [ln0,ln1,lc,l0];omega)
 |13,_,h=>by
  unfold wordsOf at h;simp only at h;cases h0:whoOk c.who
  ·rw [h0]at h;cases h
  rw [h0,bif_t]at h;have l1:=who_len c.who;have l2:=num_len hF.f.hn;have l3:=num_len hF.f.hfl;have l4:=num_len hF.f.hsz;have l5:=way_len c.way;have l6:=store_len c.running;have l7:=form_len c.asBytes;have l8:=dat_len c.data;have l9:=hexL_len (datL c.data);have la:c.value.data.toList.length=c.value.size:=by rw [←B_size,B_of]
  cases h;exact Nat.le_trans (lensum _) (by simp only [ln0,ln1,lc,l0];omega)
 |14,_,h=>by
  unfold wordsOf at h;simp only at h;cases h0:whoOk c.who
  ·rw [h0]at h;cases h
  rw [h0,bif_t]at h;have l1:=who_len c.who;have l2:=num_len hF.f.hn;have l3:=num_len hF.f.hfl;have l4:=num_len hF.f.hsz;have l5:=way_len c.way;have l6:=store_len c.running;have l7:=form_len c.asBytes;have l8:=dat_len c.data;have l9:=hexL_len (datL c.data);have la:c.value.data.toList.length=c.value.size:=by rw [←B_size,B_of]
  cases h;exact Nat.le_trans (lensum _) (by simp only [ln0,ln1,lc,l0];omega)
 |15,_,h=>by
  unfold wordsOf at h;simp only at h;cases h0:Pa15.idn c.port
  ·rw [h0]at h;cases h
  rw [h0,bif_t]at h;have l1:=who_len c.who;have l2:=num_len hF.f.hn;have l3:=num_len hF.f.hfl;have l4:=num_len hF.f.hsz;have l5:=way_len c.way;have l6:=store_len c.running;have l7:=form_len c.asBytes;have l8:=dat_len c.data;have l9:=hexL_len (datL c.data);have la:c.value.data.toList.length=c.value.size:=by rw [←B_size,B_of]
  have lb:=id_len h0;cases h;exact Nat.le_trans (lensum _) (by simp only [ln0,ln1,lc,l0];omega)
 |16,_,h=>by
  unfold wordsOf at h;simp only at h;have l1:=who_len c.who;have l2:=num_len hF.f.hn;have l3:=num_len hF.f.hfl;have l4:=num_len hF.f.hsz;have l5:=way_len c.way;have l6:=store_len c.running;have l7:=form_len c.asBytes;have l8:=dat_len c.data;have l9:=hexL_len (datL c.data);have la:c.value.data.toList.length=c.value.size:=by rw [←B_size,B_of]
  cases h;exact Nat.le_trans (lensum _) (by simp only [ln0,ln1,lc,l0];omega)
 |17,_,h=>by
  unfold wordsOf at h;simp only at h;cases h0:Pa15.idn c.port
  ·rw [h0]at h;cases h
  rw [h0,bif_t]at h;have l1:=who_len c.who;have l2:=num_len hF.f.hn;have l3:=num_len hF.f.hfl;have l4:=num_len hF.f.hsz;have l5:=way_len c.way;have l6:=store_len c.running;have l7:=form_len c.asBytes;have l8:=dat_len c.data;have l9:=hexL_len (datL c.data);have la:c.value.data.toList.length=c.value.size:=by rw [←B_size,B_of]
  have lb:=id_len h0;cases h;exact Nat.le_trans (lensum _) (by simp only [ln0,ln1,lc,l0];omega)
 |18,_,h=>by
  unfold wordsOf at h;simp only at h;cases h0:Pa15.idn c.port
  ·rw [h0]at h;cases h
  rw [h0,bif_t]at h;have l1:=who_len c.who;have l2:=num_len hF.f.hn;have l3:=num_len hF.f.hfl;have l4:=num_len hF.f.hsz;have l5:=way_len c.way;have l6:=store_len c.running;have l7:=form_len c.asBytes;have l8:=dat_len c.data;have l9:=hexL_len (datL c.data);have la:c.value.data.toList.length=c.value.size:=by rw [←B_size,B_of]
  have lb:=id_len h0;cases h;exact Nat.le_trans (lensum _) (by simp only [ln0,ln1,lc,l0];omega)
 |n+19,hj,_ =>absurd hj (by omega)
theorem rline_eq{κ:Nat}(hκ:40000≤κ)(c:WordsCmd)(hF:FitR κ c):r33_Line κ c.kind c.who c.way c.value c.n c.running c.asBytes c.port c.flow c.size (B (datL c.data))=some (lineB c):=by
 have hr:=rright_eq hκ c hF;cases h:rightB c with
 |false=>
  unfold r33_Line;rw [hr,h];have:lineB c=B []:=by
   unfold lineB;split
   ·rw [h];rfl
   ·rfl
  rw [this];rfl
 |true=>
  obtain⟨j,l,v⟩:=right_vl hF.f h;rw [v.right.2];obtain⟨ws,h1,h2⟩:=v.ws;rw [h,v.kind]at hr;rw [v.kind,←h2];exact rline hκ c hF j v.lt hr h1
theorem awake_k{κ:Nat}(hκ:40000≤κ):l33_awake κ=some true:=by
 obtain⟨k,rfl⟩:∃k,κ=k+40000:=⟨κ-40000,by omega⟩
 kernel_rfl
theorem seq_self(a:ByteArray):seq a a=true:=by simp [seq]
theorem WordsLines_eq{κ:Nat}(hκ:40000≤κ)(c d:WordsCmd)(hc:c.data.length≤3000→FitC c)(hf:Pa15.Fits κ c.way):
  l33_WordsLines κ c.kind c.who c.way c.value c.n c.running c.asBytes c.port c.flow c.size c.data d.kind d.who d.way d.value d.n d.running d.asBytes d.port d.flow d.size d.data=some true:=by
 unfold l33_WordsLines l33_WordsLines.v0;rw [awake_k hκ];simp only [Option.bind_some,Bool.not_true,bif_f];by_cases h1:c.way.length≤20
 case neg=>rw [show decide (((List.length c.way:Nat):Int)>20)=true from decide_eq_true (by omega)];rfl
 rw [show decide (((List.length c.way:Nat):Int)>20)=false from decide_eq_false (by omega)];by_cases h2:d.way.length≤20
 case neg=>rw [show decide (((List.length d.way:Nat):Int)>20)=true from decide_eq_true (by omega)];rfl
 rw [show decide (((List.length d.way:Nat):Int)>20)=false from decide_eq_false (by omega)];by_cases h3:c.data.length≤3000
 case neg=>rw [show decide (((List.length c.data:Nat):Int)>3000)=true from decide_eq_true (by omega)];rfl
 rw [show decide (((List.length c.data:Nat):Int)>3000)=false from decide_eq_false (by omega)];by_cases h4:d.data.length≤3000
 case neg=>rw [show decide (((List.length d.data:Nat):Int)>3000)=true from decide_eq_true (by omega)];rfl
 rw [show decide (((List.length d.data:Nat):Int)>3000)=false from decide_eq_false (by omega)];by_cases h5:c.value.size≤200
 case neg=>rw [show decide (((c.value.size:Nat):Int)>200)=true from decide_eq_true (by omega)];rfl
 rw [show decide (((c.value.size:Nat):Int)>200)=false from decide_eq_false (by omega)];by_cases h6:c.port.size≤200
 case neg=>rw [show decide (((c.port.size:Nat):Int)>200)=true from decide_eq_true (by omega)];rfl
 rw [show decide (((c.port.size:Nat):Int)>200)=false from decide_eq_false (by omega)];have fc:=hc h3;have fr:FitR κ c:=⟨fc,by omega,by omega,by omega,hf⟩
 simp only [bif_f,Option.bind_some];rw [line_eq hκ c fc,right_eq hκ c fc];simp only [Option.bind_some];unfold l33_WordsLines.v2;rw [show∀l:List Int,ByteArray.mk (List.toArray (List.map (fun x=>UInt8.ofNat (Int.toNat x)) l))=B (datL l)from fun _ =>rfl,rright_eq hκ c fr];simp only [Option.bind_some,beq_self_eq_true,Bool.not_true,bif_f];rw [rline_eq hκ c fr];simp only [Option.bind_some,seq_self,Bool.not_true,bif_f];rw [same_eq c d (by omega) (by omega)];simp only [Option.bind_some];rw [show ByteArray.mk (List.toArray (List.map (fun x=>UInt8.ofNat (Int.toNat x)) d.data))=B (datL d.data)from rfl,refsame_eq c d (by omega) (by omega)];simp only [Option.bind_some,beq_self_eq_true,Bool.not_true,bif_f];cases hr:rightB c with
 |false=>
  have:lineB c=B []:=by
   unfold lineB;split
   ·rw [hr];rfl
   ·rfl
  rw [this,Parse_eq hκ [] (by simp)];rfl
 |true=>
  obtain⟨j,l,v⟩:=right_vl fc hr;obtain⟨ws,w1,w2⟩:=v.ws;have hl:l.length≤7000:=by rw [←w2];exact short fc (by omega) h3 j v.lt w1
  rw [v.right.2,Parse_eq hκ l hl,first_of hκ hl v fc];simp only [Option.bind_some,ParseR];unfold l33_WordsLines.v4;rw [show∀l:List Int,ByteArray.mk (List.toArray (List.map (fun x=>UInt8.ofNat (Int.toNat x)) l))=B (datL l)from fun _ =>rfl,refsame_eq c c (by omega) (by omega),same_self];rfl
def bigW:List ApiStep→Nat
 |[]=>0
 |x::l=>x.name.size+x.key.size+bigW l
theorem bigW_le:∀(l:List ApiStep) (x:ApiStep),x∈l→x.name.size+x.key.size≤bigW l
 |[],_,h=>by cases h
 |y::l,x,h=>by
  unfold bigW;rcases List.mem_cons.1 h with rfl|h
  ·omega
  ·have:=bigW_le l x h;omega
theorem WordsLines_row(c:WordsCmd){K1 K2 K5 K6:Prop}{n n':Nat}(wc:K1∧K2∧(WfL n' (fun x:ApiStep=>x.name.size≤140737488351232∧x.key.size≤140737488351232) c.way)∧(c.value.size≤140737488351232)∧((Lit.int .u64 c.n).wf=true)∧K5∧K6∧(c.port.size≤140737488351232)∧((Lit.int .u64 c.flow).wf=true)∧((Lit.int .u64 c.size).wf=true)∧(WfL n (fun y=>(Lit.int .u8 y).wf=true) c.data))
  (d:WordsCmd) {L:Prop} (wd:L):
  l33_WordsLines (bigW c.way+40000) c.kind c.who c.way c.value c.n c.running c.asBytes c.port c.flow c.size c.data d.kind d.who d.way d.value d.n d.running d.asBytes d.port d.flow d.size d.data=some true:=by
 refine WordsLines_eq (by omega) c d (fun h=>fitC_row wc (by omega)) fun x hx=> ?_
 have h1:=bigW_le c.way x hx;have h2:=wc.2.2.1.2.2 x hx;omega
end Go.Proofs.YtdoifigogbdodaaGreatDoor.Wo
