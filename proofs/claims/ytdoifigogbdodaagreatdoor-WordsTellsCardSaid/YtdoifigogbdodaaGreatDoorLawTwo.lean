import Derived.Test.YtdoifigogbdodaaGreatDoorLawOne
set_option linter.unusedVariables false
set_option linter.unusedSimpArgs false
set_option maxHeartbeats 1000000
namespace Go.Proofs.YtdoifigogbdodaaGreatDoor.Wo
open Go Ev Ev.Seat Go.Lib
structure qJ(c:zM):Prop where
 f:Fit c.zg c.value c.n c.zm c.size c.data
 d:c.data.length≤7000
structure GF(l:List UInt8)(c:zM):Prop where
 n:0≤c.n∧c.n<18446744073709551616
 fl:0≤c.zm∧c.zm<18446744073709551616
 sz:0≤c.size∧c.size<18446744073709551616
 val:c.value.size≤l.length
 y1:c.data.length≤l.length
 byt:Byt c.data
theorem yM(w:Int)(x:UInt8)(r:List UInt8)(h:57<x.toNat):(y5 w==x::r)=false:=by
 rw [beq_eq_false_iff_ne];intro e;have:=(Va8.zS4 (IntKind.u64.wrap w).toNat x (by rw [show decDigits (IntKind.u64.wrap w).toNat=x::r from e];simp)).2;omega
theorem yf:(0:Int)≤0∧(0:Int)<18446744073709551616:=by decide
def kd(l:List UInt8):Nat:=
 bif (zX l).1==[112,97,99,107,101,116]then 15 else bif (zX l).1==[116,105,99,107]then 16 else bif (zX l).1==[110,101,120,116]then 17 else bif (zX l).1==[100,117,109,112]then 18 else bif (zX (zX l).2.1).1==[108,111,99,107]then 0 else bif (zX (zX l).2.1).1==[117,110,108,111,99,107]then 1 else bif (zX (zX l).2.1).1==[100,105,115,99,97,114,100]then 2 else bif (zX (zX l).2.1).1==[99,104,101,99,107]then 3 else bif (zX (zX l).2.1).1==[99,111,110,102,105,114,109]then 4 else bif (zX (zX l).2.1).1==[99,97,110,99,101,108]then 5 else bif (zX (zX l).2.1).1==[115,97,118,101]then 6 else bif (zX (zX l).2.1).1==[115,101,116]then 7 else bif (zX (zX l).2.1).1==[100,101,108]then 8 else bif (zX (zX l).2.1).1==[99,111,109,109,105,116]then 9 else bif (zX (zX l).2.1).1==[114,111,108,108,98,97,99,107]then 10 else bif (zX (zX l).2.1).1==[112,114,117,110,101]then 11 else bif (zX (zX l).2.1).1==[115,104,111,119]then 12 else bif (zX (zX l).2.1).1==[108,111,97,100]then(bif (zX (zX (zX l).2.1).2.1).1==[116,101,120,116]then 13 else 14)else 19
theorem zo1{κ:Nat}(hκ:40000≤κ)(c:zM)(hF:qJ c){ws:List (List UInt8)}(h:zJ 0 c.zR c.zg c.value c.n c.running c.zO c.port c.zm c.size c.data=some ws):zA κ 0 (B (Lib.join ws [32]))=some (qf 0 (some (zx 0 c)))∧Lib.join ws [32]≠[]∧kd (Lib.join ws [32])=0:=by
 have hrt:=rt0 hκ c hF.f h;unfold zJ at h;simp only at h;cases h0:zk c.zR
 ·rw [h0]at h;cases h
 rw [h0]at h;simp only [zH]at h;cases h;have:=hF.d;have:=z8 c.zR;have hc0:=fun X=>zV (a:=y5 c.zR) X (yJ _)
 have hc1:=wA (a:=[108,111,99,107]) (by decide);refine⟨?_, ?_, ?_⟩
 ·rw [zfU hκ _ (Nat.le_trans (yP _) (by simp only [kl,ki,lc,l0];omega)),hrt]
 ·rw [j2];intro e;exact je _ (List.append_eq_nil_iff.1 e).1
 ·unfold kd
  simp only [j1,j2,hc0,hc1,yM c.zR _ _ (by decide:57<(112:UInt8).toNat),yM c.zR _ _ (by decide:57<(116:UInt8).toNat),yM c.zR _ _ (by decide:57<(110:UInt8).toNat),yM c.zR _ _ (by decide:57<(100:UInt8).toNat),zK]
  try rfl
theorem zoC(c:zM)(hF:qJ c){ws:List (List UInt8)}(h:zJ 0 c.zR c.zg c.value c.n c.running c.zO c.port c.zm c.size c.data=some ws):(Lib.join ws [32]).length≤140737488353000:=by
 unfold zJ at h;simp only at h;cases h0:zk c.zR
 ·rw [h0]at h;cases h
 rw [h0]at h;simp only [zH]at h;cases h;have:=hF.d;have:=z8 c.zR;exact Nat.le_trans (yP _) (by simp only [kl,ki,lc,l0];omega)
theorem zov{κ:Nat}(l:List UInt8)(c:zM)(h:qp κ false (zd 0) l (zt 0)=some c):c.kind=0∧zx 0 c=c∧GF l c:=by
 unfold zd zt at h;simp only [qp,wo]at h;have hl0:=zU l;generalize zX l=q0 at h hl0;obtain⟨a0,l1,m0⟩:=q0;simp only at h hl0;have hu0:=qb a0;generalize uR a0=u0 at hu0 h;obtain⟨x0,d0⟩:=u0;simp only at hu0 h;cases d0
 ·cases h
 try simp only [zH,zK]at h
 cases m0
 ·first|(cases h;done)|(simp only [zK,gW,List.isEmpty_cons,Bool.and_false,Bool.false_and,Bool.and_self]at h;cases h;done)
 try simp only [zH]at h
 generalize decide (l1=[108,111,99,107])=d1 at h;cases d1
 ·cases h
 try simp only [zH,zK]at h
 cases h;exact⟨rfl,rfl,⟨yf,yf,yf,(Nat.zero_le _),(Nat.zero_le _),(fun x hx=>by cases hx)⟩⟩
theorem zot{κ:Nat}(hκ:40000≤κ)(c:zM)(hF:qJ c){ws:List (List UInt8)}(h:zJ 1 c.zR c.zg c.value c.n c.running c.zO c.port c.zm c.size c.data=some ws):zA κ 1 (B (Lib.join ws [32]))=some (qf 1 (some (zx 1 c)))∧Lib.join ws [32]≠[]∧kd (Lib.join ws [32])=1:=by
 have hrt:=rt1 hκ c hF.f h;unfold zJ at h;simp only at h;cases h0:zk c.zR
 ·rw [h0]at h;cases h
 rw [h0]at h;simp only [zH]at h;cases h;have:=hF.d;have:=z8 c.zR;have hc0:=fun X=>zV (a:=y5 c.zR) X (yJ _)
 have hc1:=wA (a:=[117,110,108,111,99,107]) (by decide);refine⟨?_, ?_, ?_⟩
 ·rw [zc8 hκ _ (Nat.le_trans (yP _) (by simp only [kl,ki,lc,l0];omega)),hrt]
 ·rw [j2];intro e;exact je _ (List.append_eq_nil_iff.1 e).1
 ·unfold kd
  simp only [j1,j2,hc0,hc1,yM c.zR _ _ (by decide:57<(112:UInt8).toNat),yM c.zR _ _ (by decide:57<(116:UInt8).toNat),yM c.zR _ _ (by decide:57<(110:UInt8).toNat),yM c.zR _ _ (by decide:57<(100:UInt8).toNat),zK]
  try rfl
theorem zoD(c:zM)(hF:qJ c){ws:List (List UInt8)}(h:zJ 1 c.zR c.zg c.value c.n c.running c.zO c.port c.zm c.size c.data=some ws):(Lib.join ws [32]).length≤140737488353000:=by
 unfold zJ at h;simp only at h;cases h0:zk c.zR
 ·rw [h0]at h;cases h
 rw [h0]at h;simp only [zH]at h;cases h;have:=hF.d;have:=z8 c.zR;exact Nat.le_trans (yP _) (by simp only [kl,ki,lc,l0];omega)
theorem zoG{κ:Nat}(l:List UInt8)(c:zM)(h:qp κ false (zd 1) l (zt 1)=some c):c.kind=1∧zx 1 c=c∧GF l c:=by
 unfold zd zt at h;simp only [qp,wo]at h;have hl0:=zU l;generalize zX l=q0 at h hl0;obtain⟨a0,l1,m0⟩:=q0;simp only at h hl0;have hu0:=qb a0;generalize uR a0=u0 at hu0 h;obtain⟨x0,d0⟩:=u0;simp only at hu0 h;cases d0
 ·cases h
 try simp only [zH,zK]at h
 cases m0
 ·first|(cases h;done)|(simp only [zK,gW,List.isEmpty_cons,Bool.and_false,Bool.false_and,Bool.and_self]at h;cases h;done)
 try simp only [zH]at h
 generalize decide (l1=[117,110,108,111,99,107])=d1 at h;cases d1
 ·cases h
 try simp only [zH,zK]at h
 cases h;exact⟨rfl,rfl,⟨yf,yf,yf,(Nat.zero_le _),(Nat.zero_le _),(fun x hx=>by cases hx)⟩⟩
theorem zoo{κ:Nat}(hκ:40000≤κ)(c:zM)(hF:qJ c){ws:List (List UInt8)}(h:zJ 2 c.zR c.zg c.value c.n c.running c.zO c.port c.zm c.size c.data=some ws):zA κ 2 (B (Lib.join ws [32]))=some (qf 2 (some (zx 2 c)))∧Lib.join ws [32]≠[]∧kd (Lib.join ws [32])=2:=by
 have hrt:=rt2 hκ c hF.f h;unfold zJ at h;simp only at h;cases h0:zk c.zR
 ·rw [h0]at h;cases h
 rw [h0]at h;simp only [zH]at h;cases h;have:=hF.d;have:=z8 c.zR;have hc0:=fun X=>zV (a:=y5 c.zR) X (yJ _)
 have hc1:=wA (a:=[100,105,115,99,97,114,100]) (by decide);refine⟨?_, ?_, ?_⟩
 ·rw [zdb hκ _ (Nat.le_trans (yP _) (by simp only [kl,ki,lc,l0];omega)),hrt]
 ·rw [j2];intro e;exact je _ (List.append_eq_nil_iff.1 e).1
 ·unfold kd
  simp only [j1,j2,hc0,hc1,yM c.zR _ _ (by decide:57<(112:UInt8).toNat),yM c.zR _ _ (by decide:57<(116:UInt8).toNat),yM c.zR _ _ (by decide:57<(110:UInt8).toNat),yM c.zR _ _ (by decide:57<(100:UInt8).toNat),zK]
  try rfl
theorem zox(c:zM)(hF:qJ c){ws:List (List UInt8)}(h:zJ 2 c.zR c.zg c.value c.n c.running c.zO c.port c.zm c.size c.data=some ws):(Lib.join ws [32]).length≤140737488353000:=by
 unfold zJ at h;simp only at h;cases h0:zk c.zR
 ·rw [h0]at h;cases h
 rw [h0]at h;simp only [zH]at h;cases h;have:=hF.d;have:=z8 c.zR;exact Nat.le_trans (yP _) (by simp only [kl,ki,lc,l0];omega)
theorem zoI{κ:Nat}(l:List UInt8)(c:zM)(h:qp κ false (zd 2) l (zt 2)=some c):c.kind=2∧zx 2 c=c∧GF l c:=by
 unfold zd zt at h;simp only [qp,wo]at h;have hl0:=zU l;generalize zX l=q0 at h hl0;obtain⟨a0,l1,m0⟩:=q0;simp only at h hl0;have hu0:=qb a0;generalize uR a0=u0 at hu0 h;obtain⟨x0,d0⟩:=u0;simp only at hu0 h;cases d0
 ·cases h
 try simp only [zH,zK]at h
 cases m0
 ·first|(cases h;done)|(simp only [zK,gW,List.isEmpty_cons,Bool.and_false,Bool.false_and,Bool.and_self]at h;cases h;done)
 try simp only [zH]at h
 generalize decide (l1=[100,105,115,99,97,114,100])=d1 at h;cases d1
 ·cases h
 try simp only [zH,zK]at h
 cases h;exact⟨rfl,rfl,⟨yf,yf,yf,(Nat.zero_le _),(Nat.zero_le _),(fun x hx=>by cases hx)⟩⟩
theorem zoL{κ:Nat}(hκ:40000≤κ)(c:zM)(hF:qJ c){ws:List (List UInt8)}(h:zJ 3 c.zR c.zg c.value c.n c.running c.zO c.port c.zm c.size c.data=some ws):zA κ 3 (B (Lib.join ws [32]))=some (qf 3 (some (zx 3 c)))∧Lib.join ws [32]≠[]∧kd (Lib.join ws [32])=3:=by
 have hrt:=rt3 hκ c hF.f h;unfold zJ at h;simp only at h;cases h0:zk c.zR
 ·rw [h0]at h;cases h
 rw [h0]at h;simp only [zH]at h;cases h;have:=hF.d;have:=z8 c.zR;have hc0:=fun X=>zV (a:=y5 c.zR) X (yJ _)
 have hc1:=wA (a:=[99,104,101,99,107]) (by decide);refine⟨?_, ?_, ?_⟩
 ·rw [zdG hκ _ (Nat.le_trans (yP _) (by simp only [kl,ki,lc,l0];omega)),hrt]
 ·rw [j2];intro e;exact je _ (List.append_eq_nil_iff.1 e).1
 ·unfold kd
  simp only [j1,j2,hc0,hc1,yM c.zR _ _ (by decide:57<(112:UInt8).toNat),yM c.zR _ _ (by decide:57<(116:UInt8).toNat),yM c.zR _ _ (by decide:57<(110:UInt8).toNat),yM c.zR _ _ (by decide:57<(100:UInt8).toNat),zK]
  try rfl
theorem zo2(c:zM)(hF:qJ c){ws:List (List UInt8)}(h:zJ 3 c.zR c.zg c.value c.n c.running c.zO c.port c.zm c.size c.data=some ws):(Lib.join ws [32]).length≤140737488353000:=by
 unfold zJ at h;simp only at h;cases h0:zk c.zR
 ·rw [h0]at h;cases h
 rw [h0]at h;simp only [zH]at h;cases h;have:=hF.d;have:=z8 c.zR;exact Nat.le_trans (yP _) (by simp only [kl,ki,lc,l0];omega)
theorem zoS{κ:Nat}(l:List UInt8)(c:zM)(h:qp κ false (zd 3) l (zt 3)=some c):c.kind=3∧zx 3 c=c∧GF l c:=by
 unfold zd zt at h;simp only [qp,wo]at h;have hl0:=zU l;generalize zX l=q0 at h hl0;obtain⟨a0,l1,m0⟩:=q0;simp only at h hl0;have hu0:=qb a0;generalize uR a0=u0 at hu0 h;obtain⟨x0,d0⟩:=u0;simp only at hu0 h;cases d0
 ·cases h
 try simp only [zH,zK]at h
 cases m0
 ·first|(cases h;done)|(simp only [zK,gW,List.isEmpty_cons,Bool.and_false,Bool.false_and,Bool.and_self]at h;cases h;done)
 try simp only [zH]at h
 generalize decide (l1=[99,104,101,99,107])=d1 at h;cases d1
 ·cases h
 try simp only [zH,zK]at h
 cases h;exact⟨rfl,rfl,⟨yf,yf,yf,(Nat.zero_le _),(Nat.zero_le _),(fun x hx=>by cases hx)⟩⟩
theorem zoA{κ:Nat}(hκ:40000≤κ)(c:zM)(hF:qJ c){ws:List (List UInt8)}(h:zJ 4 c.zR c.zg c.value c.n c.running c.zO c.port c.zm c.size c.data=some ws):zA κ 4 (B (Lib.join ws [32]))=some (qf 4 (some (zx 4 c)))∧Lib.join ws [32]≠[]∧kd (Lib.join ws [32])=4:=by
 have hrt:=rt4 hκ c hF.f h;unfold zJ at h;simp only at h;cases h0:zk c.zR
 ·rw [h0]at h;cases h
 rw [h0]at h;simp only [zH]at h;cases h;have:=hF.d;have:=z8 c.zR;have hc0:=fun X=>zV (a:=y5 c.zR) X (yJ _)
 have hc1:=wA (a:=[99,111,110,102,105,114,109]) (by decide);refine⟨?_, ?_, ?_⟩
 ·rw [zei hκ _ (Nat.le_trans (yP _) (by simp only [kl,ki,lc,l0];omega)),hrt]
 ·rw [j2];intro e;exact je _ (List.append_eq_nil_iff.1 e).1
 ·unfold kd
  simp only [j1,j2,hc0,hc1,yM c.zR _ _ (by decide:57<(112:UInt8).toNat),yM c.zR _ _ (by decide:57<(116:UInt8).toNat),yM c.zR _ _ (by decide:57<(110:UInt8).toNat),yM c.zR _ _ (by decide:57<(100:UInt8).toNat),zK]
  try rfl
theorem zo4(c:zM)(hF:qJ c){ws:List (List UInt8)}(h:zJ 4 c.zR c.zg c.value c.n c.running c.zO c.port c.zm c.size c.data=some ws):(Lib.join ws [32]).length≤140737488353000:=by
 unfold zJ at h;simp only at h;cases h0:zk c.zR
 ·rw [h0]at h;cases h
 rw [h0]at h;simp only [zH]at h;cases h;have:=hF.d;have:=z8 c.zR;exact Nat.le_trans (yP _) (by simp only [kl,ki,lc,l0];omega)
theorem zoi{κ:Nat}(l:List UInt8)(c:zM)(h:qp κ false (zd 4) l (zt 4)=some c):c.kind=4∧zx 4 c=c∧GF l c:=by
 unfold zd zt at h;simp only [qp,wo]at h;have hl0:=zU l;generalize zX l=q0 at h hl0;obtain⟨a0,l1,m0⟩:=q0;simp only at h hl0;have hu0:=qb a0;generalize uR a0=u0 at hu0 h;obtain⟨x0,d0⟩:=u0;simp only at hu0 h;cases d0
 ·cases h
 try simp only [zH,zK]at h
 cases m0
 ·first|(cases h;done)|(simp only [zK,gW,List.isEmpty_cons,Bool.and_false,Bool.false_and,Bool.and_self]at h;cases h;done)
 try simp only [zH]at h
 generalize decide (l1=[99,111,110,102,105,114,109])=d1 at h;cases d1
 ·cases h
 try simp only [zH,zK]at h
 cases h;exact⟨rfl,rfl,⟨yf,yf,yf,(Nat.zero_le _),(Nat.zero_le _),(fun x hx=>by cases hx)⟩⟩
theorem zom{κ:Nat}(hκ:40000≤κ)(c:zM)(hF:qJ c){ws:List (List UInt8)}(h:zJ 5 c.zR c.zg c.value c.n c.running c.zO c.port c.zm c.size c.data=some ws):zA κ 5 (B (Lib.join ws [32]))=some (qf 5 (some (zx 5 c)))∧Lib.join ws [32]≠[]∧kd (Lib.join ws [32])=5:=by
 have hrt:=rt5 hκ c hF.f h;unfold zJ at h;simp only at h;cases h0:zk c.zR
 ·rw [h0]at h;cases h
 rw [h0]at h;simp only [zH]at h;cases h;have:=hF.d;have:=z8 c.zR;have hc0:=fun X=>zV (a:=y5 c.zR) X (yJ _)
 have hc1:=wA (a:=[99,97,110,99,101,108]) (by decide);refine⟨?_, ?_, ?_⟩
 ·rw [zfG hκ _ (Nat.le_trans (yP _) (by simp only [kl,ki,lc,l0];omega)),hrt]
 ·rw [j2];intro e;exact je _ (List.append_eq_nil_iff.1 e).1
 ·unfold kd
  simp only [j1,j2,hc0,hc1,yM c.zR _ _ (by decide:57<(112:UInt8).toNat),yM c.zR _ _ (by decide:57<(116:UInt8).toNat),yM c.zR _ _ (by decide:57<(110:UInt8).toNat),yM c.zR _ _ (by decide:57<(100:UInt8).toNat),zK]
  try rfl
theorem zoP(c:zM)(hF:qJ c){ws:List (List UInt8)}(h:zJ 5 c.zR c.zg c.value c.n c.running c.zO c.port c.zm c.size c.data=some ws):(Lib.join ws [32]).length≤140737488353000:=by
 unfold zJ at h;simp only at h;cases h0:zk c.zR
 ·rw [h0]at h;cases h
 rw [h0]at h;simp only [zH]at h;cases h;have:=hF.d;have:=z8 c.zR;exact Nat.le_trans (yP _) (by simp only [kl,ki,lc,l0];omega)
theorem zob{κ:Nat}(l:List UInt8)(c:zM)(h:qp κ false (zd 5) l (zt 5)=some c):c.kind=5∧zx 5 c=c∧GF l c:=by
 unfold zd zt at h;simp only [qp,wo]at h;have hl0:=zU l;generalize zX l=q0 at h hl0;obtain⟨a0,l1,m0⟩:=q0;simp only at h hl0;have hu0:=qb a0;generalize uR a0=u0 at hu0 h;obtain⟨x0,d0⟩:=u0;simp only at hu0 h;cases d0
 ·cases h
 try simp only [zH,zK]at h
 cases m0
 ·first|(cases h;done)|(simp only [zK,gW,List.isEmpty_cons,Bool.and_false,Bool.false_and,Bool.and_self]at h;cases h;done)
 try simp only [zH]at h
 generalize decide (l1=[99,97,110,99,101,108])=d1 at h;cases d1
 ·cases h
 try simp only [zH,zK]at h
 cases h;exact⟨rfl,rfl,⟨yf,yf,yf,(Nat.zero_le _),(Nat.zero_le _),(fun x hx=>by cases hx)⟩⟩
theorem zoX{κ:Nat}(hκ:40000≤κ)(c:zM)(hF:qJ c){ws:List (List UInt8)}(h:zJ 6 c.zR c.zg c.value c.n c.running c.zO c.port c.zm c.size c.data=some ws):zA κ 6 (B (Lib.join ws [32]))=some (qf 6 (some (zx 6 c)))∧Lib.join ws [32]≠[]∧kd (Lib.join ws [32])=6:=by
 have hrt:=rt6 hκ c hF.f h;unfold zJ at h;simp only at h;cases h0:zk c.zR
 ·rw [h0]at h;cases h
 rw [h0]at h;simp only [zH]at h;cases h;have:=hF.d;have:=z8 c.zR;have hc0:=fun X=>zV (a:=y5 c.zR) X (yJ _)
 have hc1:=wA (a:=[115,97,118,101]) (by decide);refine⟨?_, ?_, ?_⟩
 ·rw [zd0 hκ _ (Nat.le_trans (yP _) (by simp only [kl,ki,lc,l0];omega)),hrt]
 ·rw [j2];intro e;exact je _ (List.append_eq_nil_iff.1 e).1
 ·unfold kd
  simp only [j1,j2,hc0,hc1,yM c.zR _ _ (by decide:57<(112:UInt8).toNat),yM c.zR _ _ (by decide:57<(116:UInt8).toNat),yM c.zR _ _ (by decide:57<(110:UInt8).toNat),yM c.zR _ _ (by decide:57<(100:UInt8).toNat),zK]
  try rfl
theorem zoZ(c:zM)(hF:qJ c){ws:List (List UInt8)}(h:zJ 6 c.zR c.zg c.value c.n c.running c.zO c.port c.zm c.size c.data=some ws):(Lib.join ws [32]).length≤140737488353000:=by
 unfold zJ at h;simp only at h;cases h0:zk c.zR
 ·rw [h0]at h;cases h
 rw [h0]at h;simp only [zH]at h;cases h;have:=hF.d;have:=z8 c.zR;exact Nat.le_trans (yP _) (by simp only [kl,ki,lc,l0];omega)
theorem zn9{κ:Nat}(l:List UInt8)(c:zM)(h:qp κ false (zd 6) l (zt 6)=some c):c.kind=6∧zx 6 c=c∧GF l c:=by
 unfold zd zt at h;simp only [qp,wo]at h;have hl0:=zU l;generalize zX l=q0 at h hl0;obtain⟨a0,l1,m0⟩:=q0;simp only at h hl0;have hu0:=qb a0;generalize uR a0=u0 at hu0 h;obtain⟨x0,d0⟩:=u0;simp only at hu0 h;cases d0
 ·cases h
 try simp only [zH,zK]at h
 cases m0
 ·first|(cases h;done)|(simp only [zK,gW,List.isEmpty_cons,Bool.and_false,Bool.false_and,Bool.and_self]at h;cases h;done)
 try simp only [zH]at h
 generalize decide (l1=[115,97,118,101])=d1 at h;cases d1
 ·cases h
 try simp only [zH,zK]at h
 cases h;exact⟨rfl,rfl,⟨yf,yf,yf,(Nat.zero_le _),(Nat.zero_le _),(fun x hx=>by cases hx)⟩⟩
theorem zoY{κ:Nat}(hκ:40000≤κ)(c:zM)(hF:qJ c){ws:List (List UInt8)}(h:zJ 7 c.zR c.zg c.value c.n c.running c.zO c.port c.zm c.size c.data=some ws):zA κ 7 (B (Lib.join ws [32]))=some (qf 7 (some (zx 7 c)))∧Lib.join ws [32]≠[]∧kd (Lib.join ws [32])=7:=by
 have hrt:=rt7 hκ c hF.f h;unfold zJ at h;simp only at h;cases h0:zk c.zR
 ·rw [h0]at h;cases h
 rw [h0]at h;simp only [zH]at h;cases h1:qT c.zg
 ·rw [h1]at h;cases h
 rw [h1]at h;simp only [zH]at h;cases h2:Lex5.qa c.value.data.toList
 ·rw [h2]at h;cases h
 rw [h2]at h;simp only [zH]at h;cases h;have:=hF.d;have:=z8 c.zR;have:=zBT c.zg;have:c.value.data.toList.length≤140737488351232:=hF.f.zPn;have hc0:=fun X=>zV (a:=y5 c.zR) X (yJ _)
 have hc1:=fun X=>zV (a:=[115,101,116]) X (by decide)
 have hc2:=fun X=>zV (a:=zCb c.zg) X (zCu _)
 refine⟨?_, ?_, ?_⟩
 ·rw [zdY hκ _ (Nat.le_trans (yP _) (by simp only [kl,ki,lc,l0];omega)) (by simp only [j2,hc0];omega) (by simp only [j1,j2,hc0,hc1,hc2];omega) (by simp only [j1,j2,hc0,hc1,hc2];omega),hrt]
 ·rw [j2];intro e;exact je _ (List.append_eq_nil_iff.1 e).1
 ·unfold kd
  simp only [j1,j2,hc0,hc1,hc2,yM c.zR _ _ (by decide:57<(112:UInt8).toNat),yM c.zR _ _ (by decide:57<(116:UInt8).toNat),yM c.zR _ _ (by decide:57<(110:UInt8).toNat),yM c.zR _ _ (by decide:57<(100:UInt8).toNat),zK]
  try rfl
theorem zoV(c:zM)(hF:qJ c){ws:List (List UInt8)}(h:zJ 7 c.zR c.zg c.value c.n c.running c.zO c.port c.zm c.size c.data=some ws):(Lib.join ws [32]).length≤140737488353000:=by
 unfold zJ at h;simp only at h;cases h0:zk c.zR
 ·rw [h0]at h;cases h
 rw [h0]at h;simp only [zH]at h;cases h1:qT c.zg
 ·rw [h1]at h;cases h
 rw [h1]at h;simp only [zH]at h;cases h2:Lex5.qa c.value.data.toList
 ·rw [h2]at h;cases h
 rw [h2]at h;simp only [zH]at h;cases h;have:=hF.d;have:=z8 c.zR;have:=zBT c.zg;have:c.value.data.toList.length≤140737488351232:=hF.f.zPn;exact Nat.le_trans (yP _) (by simp only [kl,ki,lc,l0];omega)
theorem zoy{κ:Nat}(l:List UInt8)(c:zM)(h:qp κ false (zd 7) l (zt 7)=some c):c.kind=7∧zx 7 c=c∧GF l c:=by
 unfold zd zt at h;simp only [qp,wo]at h;have hl0:=zU l;generalize zX l=q0 at h hl0;obtain⟨a0,l1,m0⟩:=q0;simp only at h hl0;have hu0:=qb a0;generalize uR a0=u0 at hu0 h;obtain⟨x0,d0⟩:=u0;simp only at hu0 h;cases d0
 ·cases h
 try simp only [zH,zK]at h
 cases m0
 ·first|(cases h;done)|(simp only [zK,gW,List.isEmpty_cons,Bool.and_false,Bool.false_and,Bool.and_self]at h;cases h;done)
 try simp only [zH]at h
 have hl1:=zU l1;generalize zX l1=q1 at h hl1;obtain⟨a1,l2,m1⟩:=q1;simp only at h hl1;generalize decide (a1=[115,101,116])=d1 at h;cases d1
 ·cases h
 try simp only [zH,zK]at h
 cases m1
 ·first|(cases h;done)|(simp only [zK,gW,List.isEmpty_cons,Bool.and_false,Bool.false_and,Bool.and_self]at h;cases h;done)
 try simp only [zH]at h
 have hl2:=zU l2;generalize zX l2=q2 at h hl2;obtain⟨a2,l3,m2⟩:=q2;simp only at h hl2;generalize ((zRS κ a2).1==0)=d2 at h;cases d2
 ·cases h
 try simp only [zH,zK]at h
 cases m2
 ·first|(cases h;done)|(simp only [zK,gW,List.isEmpty_cons,Bool.and_false,Bool.false_and,Bool.and_self]at h;cases h;done)
 try simp only [zH]at h
 try simp only [zH,zK]at h
 cases h;exact⟨rfl,rfl,⟨yf,yf,yf,(by simp only [zy];omega),(Nat.zero_le _),(fun x hx=>by cases hx)⟩⟩
theorem zoJ{κ:Nat}(hκ:40000≤κ)(c:zM)(hF:qJ c){ws:List (List UInt8)}(h:zJ 8 c.zR c.zg c.value c.n c.running c.zO c.port c.zm c.size c.data=some ws):zA κ 8 (B (Lib.join ws [32]))=some (qf 8 (some (zx 8 c)))∧Lib.join ws [32]≠[]∧kd (Lib.join ws [32])=8:=by
 have hrt:=rt8 hκ c hF.f h;unfold zJ at h;simp only at h;cases h0:zk c.zR
 ·rw [h0]at h;cases h
 rw [h0]at h;simp only [zH]at h;cases h1:qT c.zg
 ·rw [h1]at h;cases h
 rw [h1]at h;simp only [zH]at h;cases h;have:=hF.d;have:=z8 c.zR;have:=zBT c.zg;have hc0:=fun X=>zV (a:=y5 c.zR) X (yJ _)
 have hc1:=fun X=>zV (a:=[100,101,108]) X (by decide)
 refine⟨?_, ?_, ?_⟩
 ·rw [zfO hκ _ (Nat.le_trans (yP _) (by simp only [kl,ki,lc,l0];omega)),hrt]
 ·rw [j2];intro e;exact je _ (List.append_eq_nil_iff.1 e).1
 ·unfold kd
  simp only [j1,j2,hc0,hc1,yM c.zR _ _ (by decide:57<(112:UInt8).toNat),yM c.zR _ _ (by decide:57<(116:UInt8).toNat),yM c.zR _ _ (by decide:57<(110:UInt8).toNat),yM c.zR _ _ (by decide:57<(100:UInt8).toNat),zK]
  try rfl
theorem len8(c:zM)(hF:qJ c){ws:List (List UInt8)}(h:zJ 8 c.zR c.zg c.value c.n c.running c.zO c.port c.zm c.size c.data=some ws):(Lib.join ws [32]).length≤140737488353000:=by
 unfold zJ at h;simp only at h;cases h0:zk c.zR
 ·rw [h0]at h;cases h
 rw [h0]at h;simp only [zH]at h;cases h1:qT c.zg
 ·rw [h1]at h;cases h
 rw [h1]at h;simp only [zH]at h;cases h;have:=hF.d;have:=z8 c.zR;have:=zBT c.zg;exact Nat.le_trans (yP _) (by simp only [kl,ki,lc,l0];omega)
theorem zoK{κ:Nat}(l:List UInt8)(c:zM)(h:qp κ false (zd 8) l (zt 8)=some c):c.kind=8∧zx 8 c=c∧GF l c:=by
 unfold zd zt at h;simp only [qp,wo]at h;have hl0:=zU l;generalize zX l=q0 at h hl0;obtain⟨a0,l1,m0⟩:=q0;simp only at h hl0;have hu0:=qb a0;generalize uR a0=u0 at hu0 h;obtain⟨x0,d0⟩:=u0;simp only at hu0 h;cases d0
 ·cases h
 try simp only [zH,zK]at h
 cases m0
 ·first|(cases h;done)|(simp only [zK,gW,List.isEmpty_cons,Bool.and_false,Bool.false_and,Bool.and_self]at h;cases h;done)
 try simp only [zH]at h
 have hl1:=zU l1;generalize zX l1=q1 at h hl1;obtain⟨a1,l2,m1⟩:=q1;simp only at h hl1;generalize decide (a1=[100,101,108])=d1 at h;cases d1
 ·cases h
 try simp only [zH,zK]at h
 cases m1
 ·first|(cases h;done)|(simp only [zK,gW,List.isEmpty_cons,Bool.and_false,Bool.false_and,Bool.and_self]at h;cases h;done)
 try simp only [zH]at h
 generalize ((zRS κ l2).1==0)=d2 at h;cases d2
 ·cases h
 try simp only [zH,zK]at h
 cases h;exact⟨rfl,rfl,⟨yf,yf,yf,(Nat.zero_le _),(Nat.zero_le _),(fun x hx=>by cases hx)⟩⟩
theorem zoj{κ:Nat}(hκ:40000≤κ)(c:zM)(hF:qJ c){ws:List (List UInt8)}(h:zJ 9 c.zR c.zg c.value c.n c.running c.zO c.port c.zm c.size c.data=some ws):zA κ 9 (B (Lib.join ws [32]))=some (qf 9 (some (zx 9 c)))∧Lib.join ws [32]≠[]∧kd (Lib.join ws [32])=9:=by
 have hrt:=rt9 hκ c hF.f h;unfold zJ at h;simp only at h;cases h0:zk c.zR
 ·rw [h0]at h;cases h
 rw [h0]at h;simp only [zH]at h;by_cases hn:0<c.n
 ·rw [decide_eq_true hn]at h;simp only [zH]at h
  cases h;have:=hF.d;have:=z8 c.zR;have:=zn hF.f.hn;have hc0:=fun X=>zV (a:=y5 c.zR) X (yJ _)
  have hc1:=fun X=>zV (a:=[99,111,109,109,105,116]) X (by decide)
  refine⟨?_, ?_, ?_⟩
  ·rw [zaP hκ _ (Nat.le_trans (yP _) (by simp only [kl,ki,lc,l0];omega)),hrt]
  ·rw [j2];intro e;exact je _ (List.append_eq_nil_iff.1 e).1
  ·unfold kd
   simp only [j1,j2,hc0,hc1,yM c.zR _ _ (by decide:57<(112:UInt8).toNat),yM c.zR _ _ (by decide:57<(116:UInt8).toNat),yM c.zR _ _ (by decide:57<(110:UInt8).toNat),yM c.zR _ _ (by decide:57<(100:UInt8).toNat),zK]
   try rfl
 ·rw [decide_eq_false hn]at h;simp only [zK]at h
  cases h;have:=hF.d;have:=z8 c.zR;have:=zn hF.f.hn;have hc0:=fun X=>zV (a:=y5 c.zR) X (yJ _)
  have hc1:=wA (a:=[99,111,109,109,105,116]) (by decide);refine⟨?_, ?_, ?_⟩
  ·rw [zaP hκ _ (Nat.le_trans (yP _) (by simp only [kl,ki,lc,l0];omega)),hrt]
  ·rw [j2];intro e;exact je _ (List.append_eq_nil_iff.1 e).1
  ·unfold kd
   simp only [j1,j2,hc0,hc1,yM c.zR _ _ (by decide:57<(112:UInt8).toNat),yM c.zR _ _ (by decide:57<(116:UInt8).toNat),yM c.zR _ _ (by decide:57<(110:UInt8).toNat),yM c.zR _ _ (by decide:57<(100:UInt8).toNat),zK]
   try rfl
theorem zoF(c:zM)(hF:qJ c){ws:List (List UInt8)}(h:zJ 9 c.zR c.zg c.value c.n c.running c.zO c.port c.zm c.size c.data=some ws):(Lib.join ws [32]).length≤140737488353000:=by
 unfold zJ at h;simp only at h;cases h0:zk c.zR
 ·rw [h0]at h;cases h
 rw [h0]at h;simp only [zH]at h;by_cases hn:0<c.n
 ·rw [decide_eq_true hn]at h;simp only [zH]at h
  cases h;have:=hF.d;have:=z8 c.zR;have:=zn hF.f.hn;exact Nat.le_trans (yP _) (by simp only [kl,ki,lc,l0];omega)
 ·rw [decide_eq_false hn]at h;simp only [zK]at h
  cases h;have:=hF.d;have:=z8 c.zR;have:=zn hF.f.hn;exact Nat.le_trans (yP _) (by simp only [kl,ki,lc,l0];omega)
theorem zoW{κ:Nat}(l:List UInt8)(c:zM)(h:qp κ true (zd 9) l (zt 9)=some c):c.kind=9∧zx 9 c=c∧GF l c:=by
 unfold zd zt at h;simp only [qp,wo]at h;have hl0:=zU l;generalize zX l=q0 at h hl0;obtain⟨a0,l1,m0⟩:=q0;simp only at h hl0;have hu0:=qb a0;generalize uR a0=u0 at hu0 h;obtain⟨x0,d0⟩:=u0;simp only at hu0 h;cases d0
 ·cases h
 try simp only [zH,zK]at h
 cases m0
 ·first|(cases h;done)|(simp only [zK,gW,List.isEmpty_cons,Bool.and_false,Bool.false_and,Bool.and_self]at h;cases h;done)
 try simp only [zH]at h
 have hl1:=zU l1;generalize zX l1=q1 at h hl1;obtain⟨a1,l2,m1⟩:=q1;simp only at h hl1;generalize decide (a1=[99,111,109,109,105,116])=d1 at h;cases d1
 ·cases h
 try simp only [zH,zK]at h
 cases m1
 ·simp only [zK,gW,List.isEmpty_nil,Bool.and_self,zH]at h
  cases h;exact⟨rfl,rfl,⟨yf,yf,yf,(Nat.zero_le _),(Nat.zero_le _),(fun x hx=>by cases hx)⟩⟩
 try simp only [zH]at h
 have hu2:=qb l2;generalize ((uR l2).2&&decide ((uR l2).1>0))=d2 at h;cases d2
 ·cases h
 try simp only [zH,zK]at h
 cases h;exact⟨rfl,rfl,⟨hu2,yf,yf,(Nat.zero_le _),(Nat.zero_le _),(fun x hx=>by cases hx)⟩⟩
theorem zl7{κ:Nat}(hκ:40000≤κ)(c:zM)(hF:qJ c){ws:List (List UInt8)}(h:zJ 10 c.zR c.zg c.value c.n c.running c.zO c.port c.zm c.size c.data=some ws):zA κ 10 (B (Lib.join ws [32]))=some (qf 10 (some (zx 10 c)))∧Lib.join ws [32]≠[]∧kd (Lib.join ws [32])=10:=by
 have hrt:=zmG hκ c hF.f h;unfold zJ at h;simp only at h;cases h0:zk c.zR
 ·rw [h0]at h;cases h
 rw [h0]at h;simp only [zH]at h;cases h;have:=hF.d;have:=z8 c.zR;have:=zn hF.f.hn;have hc0:=fun X=>zV (a:=y5 c.zR) X (yJ _)
 have hc1:=fun X=>zV (a:=[114,111,108,108,98,97,99,107]) X (by decide)
 refine⟨?_, ?_, ?_⟩
 ·rw [zah hκ _ (Nat.le_trans (yP _) (by simp only [kl,ki,lc,l0];omega)),hrt]
 ·rw [j2];intro e;exact je _ (List.append_eq_nil_iff.1 e).1
 ·unfold kd
  simp only [j1,j2,hc0,hc1,yM c.zR _ _ (by decide:57<(112:UInt8).toNat),yM c.zR _ _ (by decide:57<(116:UInt8).toNat),yM c.zR _ _ (by decide:57<(110:UInt8).toNat),yM c.zR _ _ (by decide:57<(100:UInt8).toNat),zK]
  try rfl
theorem znU(c:zM)(hF:qJ c){ws:List (List UInt8)}(h:zJ 10 c.zR c.zg c.value c.n c.running c.zO c.port c.zm c.size c.data=some ws):(Lib.join ws [32]).length≤140737488353000:=by
 unfold zJ at h;simp only at h;cases h0:zk c.zR
 ·rw [h0]at h;cases h
 rw [h0]at h;simp only [zH]at h;cases h;have:=hF.d;have:=z8 c.zR;have:=zn hF.f.hn;exact Nat.le_trans (yP _) (by simp only [kl,ki,lc,l0];omega)
theorem zmJ{κ:Nat}(l:List UInt8)(c:zM)(h:qp κ false (zd 10) l (zt 10)=some c):c.kind=10∧zx 10 c=c∧GF l c:=by
 unfold zd zt at h;simp only [qp,wo]at h;have hl0:=zU l;generalize zX l=q0 at h hl0;obtain⟨a0,l1,m0⟩:=q0;simp only at h hl0;have hu0:=qb a0;generalize uR a0=u0 at hu0 h;obtain⟨x0,d0⟩:=u0;simp only at hu0 h;cases d0
 ·cases h
 try simp only [zH,zK]at h
 cases m0
 ·first|(cases h;done)|(simp only [zK,gW,List.isEmpty_cons,Bool.and_false,Bool.false_and,Bool.and_self]at h;cases h;done)
 try simp only [zH]at h
 have hl1:=zU l1;generalize zX l1=q1 at h hl1;obtain⟨a1,l2,m1⟩:=q1;simp only at h hl1;generalize decide (a1=[114,111,108,108,98,97,99,107])=d1 at h;cases d1
 ·cases h
 try simp only [zH,zK]at h
 cases m1
 ·first|(cases h;done)|(simp only [zK,gW,List.isEmpty_cons,Bool.and_false,Bool.false_and,Bool.and_self]at h;cases h;done)
 try simp only [zH]at h
 have hu2:=qb l2;generalize uR l2=u2 at hu2 h;obtain⟨x2,d2⟩:=u2;simp only at hu2 h;cases d2
 ·cases h
 try simp only [zH,zK]at h
 cases h;exact⟨rfl,rfl,⟨hu2,yf,yf,(Nat.zero_le _),(Nat.zero_le _),(fun x hx=>by cases hx)⟩⟩
theorem zmo{κ:Nat}(hκ:40000≤κ)(c:zM)(hF:qJ c){ws:List (List UInt8)}(h:zJ 11 c.zR c.zg c.value c.n c.running c.zO c.port c.zm c.size c.data=some ws):zA κ 11 (B (Lib.join ws [32]))=some (qf 11 (some (zx 11 c)))∧Lib.join ws [32]≠[]∧kd (Lib.join ws [32])=11:=by
 have hrt:=znI hκ c hF.f h;unfold zJ at h;simp only at h;cases h0:zk c.zR
 ·rw [h0]at h;cases h
 rw [h0]at h;simp only [zH]at h;cases h;have:=hF.d;have:=z8 c.zR;have:=zn hF.f.hn;have hc0:=fun X=>zV (a:=y5 c.zR) X (yJ _)
 have hc1:=fun X=>zV (a:=[112,114,117,110,101]) X (by decide)
 refine⟨?_, ?_, ?_⟩
 ·rw [zbf hκ _ (Nat.le_trans (yP _) (by simp only [kl,ki,lc,l0];omega)),hrt]
 ·rw [j2];intro e;exact je _ (List.append_eq_nil_iff.1 e).1
 ·unfold kd
  simp only [j1,j2,hc0,hc1,yM c.zR _ _ (by decide:57<(112:UInt8).toNat),yM c.zR _ _ (by decide:57<(116:UInt8).toNat),yM c.zR _ _ (by decide:57<(110:UInt8).toNat),yM c.zR _ _ (by decide:57<(100:UInt8).toNat),zK]
  try rfl
theorem zlx(c:zM)(hF:qJ c){ws:List (List UInt8)}(h:zJ 11 c.zR c.zg c.value c.n c.running c.zO c.port c.zm c.size c.data=some ws):(Lib.join ws [32]).length≤140737488353000:=by
 unfold zJ at h;simp only at h;cases h0:zk c.zR
 ·rw [h0]at h;cases h
 rw [h0]at h;simp only [zH]at h;cases h;have:=hF.d;have:=z8 c.zR;have:=zn hF.f.hn;exact Nat.le_trans (yP _) (by simp only [kl,ki,lc,l0];omega)
theorem zmA{κ:Nat}(l:List UInt8)(c:zM)(h:qp κ false (zd 11) l (zt 11)=some c):c.kind=11∧zx 11 c=c∧GF l c:=by
 unfold zd zt at h;simp only [qp,wo]at h;have hl0:=zU l;generalize zX l=q0 at h hl0;obtain⟨a0,l1,m0⟩:=q0;simp only at h hl0;have hu0:=qb a0;generalize uR a0=u0 at hu0 h;obtain⟨x0,d0⟩:=u0;simp only at hu0 h;cases d0
 ·cases h
 try simp only [zH,zK]at h
 cases m0
 ·first|(cases h;done)|(simp only [zK,gW,List.isEmpty_cons,Bool.and_false,Bool.false_and,Bool.and_self]at h;cases h;done)
 try simp only [zH]at h
 have hl1:=zU l1;generalize zX l1=q1 at h hl1;obtain⟨a1,l2,m1⟩:=q1;simp only at h hl1;generalize decide (a1=[112,114,117,110,101])=d1 at h;cases d1
 ·cases h
 try simp only [zH,zK]at h
 cases m1
 ·first|(cases h;done)|(simp only [zK,gW,List.isEmpty_cons,Bool.and_false,Bool.false_and,Bool.and_self]at h;cases h;done)
 try simp only [zH]at h
 have hu2:=qb l2;generalize uR l2=u2 at hu2 h;obtain⟨x2,d2⟩:=u2;simp only at hu2 h;cases d2
 ·cases h
 try simp only [zH,zK]at h
 cases h;exact⟨rfl,rfl,⟨hu2,yf,yf,(Nat.zero_le _),(Nat.zero_le _),(fun x hx=>by cases hx)⟩⟩
theorem znD{κ:Nat}(hκ:40000≤κ)(c:zM)(hF:qJ c){ws:List (List UInt8)}(h:zJ 12 c.zR c.zg c.value c.n c.running c.zO c.port c.zm c.size c.data=some ws):zA κ 12 (B (Lib.join ws [32]))=some (qf 12 (some (zx 12 c)))∧Lib.join ws [32]≠[]∧kd (Lib.join ws [32])=12:=by
 have hrt:=znR hκ c hF.f h;unfold zJ at h;simp only at h;cases h0:zk c.zR
 ·rw [h0]at h;cases h
 rw [h0]at h;simp only [zH]at h;cases h;have:=hF.d;have:=z8 c.zR;have:=zPN c.running;have:=zUb c.zO;have:=zn hF.f.hn;have hc0:=fun X=>zV (a:=y5 c.zR) X (yJ _)
 have hc1:=fun X=>zV (a:=[115,104,111,119]) X (by decide)
 have hc2:=fun X=>zV (a:=bm c.running) X (zK1 _)
 have hc3:=fun X=>zV (a:=zEN c.zO) X (zP2 _)
 refine⟨?_, ?_, ?_⟩
 ·rw [zbE hκ _ (Nat.le_trans (yP _) (by simp only [kl,ki,lc,l0];omega)),hrt]
 ·rw [j2];intro e;exact je _ (List.append_eq_nil_iff.1 e).1
 ·unfold kd
  simp only [j1,j2,hc0,hc1,hc2,hc3,yM c.zR _ _ (by decide:57<(112:UInt8).toNat),yM c.zR _ _ (by decide:57<(116:UInt8).toNat),yM c.zR _ _ (by decide:57<(110:UInt8).toNat),yM c.zR _ _ (by decide:57<(100:UInt8).toNat),zK]
  try rfl
theorem zne(c:zM)(hF:qJ c){ws:List (List UInt8)}(h:zJ 12 c.zR c.zg c.value c.n c.running c.zO c.port c.zm c.size c.data=some ws):(Lib.join ws [32]).length≤140737488353000:=by
 unfold zJ at h;simp only at h;cases h0:zk c.zR
 ·rw [h0]at h;cases h
 rw [h0]at h;simp only [zH]at h;cases h;have:=hF.d;have:=z8 c.zR;have:=zPN c.running;have:=zUb c.zO;have:=zn hF.f.hn;exact Nat.le_trans (yP _) (by simp only [kl,ki,lc,l0];omega)
theorem zlV{κ:Nat}(l:List UInt8)(c:zM)(h:qp κ false (zd 12) l (zt 12)=some c):c.kind=12∧zx 12 c=c∧GF l c:=by
 unfold zd zt at h;simp only [qp,wo]at h;have hl0:=zU l;generalize zX l=q0 at h hl0;obtain⟨a0,l1,m0⟩:=q0;simp only at h hl0;have hu0:=qb a0;generalize uR a0=u0 at hu0 h;obtain⟨x0,d0⟩:=u0;simp only at hu0 h;cases d0
 ·cases h
 try simp only [zH,zK]at h
 cases m0
 ·first|(cases h;done)|(simp only [zK,gW,List.isEmpty_cons,Bool.and_false,Bool.false_and,Bool.and_self]at h;cases h;done)
 try simp only [zH]at h
 have hl1:=zU l1;generalize zX l1=q1 at h hl1;obtain⟨a1,l2,m1⟩:=q1;simp only at h hl1;generalize decide (a1=[115,104,111,119])=d1 at h;cases d1
 ·cases h
 try simp only [zH,zK]at h
 cases m1
 ·first|(cases h;done)|(simp only [zK,gW,List.isEmpty_cons,Bool.and_false,Bool.false_and,Bool.and_self]at h;cases h;done)
 try simp only [zH]at h
 have hl2:=zU l2;generalize zX l2=q2 at h hl2;obtain⟨a2,l3,m2⟩:=q2;simp only at h hl2;generalize (decide (a2=[114,117,110,110,105,110,103])||decide (a2=[99,97,110,100,105,100,97,116,101]))=d2 at h;cases d2
 ·cases h
 try simp only [zH,zK]at h
 cases m2
 ·first|(cases h;done)|(simp only [zK,gW,List.isEmpty_cons,Bool.and_false,Bool.false_and,Bool.and_self]at h;cases h;done)
 try simp only [zH]at h
 have hl3:=zU l3;generalize zX l3=q3 at h hl3;obtain⟨a3,l4,m3⟩:=q3;simp only at h hl3;generalize (decide (a3=[98,121,116,101,115])||decide (a3=[116,101,120,116]))=d3 at h;cases d3
 ·cases h
 try simp only [zH,zK]at h
 cases m3
 ·first|(cases h;done)|(simp only [zK,gW,List.isEmpty_cons,Bool.and_false,Bool.false_and,Bool.and_self]at h;cases h;done)
 try simp only [zH]at h
 have hu4:=qb l4;generalize uR l4=u4 at hu4 h;obtain⟨x4,d4⟩:=u4;simp only at hu4 h;cases d4
 ·cases h
 try simp only [zH,zK]at h
 cases h;exact⟨rfl,rfl,⟨hu4,yf,yf,(Nat.zero_le _),(Nat.zero_le _),(fun x hx=>by cases hx)⟩⟩
theorem zll{κ:Nat}(hκ:40000≤κ)(c:zM)(hF:qJ c){ws:List (List UInt8)}(h:zJ 13 c.zR c.zg c.value c.n c.running c.zO c.port c.zm c.size c.data=some ws):zA κ 13 (B (Lib.join ws [32]))=some (qf 13 (some (zx 13 c)))∧Lib.join ws [32]≠[]∧kd (Lib.join ws [32])=13:=by
 have hrt:=znS hκ c hF.f h;unfold zJ at h;simp only at h;cases h0:zk c.zR
 ·rw [h0]at h;cases h
 rw [h0]at h;simp only [zH]at h;cases h;have:=hF.d;have:=z8 c.zR;have:=uX c.data;have hc0:=fun X=>zV (a:=y5 c.zR) X (yJ _)
 have hc1:=fun X=>zV (a:=[108,111,97,100]) X (by decide)
 have hc2:=fun X=>zV (a:=[116,101,120,116]) X (by decide)
 refine⟨?_, ?_, ?_⟩
 ·rw [za3 hκ _ (Nat.le_trans (yP _) (by simp only [kl,ki,lc,l0];omega)),hrt]
 ·rw [j2];intro e;exact je _ (List.append_eq_nil_iff.1 e).1
 ·unfold kd
  simp only [j1,j2,hc0,hc1,hc2,yM c.zR _ _ (by decide:57<(112:UInt8).toNat),yM c.zR _ _ (by decide:57<(116:UInt8).toNat),yM c.zR _ _ (by decide:57<(110:UInt8).toNat),yM c.zR _ _ (by decide:57<(100:UInt8).toNat),zK]
  try rfl
theorem zlq(c:zM)(hF:qJ c){ws:List (List UInt8)}(h:zJ 13 c.zR c.zg c.value c.n c.running c.zO c.port c.zm c.size c.data=some ws):(Lib.join ws [32]).length≤140737488353000:=by
 unfold zJ at h;simp only at h;cases h0:zk c.zR
 ·rw [h0]at h;cases h
 rw [h0]at h;simp only [zH]at h;cases h;have:=hF.d;have:=z8 c.zR;have:=uX c.data;exact Nat.le_trans (yP _) (by simp only [kl,ki,lc,l0];omega)
theorem zmm{κ:Nat}(l:List UInt8)(c:zM)(h:qp κ false (zd 13) l (zt 13)=some c):c.kind=13∧zx 13 c=c∧GF l c:=by
 unfold zd zt at h;simp only [qp,wo]at h;have hl0:=zU l;generalize zX l=q0 at h hl0;obtain⟨a0,l1,m0⟩:=q0;simp only at h hl0;have hu0:=qb a0;generalize uR a0=u0 at hu0 h;obtain⟨x0,d0⟩:=u0;simp only at hu0 h;cases d0
 ·cases h
 try simp only [zH,zK]at h
 cases m0
 ·first|(cases h;done)|(simp only [zK,gW,List.isEmpty_cons,Bool.and_false,Bool.false_and,Bool.and_self]at h;cases h;done)
 try simp only [zH]at h
 have hl1:=zU l1;generalize zX l1=q1 at h hl1;obtain⟨a1,l2,m1⟩:=q1;simp only at h hl1;generalize decide (a1=[108,111,97,100])=d1 at h;cases d1
 ·cases h
 try simp only [zH,zK]at h
 cases m1
 ·first|(cases h;done)|(simp only [zK,gW,List.isEmpty_cons,Bool.and_false,Bool.false_and,Bool.and_self]at h;cases h;done)
 try simp only [zH]at h
 have hl2:=zU l2;generalize zX l2=q2 at h hl2;obtain⟨a2,l3,m2⟩:=q2;simp only at h hl2;generalize decide (a2=[116,101,120,116])=d2 at h;cases d2
 ·cases h
 try simp only [zH,zK]at h
 cases m2
 ·first|(cases h;done)|(simp only [zK,gW,List.isEmpty_cons,Bool.and_false,Bool.false_and,Bool.and_self]at h;cases h;done)
 try simp only [zH]at h
 try simp only [zH,zK]at h
 cases h;exact⟨rfl,rfl,⟨yf,yf,yf,(Nat.zero_le _),(by simp only [j0];omega),zUE _⟩⟩
theorem zmS{κ:Nat}(hκ:40000≤κ)(c:zM)(hF:qJ c){ws:List (List UInt8)}(h:zJ 14 c.zR c.zg c.value c.n c.running c.zO c.port c.zm c.size c.data=some ws):zA κ 14 (B (Lib.join ws [32]))=some (qf 14 (some (zx 14 c)))∧Lib.join ws [32]≠[]∧kd (Lib.join ws [32])=14:=by
 have hrt:=zlZ hκ c hF.f h;unfold zJ at h;simp only at h;cases h0:zk c.zR
 ·rw [h0]at h;cases h
 rw [h0]at h;simp only [zH]at h;cases h;have:=hF.d;have:=z8 c.zR;have:=zC9 (qC c.data);have:=uX c.data;have hc0:=fun X=>zV (a:=y5 c.zR) X (yJ _)
 have hc1:=fun X=>zV (a:=[108,111,97,100]) X (by decide)
 have hc2:=fun X=>zV (a:=[98,121,116,101,115]) X (by decide)
 refine⟨?_, ?_, ?_⟩
 ·rw [zbT hκ _ (Nat.le_trans (yP _) (by simp only [kl,ki,lc,l0];omega)),hrt]
 ·rw [j2];intro e;exact je _ (List.append_eq_nil_iff.1 e).1
 ·unfold kd
  simp only [j1,j2,hc0,hc1,hc2,yM c.zR _ _ (by decide:57<(112:UInt8).toNat),yM c.zR _ _ (by decide:57<(116:UInt8).toNat),yM c.zR _ _ (by decide:57<(110:UInt8).toNat),yM c.zR _ _ (by decide:57<(100:UInt8).toNat),zK]
  try rfl
theorem zlt(c:zM)(hF:qJ c){ws:List (List UInt8)}(h:zJ 14 c.zR c.zg c.value c.n c.running c.zO c.port c.zm c.size c.data=some ws):(Lib.join ws [32]).length≤140737488353000:=by
 unfold zJ at h;simp only at h;cases h0:zk c.zR
 ·rw [h0]at h;cases h
 rw [h0]at h;simp only [zH]at h;cases h;have:=hF.d;have:=z8 c.zR;have:=zC9 (qC c.data);have:=uX c.data;exact Nat.le_trans (yP _) (by simp only [kl,ki,lc,l0];omega)
theorem zld{κ:Nat}(l:List UInt8)(c:zM)(h:qp κ false (zd 14) l (zt 14)=some c):c.kind=14∧zx 14 c=c∧GF l c:=by
 unfold zd zt at h;simp only [qp,wo]at h;have hl0:=zU l;generalize zX l=q0 at h hl0;obtain⟨a0,l1,m0⟩:=q0;simp only at h hl0;have hu0:=qb a0;generalize uR a0=u0 at hu0 h;obtain⟨x0,d0⟩:=u0;simp only at hu0 h;cases d0
 ·cases h
 try simp only [zH,zK]at h
 cases m0
 ·first|(cases h;done)|(simp only [zK,gW,List.isEmpty_cons,Bool.and_false,Bool.false_and,Bool.and_self]at h;cases h;done)
 try simp only [zH]at h
 have hl1:=zU l1;generalize zX l1=q1 at h hl1;obtain⟨a1,l2,m1⟩:=q1;simp only at h hl1;generalize decide (a1=[108,111,97,100])=d1 at h;cases d1
 ·cases h
 try simp only [zH,zK]at h
 cases m1
 ·first|(cases h;done)|(simp only [zK,gW,List.isEmpty_cons,Bool.and_false,Bool.false_and,Bool.and_self]at h;cases h;done)
 try simp only [zH]at h
 have hl2:=zU l2;generalize zX l2=q2 at h hl2;obtain⟨a2,l3,m2⟩:=q2;simp only at h hl2;generalize decide (a2=[98,121,116,101,115])=d2 at h;cases d2
 ·cases h
 try simp only [zH,zK]at h
 cases m2
 ·first|(cases h;done)|(simp only [zK,gW,List.isEmpty_cons,Bool.and_false,Bool.false_and,Bool.and_self]at h;cases h;done)
 try simp only [zH]at h
 have hu3:=zeA l3;generalize unR l3=u3 at hu3 h;obtain⟨d3,x3⟩:=u3;simp only at hu3 h;cases d3
 ·cases h
 try simp only [zH,zK]at h
 cases h;exact⟨rfl,rfl,⟨yf,yf,yf,(Nat.zero_le _),(Nat.le_trans hu3.1 (by omega)),hu3.2⟩⟩
theorem zm8{κ:Nat}(hκ:40000≤κ)(c:zM)(hF:qJ c){ws:List (List UInt8)}(h:zJ 15 c.zR c.zg c.value c.n c.running c.zO c.port c.zm c.size c.data=some ws):zA κ 15 (B (Lib.join ws [32]))=some (qf 15 (some (zx 15 c)))∧Lib.join ws [32]≠[]∧kd (Lib.join ws [32])=15:=by
 have hrt:=zl0 hκ c hF.f h;unfold zJ at h;simp only at h;cases h0:Pa15.vf c.port
 ·rw [h0]at h;cases h
 rw [h0]at h;simp only [zH]at h;cases h;have:=hF.d;have:=zDZ h0;have:=zn hF.f.pq;have:=zn hF.f.w9;have hc0:=fun X=>zV (a:=[112,97,99,107,101,116]) X (by decide)
 have hc1:=fun X=>zV (a:=c.port.data.toList) X (zMB h0)
 have hc2:=fun X=>zV (a:=gB c.zm) X (kC _)
 refine⟨?_, ?_, ?_⟩
 ·rw [zak hκ _ (Nat.le_trans (yP _) (by simp only [kl,ki,lc,l0];omega)),hrt]
 ·rw [j2];simp
 ·unfold kd
  simp only [j1,j2,hc0,hc1,hc2]
  try rfl
theorem zmT(c:zM)(hF:qJ c){ws:List (List UInt8)}(h:zJ 15 c.zR c.zg c.value c.n c.running c.zO c.port c.zm c.size c.data=some ws):(Lib.join ws [32]).length≤140737488353000:=by
 unfold zJ at h;simp only at h;cases h0:Pa15.vf c.port
 ·rw [h0]at h;cases h
 rw [h0]at h;simp only [zH]at h;cases h;have:=hF.d;have:=zDZ h0;have:=zn hF.f.pq;have:=zn hF.f.w9;exact Nat.le_trans (yP _) (by simp only [kl,ki,lc,l0];omega)
theorem zmW{κ:Nat}(l:List UInt8)(c:zM)(h:qp κ false (zd 15) l (zt 15)=some c):c.kind=15∧zx 15 c=c∧GF l c:=by
 unfold zd zt at h;simp only [qp,wo]at h;have hl0:=zU l;generalize zX l=q0 at h hl0;obtain⟨a0,l1,m0⟩:=q0;simp only at h hl0;generalize decide (a0=[112,97,99,107,101,116])=d0 at h;cases d0
 ·cases h
 try simp only [zH,zK]at h
 cases m0
 ·first|(cases h;done)|(simp only [zK,gW,List.isEmpty_cons,Bool.and_false,Bool.false_and,Bool.and_self]at h;cases h;done)
 try simp only [zH]at h
 have hl1:=zU l1;generalize zX l1=q1 at h hl1;obtain⟨a1,l2,m1⟩:=q1;simp only at h hl1
 try simp only [zH,zK]at h
 cases m1
 ·first|(cases h;done)|(simp only [zK,gW,List.isEmpty_cons,Bool.and_false,Bool.false_and,Bool.and_self]at h;cases h;done)
 try simp only [zH]at h
 have hl2:=zU l2;generalize zX l2=q2 at h hl2;obtain⟨a2,l3,m2⟩:=q2;simp only at h hl2;have hu2:=qb a2;generalize uR a2=u2 at hu2 h;obtain⟨x2,d2⟩:=u2;simp only at hu2 h;cases d2
 ·cases h
 try simp only [zH,zK]at h
 cases m2
 ·first|(cases h;done)|(simp only [zK,gW,List.isEmpty_cons,Bool.and_false,Bool.false_and,Bool.and_self]at h;cases h;done)
 try simp only [zH]at h
 have hu3:=qb l3;generalize uR l3=u3 at hu3 h;obtain⟨x3,d3⟩:=u3;simp only at hu3 h;cases d3
 ·cases h
 try simp only [zH,zK]at h
 cases h;exact⟨rfl,rfl,⟨yf,hu2,hu3,(Nat.zero_le _),(Nat.zero_le _),(fun x hx=>by cases hx)⟩⟩
theorem znA{κ:Nat}(hκ:40000≤κ)(c:zM)(hF:qJ c){ws:List (List UInt8)}(h:zJ 16 c.zR c.zg c.value c.n c.running c.zO c.port c.zm c.size c.data=some ws):zA κ 16 (B (Lib.join ws [32]))=some (qf 16 (some (zx 16 c)))∧Lib.join ws [32]≠[]∧kd (Lib.join ws [32])=16:=by
 have hrt:=zmn hκ c hF.f h;unfold zJ at h;simp only at h;cases h;have:=hF.d;have:=zn hF.f.hn;have hc0:=fun X=>zV (a:=[116,105,99,107]) X (by decide)
 refine⟨?_, ?_, ?_⟩
 ·rw [zar hκ _ (Nat.le_trans (yP _) (by simp only [kl,ki,lc,l0];omega)),hrt]
 ·rw [j2];simp
 ·unfold kd
  simp only [j1,j2,hc0]
  try rfl
theorem zns(c:zM)(hF:qJ c){ws:List (List UInt8)}(h:zJ 16 c.zR c.zg c.value c.n c.running c.zO c.port c.zm c.size c.data=some ws):(Lib.join ws [32]).length≤140737488353000:=by
 unfold zJ at h;simp only at h;cases h;have:=hF.d;have:=zn hF.f.hn;exact Nat.le_trans (yP _) (by simp only [kl,ki,lc,l0];omega)
theorem zlg{κ:Nat}(l:List UInt8)(c:zM)(h:qp κ false (zd 16) l (zt 16)=some c):c.kind=16∧zx 16 c=c∧GF l c:=by
 unfold zd zt at h;simp only [qp,wo]at h;have hl0:=zU l;generalize zX l=q0 at h hl0;obtain⟨a0,l1,m0⟩:=q0;simp only at h hl0;generalize decide (a0=[116,105,99,107])=d0 at h;cases d0
 ·cases h
 try simp only [zH,zK]at h
 cases m0
 ·first|(cases h;done)|(simp only [zK,gW,List.isEmpty_cons,Bool.and_false,Bool.false_and,Bool.and_self]at h;cases h;done)
 try simp only [zH]at h
 have hu1:=qb l1;generalize uR l1=u1 at hu1 h;obtain⟨x1,d1⟩:=u1;simp only at hu1 h;cases d1
 ·cases h
 try simp only [zH,zK]at h
 cases h;exact⟨rfl,rfl,⟨hu1,yf,yf,(Nat.zero_le _),(Nat.zero_le _),(fun x hx=>by cases hx)⟩⟩
theorem zlb{κ:Nat}(hκ:40000≤κ)(c:zM)(hF:qJ c){ws:List (List UInt8)}(h:zJ 17 c.zR c.zg c.value c.n c.running c.zO c.port c.zm c.size c.data=some ws):zA κ 17 (B (Lib.join ws [32]))=some (qf 17 (some (zx 17 c)))∧Lib.join ws [32]≠[]∧kd (Lib.join ws [32])=17:=by
 have hrt:=zmz hκ c hF.f h;unfold zJ at h;simp only at h;cases h0:Pa15.vf c.port
 ·rw [h0]at h;cases h
 rw [h0]at h;simp only [zH]at h;cases h;have:=hF.d;have:=zDZ h0;have hc0:=fun X=>zV (a:=[110,101,120,116]) X (by decide)
 refine⟨?_, ?_, ?_⟩
 ·rw [zax hκ _ (Nat.le_trans (yP _) (by simp only [kl,ki,lc,l0];omega)),hrt]
 ·rw [j2];simp
 ·unfold kd
  simp only [j1,j2,hc0]
  try rfl
theorem zm2(c:zM)(hF:qJ c){ws:List (List UInt8)}(h:zJ 17 c.zR c.zg c.value c.n c.running c.zO c.port c.zm c.size c.data=some ws):(Lib.join ws [32]).length≤140737488353000:=by
 unfold zJ at h;simp only at h;cases h0:Pa15.vf c.port
 ·rw [h0]at h;cases h
 rw [h0]at h;simp only [zH]at h;cases h;have:=hF.d;have:=zDZ h0;exact Nat.le_trans (yP _) (by simp only [kl,ki,lc,l0];omega)
theorem zl1{κ:Nat}(l:List UInt8)(c:zM)(h:qp κ false (zd 17) l (zt 17)=some c):c.kind=17∧zx 17 c=c∧GF l c:=by
 unfold zd zt at h;simp only [qp,wo]at h;have hl0:=zU l;generalize zX l=q0 at h hl0;obtain⟨a0,l1,m0⟩:=q0;simp only at h hl0;generalize decide (a0=[110,101,120,116])=d0 at h;cases d0
 ·cases h
 try simp only [zH,zK]at h
 cases m0
 ·first|(cases h;done)|(simp only [zK,gW,List.isEmpty_cons,Bool.and_false,Bool.false_and,Bool.and_self]at h;cases h;done)
 try simp only [zH]at h
 try simp only [zH,zK]at h
 cases h;exact⟨rfl,rfl,⟨yf,yf,yf,(Nat.zero_le _),(Nat.zero_le _),(fun x hx=>by cases hx)⟩⟩
theorem zmD{κ:Nat}(hκ:40000≤κ)(c:zM)(hF:qJ c){ws:List (List UInt8)}(h:zJ 18 c.zR c.zg c.value c.n c.running c.zO c.port c.zm c.size c.data=some ws):zA κ 18 (B (Lib.join ws [32]))=some (qf 18 (some (zx 18 c)))∧Lib.join ws [32]≠[]∧kd (Lib.join ws [32])=18:=by
 have hrt:=zlu hκ c hF.f h;unfold zJ at h;simp only at h;cases h0:Pa15.vf c.port
 ·rw [h0]at h;cases h
 rw [h0]at h;simp only [zH]at h;cases h;have:=hF.d;have:=zDZ h0;have hc0:=fun X=>zV (a:=[100,117,109,112]) X (by decide)
 refine⟨?_, ?_, ?_⟩
 ·rw [zbB hκ _ (Nat.le_trans (yP _) (by simp only [kl,ki,lc,l0];omega)),hrt]
 ·rw [j2];simp
 ·unfold kd
  simp only [j1,j2,hc0]
  try rfl
theorem zmv(c:zM)(hF:qJ c){ws:List (List UInt8)}(h:zJ 18 c.zR c.zg c.value c.n c.running c.zO c.port c.zm c.size c.data=some ws):(Lib.join ws [32]).length≤140737488353000:=by
 unfold zJ at h;simp only at h;cases h0:Pa15.vf c.port
 ·rw [h0]at h;cases h
 rw [h0]at h;simp only [zH]at h;cases h;have:=hF.d;have:=zDZ h0;exact Nat.le_trans (yP _) (by simp only [kl,ki,lc,l0];omega)
theorem zmM{κ:Nat}(l:List UInt8)(c:zM)(h:qp κ false (zd 18) l (zt 18)=some c):c.kind=18∧zx 18 c=c∧GF l c:=by
 unfold zd zt at h;simp only [qp,wo]at h;have hl0:=zU l;generalize zX l=q0 at h hl0;obtain⟨a0,l1,m0⟩:=q0;simp only at h hl0;generalize decide (a0=[100,117,109,112])=d0 at h;cases d0
 ·cases h
 try simp only [zH,zK]at h
 cases m0
 ·first|(cases h;done)|(simp only [zK,gW,List.isEmpty_cons,Bool.and_false,Bool.false_and,Bool.and_self]at h;cases h;done)
 try simp only [zH]at h
 try simp only [zH,zK]at h
 cases h;exact⟨rfl,rfl,⟨yf,yf,yf,(Nat.zero_le _),(Nat.zero_le _),(fun x hx=>by cases hx)⟩⟩
theorem zam{κ:Nat}(hκ:40000≤κ)(c:zM)(hF:qJ c){ws:List (List UInt8)}:∀(j:Nat) (hj:j<19),zJ j c.zR c.zg c.value c.n c.running c.zO c.port c.zm c.size c.data=some ws→zA κ (j:Int) (B (Lib.join ws [32]))=some (qf j (some (zx j c)))∧Lib.join ws [32]≠[]∧kd (Lib.join ws [32])=j
 |0,_,h=>zo1 hκ c hF h
 |1,_,h=>zot hκ c hF h
 |2,_,h=>zoo hκ c hF h
 |3,_,h=>zoL hκ c hF h
 |4,_,h=>zoA hκ c hF h
 |5,_,h=>zom hκ c hF h
 |6,_,h=>zoX hκ c hF h
 |7,_,h=>zoY hκ c hF h
 |8,_,h=>zoJ hκ c hF h
 |9,_,h=>zoj hκ c hF h
 |10,_,h=>zl7 hκ c hF h
 |11,_,h=>zmo hκ c hF h
 |12,_,h=>znD hκ c hF h
 |13,_,h=>zll hκ c hF h
 |14,_,h=>zmS hκ c hF h
 |15,_,h=>zm8 hκ c hF h
 |16,_,h=>znA hκ c hF h
 |17,_,h=>zlb hκ c hF h
 |18,_,h=>zmD hκ c hF h
 |n+19,h,_ =>absurd h (by omega)
theorem zYJ{κ:Nat}(hκ:40000≤κ)(c:zM)(hF:Fit c.zg c.value c.n c.zm c.size c.data):∀(j:Nat) (hj:j<19),zE κ (j:Int) c.zR c.zg c.value c.n c.running c.zO c.port c.zm c.size c.data=some (yk j c)
 |0,_ =>zjM hκ _ _ _ _ _ _ _ _ _ _ hF
 |1,_ =>zib hκ _ _ _ _ _ _ _ _ _ _ hF
 |2,_ =>zjc hκ _ _ _ _ _ _ _ _ _ _ hF
 |3,_ =>zjA hκ _ _ _ _ _ _ _ _ _ _ hF
 |4,_ =>zh5 hκ _ _ _ _ _ _ _ _ _ _ hF
 |5,_ =>zjX hκ _ _ _ _ _ _ _ _ _ _ hF
 |6,_ =>ziX hκ _ _ _ _ _ _ _ _ _ _ hF
 |7,_ =>ziR hκ _ _ _ _ _ _ _ _ _ _ hF
 |8,_ =>zhz hκ _ _ _ _ _ _ _ _ _ _ hF
 |9,_ =>zfB hκ _ _ _ _ _ _ _ _ _ _ hF
 |10,_ =>zdR hκ _ _ _ _ _ _ _ _ _ _ hF
 |11,_ =>ze5 hκ _ _ _ _ _ _ _ _ _ _ hF
 |12,_ =>zdF hκ _ _ _ _ _ _ _ _ _ _ hF
 |13,_ =>zfA hκ _ _ _ _ _ _ _ _ _ _ hF
 |14,_ =>zfD hκ _ _ _ _ _ _ _ _ _ _ hF
 |15,_ =>ze8 hκ _ _ _ _ _ _ _ _ _ _ hF
 |16,_ =>zeY hκ _ _ _ _ _ _ _ _ _ _ hF
 |17,_ =>zdK hκ _ _ _ _ _ _ _ _ _ _ hF
 |18,_ =>zeZ hκ _ _ _ _ _ _ _ _ _ _ hF
 |n+19,h=>absurd h (by omega)
theorem zcJ{κ:Nat}(hκ:40000≤κ)(l:List UInt8)(hl:l.length≤15000):∀(j:Nat) (hj:j<19),zA κ (j:Int) (B l)=some (qf j (qp κ (j==9) (zd j) l (zt j)))
 |0,_ =>zfU hκ l hl
 |1,_ =>zc8 hκ l hl
 |2,_ =>zdb hκ l hl
 |3,_ =>zdG hκ l hl
 |4,_ =>zei hκ l hl
 |5,_ =>zfG hκ l hl
 |6,_ =>zd0 hκ l hl
 |7,_ =>zdY hκ l (by omega) (by have:=zU l;omega) (by have:=zU l;have:=zU (zX l).2.1;have:=zU (zX (zX l).2.1).2.1;omega) (by have:=zU l;have:=zU (zX l).2.1;have:=zU (zX (zX l).2.1).2.1;omega)
 |8,_ =>zfO hκ l hl
 |9,_ =>zaP hκ l hl
 |10,_ =>zah hκ l hl
 |11,_ =>zbf hκ l hl
 |12,_ =>zbE hκ l hl
 |13,_ =>za3 hκ l hl
 |14,_ =>zbT hκ l hl
 |15,_ =>zak hκ l hl
 |16,_ =>zar hκ l hl
 |17,_ =>zax hκ l hl
 |18,_ =>zbB hκ l hl
 |n+19,h=>absurd h (by omega)
theorem za1{κ:Nat}(l:List UInt8)(c:zM):∀(j:Nat) (hj:j<19),qp κ (j==9) (zd j) l (zt j)=some c→c.kind=j∧zx j c=c∧GF l c
 |0,_,h=>zov l c h
 |1,_,h=>zoG l c h
 |2,_,h=>zoI l c h
 |3,_,h=>zoS l c h
 |4,_,h=>zoi l c h
 |5,_,h=>zob l c h
 |6,_,h=>zn9 l c h
 |7,_,h=>zoy l c h
 |8,_,h=>zoK l c h
 |9,_,h=>zoW l c h
 |10,_,h=>zmJ l c h
 |11,_,h=>zmA l c h
 |12,_,h=>zlV l c h
 |13,_,h=>zmm l c h
 |14,_,h=>zld l c h
 |15,_,h=>zmW l c h
 |16,_,h=>zlg l c h
 |17,_,h=>zl1 l c h
 |18,_,h=>zmM l c h
 |n+19,h,_ =>absurd h (by omega)
theorem zkE{κ:Nat}(hκ:40000≤κ)(c:zM)(hF:Fit c.zg c.value c.n c.zm c.size c.data){ws:List (List UInt8)}:∀(j:Nat) (hj:j<19),zJ j c.zR c.zg c.value c.n c.running c.zO c.port c.zm c.size c.data=some ws→qp κ (j==9) (zd j) (Lib.join ws [32]) (zt j)=some (zx j c)
 |0,_,h=>rt0 hκ c hF h
 |1,_,h=>rt1 hκ c hF h
 |2,_,h=>rt2 hκ c hF h
 |3,_,h=>rt3 hκ c hF h
 |4,_,h=>rt4 hκ c hF h
 |5,_,h=>rt5 hκ c hF h
 |6,_,h=>rt6 hκ c hF h
 |7,_,h=>rt7 hκ c hF h
 |8,_,h=>rt8 hκ c hF h
 |9,_,h=>rt9 hκ c hF h
 |10,_,h=>zmG hκ c hF h
 |11,_,h=>znI hκ c hF h
 |12,_,h=>znR hκ c hF h
 |13,_,h=>znS hκ c hF h
 |14,_,h=>zlZ hκ c hF h
 |15,_,h=>zl0 hκ c hF h
 |16,_,h=>zmn hκ c hF h
 |17,_,h=>zmz hκ c hF h
 |18,_,h=>zlu hκ c hF h
 |n+19,h,_ =>absurd h (by omega)
theorem zcb(c:zM):∀(j:Nat) (hj:j<19),yk j (zx j c)=yk j c
 |0,_ =>rfl
 |1,_ =>rfl
 |2,_ =>rfl
 |3,_ =>rfl
 |4,_ =>rfl
 |5,_ =>rfl
 |6,_ =>rfl
 |7,_ =>rfl
 |8,_ =>rfl
 |9,_ =>rfl
 |10,_ =>rfl
 |11,_ =>rfl
 |12,_ =>rfl
 |13,_ =>rfl
 |14,_ =>rfl
 |15,_ =>rfl
 |16,_ =>rfl
 |17,_ =>rfl
 |18,_ =>rfl
 |n+19,h=>absurd h (by omega)
theorem zYX(c:zM)(hF:qJ c):∀(j:Nat) (hj:j<19),qJ (zx j c)
 |0,_ =>⟨⟨yf,yf,yf,Nat.zero_le _,Nat.zero_le _,(fun x hx=>by cases hx)⟩,Nat.zero_le _⟩
 |1,_ =>⟨⟨yf,yf,yf,Nat.zero_le _,Nat.zero_le _,(fun x hx=>by cases hx)⟩,Nat.zero_le _⟩
 |2,_ =>⟨⟨yf,yf,yf,Nat.zero_le _,Nat.zero_le _,(fun x hx=>by cases hx)⟩,Nat.zero_le _⟩
 |3,_ =>⟨⟨yf,yf,yf,Nat.zero_le _,Nat.zero_le _,(fun x hx=>by cases hx)⟩,Nat.zero_le _⟩
 |4,_ =>⟨⟨yf,yf,yf,Nat.zero_le _,Nat.zero_le _,(fun x hx=>by cases hx)⟩,Nat.zero_le _⟩
 |5,_ =>⟨⟨yf,yf,yf,Nat.zero_le _,Nat.zero_le _,(fun x hx=>by cases hx)⟩,Nat.zero_le _⟩
 |6,_ =>⟨⟨yf,yf,yf,Nat.zero_le _,Nat.zero_le _,(fun x hx=>by cases hx)⟩,Nat.zero_le _⟩
 |7,_ =>⟨⟨yf,yf,yf,hF.f.zPn,Nat.zero_le _,(fun x hx=>by cases hx)⟩,Nat.zero_le _⟩
 |8,_ =>⟨⟨yf,yf,yf,Nat.zero_le _,Nat.zero_le _,(fun x hx=>by cases hx)⟩,Nat.zero_le _⟩
 |9,_ =>⟨⟨hF.f.hn,yf,yf,Nat.zero_le _,Nat.zero_le _,(fun x hx=>by cases hx)⟩,Nat.zero_le _⟩
 |10,_ =>⟨⟨hF.f.hn,yf,yf,Nat.zero_le _,Nat.zero_le _,(fun x hx=>by cases hx)⟩,Nat.zero_le _⟩
 |11,_ =>⟨⟨hF.f.hn,yf,yf,Nat.zero_le _,Nat.zero_le _,(fun x hx=>by cases hx)⟩,Nat.zero_le _⟩
 |12,_ =>⟨⟨hF.f.hn,yf,yf,Nat.zero_le _,Nat.zero_le _,(fun x hx=>by cases hx)⟩,Nat.zero_le _⟩
 |13,_ =>⟨⟨yf,yf,yf,Nat.zero_le _,hF.f.zbq,hF.f.gE⟩,hF.d⟩
 |14,_ =>⟨⟨yf,yf,yf,Nat.zero_le _,hF.f.zbq,hF.f.gE⟩,hF.d⟩
 |15,_ =>⟨⟨yf,hF.f.pq,hF.f.w9,Nat.zero_le _,Nat.zero_le _,(fun x hx=>by cases hx)⟩,Nat.zero_le _⟩
 |16,_ =>⟨⟨hF.f.hn,yf,yf,Nat.zero_le _,Nat.zero_le _,(fun x hx=>by cases hx)⟩,Nat.zero_le _⟩
 |17,_ =>⟨⟨yf,yf,yf,Nat.zero_le _,Nat.zero_le _,(fun x hx=>by cases hx)⟩,Nat.zero_le _⟩
 |18,_ =>⟨⟨yf,yf,yf,Nat.zero_le _,Nat.zero_le _,(fun x hx=>by cases hx)⟩,Nat.zero_le _⟩
 |n+19,h=>absurd h (by omega)
theorem zgf(c:zM)(hF:qJ c){ws:List (List UInt8)}:∀(j:Nat) (hj:j<19),zJ j c.zR c.zg c.value c.n c.running c.zO c.port c.zm c.size c.data=some ws→(Lib.join ws [32]).length≤140737488353000
 |0,_,h=>zoC c hF h
 |1,_,h=>zoD c hF h
 |2,_,h=>zox c hF h
 |3,_,h=>zo2 c hF h
 |4,_,h=>zo4 c hF h
 |5,_,h=>zoP c hF h
 |6,_,h=>zoZ c hF h
 |7,_,h=>zoV c hF h
 |8,_,h=>len8 c hF h
 |9,_,h=>zoF c hF h
 |10,_,h=>znU c hF h
 |11,_,h=>zlx c hF h
 |12,_,h=>zne c hF h
 |13,_,h=>zlq c hF h
 |14,_,h=>zlt c hF h
 |15,_,h=>zmT c hF h
 |16,_,h=>zns c hF h
 |17,_,h=>zm2 c hF h
 |18,_,h=>zmv c hF h
 |n+19,h,_ =>absurd h (by omega)
theorem zVb{w:List zD}(h:qT w=true):w.length≤6:=by
 unfold qT at h;rw [Bool.and_eq_true]at h;have h1:seq (Pa15.ub w) (B [])=false:=by simpa using h.2
 unfold Pa15.ub at h1;by_cases h6:w.length>6
 ·have:=of_decide_eq_true h.1
  rw [if_neg (by omega),if_pos h6]at h1;simp [seq]at h1
 ·omega
theorem zTj(c:zM){ws:List (List UInt8)}:∀(j:Nat) (hj:j<19),zJ j c.zR c.zg c.value c.n c.running c.zO c.port c.zm c.size c.data=some ws→(zx j c).zg.length≤6
 |0,_,_ =>Nat.zero_le _
 |1,_,_ =>Nat.zero_le _
 |2,_,_ =>Nat.zero_le _
 |3,_,_ =>Nat.zero_le _
 |4,_,_ =>Nat.zero_le _
 |5,_,_ =>Nat.zero_le _
 |6,_,_ =>Nat.zero_le _
 |7,_,h=>by
  unfold zJ at h;simp only at h;cases h0:zk c.zR
  ·rw [h0]at h;cases h
  ·cases h1:qT c.zg
   ·rw [h0,h1]at h;cases h
   ·exact zVb h1
 |8,_,h=>by
  unfold zJ at h;simp only at h;cases h0:zk c.zR
  ·rw [h0]at h;cases h
  ·cases h1:qT c.zg
   ·rw [h0,h1]at h;cases h
   ·exact zVb h1
 |9,_,_ =>Nat.zero_le _
 |10,_,_ =>Nat.zero_le _
 |11,_,_ =>Nat.zero_le _
 |12,_,_ =>Nat.zero_le _
 |13,_,_ =>Nat.zero_le _
 |14,_,_ =>Nat.zero_le _
 |15,_,_ =>Nat.zero_le _
 |16,_,_ =>Nat.zero_le _
 |17,_,_ =>Nat.zero_le _
 |18,_,_ =>Nat.zero_le _
 |n+19,h,_ =>absurd h (by omega)
end Go.Proofs.YtdoifigogbdodaaGreatDoor.Wo

namespace Go.Proofs.YtdoifigogbdodaaGreatDoor.Wo
open Go Ev Ev.Seat Go.Lib
def kj(c:zM):Option Nat:=if 0≤c.kind∧c.kind<19 then some c.kind.toNat else none
theorem zSg{c:zM}{j:Nat}(h:kj c=some j):j<19∧c.kind=(j:Int):=by
 unfold kj at h;split at h
 ·cases h;omega
 ·cases h
theorem zbI{c:zM}(h:kj c=none):c.kind<0∨18<c.kind:=by
 unfold kj at h;split at h
 ·cases h
 ·omega
theorem ziM{c:zM}{j:Nat}(hj:j<19)(h:c.kind=(j:Int)):kj c=some j:=by
 unfold kj;rw [h,if_pos (by omega)];simp
def jL(c:zM):Bool:=match kj c with
 |some j=>(yk j c).2&&zBX c (zx j c)
 |none=>false
def zNl(c:zM):ByteArray:=match kj c with
 |some j=>bif jL c then(yk j c).1 else B []
 |none=>B []
theorem zOl{o:Option (List (List UInt8))}(h:(vQ o).2=true):∃ws,o=some ws:=by
 cases o with
 |none=>cases h
 |some ws=>exact⟨ws,rfl⟩
theorem zYK{κ:Nat}(hκ:40000≤κ)(c:zM)(hF:qJ c):qy κ c.kind c.zR c.zg c.value c.n c.running c.zO c.port c.zm c.size c.data=some (jL c):=by
 unfold qy jL;cases hk:kj c with
 |none=>
  rw [zaa (zbI hk)];rfl
 |some j=>
  obtain⟨hj,hkind⟩:=zSg hk;have hl:=zYJ hκ c hF.f j hj;rw [←hkind]at hl;rw [hl];simp only [Option.bind_some];cases hw:zJ j c.zR c.zg c.value c.n c.running c.zO c.port c.zm c.size c.data with
  |none=>
   have hz:yk j c=(B [],false):=by unfold yk;rw [hw];rfl
   rw [hz];rfl
  |some ws=>
   have hz:yk j c=(B (Lib.join ws [32]),true):=by unfold yk;rw [hw];rfl
   obtain⟨h1,h2,h3⟩:=zam hκ c hF j hj hw;rw [hz];simp only [Bool.not_true,zK];rw [hkind,h1];have hs:seq (B (Lib.join ws [32])) (B [])=false:=by rw [yr];exact decide_eq_false h2
   have h4:=zgt (κ:=κ) c (zx j c) (by have:=zTj c j hj hw;omega) (by have:=zTj c j hj hw;omega);rw [hkind]at h4;simp only [Option.bind_some,qf,zcb c j hj,hz,hs,Bool.not_false,Bool.and_self,qy.v0,zH,h4,Bool.true_and]
theorem za5{κ:Nat}(hκ:40000≤κ)(c:zM)(hF:qJ c):kL κ c.kind c.zR c.zg c.value c.n c.running c.zO c.port c.zm c.size c.data=some (zNl c):=by
 unfold kL;rw [zYK hκ c hF];simp only [Option.bind_some];unfold zNl;cases hk:kj c with
 |none=>
  have:jL c=false:=by unfold jL;rw [hk]
  rw [this];rfl
 |some j=>
  cases hr:jL c
  ·rfl
  ·obtain⟨hj,hkind⟩:=zSg hk
   have hl:=zYJ hκ c hF.f j hj;rw [←hkind]at hl;rw [hl];rfl
structure VL(j:Nat)(l:List UInt8)(c:zM):Prop where
 lt:j<19
 kind:c.kind=(j:Int)
 only:zx j c=c
 ws:∃ws,zJ j c.zR c.zg c.value c.n c.running c.zO c.port c.zm c.size c.data=some ws∧Lib.join ws [32]=l
theorem VL.yk{j:Nat}{l:List UInt8}{c:zM}(h:VL j l c):yk j c=(B l,true):=by
 obtain⟨ws,h1,h2⟩:=h.ws;unfold Wo.yk;rw [h1,←h2];rfl
theorem VL.right{j:Nat}{l:List UInt8}{c:zM}(h:VL j l c):jL c=true∧zNl c=B l:=by
 have hr:jL c=true:=by
  unfold jL;rw [ziM h.lt h.kind];simp only [h.yk,h.only,zOU,Bool.and_self]
 refine⟨hr, ?_⟩;unfold zNl;rw [ziM h.lt h.kind,hr];simp only [h.yk,zH]
theorem zYw{c:zM}(hF:qJ c)(h:jL c=true):∃j l,VL j l c:=by
 unfold jL at h;split at h
 ·rename_i j hk
  obtain⟨hj,hkind⟩:=zSg hk;rw [Bool.and_eq_true]at h;obtain⟨ws,hw⟩:=zOl h.1;exact⟨j,_,hj,hkind,((zEy hF.f.gE (zYX c hF j hj).f.gE).1 h.2).symm,ws,hw,rfl⟩
 ·cases h
theorem VL.read{κ:Nat}(hκ:40000≤κ){j:Nat}{l:List UInt8}{c:zM}(h:VL j l c)(hF:Fit c.zg c.value c.n c.zm c.size c.data):qp κ (j==9) (zd j) l (zt j)=some c:=by
 obtain⟨ws,h1,h2⟩:=h.ws;have:=zkE hκ c hF j h.lt h1;rw [h2,h.only]at this;exact this
theorem VL.kd{j:Nat}{l:List UInt8}{c:zM}(h:VL j l c)(hF:qJ c):kd l=j∧l≠[]:=by
 obtain⟨ws,h1,h2⟩:=h.ws;obtain⟨_,h3,h4⟩:=zam (κ:=40000) (Nat.le_refl _) c hF j h.lt h1;rw [h2]at h3 h4;exact⟨h4,h3⟩
theorem VL.same{i j:Nat}{l:List UInt8}{c d:zM}(hc:VL i l c)(hd:VL j l d)(fc:qJ c)(fd:qJ d):c=d:=by
 have h1:=(hc.kd fc).1;have h2:=(hd.kd fd).1;have h3:i=j:=h1.symm.trans h2;subst h3;have e1:=hc.read (κ:=40000) (Nat.le_refl _) fc.f;have e2:=hd.read (κ:=40000) (Nat.le_refl _) fd.f;rw [e1]at e2;exact Option.some.inj e2
def zM5(κ:Nat)(l:List UInt8)(j:Nat):Option zM:=match qp κ (j==9) (zd j) l (zt j)with
 |some c=>bif (yk j c).2&&seq (yk j c).1 (B l)then some c else none
 |none=>none
def jq(κ:Nat)(l:List UInt8):Nat→Nat→Option zM
 |0,_ =>none
 |d+1,j=>match zM5 κ l j with
  |some c=>some c
  |none=>jq κ l d (j+1)
theorem zW4{l:List UInt8}{c:zM}(h:GF l c)(hl:l.length≤7000):qJ c:=
 ⟨⟨h.n,h.fl,h.sz,Nat.le_trans h.val (by omega),Nat.le_trans h.y1 (by omega),h.byt⟩,Nat.le_trans h.y1 hl⟩
theorem za9{κ:Nat}{l:List UInt8}{j:Nat}(hj:j<19){c:zM}(h:zM5 κ l j=some c):VL j l c∧GF l c:=by
 unfold zM5 at h;split at h
 ·rename_i d hd
  obtain⟨h1,h2,h3⟩:=za1 l d j hj hd;cases hb:(yk j d).2&&seq (yk j d).1 (B l)
  ·rw [hb]at h;cases h
  ·rw [hb]at h
   cases h;rw [Bool.and_eq_true]at hb;obtain⟨ws,hw⟩:=zOl hb.1;refine⟨⟨hj,h1,h2,ws,hw, ?_⟩,h3⟩;have h4:=Va8.zDr.1 hb.2;have h5:yk j c=(B (Lib.join ws [32]),true):=by unfold yk;rw [hw];rfl
   rw [h5]at h4;exact zeR.1 h4
 ·cases h
theorem zhC{κ:Nat}(hκ:40000≤κ){l:List UInt8}{j:Nat}{c:zM}(h:VL j l c)(hF:qJ c):zM5 κ l j=some c:=by
 unfold zM5;rw [h.read hκ hF.f];simp only [h.yk,yr,decide_true,Bool.and_self,zH]
def zEJ:Int×Int×ByteArray×Int×Bool×Bool×ByteArray×Int×Int:=(0,0,B [],0,false,false,B [],0,0)
theorem zAm{κ:Nat}(hκ:40000≤κ)(l:List UInt8)(hl:l.length≤7000):∀(d j K:Nat),d+j=19→d<K→
  yL.l2 κ K (B l,(j:Int),0,0,B [],0,false,false,B [],0,0)=some (match jq κ l d j with
   |some c=> .inr (0,c.kind,c.zR,c.zg,c.value,c.n,c.running,c.zO,c.port,c.zm,c.size,c.data)
   |none=> .inl (0,0,B [],0,false,false,B [],0,0))
 |d,j,0,_,h=>by omega
 |0,j,K+1,h,_ =>by
  simp only [yL.l2];unfold yL.w2;rw [show decide ((j:Int)≤18)=false from decide_eq_false (by omega)];rfl
 |d+1,j,K+1,h,hk=>by
  have hj:j<19:=by omega
  simp only [yL.l2];unfold yL.w2;rw [show decide ((j:Int)≤18)=true from decide_eq_true (by omega),zcJ hκ l (by omega) j hj];simp only [zH,Option.bind_some];have ih:=zAm hκ l hl d (j+1) K (by omega) (by omega);have hw:IntKind.wrap IntKind.i64 ((j:Int)+1)=((j+1:Nat):Int):=zUn j (by omega);have hfirst:jq κ l (d+1) j=(match zM5 κ l j with|some c=>some c|none=>jq κ l d (j+1)):=rfl;rw [hfirst];unfold zM5;cases hg:qp κ (j==9) (zd j) l (zt j)with
  |none=>
   simp only [qf,yL.v3,zK,Option.bind_some,hw];exact ih
  |some c=>
   obtain⟨h1,h2,h3⟩:=za1 l c j hj hg;have hF:=zW4 h3 hl;cases hb:(yk j c).2
   ·simp only [qf,hb,Bool.false_and,yL.v3,zK,Option.bind_some,hw]
    exact ih
   ·obtain⟨ws,hws⟩:=zOl hb
    have hz:yk j c=(B (Lib.join ws [32]),true):=by unfold yk;rw [hws];rfl
    have hv:VL j (Lib.join ws [32]) c:=⟨hj,h1,h2,ws,hws,rfl⟩
    have hne:seq (B (Lib.join ws [32])) (B [])=false:=by rw [yr];exact decide_eq_false (hv.kd hF).2
    have hline:=za5 hκ c hF;rw [hv.right.2]at hline;simp only [qf,hz,hne,Bool.not_false,Bool.and_self,yL.v3,zH,hline,Option.bind_some,Bool.true_and];cases seq (B (Lib.join ws [32])) (B l)
    ·simp only [zK,hw]
     exact ih
    ·rfl
def zd1(o:Option zM):Int×Int×(List zD)×ByteArray×Int×Bool×Bool×ByteArray×Int×Int×(List Int)×Int:=match o with
 |some c=>(c.kind,c.zR,c.zg,c.value,c.n,c.running,c.zO,c.port,c.zm,c.size,c.data,0)
 |none=>(0,0,[],B [],0,false,false,B [],0,0,[],40)
theorem zeO{κ:Nat}(hκ:40000≤κ)(l:List UInt8)(hl:l.length≤7000):yL κ (B l)=some (zd1 (jq κ l 19 0)):=by
 unfold yL;rw [show yL.l2 κ κ (B l,(0:Int),0,0,(ByteArray.mk (List.toArray [])),0,false,false,(ByteArray.mk (List.toArray [])),0,0)=_ from zAm hκ l hl 19 0 κ (by omega) (by omega)];cases jq κ l 19 0<;>rfl
theorem zIS{κ:Nat}{l:List UInt8}:∀{d j:Nat} {c:zM},d+j=19→jq κ l d j=some c→∃i,i<19∧zM5 κ l i=some c
 |0,j,c,_,h=>by cases h
 |d+1,j,c,hd,h=>by
  unfold jq at h;split at h
  ·rename_i x hx;cases h;exact⟨j,by omega,hx⟩
  ·exact zIS (by omega) h
theorem zUp{κ:Nat}{l:List UInt8}:∀{d j:Nat},d+j=19→jq κ l d j=none→∀i,j≤i→i<19→zM5 κ l i=none
 |0,j,hd,h,i,h1,h2=>by omega
 |d+1,j,hd,h,i,h1,h2=>by
  unfold jq at h;split at h
  ·cases h
  ·rename_i hx
   by_cases e:i=j
   ·subst e;exact hx
   ·exact zUp (by omega) h i (by omega) h2
theorem zdX{κ:Nat}(hκ:40000≤κ){l:List UInt8}(hl:l.length≤7000){j:Nat}{c:zM}(h:VL j l c)(hF:qJ c):jq κ l 19 0=some c:=by
 cases hf:jq κ l 19 0 with
 |none=>
  have:=zUp (d:=19) (j:=0) rfl hf j (Nat.zero_le _) h.lt;rw [zhC hκ h hF]at this;cases this
 |some d=>
  obtain⟨i,hi,hd⟩:=zIS rfl hf;obtain⟨h1,h2⟩:=za9 hi hd;rw [h1.same h (zW4 h2 hl) hF]
theorem zXa{κ:Nat}{l:List UInt8}{c:zM}(h:jq κ l 19 0=some c):(∃j,VL j l c)∧GF l c:=by
 obtain⟨i,hi,hd⟩:=zIS rfl h;obtain⟨h1,h2⟩:=za9 hi hd;exact⟨⟨i,h1⟩,h2⟩
theorem zlL:uR []=(0,false):=by kernel_rfl
end Go.Proofs.YtdoifigogbdodaaGreatDoor.Wo

namespace Go.Proofs.YtdoifigogbdodaaGreatDoor.Wo
open Go Ev Ev.Seat Go.Lib
theorem zee:kV 40000=some true:=by kernel_rfl
theorem VL.len{j:Nat}{l:List UInt8}{c:zM}(h:VL j l c)(hF:qJ c):l.length≤140737488353000:=by
 obtain⟨ws,h1,h2⟩:=h.ws;rw [←h2];exact zgf c hF j h.lt h1
theorem VL.zg{j:Nat}{l:List UInt8}{c:zM}(h:VL j l c):c.zg.length≤6:=by
 obtain⟨ws,h1,h2⟩:=h.ws;have:=zTj c j h.lt h1
 rwa [h.only]at this
end Go.Proofs.YtdoifigogbdodaaGreatDoor.Wo
namespace Go.Proofs.YtdoifigogbdodaaGreatDoor.Wo
open Go Ev Ev.Seat Go.Lib
end Go.Proofs.YtdoifigogbdodaaGreatDoor.Wo

namespace Go.Proofs.YtdoifigogbdodaaGreatDoor.Wo
open Go Ev Ev.Seat Go.Lib
structure uj(κ:Nat)(c:zM):Prop where
 f:qJ c
 val:c.value.size≤20000
 port:c.port.size≤20000
 zg:c.zg.length≤30
 fits:Pa15.Fits κ c.zg
def vP:Nat→List UInt8
 |0=>[108,111,99,107]
 |1=>[117,110,108,111,99,107]
 |2=>[100,105,115,99,97,114,100]
 |3=>[99,104,101,99,107]
 |4=>[99,111,110,102,105,114,109]
 |5=>[99,97,110,99,101,108]
 |6=>[115,97,118,101]
 |7=>[115,101,116]
 |8=>[100,101,108]
 |9=>[99,111,109,109,105,116]
 |10=>[114,111,108,108,98,97,99,107]
 |11=>[112,114,117,110,101]
 |12=>[115,104,111,119]
 |13=>[108,111,97,100]
 |14=>[108,111,97,100]
 |15=>[112,97,99,107,101,116]
 |16=>[116,105,99,107]
 |17=>[110,101,120,116]
 |18=>[100,117,109,112]
 |_ =>[]
theorem ju{κ:Nat}:∀(j:Nat) (hj:j<19),yn κ (j:Int)=some (B (vP j))
 |0,_ =>by kernel_rfl
 |1,_ =>by kernel_rfl
 |2,_ =>by kernel_rfl
 |3,_ =>by kernel_rfl
 |4,_ =>by kernel_rfl
 |5,_ =>by kernel_rfl
 |6,_ =>by kernel_rfl
 |7,_ =>by kernel_rfl
 |8,_ =>by kernel_rfl
 |9,_ =>by kernel_rfl
 |10,_ =>by kernel_rfl
 |11,_ =>by kernel_rfl
 |12,_ =>by kernel_rfl
 |13,_ =>by kernel_rfl
 |14,_ =>by kernel_rfl
 |15,_ =>by kernel_rfl
 |16,_ =>by kernel_rfl
 |17,_ =>by kernel_rfl
 |18,_ =>by kernel_rfl
 |n+19,h=>absurd h (by omega)
theorem zm7:∀(j:Nat) (hj:j<19),seq (B (vP j)) (B [])=false
 |0,_ =>by kernel_rfl
 |1,_ =>by kernel_rfl
 |2,_ =>by kernel_rfl
 |3,_ =>by kernel_rfl
 |4,_ =>by kernel_rfl
 |5,_ =>by kernel_rfl
 |6,_ =>by kernel_rfl
 |7,_ =>by kernel_rfl
 |8,_ =>by kernel_rfl
 |9,_ =>by kernel_rfl
 |10,_ =>by kernel_rfl
 |11,_ =>by kernel_rfl
 |12,_ =>by kernel_rfl
 |13,_ =>by kernel_rfl
 |14,_ =>by kernel_rfl
 |15,_ =>by kernel_rfl
 |16,_ =>by kernel_rfl
 |17,_ =>by kernel_rfl
 |18,_ =>by kernel_rfl
 |n+19,h=>absurd h (by omega)
theorem zXv{κ:Nat}{k:Int}(h:k<0∨18<k):yn κ k=some (B []):=by
 unfold yn yn.v0;by_cases h0:k<0
 ·rw [decide_eq_true h0];rfl
 ·rw [decide_eq_false h0]
  simp only [zK,Option.bind_some,List.length_cons,List.length_nil];rw [show decide (k≥_)=true from decide_eq_true (by omega)];rfl
theorem zm9{κ:Nat}(c:zM):∀(j:Nat) (hj:j<19),za κ (j:Int) c.zR c.zg c.value c.n c.running c.zO c.port c.zm c.size (B (qC c.data))=
  some ((zx j c).kind,(zx j c).zR,(zx j c).zg,(zx j c).value,(zx j c).n,(zx j c).running,(zx j c).zO,(zx j c).port,(zx j c).zm,(zx j c).size,B (qC (zx j c).data))
 |0,_ =>by kernel_rfl
 |1,_ =>by kernel_rfl
 |2,_ =>by kernel_rfl
 |3,_ =>by kernel_rfl
 |4,_ =>by kernel_rfl
 |5,_ =>by kernel_rfl
 |6,_ =>by kernel_rfl
 |7,_ =>by kernel_rfl
 |8,_ =>by kernel_rfl
 |9,_ =>by kernel_rfl
 |10,_ =>by kernel_rfl
 |11,_ =>by kernel_rfl
 |12,_ =>by kernel_rfl
 |13,_ =>by kernel_rfl
 |14,_ =>by kernel_rfl
 |15,_ =>by kernel_rfl
 |16,_ =>by kernel_rfl
 |17,_ =>by kernel_rfl
 |18,_ =>by kernel_rfl
 |n+19,h=>absurd h (by omega)
theorem zb0{κ:Nat}(c:zM){k:Int}(h:k<0):za κ k c.zR c.zg c.value c.n c.running c.zO c.port c.zm c.size (B (qC c.data))=some (k,c.zR,[],B [],0,false,false,B [],0,0,B []):=by
 have e:∀j:Int,0≤j→(k==j)=false:=fun j h1=>by simp;omega
 unfold za;rw [show decide (k<15)=true from decide_eq_true (by omega)];simp only [za.v0,za.v2,za.v4,za.v6,za.v8,za.v10,za.v12,za.v14,za.v16,za.v18,za.v20,za.v22,zH,zK,Option.bind_some,e 7 (by decide),e 8 (by decide),e 9 (by decide),e 12 (by decide),e 13 (by decide),e 14 (by decide),e 15 (by decide),e 16 (by decide),
  show decide (k≥9)=false from decide_eq_false (by omega),show decide (k>16)=false from decide_eq_false (by omega)]
theorem zcd{κ:Nat}(c:zM){k:Int}(h:18<k):za κ k c.zR c.zg c.value c.n c.running c.zO c.port c.zm c.size (B (qC c.data))=some (k,0,[],B [],0,false,false,c.port,0,0,B []):=by
 have e:∀j:Int,j≤18→(k==j)=false:=fun j h1=>by simp;omega
 unfold za;rw [show decide (k<15)=false from decide_eq_false (by omega)];simp only [za.v0,za.v2,za.v4,za.v6,za.v8,za.v10,za.v12,za.v14,za.v16,za.v18,za.v20,za.v22,zH,zK,Option.bind_some,e 7 (by decide),e 8 (by decide),e 9 (by decide),e 12 (by decide),e 13 (by decide),e 14 (by decide),e 15 (by decide),e 16 (by decide),
  show decide (k≥9)=true from decide_eq_true (by omega),show decide (k≤12)=false from decide_eq_false (by omega),show decide (k>16)=true from decide_eq_true (by omega)]
def okR(k:Int)(zR zg plain port:Bool):Bool:=(bif decide (k<15)then zR else true)&&((bif k==7||k==8 then zg else true)&&((bif k==7 then plain else true)&&(bif decide (k<15)then true else bif k==16 then true else port)))
theorem zfr(c:zM):∀(j:Nat) (hj:j<19),(yk j c).2=okR (j:Int) (zk c.zR) (qT c.zg) (Lex5.qa c.value.data.toList) (Pa15.vf c.port)
 |0,_ =>by unfold yk zJ;simp only;cases zk c.zR<;>cases qT c.zg<;>cases Lex5.qa c.value.data.toList<;>cases Pa15.vf c.port<;>rfl
 |1,_ =>by unfold yk zJ;simp only;cases zk c.zR<;>cases qT c.zg<;>cases Lex5.qa c.value.data.toList<;>cases Pa15.vf c.port<;>rfl
 |2,_ =>by unfold yk zJ;simp only;cases zk c.zR<;>cases qT c.zg<;>cases Lex5.qa c.value.data.toList<;>cases Pa15.vf c.port<;>rfl
 |3,_ =>by unfold yk zJ;simp only;cases zk c.zR<;>cases qT c.zg<;>cases Lex5.qa c.value.data.toList<;>cases Pa15.vf c.port<;>rfl
 |4,_ =>by unfold yk zJ;simp only;cases zk c.zR<;>cases qT c.zg<;>cases Lex5.qa c.value.data.toList<;>cases Pa15.vf c.port<;>rfl
 |5,_ =>by unfold yk zJ;simp only;cases zk c.zR<;>cases qT c.zg<;>cases Lex5.qa c.value.data.toList<;>cases Pa15.vf c.port<;>rfl
 |6,_ =>by unfold yk zJ;simp only;cases zk c.zR<;>cases qT c.zg<;>cases Lex5.qa c.value.data.toList<;>cases Pa15.vf c.port<;>rfl
 |7,_ =>by unfold yk zJ;simp only;cases zk c.zR<;>cases qT c.zg<;>cases Lex5.qa c.value.data.toList<;>cases Pa15.vf c.port<;>rfl
 |8,_ =>by unfold yk zJ;simp only;cases zk c.zR<;>cases qT c.zg<;>cases Lex5.qa c.value.data.toList<;>cases Pa15.vf c.port<;>rfl
 |9,_ =>by unfold yk zJ;simp only;cases zk c.zR<;>cases qT c.zg<;>cases Lex5.qa c.value.data.toList<;>cases Pa15.vf c.port<;>rfl
 |10,_ =>by unfold yk zJ;simp only;cases zk c.zR<;>cases qT c.zg<;>cases Lex5.qa c.value.data.toList<;>cases Pa15.vf c.port<;>rfl
 |11,_ =>by unfold yk zJ;simp only;cases zk c.zR<;>cases qT c.zg<;>cases Lex5.qa c.value.data.toList<;>cases Pa15.vf c.port<;>rfl
 |12,_ =>by unfold yk zJ;simp only;cases zk c.zR<;>cases qT c.zg<;>cases Lex5.qa c.value.data.toList<;>cases Pa15.vf c.port<;>rfl
 |13,_ =>by unfold yk zJ;simp only;cases zk c.zR<;>cases qT c.zg<;>cases Lex5.qa c.value.data.toList<;>cases Pa15.vf c.port<;>rfl
 |14,_ =>by unfold yk zJ;simp only;cases zk c.zR<;>cases qT c.zg<;>cases Lex5.qa c.value.data.toList<;>cases Pa15.vf c.port<;>rfl
 |15,_ =>by unfold yk zJ;simp only;cases zk c.zR<;>cases qT c.zg<;>cases Lex5.qa c.value.data.toList<;>cases Pa15.vf c.port<;>rfl
 |16,_ =>by unfold yk zJ;simp only;cases zk c.zR<;>cases qT c.zg<;>cases Lex5.qa c.value.data.toList<;>cases Pa15.vf c.port<;>rfl
 |17,_ =>by unfold yk zJ;simp only;cases zk c.zR<;>cases qT c.zg<;>cases Lex5.qa c.value.data.toList<;>cases Pa15.vf c.port<;>rfl
 |18,_ =>by unfold yk zJ;simp only;cases zk c.zR<;>cases qT c.zg<;>cases Lex5.qa c.value.data.toList<;>cases Pa15.vf c.port<;>rfl
 |n+19,h=>absurd h (by omega)
theorem rv0{κ:Nat}{nm:ByteArray}(hn:seq nm (B [])=false)(b:Bool)(k zR:Int)(zg:List zD)(val:ByteArray)(n:Int)(run ab:Bool)(port:ByteArray)(fl sz:Int)(y1:ByteArray):
  yA.v0 κ nm b k zR zg val n run ab port fl sz y1=some (!b|| !(bif decide (k<15)then zk zR else true),k,zR,zg,val,n,run,ab,port,fl,sz,y1):=by
 unfold yA.v0 zk;rw [show ByteArray.mk (List.toArray [])=B []from rfl,hn];cases b
 ·rfl
 cases decide (k<15)
 ·rfl
 by_cases h1:1≤zR
 ·by_cases h9:zR≤9
  ·simp [h1,h9,Int.not_lt.2 h1,Int.not_lt.2 h9]
  ·simp [h1,h9,Int.not_lt.2 h1,Int.not_le.1 h9]
 ·simp [h1,Int.not_le.1 h1]
theorem rv2{κ:Nat}(hκ:40000≤κ)(a b:Bool)(k zR:Int){zg:List zD}(hw:zg.length≤30)(hf:Pa15.Fits κ zg)(val:ByteArray)(n:Int)(run ab:Bool)(port:ByteArray)(fl sz:Int)(y1:ByteArray):
  yA.v2 κ a b k zR zg val n run ab port fl sz y1=some (a,b, !(bif k==7||k==8 then qT zg else true),k,zR,zg,val,n,run,ab,port,fl,sz,y1):=by
 unfold yA.v2 qT;rw [Pa15.zI1 κ zg hw (by omega) hf];cases h7:(k==7)
 ·cases h8:(k==8)
  ·rfl
  ·by_cases h0:zg.length=0
   ·rw [h0];rfl
   ·rw [show(((List.length zg:Nat):Int)==0)=false from beq_eq_false_iff_ne.2 (by omega),show decide (0<zg.length)=true from decide_eq_true (by omega)]
    simp [B]
 ·by_cases h0:zg.length=0
  ·rw [h0];rfl
  ·rw [show(((List.length zg:Nat):Int)==0)=false from beq_eq_false_iff_ne.2 (by omega),show decide (0<zg.length)=true from decide_eq_true (by omega)]
   simp [B]
theorem rv4{κ:Nat}(a b:Bool)(k zR:Int)(zg:List zD)(val:ByteArray)(n:Int)(run ab:Bool)(port:ByteArray)(fl sz:Int)(y1:ByteArray):
  yA.v4 κ a b k zR zg val n run ab port fl sz y1=some ((bif k==7 then b else true)&&(bif decide (k<15)then true else bif k==16 then true else a)):=by
 unfold yA.v4;simp only [bne];cases k==7<;>cases b<;>cases decide (k<15)<;>cases k==16<;>rfl
theorem zcZ{a b:zM}(ha:Byt a.data)(hb:Byt b.data):zBX a b=zBX b a:=by
 cases h:zBX a b
 ·cases h':zBX b a
  ·rfl
  ·have:=(zEy hb ha).1 h'
   rw [(zEy ha hb).2 this.symm]at h;cases h
 ·exact((zEy hb ha).2 ((zEy ha hb).1 h).symm).symm
theorem zVt{κ:Nat}(hκ:40000≤κ)(c:zM)(hF:uj κ c):yA κ c.kind c.zR c.zg c.value c.n c.running c.zO c.port c.zm c.size (B (qC c.data))=some (jL c):=by
 have hway:=hF.zg;unfold yA jL;cases hk:kj c with
 |none=>
  have h:=zbI hk;rw [zXv h];simp only [Option.bind_some];have hv:∀(b:Bool) (k zR:Int) (zg:List zD) (val:ByteArray) (n:Int) (run ab:Bool) (port:ByteArray) (fl sz:Int) (y1:ByteArray),yA.v0 κ (B []) b k zR zg val n run ab port fl sz y1=some (true,k,zR,zg,val,n,run,ab,port,fl,sz,y1):=fun _ _ _ _ _ _ _ _ _ _ _ _ =>by
   unfold yA.v0;rw [show seq (B []) (ByteArray.mk (List.toArray []))=true from rfl];rfl
  rcases h with h|h
  ·rw [zb0 c h]
   simp only [Option.bind_some];have hs:=zDf (κ:=κ) ⟨c.kind,c.zR,[],B [],0,false,false,B [],0,0,[]⟩ c (by omega) (by omega);simp only [show qC []=[]from rfl]at hs;rw [hs];simp only [Option.bind_some,hv,zH]
  ·rw [zcd c h]
   simp only [Option.bind_some];have hs:=zDf (κ:=κ) ⟨c.kind,0,[],B [],0,false,false,c.port,0,0,[]⟩ c (by omega) (by omega);simp only [show qC []=[]from rfl]at hs;rw [hs];simp only [Option.bind_some,hv,zH]
 |some j=>
  obtain⟨hj,hkind⟩:=zSg hk;have hn:=ju (κ:=κ) j hj;have ho:=zm9 (κ:=κ) c j hj;rw [←hkind]at hn ho;have hs:=zDf (κ:=κ) (zx j c) c (by omega) (by omega);rw [hn,ho];simp only [Option.bind_some];rw [hs];simp only [Option.bind_some,rv0 (zm7 j hj)];have hid:=Pa15.zBa κ c.port (by have:=hF.port;omega) (by have:=hF.port;omega);have hpl:qS κ c.value=some (Lex5.qa c.value.data.toList):=by
   have hv:=hF.val;have:=Lex5.zYg (κ:=κ) c.value.data.toList (by rw [←wz c.value,zy]at hv;omega) (by rw [←wz c.value,zy]at hv;omega);rw [show ByteArray.mk (List.toArray c.value.data.toList)=c.value from wz _]at this;exact this
  simp only [hid,hpl,Option.bind_some,rv2 hκ _ _ _ _ hF.zg hF.fits,rv4];rw [zfr c j hj,zcZ hF.f.f.gE (zYX c hF.f j hj).f.gE,←hkind];unfold okR;generalize zBX (zx j c) c=s;generalize (bif decide (c.kind<15)then zk c.zR else true)=x;generalize (bif c.kind==7||c.kind==8 then qT c.zg else true)=y;cases s<;>cases x<;>cases y<;>simp
end Go.Proofs.YtdoifigogbdodaaGreatDoor.Wo

namespace Go.Proofs.YtdoifigogbdodaaGreatDoor.Wo
open Go Ev Ev.Seat Go.Lib
def hiP(x:Int):Int:=IntKind.wrap IntKind.i64 (Int.tdiv (IntKind.wrap IntKind.i64 x) 16)
def loP(x:Int):Int:=Int.tmod (IntKind.wrap IntKind.i64 x) 16
def zJo(x:Int):Int:=IntKind.wrap IntKind.i64 (x+1)
def zcl(x:Int):Bool:=((((decide ((0:Int)≤zJo x))&&(decide (zJo x≤(((ByteArray.size (B zB5)):Nat):Int))))&&(decide ((0:Int)≤x)))&&(decide (x≤zJo x)))
theorem zfF:∀n:Fin 256,zcl (hiP ((n.val:Nat):Int))=true∧zcl (loP ((n.val:Nat):Int))=true∧
  ByteArray.extract (B zB5) (Int.toNat (hiP ((n.val:Nat):Int))) (Int.toNat (zJo (hiP ((n.val:Nat):Int))))=B [hx (n.val/16)]∧
  ByteArray.extract (B zB5) (Int.toNat (loP ((n.val:Nat):Int))) (Int.toNat (zJo (loP ((n.val:Nat):Int))))=B [hx (n.val%16)]:=by decide+kernel
theorem zkS(c:UInt8):zcl (hiP ((c.toNat:Nat):Int))=true∧zcl (loP ((c.toNat:Nat):Int))=true∧
  ByteArray.extract (B zB5) (Int.toNat (hiP ((c.toNat:Nat):Int))) (Int.toNat (zJo (hiP ((c.toNat:Nat):Int))))=B [hx (c.toNat/16)]∧
  ByteArray.extract (B zB5) (Int.toNat (loP ((c.toNat:Nat):Int))) (Int.toNat (zJo (loP ((c.toNat:Nat):Int))))=B [hx (c.toNat%16)]:=zfF ⟨c.toNat,c.toNat_lt⟩
theorem wy{n:Nat}(h:n≤1000000):Nat.ble n qL=true:=Nat.ble_eq_true_of_le (by unfold qL;omega)
theorem qj(a b:List UInt8):B a++B b=B (a++b):=Va8.zVh a b
theorem zdg{κ:Nat}(rec:_)(s acc:ByteArray)(i:Int):w7.w0 κ rec s acc i=(bif (decide (i<(((ByteArray.size s):Nat):Int)))then
  bif (decide ((0:Int)≤i))then
   Option.bind ((Array.toList (ByteArray.data s))[(Int.toNat i)]?) fun x0=>
    bif (decide ((0:Int)≤i))then
     Option.bind ((Array.toList (ByteArray.data s))[(Int.toNat i)]?) fun x1=>
      bif zcl (hiP ((x0.toNat:Nat):Int))then
       bif zcl (loP ((x1.toNat:Nat):Int))then
        bif (Nat.ble ((ByteArray.size (ByteArray.extract (B zB5) (Int.toNat (hiP ((x0.toNat:Nat):Int))) (Int.toNat (zJo (hiP ((x0.toNat:Nat):Int))))))+(ByteArray.size (ByteArray.extract (B zB5) (Int.toNat (loP ((x1.toNat:Nat):Int))) (Int.toNat (zJo (loP ((x1.toNat:Nat):Int))))))) Ev.qL)then
         bif (Nat.ble ((ByteArray.size acc)+(ByteArray.size ((ByteArray.extract (B zB5) (Int.toNat (hiP ((x0.toNat:Nat):Int))) (Int.toNat (zJo (hiP ((x0.toNat:Nat):Int)))))++(ByteArray.extract (B zB5) (Int.toNat (loP ((x1.toNat:Nat):Int))) (Int.toNat (zJo (loP ((x1.toNat:Nat):Int)))))))) Ev.qL)then
          rec (s,(acc++((ByteArray.extract (B zB5) (Int.toNat (hiP ((x0.toNat:Nat):Int))) (Int.toNat (zJo (hiP ((x0.toNat:Nat):Int)))))++(ByteArray.extract (B zB5) (Int.toNat (loP ((x1.toNat:Nat):Int))) (Int.toNat (zJo (loP ((x1.toNat:Nat):Int))))))),zJo i)
         else none
        else none
       else none
      else none
    else none
  else none
 else some acc):=rfl
theorem zVX{κ:Nat}(l:List UInt8)(hl:l.length≤40000):∀(d i K:Nat) (acc:List UInt8),l.length=i+d→d<K→acc.length≤2*i→
  w7.l0 κ K (B l,B acc,((i:Nat):Int))=some (B (acc++zC2 (l.drop i)))
 |d,i,0,acc,_,h,_ =>by omega
 |0,i,K+1,acc,h,_,_ =>by
  unfold w7.l0;rw [zdg,zy,show decide (((i:Nat):Int)<((l.length:Nat):Int))=false from decide_eq_false (by omega)];simp only [zK];rw [List.drop_eq_nil_of_le (by omega)];simp [zC2]
 |d+1,i,K+1,acc,h,hk,ha=>by
  have hlt:i<l.length:=by omega
  unfold w7.l0;obtain⟨h1,h2,h3,h4⟩:=zkS l[i];rw [zdg,zy,show decide (((i:Nat):Int)<((l.length:Nat):Int))=true from decide_eq_true (by omega),show decide ((0:Int)≤((i:Nat):Int))=true from decide_eq_true (by omega),Int.toNat_natCast,zKo,List.getElem?_eq_getElem hlt];simp only [zH,Option.bind_some,h1,h2,h3,h4,qj,zy,List.cons_append,List.nil_append,List.length_cons,List.length_nil];rw [wy (by omega),wy (by omega)];simp only [zH];rw [show zJo ((i:Nat):Int)=((i+1:Nat):Int)from zUn i (by omega),zVX l hl d (i+1) K _ (by omega) (by omega) (by simp;omega),List.drop_eq_getElem_cons hlt];simp [zC2,List.append_assoc]
theorem zhX{κ:Nat}(l:List UInt8)(hl:l.length≤40000)(hκ:l.length<κ):w7 κ (B l)=some (B (zC2 l)):=by
 unfold w7;have h:=zVX (κ:=κ) l hl l.length 0 κ [] (by omega) hκ (by simp);rw [show w7.l0 κ κ (B l,(ByteArray.mk (List.toArray [])),(0:Int))=_ from h];simp
theorem yE{κ:Nat}(hκ:40000≤κ){n:Int}(h:0≤n∧n<18446744073709551616):yV κ n=some (B (gB n)):=by
 obtain⟨k,rfl⟩:=Int.eq_ofNat_of_zero_le h.1;exact Va8.zXT κ (by omega) k (by omega)
theorem qX{κ:Nat}(hκ:40000≤κ)(w:Int):yV κ (IntKind.wrap IntKind.u64 w)=some (B (y5 w)):=yE hκ (by rw [IntKind.wrap_u64];omega)
theorem zlA{κ:Nat}(hκ:40000≤κ)(c:zM)(hF:uj κ c)(hr:yA κ 0 c.zR c.zg c.value c.n c.running c.zO c.port c.zm c.size (B (qC c.data))=some true){ws:List (List UInt8)}(h:zJ 0 c.zR c.zg c.value c.n c.running c.zO c.port c.zm c.size c.data=some ws):zL κ 0 c.zR c.zg c.value c.n c.running c.zO c.port c.zm c.size (B (qC c.data))=some (B (Lib.join ws [32])):=by
 unfold zJ at h;simp only at h;cases h0:zk c.zR
 ·rw [h0]at h;cases h
 rw [h0,zH]at h;cases h;have l1:=z8 c.zR;have l2:=zn hF.f.f.hn;have l3:=zn hF.f.f.pq;have l4:=zn hF.f.f.w9;unfold zL;rw [hr,show yn κ 0=some (B (vP 0))from ju 0 (by decide)];simp only [Option.bind_some,Bool.not_true,zK,zL.v0,qX hκ,yE hκ hF.f.f.hn,show∀l:List UInt8,ByteArray.mk (List.toArray l)=B l from fun _ =>rfl,qj,zy,Int.reduceLT,decide_true,decide_false,zH,List.length_append,List.length_cons,List.length_nil,vP];cases hru:c.running<;>cases hab:c.zO<;>(simp(disch:=omega) only [Option.bind_some,yE hκ hF.f.f.hn,Bool.not_true,Bool.not_false,zH,zK,wy,qj,zy,show∀l:List UInt8,ByteArray.mk (List.toArray l)=B l from fun _ =>rfl,List.length_append,List.length_cons,List.length_nil,zL.v2,zL.v4,zL.v6,zL.v7,zL.v10,Int.reduceBEq];simp [j1,j2,List.append_assoc])
theorem zk7{κ:Nat}(hκ:40000≤κ)(c:zM)(hF:uj κ c)(hr:yA κ 1 c.zR c.zg c.value c.n c.running c.zO c.port c.zm c.size (B (qC c.data))=some true){ws:List (List UInt8)}(h:zJ 1 c.zR c.zg c.value c.n c.running c.zO c.port c.zm c.size c.data=some ws):zL κ 1 c.zR c.zg c.value c.n c.running c.zO c.port c.zm c.size (B (qC c.data))=some (B (Lib.join ws [32])):=by
 unfold zJ at h;simp only at h;cases h0:zk c.zR
 ·rw [h0]at h;cases h
 rw [h0,zH]at h;cases h;have l1:=z8 c.zR;have l2:=zn hF.f.f.hn;have l3:=zn hF.f.f.pq;have l4:=zn hF.f.f.w9;unfold zL;rw [hr,show yn κ 1=some (B (vP 1))from ju 1 (by decide)];simp only [Option.bind_some,Bool.not_true,zK,zL.v0,qX hκ,yE hκ hF.f.f.hn,show∀l:List UInt8,ByteArray.mk (List.toArray l)=B l from fun _ =>rfl,qj,zy,Int.reduceLT,decide_true,decide_false,zH,List.length_append,List.length_cons,List.length_nil,vP];cases hru:c.running<;>cases hab:c.zO<;>(simp(disch:=omega) only [Option.bind_some,yE hκ hF.f.f.hn,Bool.not_true,Bool.not_false,zH,zK,wy,qj,zy,show∀l:List UInt8,ByteArray.mk (List.toArray l)=B l from fun _ =>rfl,List.length_append,List.length_cons,List.length_nil,zL.v2,zL.v4,zL.v6,zL.v7,zL.v10,Int.reduceBEq];simp [j1,j2,List.append_assoc])
theorem zk5{κ:Nat}(hκ:40000≤κ)(c:zM)(hF:uj κ c)(hr:yA κ 2 c.zR c.zg c.value c.n c.running c.zO c.port c.zm c.size (B (qC c.data))=some true){ws:List (List UInt8)}(h:zJ 2 c.zR c.zg c.value c.n c.running c.zO c.port c.zm c.size c.data=some ws):zL κ 2 c.zR c.zg c.value c.n c.running c.zO c.port c.zm c.size (B (qC c.data))=some (B (Lib.join ws [32])):=by
 unfold zJ at h;simp only at h;cases h0:zk c.zR
 ·rw [h0]at h;cases h
 rw [h0,zH]at h;cases h;have l1:=z8 c.zR;have l2:=zn hF.f.f.hn;have l3:=zn hF.f.f.pq;have l4:=zn hF.f.f.w9;unfold zL;rw [hr,show yn κ 2=some (B (vP 2))from ju 2 (by decide)];simp only [Option.bind_some,Bool.not_true,zK,zL.v0,qX hκ,yE hκ hF.f.f.hn,show∀l:List UInt8,ByteArray.mk (List.toArray l)=B l from fun _ =>rfl,qj,zy,Int.reduceLT,decide_true,decide_false,zH,List.length_append,List.length_cons,List.length_nil,vP];cases hru:c.running<;>cases hab:c.zO<;>(simp(disch:=omega) only [Option.bind_some,yE hκ hF.f.f.hn,Bool.not_true,Bool.not_false,zH,zK,wy,qj,zy,show∀l:List UInt8,ByteArray.mk (List.toArray l)=B l from fun _ =>rfl,List.length_append,List.length_cons,List.length_nil,zL.v2,zL.v4,zL.v6,zL.v7,zL.v10,Int.reduceBEq];simp [j1,j2,List.append_assoc])
theorem zkN{κ:Nat}(hκ:40000≤κ)(c:zM)(hF:uj κ c)(hr:yA κ 3 c.zR c.zg c.value c.n c.running c.zO c.port c.zm c.size (B (qC c.data))=some true){ws:List (List UInt8)}(h:zJ 3 c.zR c.zg c.value c.n c.running c.zO c.port c.zm c.size c.data=some ws):zL κ 3 c.zR c.zg c.value c.n c.running c.zO c.port c.zm c.size (B (qC c.data))=some (B (Lib.join ws [32])):=by
 unfold zJ at h;simp only at h;cases h0:zk c.zR
 ·rw [h0]at h;cases h
 rw [h0,zH]at h;cases h;have l1:=z8 c.zR;have l2:=zn hF.f.f.hn;have l3:=zn hF.f.f.pq;have l4:=zn hF.f.f.w9;unfold zL;rw [hr,show yn κ 3=some (B (vP 3))from ju 3 (by decide)];simp only [Option.bind_some,Bool.not_true,zK,zL.v0,qX hκ,yE hκ hF.f.f.hn,show∀l:List UInt8,ByteArray.mk (List.toArray l)=B l from fun _ =>rfl,qj,zy,Int.reduceLT,decide_true,decide_false,zH,List.length_append,List.length_cons,List.length_nil,vP];cases hru:c.running<;>cases hab:c.zO<;>(simp(disch:=omega) only [Option.bind_some,yE hκ hF.f.f.hn,Bool.not_true,Bool.not_false,zH,zK,wy,qj,zy,show∀l:List UInt8,ByteArray.mk (List.toArray l)=B l from fun _ =>rfl,List.length_append,List.length_cons,List.length_nil,zL.v2,zL.v4,zL.v6,zL.v7,zL.v10,Int.reduceBEq];simp [j1,j2,List.append_assoc])
theorem zkP{κ:Nat}(hκ:40000≤κ)(c:zM)(hF:uj κ c)(hr:yA κ 4 c.zR c.zg c.value c.n c.running c.zO c.port c.zm c.size (B (qC c.data))=some true){ws:List (List UInt8)}(h:zJ 4 c.zR c.zg c.value c.n c.running c.zO c.port c.zm c.size c.data=some ws):zL κ 4 c.zR c.zg c.value c.n c.running c.zO c.port c.zm c.size (B (qC c.data))=some (B (Lib.join ws [32])):=by
 unfold zJ at h;simp only at h;cases h0:zk c.zR
 ·rw [h0]at h;cases h
 rw [h0,zH]at h;cases h;have l1:=z8 c.zR;have l2:=zn hF.f.f.hn;have l3:=zn hF.f.f.pq;have l4:=zn hF.f.f.w9;unfold zL;rw [hr,show yn κ 4=some (B (vP 4))from ju 4 (by decide)];simp only [Option.bind_some,Bool.not_true,zK,zL.v0,qX hκ,yE hκ hF.f.f.hn,show∀l:List UInt8,ByteArray.mk (List.toArray l)=B l from fun _ =>rfl,qj,zy,Int.reduceLT,decide_true,decide_false,zH,List.length_append,List.length_cons,List.length_nil,vP];cases hru:c.running<;>cases hab:c.zO<;>(simp(disch:=omega) only [Option.bind_some,yE hκ hF.f.f.hn,Bool.not_true,Bool.not_false,zH,zK,wy,qj,zy,show∀l:List UInt8,ByteArray.mk (List.toArray l)=B l from fun _ =>rfl,List.length_append,List.length_cons,List.length_nil,zL.v2,zL.v4,zL.v6,zL.v7,zL.v10,Int.reduceBEq];simp [j1,j2,List.append_assoc])
theorem zk8{κ:Nat}(hκ:40000≤κ)(c:zM)(hF:uj κ c)(hr:yA κ 5 c.zR c.zg c.value c.n c.running c.zO c.port c.zm c.size (B (qC c.data))=some true){ws:List (List UInt8)}(h:zJ 5 c.zR c.zg c.value c.n c.running c.zO c.port c.zm c.size c.data=some ws):zL κ 5 c.zR c.zg c.value c.n c.running c.zO c.port c.zm c.size (B (qC c.data))=some (B (Lib.join ws [32])):=by
 unfold zJ at h;simp only at h;cases h0:zk c.zR
 ·rw [h0]at h;cases h
 rw [h0,zH]at h;cases h;have l1:=z8 c.zR;have l2:=zn hF.f.f.hn;have l3:=zn hF.f.f.pq;have l4:=zn hF.f.f.w9;unfold zL;rw [hr,show yn κ 5=some (B (vP 5))from ju 5 (by decide)];simp only [Option.bind_some,Bool.not_true,zK,zL.v0,qX hκ,yE hκ hF.f.f.hn,show∀l:List UInt8,ByteArray.mk (List.toArray l)=B l from fun _ =>rfl,qj,zy,Int.reduceLT,decide_true,decide_false,zH,List.length_append,List.length_cons,List.length_nil,vP];cases hru:c.running<;>cases hab:c.zO<;>(simp(disch:=omega) only [Option.bind_some,yE hκ hF.f.f.hn,Bool.not_true,Bool.not_false,zH,zK,wy,qj,zy,show∀l:List UInt8,ByteArray.mk (List.toArray l)=B l from fun _ =>rfl,List.length_append,List.length_cons,List.length_nil,zL.v2,zL.v4,zL.v6,zL.v7,zL.v10,Int.reduceBEq];simp [j1,j2,List.append_assoc])
theorem zjm{κ:Nat}(hκ:40000≤κ)(c:zM)(hF:uj κ c)(hr:yA κ 6 c.zR c.zg c.value c.n c.running c.zO c.port c.zm c.size (B (qC c.data))=some true){ws:List (List UInt8)}(h:zJ 6 c.zR c.zg c.value c.n c.running c.zO c.port c.zm c.size c.data=some ws):zL κ 6 c.zR c.zg c.value c.n c.running c.zO c.port c.zm c.size (B (qC c.data))=some (B (Lib.join ws [32])):=by
 unfold zJ at h;simp only at h;cases h0:zk c.zR
 ·rw [h0]at h;cases h
 rw [h0,zH]at h;cases h;have l1:=z8 c.zR;have l2:=zn hF.f.f.hn;have l3:=zn hF.f.f.pq;have l4:=zn hF.f.f.w9;unfold zL;rw [hr,show yn κ 6=some (B (vP 6))from ju 6 (by decide)];simp only [Option.bind_some,Bool.not_true,zK,zL.v0,qX hκ,yE hκ hF.f.f.hn,show∀l:List UInt8,ByteArray.mk (List.toArray l)=B l from fun _ =>rfl,qj,zy,Int.reduceLT,decide_true,decide_false,zH,List.length_append,List.length_cons,List.length_nil,vP];cases hru:c.running<;>cases hab:c.zO<;>(simp(disch:=omega) only [Option.bind_some,yE hκ hF.f.f.hn,Bool.not_true,Bool.not_false,zH,zK,wy,qj,zy,show∀l:List UInt8,ByteArray.mk (List.toArray l)=B l from fun _ =>rfl,List.length_append,List.length_cons,List.length_nil,zL.v2,zL.v4,zL.v6,zL.v7,zL.v10,Int.reduceBEq];simp [j1,j2,List.append_assoc])
theorem zk2{κ:Nat}(hκ:40000≤κ)(c:zM)(hF:uj κ c)(hr:yA κ 7 c.zR c.zg c.value c.n c.running c.zO c.port c.zm c.size (B (qC c.data))=some true){ws:List (List UInt8)}(h:zJ 7 c.zR c.zg c.value c.n c.running c.zO c.port c.zm c.size c.data=some ws):zL κ 7 c.zR c.zg c.value c.n c.running c.zO c.port c.zm c.size (B (qC c.data))=some (B (Lib.join ws [32])):=by
 unfold zJ at h;simp only at h;cases h0:zk c.zR
 ·rw [h0]at h;cases h
 rw [h0,zH]at h;cases h1:qT c.zg
 ·rw [h1]at h;cases h
 rw [h1,zH]at h;cases h2:Lex5.qa c.value.data.toList
 ·rw [h2]at h;cases h
 rw [h2,zH]at h;cases h;have l1:=z8 c.zR;have l2:=zn hF.f.f.hn;have l3:=zn hF.f.f.pq;have l4:=zn hF.f.f.w9;unfold zL;rw [hr,show yn κ 7=some (B (vP 7))from ju 7 (by decide)];simp only [Option.bind_some,Bool.not_true,zK,zL.v0,qX hκ,yE hκ hF.f.f.hn,show∀l:List UInt8,ByteArray.mk (List.toArray l)=B l from fun _ =>rfl,qj,zy,Int.reduceLT,decide_true,decide_false,zH,List.length_append,List.length_cons,List.length_nil,vP];have l5:=zBT c.zg;have hw:B (zCb c.zg)=Pa15.ub c.zg:=wz _;have hsh:=Pa15.zI1 κ c.zg hF.zg (by have:=hF.zg;omega) hF.fits;rw [←hw]at hsh;have l6:=hF.val;have hv:B c.value.data.toList=c.value:=wz _;have hv2:c.value.data.toList.length=c.value.size:=by rw [←zy,hv]
 rw [←hv];cases hru:c.running<;>cases hab:c.zO<;>(simp(disch:=omega) only [Option.bind_some,yE hκ hF.f.f.hn,Bool.not_true,Bool.not_false,zH,zK,wy,qj,zy,show∀l:List UInt8,ByteArray.mk (List.toArray l)=B l from fun _ =>rfl,List.length_append,List.length_cons,List.length_nil,zL.v2,zL.v4,zL.v6,zL.v7,zL.v10,Int.reduceBEq,hsh];simp [j1,j2,List.append_assoc])
theorem zkw{κ:Nat}(hκ:40000≤κ)(c:zM)(hF:uj κ c)(hr:yA κ 8 c.zR c.zg c.value c.n c.running c.zO c.port c.zm c.size (B (qC c.data))=some true){ws:List (List UInt8)}(h:zJ 8 c.zR c.zg c.value c.n c.running c.zO c.port c.zm c.size c.data=some ws):zL κ 8 c.zR c.zg c.value c.n c.running c.zO c.port c.zm c.size (B (qC c.data))=some (B (Lib.join ws [32])):=by
 unfold zJ at h;simp only at h;cases h0:zk c.zR
 ·rw [h0]at h;cases h
 rw [h0,zH]at h;cases h1:qT c.zg
 ·rw [h1]at h;cases h
 rw [h1,zH]at h;cases h;have l1:=z8 c.zR;have l2:=zn hF.f.f.hn;have l3:=zn hF.f.f.pq;have l4:=zn hF.f.f.w9;unfold zL;rw [hr,show yn κ 8=some (B (vP 8))from ju 8 (by decide)];simp only [Option.bind_some,Bool.not_true,zK,zL.v0,qX hκ,yE hκ hF.f.f.hn,show∀l:List UInt8,ByteArray.mk (List.toArray l)=B l from fun _ =>rfl,qj,zy,Int.reduceLT,decide_true,decide_false,zH,List.length_append,List.length_cons,List.length_nil,vP];have l5:=zBT c.zg;have hw:B (zCb c.zg)=Pa15.ub c.zg:=wz _;have hsh:=Pa15.zI1 κ c.zg hF.zg (by have:=hF.zg;omega) hF.fits;rw [←hw]at hsh;cases hru:c.running<;>cases hab:c.zO<;>(simp(disch:=omega) only [Option.bind_some,yE hκ hF.f.f.hn,Bool.not_true,Bool.not_false,zH,zK,wy,qj,zy,show∀l:List UInt8,ByteArray.mk (List.toArray l)=B l from fun _ =>rfl,List.length_append,List.length_cons,List.length_nil,zL.v2,zL.v4,zL.v6,zL.v7,zL.v10,Int.reduceBEq,hsh];simp [j1,j2,List.append_assoc])
theorem zlF{κ:Nat}(hκ:40000≤κ)(c:zM)(hF:uj κ c)(hr:yA κ 9 c.zR c.zg c.value c.n c.running c.zO c.port c.zm c.size (B (qC c.data))=some true){ws:List (List UInt8)}(h:zJ 9 c.zR c.zg c.value c.n c.running c.zO c.port c.zm c.size c.data=some ws):zL κ 9 c.zR c.zg c.value c.n c.running c.zO c.port c.zm c.size (B (qC c.data))=some (B (Lib.join ws [32])):=by
 unfold zJ at h;simp only at h;cases h0:zk c.zR
 ·rw [h0]at h;cases h
 rw [h0,zH]at h;cases h;have l1:=z8 c.zR;have l2:=zn hF.f.f.hn;have l3:=zn hF.f.f.pq;have l4:=zn hF.f.f.w9;unfold zL;rw [hr,show yn κ 9=some (B (vP 9))from ju 9 (by decide)];simp only [Option.bind_some,Bool.not_true,zK,zL.v0,qX hκ,yE hκ hF.f.f.hn,show∀l:List UInt8,ByteArray.mk (List.toArray l)=B l from fun _ =>rfl,qj,zy,Int.reduceLT,decide_true,decide_false,zH,List.length_append,List.length_cons,List.length_nil,vP];by_cases hz:c.n=0
 ·have e1:(c.n==0)=true:=by simp [hz]
  have e2:decide (0<c.n)=false:=by simp [hz]
  cases hru:c.running<;>cases hab:c.zO<;>(simp(disch:=omega) only [Option.bind_some,yE hκ hF.f.f.hn,Bool.not_true,Bool.not_false,zH,zK,wy,qj,zy,show∀l:List UInt8,ByteArray.mk (List.toArray l)=B l from fun _ =>rfl,List.length_append,List.length_cons,List.length_nil,zL.v2,zL.v4,zL.v6,zL.v7,zL.v10,Int.reduceBEq,e1,e2];simp [j1,j2])
 ·have h1:=hF.f.f.hn
  have e1:(c.n==0)=false:=beq_eq_false_iff_ne.2 hz;have e2:decide (0<c.n)=true:=decide_eq_true (by omega);cases hru:c.running<;>cases hab:c.zO<;>(simp(disch:=omega) only [Option.bind_some,yE hκ hF.f.f.hn,Bool.not_true,Bool.not_false,zH,zK,wy,qj,zy,show∀l:List UInt8,ByteArray.mk (List.toArray l)=B l from fun _ =>rfl,List.length_append,List.length_cons,List.length_nil,zL.v2,zL.v4,zL.v6,zL.v7,zL.v10,Int.reduceBEq,e1,e2];simp [j1,j2])
theorem zgE{κ:Nat}(hκ:40000≤κ)(c:zM)(hF:uj κ c)(hr:yA κ 10 c.zR c.zg c.value c.n c.running c.zO c.port c.zm c.size (B (qC c.data))=some true){ws:List (List UInt8)}(h:zJ 10 c.zR c.zg c.value c.n c.running c.zO c.port c.zm c.size c.data=some ws):zL κ 10 c.zR c.zg c.value c.n c.running c.zO c.port c.zm c.size (B (qC c.data))=some (B (Lib.join ws [32])):=by
 unfold zJ at h;simp only at h;cases h0:zk c.zR
 ·rw [h0]at h;cases h
 rw [h0,zH]at h;cases h;have l1:=z8 c.zR;have l2:=zn hF.f.f.hn;have l3:=zn hF.f.f.pq;have l4:=zn hF.f.f.w9;unfold zL;rw [hr,show yn κ 10=some (B (vP 10))from ju 10 (by decide)];simp only [Option.bind_some,Bool.not_true,zK,zL.v0,qX hκ,yE hκ hF.f.f.hn,show∀l:List UInt8,ByteArray.mk (List.toArray l)=B l from fun _ =>rfl,qj,zy,Int.reduceLT,decide_true,decide_false,zH,List.length_append,List.length_cons,List.length_nil,vP];cases hru:c.running<;>cases hab:c.zO<;>(simp(disch:=omega) only [Option.bind_some,yE hκ hF.f.f.hn,Bool.not_true,Bool.not_false,zH,zK,wy,qj,zy,show∀l:List UInt8,ByteArray.mk (List.toArray l)=B l from fun _ =>rfl,List.length_append,List.length_cons,List.length_nil,zL.v2,zL.v4,zL.v6,zL.v7,zL.v10,Int.reduceBEq];simp [j1,j2,List.append_assoc])
theorem zhb{κ:Nat}(hκ:40000≤κ)(c:zM)(hF:uj κ c)(hr:yA κ 11 c.zR c.zg c.value c.n c.running c.zO c.port c.zm c.size (B (qC c.data))=some true){ws:List (List UInt8)}(h:zJ 11 c.zR c.zg c.value c.n c.running c.zO c.port c.zm c.size c.data=some ws):zL κ 11 c.zR c.zg c.value c.n c.running c.zO c.port c.zm c.size (B (qC c.data))=some (B (Lib.join ws [32])):=by
 unfold zJ at h;simp only at h;cases h0:zk c.zR
 ·rw [h0]at h;cases h
 rw [h0,zH]at h;cases h;have l1:=z8 c.zR;have l2:=zn hF.f.f.hn;have l3:=zn hF.f.f.pq;have l4:=zn hF.f.f.w9;unfold zL;rw [hr,show yn κ 11=some (B (vP 11))from ju 11 (by decide)];simp only [Option.bind_some,Bool.not_true,zK,zL.v0,qX hκ,yE hκ hF.f.f.hn,show∀l:List UInt8,ByteArray.mk (List.toArray l)=B l from fun _ =>rfl,qj,zy,Int.reduceLT,decide_true,decide_false,zH,List.length_append,List.length_cons,List.length_nil,vP];cases hru:c.running<;>cases hab:c.zO<;>(simp(disch:=omega) only [Option.bind_some,yE hκ hF.f.f.hn,Bool.not_true,Bool.not_false,zH,zK,wy,qj,zy,show∀l:List UInt8,ByteArray.mk (List.toArray l)=B l from fun _ =>rfl,List.length_append,List.length_cons,List.length_nil,zL.v2,zL.v4,zL.v6,zL.v7,zL.v10,Int.reduceBEq];simp [j1,j2,List.append_assoc])
theorem zfw{κ:Nat}(hκ:40000≤κ)(c:zM)(hF:uj κ c)(hr:yA κ 12 c.zR c.zg c.value c.n c.running c.zO c.port c.zm c.size (B (qC c.data))=some true){ws:List (List UInt8)}(h:zJ 12 c.zR c.zg c.value c.n c.running c.zO c.port c.zm c.size c.data=some ws):zL κ 12 c.zR c.zg c.value c.n c.running c.zO c.port c.zm c.size (B (qC c.data))=some (B (Lib.join ws [32])):=by
 unfold zJ at h;simp only at h;cases h0:zk c.zR
 ·rw [h0]at h;cases h
 rw [h0,zH]at h;cases h;have l1:=z8 c.zR;have l2:=zn hF.f.f.hn;have l3:=zn hF.f.f.pq;have l4:=zn hF.f.f.w9;unfold zL;rw [hr,show yn κ 12=some (B (vP 12))from ju 12 (by decide)];simp only [Option.bind_some,Bool.not_true,zK,zL.v0,qX hκ,yE hκ hF.f.f.hn,show∀l:List UInt8,ByteArray.mk (List.toArray l)=B l from fun _ =>rfl,qj,zy,Int.reduceLT,decide_true,decide_false,zH,List.length_append,List.length_cons,List.length_nil,vP];cases hru:c.running<;>cases hab:c.zO<;>(simp(disch:=omega) only [Option.bind_some,yE hκ hF.f.f.hn,Bool.not_true,Bool.not_false,zH,zK,wy,qj,zy,show∀l:List UInt8,ByteArray.mk (List.toArray l)=B l from fun _ =>rfl,List.length_append,List.length_cons,List.length_nil,zL.v2,zL.v4,zL.v6,zL.v7,zL.v10,Int.reduceBEq];simp [j1,j2,bm,zEN,hru,hab])
theorem zg9{κ:Nat}(hκ:40000≤κ)(c:zM)(hF:uj κ c)(hr:yA κ 13 c.zR c.zg c.value c.n c.running c.zO c.port c.zm c.size (B (qC c.data))=some true){ws:List (List UInt8)}(h:zJ 13 c.zR c.zg c.value c.n c.running c.zO c.port c.zm c.size c.data=some ws):zL κ 13 c.zR c.zg c.value c.n c.running c.zO c.port c.zm c.size (B (qC c.data))=some (B (Lib.join ws [32])):=by
 unfold zJ at h;simp only at h;cases h0:zk c.zR
 ·rw [h0]at h;cases h
 rw [h0,zH]at h;cases h;have l1:=z8 c.zR;have l2:=zn hF.f.f.hn;have l3:=zn hF.f.f.pq;have l4:=zn hF.f.f.w9;unfold zL;rw [hr,show yn κ 13=some (B (vP 13))from ju 13 (by decide)];simp only [Option.bind_some,Bool.not_true,zK,zL.v0,qX hκ,yE hκ hF.f.f.hn,show∀l:List UInt8,ByteArray.mk (List.toArray l)=B l from fun _ =>rfl,qj,zy,Int.reduceLT,decide_true,decide_false,zH,List.length_append,List.length_cons,List.length_nil,vP];have l7:(qC c.data).length≤7000:=by rw [uX];exact hF.f.d
 cases hru:c.running<;>cases hab:c.zO<;>(simp(disch:=omega) only [Option.bind_some,yE hκ hF.f.f.hn,Bool.not_true,Bool.not_false,zH,zK,wy,qj,zy,show∀l:List UInt8,ByteArray.mk (List.toArray l)=B l from fun _ =>rfl,List.length_append,List.length_cons,List.length_nil,zL.v2,zL.v4,zL.v6,zL.v7,zL.v10,Int.reduceBEq];simp [j1,j2,List.append_assoc])
theorem zgI{κ:Nat}(hκ:40000≤κ)(c:zM)(hF:uj κ c)(hr:yA κ 14 c.zR c.zg c.value c.n c.running c.zO c.port c.zm c.size (B (qC c.data))=some true){ws:List (List UInt8)}(h:zJ 14 c.zR c.zg c.value c.n c.running c.zO c.port c.zm c.size c.data=some ws):zL κ 14 c.zR c.zg c.value c.n c.running c.zO c.port c.zm c.size (B (qC c.data))=some (B (Lib.join ws [32])):=by
 unfold zJ at h;simp only at h;cases h0:zk c.zR
 ·rw [h0]at h;cases h
 rw [h0,zH]at h;cases h;have l1:=z8 c.zR;have l2:=zn hF.f.f.hn;have l3:=zn hF.f.f.pq;have l4:=zn hF.f.f.w9;unfold zL;rw [hr,show yn κ 14=some (B (vP 14))from ju 14 (by decide)];simp only [Option.bind_some,Bool.not_true,zK,zL.v0,qX hκ,yE hκ hF.f.f.hn,show∀l:List UInt8,ByteArray.mk (List.toArray l)=B l from fun _ =>rfl,qj,zy,Int.reduceLT,decide_true,decide_false,zH,List.length_append,List.length_cons,List.length_nil,vP];have l7:(qC c.data).length≤7000:=by rw [uX];exact hF.f.d
 have l8:=zC9 (qC c.data);have hh:=zhX (κ:=κ) (qC c.data) (by omega) (by omega);cases hru:c.running<;>cases hab:c.zO<;>(simp(disch:=omega) only [Option.bind_some,yE hκ hF.f.f.hn,Bool.not_true,Bool.not_false,zH,zK,wy,qj,zy,show∀l:List UInt8,ByteArray.mk (List.toArray l)=B l from fun _ =>rfl,List.length_append,List.length_cons,List.length_nil,zL.v2,zL.v4,zL.v6,zL.v7,zL.v10,Int.reduceBEq,hh];simp [j1,j2,List.append_assoc])
theorem zff{κ:Nat}(hκ:40000≤κ)(c:zM)(hF:uj κ c)(hr:yA κ 15 c.zR c.zg c.value c.n c.running c.zO c.port c.zm c.size (B (qC c.data))=some true){ws:List (List UInt8)}(h:zJ 15 c.zR c.zg c.value c.n c.running c.zO c.port c.zm c.size c.data=some ws):zL κ 15 c.zR c.zg c.value c.n c.running c.zO c.port c.zm c.size (B (qC c.data))=some (B (Lib.join ws [32])):=by
 unfold zJ at h;simp only at h;cases h0:Pa15.vf c.port
 ·rw [h0]at h;cases h
 rw [h0,zH]at h;cases h;have l1:=z8 c.zR;have l2:=zn hF.f.f.hn;have l3:=zn hF.f.f.pq;have l4:=zn hF.f.f.w9;unfold zL;rw [hr,show yn κ 15=some (B (vP 15))from ju 15 (by decide)];simp only [Option.bind_some,Bool.not_true,zK,zL.v0,qX hκ,yE hκ hF.f.f.hn,show∀l:List UInt8,ByteArray.mk (List.toArray l)=B l from fun _ =>rfl,qj,zy,Int.reduceLT,decide_true,decide_false,zH,List.length_append,List.length_cons,List.length_nil,vP];have l9:=hF.port;have hv:B c.port.data.toList=c.port:=wz _;have hv2:c.port.data.toList.length=c.port.size:=by rw [←zy,hv]
 rw [←hv];cases hru:c.running<;>cases hab:c.zO<;>(simp(disch:=omega) only [Option.bind_some,yE hκ hF.f.f.hn,Bool.not_true,Bool.not_false,zH,zK,wy,qj,zy,show∀l:List UInt8,ByteArray.mk (List.toArray l)=B l from fun _ =>rfl,List.length_append,List.length_cons,List.length_nil,zL.v2,zL.v4,zL.v6,zL.v7,zL.v10,Int.reduceBEq,yE hκ hF.f.f.pq,yE hκ hF.f.f.w9];simp [j1,j2,List.append_assoc])
theorem zgn{κ:Nat}(hκ:40000≤κ)(c:zM)(hF:uj κ c)(hr:yA κ 16 c.zR c.zg c.value c.n c.running c.zO c.port c.zm c.size (B (qC c.data))=some true){ws:List (List UInt8)}(h:zJ 16 c.zR c.zg c.value c.n c.running c.zO c.port c.zm c.size c.data=some ws):zL κ 16 c.zR c.zg c.value c.n c.running c.zO c.port c.zm c.size (B (qC c.data))=some (B (Lib.join ws [32])):=by
 unfold zJ at h;simp only at h;cases h;have l1:=z8 c.zR;have l2:=zn hF.f.f.hn;have l3:=zn hF.f.f.pq;have l4:=zn hF.f.f.w9;unfold zL;rw [hr,show yn κ 16=some (B (vP 16))from ju 16 (by decide)];simp only [Option.bind_some,Bool.not_true,zK,zL.v0,qX hκ,yE hκ hF.f.f.hn,show∀l:List UInt8,ByteArray.mk (List.toArray l)=B l from fun _ =>rfl,qj,zy,Int.reduceLT,decide_true,decide_false,zH,List.length_append,List.length_cons,List.length_nil,vP];cases hru:c.running<;>cases hab:c.zO<;>(simp(disch:=omega) only [Option.bind_some,yE hκ hF.f.f.hn,Bool.not_true,Bool.not_false,zH,zK,wy,qj,zy,show∀l:List UInt8,ByteArray.mk (List.toArray l)=B l from fun _ =>rfl,List.length_append,List.length_cons,List.length_nil,zL.v2,zL.v4,zL.v6,zL.v7,zL.v10,Int.reduceBEq];simp [j1,j2,List.append_assoc])
theorem zfe{κ:Nat}(hκ:40000≤κ)(c:zM)(hF:uj κ c)(hr:yA κ 17 c.zR c.zg c.value c.n c.running c.zO c.port c.zm c.size (B (qC c.data))=some true){ws:List (List UInt8)}(h:zJ 17 c.zR c.zg c.value c.n c.running c.zO c.port c.zm c.size c.data=some ws):zL κ 17 c.zR c.zg c.value c.n c.running c.zO c.port c.zm c.size (B (qC c.data))=some (B (Lib.join ws [32])):=by
 unfold zJ at h;simp only at h;cases h0:Pa15.vf c.port
 ·rw [h0]at h;cases h
 rw [h0,zH]at h;cases h;have l1:=z8 c.zR;have l2:=zn hF.f.f.hn;have l3:=zn hF.f.f.pq;have l4:=zn hF.f.f.w9;unfold zL;rw [hr,show yn κ 17=some (B (vP 17))from ju 17 (by decide)];simp only [Option.bind_some,Bool.not_true,zK,zL.v0,qX hκ,yE hκ hF.f.f.hn,show∀l:List UInt8,ByteArray.mk (List.toArray l)=B l from fun _ =>rfl,qj,zy,Int.reduceLT,decide_true,decide_false,zH,List.length_append,List.length_cons,List.length_nil,vP];have l9:=hF.port;have hv:B c.port.data.toList=c.port:=wz _;have hv2:c.port.data.toList.length=c.port.size:=by rw [←zy,hv]
 rw [←hv];cases hru:c.running<;>cases hab:c.zO<;>(simp(disch:=omega) only [Option.bind_some,yE hκ hF.f.f.hn,Bool.not_true,Bool.not_false,zH,zK,wy,qj,zy,show∀l:List UInt8,ByteArray.mk (List.toArray l)=B l from fun _ =>rfl,List.length_append,List.length_cons,List.length_nil,zL.v2,zL.v4,zL.v6,zL.v7,zL.v10,Int.reduceBEq];simp [j1,j2,List.append_assoc])
theorem zg5{κ:Nat}(hκ:40000≤κ)(c:zM)(hF:uj κ c)(hr:yA κ 18 c.zR c.zg c.value c.n c.running c.zO c.port c.zm c.size (B (qC c.data))=some true){ws:List (List UInt8)}(h:zJ 18 c.zR c.zg c.value c.n c.running c.zO c.port c.zm c.size c.data=some ws):zL κ 18 c.zR c.zg c.value c.n c.running c.zO c.port c.zm c.size (B (qC c.data))=some (B (Lib.join ws [32])):=by
 unfold zJ at h;simp only at h;cases h0:Pa15.vf c.port
 ·rw [h0]at h;cases h
 rw [h0,zH]at h;cases h;have l1:=z8 c.zR;have l2:=zn hF.f.f.hn;have l3:=zn hF.f.f.pq;have l4:=zn hF.f.f.w9;unfold zL;rw [hr,show yn κ 18=some (B (vP 18))from ju 18 (by decide)];simp only [Option.bind_some,Bool.not_true,zK,zL.v0,qX hκ,yE hκ hF.f.f.hn,show∀l:List UInt8,ByteArray.mk (List.toArray l)=B l from fun _ =>rfl,qj,zy,Int.reduceLT,decide_true,decide_false,zH,List.length_append,List.length_cons,List.length_nil,vP];have l9:=hF.port;have hv:B c.port.data.toList=c.port:=wz _;have hv2:c.port.data.toList.length=c.port.size:=by rw [←zy,hv]
 rw [←hv];cases hru:c.running<;>cases hab:c.zO<;>(simp(disch:=omega) only [Option.bind_some,yE hκ hF.f.f.hn,Bool.not_true,Bool.not_false,zH,zK,wy,qj,zy,show∀l:List UInt8,ByteArray.mk (List.toArray l)=B l from fun _ =>rfl,List.length_append,List.length_cons,List.length_nil,zL.v2,zL.v4,zL.v6,zL.v7,zL.v10,Int.reduceBEq];simp [j1,j2,List.append_assoc])
end Go.Proofs.YtdoifigogbdodaaGreatDoor.Wo

namespace Go.Proofs.YtdoifigogbdodaaGreatDoor.Wo
open Go Ev Ev.Seat Go.Lib
theorem zmy{κ:Nat}(hκ:40000≤κ)(c:zM)(hF:uj κ c):∀(j:Nat) (hj:j<19) (hr:yA κ (j:Int) c.zR c.zg c.value c.n c.running c.zO c.port c.zm c.size (B (qC c.data))=some true) {ws:List (List UInt8)} (h:zJ j c.zR c.zg c.value c.n c.running c.zO c.port c.zm c.size c.data=some ws),zL κ (j:Int) c.zR c.zg c.value c.n c.running c.zO c.port c.zm c.size (B (qC c.data))=some (B (Lib.join ws [32]))
 |0,_,hr,_,h=>zlA hκ c hF hr h
 |1,_,hr,_,h=>zk7 hκ c hF hr h
 |2,_,hr,_,h=>zk5 hκ c hF hr h
 |3,_,hr,_,h=>zkN hκ c hF hr h
 |4,_,hr,_,h=>zkP hκ c hF hr h
 |5,_,hr,_,h=>zk8 hκ c hF hr h
 |6,_,hr,_,h=>zjm hκ c hF hr h
 |7,_,hr,_,h=>zk2 hκ c hF hr h
 |8,_,hr,_,h=>zkw hκ c hF hr h
 |9,_,hr,_,h=>zlF hκ c hF hr h
 |10,_,hr,_,h=>zgE hκ c hF hr h
 |11,_,hr,_,h=>zhb hκ c hF hr h
 |12,_,hr,_,h=>zfw hκ c hF hr h
 |13,_,hr,_,h=>zg9 hκ c hF hr h
 |14,_,hr,_,h=>zgI hκ c hF hr h
 |15,_,hr,_,h=>zff hκ c hF hr h
 |16,_,hr,_,h=>zgn hκ c hF hr h
 |17,_,hr,_,h=>zfe hκ c hF hr h
 |18,_,hr,_,h=>zg5 hκ c hF hr h
 |n+19,hj,_,_,_ =>absurd hj (by omega)
theorem zdv{κ:Nat}(hκ:40000≤κ)(c:zM)(hF:uj κ c):zL κ c.kind c.zR c.zg c.value c.n c.running c.zO c.port c.zm c.size (B (qC c.data))=some (zNl c):=by
 have hr:=zVt hκ c hF;cases h:jL c with
 |false=>
  unfold zL;rw [hr,h];have:zNl c=B []:=by
   unfold zNl;split
   ·rw [h];rfl
   ·rfl
  rw [this];rfl
 |true=>
  obtain⟨j,l,v⟩:=zYw hF.f h;rw [v.right.2];obtain⟨ws,h1,h2⟩:=v.ws;rw [h,v.kind]at hr;rw [v.kind,←h2];exact zmy hκ c hF j v.lt hr h1
theorem zCh(a:ByteArray):seq a a=true:=by simp [seq]
end Go.Proofs.YtdoifigogbdodaaGreatDoor.Wo

namespace Go.Proofs.YtdoifigogbdodaaGreatDoor.Wo
open Go Ev Ev.Seat Go.Lib
open Pa15 (wP idB vf)
theorem zgH(p:UInt8→Bool)(l:List UInt8):l.take (l.takeWhile p).length=l.takeWhile p:=by
 have h:=List.takeWhile_append_dropWhile (p:=p) (l:=l)
 calc l.take (l.takeWhile p).length=(l.takeWhile p++l.dropWhile p).take (l.takeWhile p).length:=by rw [h]
  _ =_ :=List.take_left' rfl
theorem zba(p:UInt8→Bool)(l:List UInt8):l.drop (l.takeWhile p).length=l.dropWhile p:=by
 have h:=List.takeWhile_append_dropWhile (p:=p) (l:=l)
 calc l.drop (l.takeWhile p).length=(l.takeWhile p++l.dropWhile p).drop (l.takeWhile p).length:=by rw [h]
  _ =_ :=List.drop_left' rfl
theorem zdJ(p:UInt8→Bool)(l:List UInt8):(l.takeWhile p).length+(l.dropWhile p).length=l.length:=by
 have h:=congrArg List.length (List.takeWhile_append_dropWhile (p:=p) (l:=l));rw [List.length_append]at h;exact h
theorem drop_cons{l:List UInt8}{j:Nat}{c:UInt8}{r:List UInt8}(h:l.drop j=c::r):j<l.length∧l[j]? =some c∧l.drop (j+1)=r:=by
 have h1:l[j]? =some c:=by
  have:(l.drop j)[0]? =some c:=by rw [h];rfl
  rw [List.getElem?_drop]at this;simpa using this
 refine⟨(List.getElem?_eq_some_iff.1 h1).1,h1, ?_⟩;rw [←List.drop_drop,h];rfl
theorem zPG{l:List UInt8}{j:Nat}(h:l.drop j=[]):l.length≤j:=by
 have:=congrArg List.length h;rw [List.length_drop]at this;simp at this;omega
theorem zN1(c d:UInt8):(((c.toNat:Nat):Int)==((d.toNat:Nat):Int))=(c==d):=by
 by_cases h:c=d
 ·subst h;simp
 ·have h2:¬((c.toNat:Nat):Int)=((d.toNat:Nat):Int):=fun e=>h (UInt8.toNat_inj.1 (by omega))
  rw [beq_eq_false_iff_ne.2 h,beq_eq_false_iff_ne.2 h2]
theorem b47(c:UInt8):(((c.toNat:Nat):Int) !=47)= !(c==47):=congrArg not (zN1 c 47)
theorem b91(c:UInt8):(((c.toNat:Nat):Int)==91)=(c==91):=zN1 c 91
theorem b93(c:UInt8):(((c.toNat:Nat):Int) !=93)= !(c==93):=congrArg not (zN1 c 93)
theorem znE{κ:Nat}(l:List UInt8)(i:Nat)(c:UInt8)(h:l[i]? =some c):qB.v3 κ (B l) (i:Int)=some (B l,(i:Int),wP c):=by
 have hi:=(List.getElem?_eq_some_iff.1 h).1;unfold qB.v3;rw [zy,show decide (((i:Nat):Int)<((l.length:Nat):Int))=true from decide_eq_true (by omega),show decide ((0:Int)≤((i:Nat):Int))=true from decide_eq_true (by omega),Int.toNat_natCast,zKo,h];simp only [zH,Option.bind_some];unfold Pa15.wP;generalize c.toNat=n;rw [show decide (((n:Nat):Int)≥97)=decide (97≤n)from by rw [decide_eq_decide];omega,show decide (((n:Nat):Int)≤122)=decide (n≤122)from by rw [decide_eq_decide];omega,
  show decide (((n:Nat):Int)≥48)=decide (48≤n)from by rw [decide_eq_decide];omega,show decide (((n:Nat):Int)≤57)=decide (n≤57)from by rw [decide_eq_decide];omega,
  show(((n:Nat):Int)==45)=decide (n=45)from by by_cases h:n=45<;>simp [h];omega]
 by_cases h1:97≤n<;>by_cases h2:n≤122<;>by_cases h3:48≤n<;>by_cases h4:n≤57<;>by_cases h5:n=45<;>simp [h1,h2,h3,h4,h5]<;>omega
theorem zLW(i:Nat)(h:i≤1000000):IntKind.wrap IntKind.i64 (((i:Nat):Int)+1)=((i+1:Nat):Int):=by
 rw [Pa15.q8 _ (by omega) (by omega)];rfl
theorem zbM{κ:Nat}(l:List UInt8)(hl:l.length≤1000000):∀(d i K:Nat),l.length=i+d→d<K→qB.l2 κ K (B l,(i:Int))=some ((i+((l.drop i).takeWhile wP).length:Nat):Int)
 |d,i,0,_,h=>by omega
 |0,i,K+1,h,_ =>by
  unfold qB.l2 qB.w2;have:qB.v3 κ (B l) (i:Int)=some (B l,(i:Int),false):=by
   unfold qB.v3;rw [zy,show decide (((i:Nat):Int)<((l.length:Nat):Int))=false from decide_eq_false (by omega)];rfl
  rw [this,List.drop_eq_nil_of_le (by omega)];rfl
 |d+1,i,K+1,h,hk=>by
  have hi:i<l.length:=by omega
  unfold qB.l2 qB.w2;rw [znE l i l[i] (List.getElem?_eq_getElem hi),List.drop_eq_getElem_cons hi,List.takeWhile_cons];simp only [Option.bind_some];cases wP l[i]
  ·rfl
  ·simp only [zH,if_true]
   rw [zLW i (by omega),zbM l hl d (i+1) K (by omega) (by omega)];simp only [List.length_cons];congr 1;omega
theorem zXu{κ:Nat}(l:List UInt8)(hl:l.length≤20000)(hκ:40000≤κ)(i:Nat)(hi:i≤l.length):qB κ (B l) (i:Int)=some ((i+((l.drop i).takeWhile wP).length:Nat):Int):=by
 unfold qB;rw [zbM l (by omega) (l.length-i) i κ (by omega) (by omega)];rfl
def zD7:Nat→List UInt8→List zD→Option (List zD)
 |0,_,_ =>none
 |k+1,[],out=>if out=[]then none else some out
 |k+1,c::r,out=>
  if c=47∧¬out.length=6∧idB (r.takeWhile wP)=true then
   if(r.dropWhile wP).head? =some 91 then
    if idB (((r.dropWhile wP).drop 1).takeWhile wP)=true∧(((r.dropWhile wP).drop 1).dropWhile wP).head? =some 93 then
     zD7 k ((((r.dropWhile wP).drop 1).dropWhile wP).drop 1) (out++[⟨B (r.takeWhile wP),B (((r.dropWhile wP).drop 1).takeWhile wP)⟩])
    else none
   else zD7 k (r.dropWhile wP) (out++[⟨B (r.takeWhile wP),B []⟩])
  else none
def zjx(o:Option (List zD))(z:Int×Int):(List zD)⊕(Int×Int):=match o with
 |some w=> .inl w
 |none=> .inr z
theorem zdm{l:List UInt8}{i:Nat}{r:List UInt8}(h:l.drop i=r):ByteArray.extract (B l) i (i+(r.takeWhile wP).length)=B (r.takeWhile wP):=by
 rw [show B l=(⟨l.toArray⟩:ByteArray)from rfl,Pa15.pc,Nat.add_sub_cancel_left,h,zgH]
theorem rid{κ:Nat}(hκ:40000≤κ)(l:List UInt8)(h:l.length≤20000):yD κ (B l)=some (idB l):=by
 rw [Pa15.zBa κ (B l) (by rw [zy];omega) (by rw [zy];omega)];exact congrArg some (Pa15.pR l)
theorem zbb{κ:Nat}(hκ:40000≤κ)(l:List UInt8)(hl:l.length≤20000)(rec:(ByteArray×Int×(List zD))→Option (((List zD))⊕(Int×Int)))(i:Nat)(hi:i≤l.length)(out:List zD)(ho:out.length≤6)(hio:i=0↔out=[])(k:Nat)
  (hrec:out.length<6→∀(j:Nat) (x:zD),i<j→j≤l.length→∃z,rec (B l,(j:Int),out++[x])=some (zjx (zD7 k (l.drop j) (out++[x])) z)):
  ∃z,z6.w20 κ rec (B l) (i:Int) out=some (zjx (zD7 (k+1) (l.drop i) out) z):=by
 unfold z6.w20 z6.v21;cases hr:l.drop i with
 |nil=>
  have hlen:=zPG hr;rw [zy,show decide (((i:Nat):Int)<((l.length:Nat):Int))=false from decide_eq_false (by omega)];simp only [zK,Option.bind_some];unfold zD7;by_cases h0:i=0
  ·rw [if_pos (hio.1 h0),show(((i:Nat):Int)==0)=true from by simp [h0]]
   simp only [zH];unfold z6.v23;rw [zy,show decide (((i:Nat):Int)≥((l.length:Nat):Int))=true from decide_eq_true (by omega)];exact⟨_,rfl⟩
  ·rw [if_neg (fun h=>h0 (hio.2 h)),show(((i:Nat):Int)==0)=false from by simp [h0]]
   exact⟨(0,0),rfl⟩
 |cons c r=>
  obtain⟨h1,h2,h3⟩:=drop_cons hr;rw [zy,show decide (((i:Nat):Int)<((l.length:Nat):Int))=true from decide_eq_true (by omega)];simp only [zH,Option.bind_some];unfold z6.v23;rw [zy,show decide (((i:Nat):Int)≥((l.length:Nat):Int))=false from decide_eq_false (by omega),show decide ((0:Int)≤((i:Nat):Int))=true from decide_eq_true (by omega),Int.toNat_natCast,zKo,h2];simp only [zH,zK,Option.bind_some,b47];unfold zD7;by_cases hc:c=47
  case neg=>
   rw [if_neg (fun h=>hc h.1),show(c==47)=false from by simp [hc]];exact⟨_,rfl⟩
  rw [show(c==47)=true from by simp [hc]];simp only [Bool.not_true,zK];by_cases h6:out.length=6
  ·rw [if_neg (fun h=>h.2.1 h6),show(((List.length out:Nat):Int)==6)=true from by simp [h6]]
   exact⟨_,rfl⟩
  rw [show(((List.length out:Nat):Int)==6)=false from by simp;omega];simp only [zK];have hw1:=zLW i (by omega);have hrl:r.length+i+1=l.length:=by
   have:=congrArg List.length hr;rw [List.length_drop,List.length_cons]at this;omega
  have htl:=zdJ wP r;rw [hw1,zXu l hl hκ (i+1) (by omega),h3];simp only [Option.bind_some];rw [show decide ((0:Int)≤((i+1+(r.takeWhile wP).length:Nat):Int))=true from decide_eq_true (by omega),zy,show decide (((i+1+(r.takeWhile wP).length:Nat):Int)≤((l.length:Nat):Int))=true from decide_eq_true (by omega),
   show decide ((0:Int)≤((i+1:Nat):Int))=true from decide_eq_true (by omega),show decide (((i+1:Nat):Int)≤((i+1+(r.takeWhile wP).length:Nat):Int))=true from decide_eq_true (by omega),Int.toNat_natCast,Int.toNat_natCast,zdm h3,rid hκ _ (by omega)]
  simp only [Bool.and_self,zH,Option.bind_some];cases hid:idB (r.takeWhile wP)
  ·rw [if_neg (fun h=>by cases h.2.2)]
   exact⟨_,rfl⟩
  rw [if_pos ⟨hc,h6,rfl⟩];simp only [Bool.not_true,zK];have hdr:l.drop (i+1+(r.takeWhile wP).length)=r.dropWhile wP:=by rw [←List.drop_drop,h3,zba]
  have hroom:∀(x:zD),Nat.ble (out.length+[x].length) (room (31+1))=true:=fun x=>Nat.ble_eq_true_of_le (by unfold room;simp;omega)
  have h25:∀a b,z6.v25 κ (B l) ((i+1+(r.takeWhile wP).length:Nat):Int) out a b=some (B l,((i+1+(r.takeWhile wP).length:Nat):Int),decide ((r.dropWhile wP).head? =some 91),out,a,b):=by
   intro a b;unfold z6.v25;rw [zy];cases hq:r.dropWhile wP with
   |nil=>
    rw [hq]at hdr;have:=zPG hdr;rw [show decide (((i+1+(r.takeWhile wP).length:Nat):Int)<((l.length:Nat):Int))=false from decide_eq_false (by omega)];rfl
   |cons d q=>
    rw [hq]at hdr;obtain⟨g1,g2,g3⟩:=drop_cons hdr;rw [show decide (((i+1+(r.takeWhile wP).length:Nat):Int)<((l.length:Nat):Int))=true from decide_eq_true (by omega),show decide ((0:Int)≤((i+1+(r.takeWhile wP).length:Nat):Int))=true from decide_eq_true (by omega),Int.toNat_natCast,zKo,g2];simp only [zH,Option.bind_some,b91,List.head?_cons,Option.some.injEq];congr
  rw [h25];simp only [Option.bind_some];by_cases h91:(r.dropWhile wP).head? =some 91
  case neg=>
   rw [if_neg h91,decide_eq_false h91];unfold z6.v27;simp only [zK,Option.bind_some,hroom,zH];obtain⟨z,hz⟩:=hrec (by omega) (i+1+(r.takeWhile wP).length) ⟨B (r.takeWhile wP),B []⟩ (by omega) (by omega);rw [hdr]at hz;exact⟨z,hz⟩
  rw [if_pos h91,decide_eq_true h91];cases hq:r.dropWhile wP with
  |nil=>rw [hq]at h91;cases h91
  |cons d q=>
   rw [hq]at hdr htl;obtain⟨g1,g2,g3⟩:=drop_cons hdr;have hql:=zdJ wP q;simp only [List.length_cons]at htl;unfold z6.v27;simp only [zH,List.drop_succ_cons,List.drop_zero];rw [zLW _ (by omega),zXu l hl hκ _ (by omega),g3];simp only [Option.bind_some];generalize hJ:i+1+(r.takeWhile wP).length+1=J at*;rw [show decide ((0:Int)≤((J+(q.takeWhile wP).length:Nat):Int))=true from decide_eq_true (by omega),zy,show decide (((J+(q.takeWhile wP).length:Nat):Int)≤((l.length:Nat):Int))=true from decide_eq_true (by omega),
    show decide ((0:Int)≤((J:Nat):Int))=true from decide_eq_true (by omega),show decide (((J:Nat):Int)≤((J+(q.takeWhile wP).length:Nat):Int))=true from decide_eq_true (by omega),Int.toNat_natCast,Int.toNat_natCast,zdm g3,rid hκ _ (by omega)]
   simp only [Bool.and_self,zH,Option.bind_some];cases hid2:idB (q.takeWhile wP)
   ·rw [if_neg (fun h=>by cases h.1)]
    exact⟨_,rfl⟩
   simp only [Bool.not_true,zK];have hdr2:l.drop (J+(q.takeWhile wP).length)=q.dropWhile wP:=by rw [←List.drop_drop,g3,zba]
   have h28:∀a b,z6.v28 κ (B l) ((J+(q.takeWhile wP).length:Nat):Int) out a b=some (B l,((J+(q.takeWhile wP).length:Nat):Int), !(decide ((q.dropWhile wP).head? =some 93)),out,a,b):=by
    intro a b;unfold z6.v28;rw [zy];cases hp:q.dropWhile wP with
    |nil=>
     rw [hp]at hdr2;have:=zPG hdr2;rw [show decide (((J+(q.takeWhile wP).length:Nat):Int)≥((l.length:Nat):Int))=true from decide_eq_true (by omega)];rfl
    |cons e p=>
     rw [hp]at hdr2;obtain⟨f1,f2,f3⟩:=drop_cons hdr2;rw [show decide (((J+(q.takeWhile wP).length:Nat):Int)≥((l.length:Nat):Int))=false from decide_eq_false (by omega),show decide ((0:Int)≤((J+(q.takeWhile wP).length:Nat):Int))=true from decide_eq_true (by omega),Int.toNat_natCast,zKo,f2];simp only [zH,zK,Option.bind_some,b93,List.head?_cons,Option.some.injEq];congr
   rw [h28];simp only [Option.bind_some];by_cases h93:(q.dropWhile wP).head? =some 93
   case neg=>
    rw [if_neg (fun h=>h93 h.2),decide_eq_false h93];exact⟨_,rfl⟩
   rw [if_pos ⟨trivial,h93⟩,decide_eq_true h93];cases hp:q.dropWhile wP with
   |nil=>rw [hp]at h93;cases h93
   |cons e p=>
    rw [hp]at hdr2 hql;obtain⟨f1,f2,f3⟩:=drop_cons hdr2;simp only [List.length_cons]at hql;simp only [Bool.not_true,zK,List.drop_succ_cons,List.drop_zero];rw [zLW _ (by omega)];simp only [Option.bind_some,hroom,zH];obtain⟨z,hz⟩:=hrec (by omega) (J+(q.takeWhile wP).length+1) ⟨B (r.takeWhile wP),B (q.takeWhile wP)⟩ (by omega) (by omega);rw [f3]at hz;exact⟨z,hz⟩
theorem za6{κ:Nat}(hκ:40000≤κ)(l:List UInt8)(hl:l.length≤20000):∀(k i K:Nat) (out:List zD),i≤l.length→out.length+k=6→(i=0↔out=[])→k+1<K→
  ∃z,z6.l20 κ K (B l,(i:Int),out)=some (zjx (zD7 (k+1) (l.drop i) out) z)
 |k,i,0,out,_,_,_,hk=>by omega
 |0,i,K+1,out,hi,ho,hio,hk=>by
  unfold z6.l20;exact zbb hκ l hl _ i hi out (by omega) hio 0 fun h=>by omega
 |k+1,i,K+1,out,hi,ho,hio,hk=>by
  unfold z6.l20;refine zbb hκ l hl _ i hi out (by omega) hio (k+1) fun h j x h1 h2=> ?_
  exact za6 hκ l hl k j K (out++[x]) h2 (by simp;omega) (by simp;omega) (by omega)
def zQ2(l:List UInt8):List zD:=if l=[47]then []else(zD7 7 l []).getD []
theorem zVx{κ:Nat}(hκ:40000≤κ)(l:List UInt8)(hl:l.length≤20000):∃e a,z6 κ (B l)=some (e,a,zQ2 l):=by
 unfold z6 zQ2;rw [show seq (B l) (ByteArray.mk (List.toArray ((47:UInt8)::[])))=decide (l=[47])from yr l [47]];by_cases h:l=[47]
 ·rw [if_pos h,decide_eq_true h];exact⟨_,_,rfl⟩
 ·rw [if_neg h,decide_eq_false h]
  obtain⟨z,hz⟩:=za6 hκ l hl 6 0 κ [] (by omega) rfl (by simp) (by omega);simp only [zK];rw [show z6.l20 κ κ (B l,(0:Int),[])=_ from hz,List.drop_zero];cases zD7 7 l []with
  |none=>exact⟨_,_,rfl⟩
  |some w=>exact⟨_,_,rfl⟩
theorem ziN{l:List UInt8}(h:idB l=true):l.length≤12:=by
 have:=Pa15.j7 (s:=B l) (by rw [show vf (B l)=idB l from Pa15.pR _];exact h)
 rwa [zy]at this
theorem zO5:∀(k:Nat) (r:List UInt8) (out w:List zD),zD7 k r out=some w→out.length≤6→(∀x∈out,x.name.size≤12∧x.key.size≤12)→w.length≤6∧∀x∈w,x.name.size≤12∧x.key.size≤12
 |0,r,out,w,h,_,_ =>by cases h
 |k+1,[],out,w,h,ho,hx=>by
  unfold zD7 at h;split at h
  ·cases h
  ·cases h;exact⟨ho,hx⟩
 |k+1,c::r,out,w,h,ho,hx=>by
  unfold zD7 at h;split at h
  case isFalse=>cases h
  rename_i hc;have hn:=ziN hc.2.2;split at h
  ·split at h
   case isFalse=>cases h
   rename_i hk;have hn2:=ziN hk.1;refine zO5 k _ _ w h (by simp;omega) fun x hm=> ?_
   rcases List.mem_append.1 hm with hm|hm
   ·exact hx x hm
   ·rw [List.mem_singleton]at hm
    subst hm;exact⟨by rw [zy];exact hn,by rw [zy];exact hn2⟩
  ·refine zO5 k _ _ w h (by simp;omega) fun x hm=> ?_
   rcases List.mem_append.1 hm with hm|hm
   ·exact hx x hm
   ·rw [List.mem_singleton]at hm
    subst hm;exact⟨by rw [zy];exact hn,by rw [zy];simp⟩
theorem zcj(l:List UInt8):(zQ2 l).length≤6∧∀x∈zQ2 l,x.name.size≤12∧x.key.size≤12:=by
 unfold zQ2;split
 ·simp
 ·cases h:zD7 7 l []with
  |none=>simp
  |some w=>exact zO5 7 l [] w h (by simp) (by simp)
theorem zaY{nm rest:List UInt8}(h:nm.all wP=true)(hr:∀c r,rest=c::r→wP c=false):(nm++rest).takeWhile wP=nm∧(nm++rest).dropWhile wP=rest:=by
 induction nm with
 |nil=>
  cases rest with
  |nil=>exact⟨rfl,rfl⟩
  |cons c r=>
   have:=hr c r rfl;simp [this]
 |cons c l ih=>
  rw [List.all_cons,Bool.and_eq_true]at h;obtain⟨h1,h2⟩:=ih h.2;simp only [List.cons_append,List.takeWhile_cons,List.dropWhile_cons,h.1,if_true];exact⟨by rw [h1],h2⟩
theorem zY9:∀(w:List zD) (k:Nat) (out:List zD),w.any Pa15.kf=false→out.length+w.length≤6→w.length<k→(out=[]→w≠[])→zD7 k (Pa15.jr w) out=some (out++w)
 |[],k+1,out,_,_,_,h=>by
  show zD7 (k+1) [] out=_;unfold zD7;rw [if_neg (fun e=>h e rfl)];simp
 |x::l,k+1,out,hb,ho,hk,h=>by
  rw [List.any_cons,Bool.or_eq_false_iff]at hb;rw [List.length_cons]at ho hk;have hi:=(Pa15.kH hb.1).1;have hk2:=(Pa15.kH hb.1).2;rw [←wz x.name,show vf (B x.name.data.toList)=idB x.name.data.toList from Pa15.pR _]at hi;have hall:=Pa15.zSh hi;rw [show Pa15.jr (x::l)=47::(x.name.data.toList++Pa15.zEP x++Pa15.jr l)from by simp [Pa15.jr,Pa15.ud]];unfold zD7;have hfr:=Pa15.zPP l;have h47:wP 47=false:=by decide
  have h91:wP 91=false:=by decide
  have h93:wP 93=false:=by decide
  have hlen:¬out.length=6:=by omega
  have hfront:∀c r,Pa15.jr l=c::r→c=47:=fun c r e=>by
   cases l with
   |nil=>simp [Pa15.jr]at e
   |cons y m=>
    rw [show Pa15.jr (y::m)=47::(y.name.data.toList++Pa15.zEP y++Pa15.jr m)from by simp [Pa15.jr,Pa15.ud]]at e;exact(List.cons.inj e).1.symm
  have hrec:∀y:zD,y=x→zD7 k (Pa15.jr l) (out++[y])=some (out++x::l):=fun y e=>by
   subst e;rw [zY9 l k (out++[y]) hb.2 (by simp;omega) (by omega) (by simp)];simp
  cases hky:seq x.key Pa15.B0
  ·have hik:=hk2 hky
   rw [←wz x.key,show vf (B x.key.data.toList)=idB x.key.data.toList from Pa15.pR _]at hik;have hallk:=Pa15.zSh hik;have hk1:Pa15.zEP x=91::(x.key.data.toList++[93]):=by unfold Pa15.zEP;rw [hky];rfl
   rw [hk1,show x.name.data.toList++91::(x.key.data.toList++[93])++Pa15.jr l=x.name.data.toList++91::(x.key.data.toList++93::Pa15.jr l)from by simp];obtain⟨e1,e2⟩:=zaY (nm:=x.name.data.toList) (rest:=91::(x.key.data.toList++93::Pa15.jr l)) hall (fun c r e=>by rw [←(List.cons.inj e).1];exact h91);obtain⟨e3,e4⟩:=zaY (nm:=x.key.data.toList) (rest:=93::Pa15.jr l) hallk (fun c r e=>by rw [←(List.cons.inj e).1];exact h93);simp only [e1,e2,List.drop_succ_cons,List.drop_zero,e3,e4,hi,hik,hlen,not_false_iff,and_self,if_true,List.head?_cons];exact hrec _ (by rw [wz,wz])
  ·have hk1:Pa15.zEP x=[]:=by unfold Pa15.zEP;rw [hky];rfl
   have hkx:x.key=B []:=Va8.zDr.1 hky;rw [hk1,List.append_nil];obtain⟨e1,e2⟩:=zaY (nm:=x.name.data.toList) (rest:=Pa15.jr l) hall (fun c r e=>by rw [hfront c r e];exact h47);have hno:¬(Pa15.jr l).head? =some 91:=fun e=>by
    cases ht:Pa15.jr l with
    |nil=>rw [ht]at e;cases e
    |cons c r=>
     have:=hfront c r ht;rw [ht,this]at e;cases e
   simp only [e1,e2,hi,hlen,not_false_iff,and_self,if_true,hno,if_false];exact hrec _ (by rw [wz,←hkx])
theorem zY5{w:List zD}(h:qT w=true):zQ2 (zCb w)=w:=by
 unfold qT Pa15.ub at h;unfold zCb zQ2 Pa15.ub;by_cases h0:w.length=0
 ·rw [h0]at h;cases h
 rw [if_neg h0]at h⊢;by_cases h6:w.length>6
 ·rw [if_pos h6,Bool.and_eq_true]at h
  exact absurd h.2 (by simp [seq,B])
 rw [if_neg h6]at h⊢;cases hb:w.any Pa15.kf
 case true=>
  rw [hb,Bool.and_eq_true]at h;exact absurd h.2 (by simp [seq,B])
 simp only [zK];have hne:w≠[]:=fun e=>h0 (by rw [e];rfl)
 show(if Pa15.jr w=[47]then []else(zD7 7 (Pa15.jr w) []).getD [])=w;rw [zY9 w 7 [] hb (by simp;omega) (by omega) (fun _ =>hne)];rw [if_neg]
 ·rfl
 ·intro e
  cases w with
  |nil=>exact hne rfl
  |cons x l=>
   rw [List.any_cons,Bool.or_eq_false_iff]at hb;have hi:=(Pa15.kH hb.1).1;rw [show Pa15.jr (x::l)=47::(x.name.data.toList++Pa15.zEP x++Pa15.jr l)from by simp [Pa15.jr,Pa15.ud]]at e;have:x.name.data.toList=[]:=by
    have:=(List.cons.inj e).2;simp at this
    simpa using this.1
   rw [←wz x.name,this]at hi;exact absurd hi (by rw [show vf (B [])=idB []from Pa15.pR _];decide)
end Go.Proofs.YtdoifigogbdodaaGreatDoor.Wo

namespace Go.Proofs.YtdoifigogbdodaaGreatDoor.Wo
open Go Ev Ev.Seat Go.Lib
theorem b32(c:UInt8):(((c.toNat:Nat):Int)==32)=(c==32):=zN1 c 32
theorem zVq{κ:Nat}(l:List UInt8)(hl:l.length≤1000000):∀(d i K:Nat),l.length=i+d→d<K→
  qZ.l0 κ K (B l,(i:Int))=some (if(zX (l.drop i)).2.2=true then .inr (B (l.take (i+(zX (l.drop i)).1.length)),B (zX (l.drop i)).2.1)else .inl (B l))
 |d,i,0,_,h=>by omega
 |0,i,K+1,h,_ =>by
  unfold qZ.l0 qZ.w0;rw [zy,show decide (((i:Nat):Int)<((l.length:Nat):Int))=false from decide_eq_false (by omega),List.drop_eq_nil_of_le (by omega)];rfl
 |d+1,i,K+1,h,hk=>by
  have hi:i<l.length:=by omega
  unfold qZ.l0 qZ.w0;rw [zy,show decide (((i:Nat):Int)<((l.length:Nat):Int))=true from decide_eq_true (by omega),show decide ((0:Int)≤((i:Nat):Int))=true from decide_eq_true (by omega),Int.toNat_natCast,zKo,List.getElem?_eq_getElem hi];simp only [zH,Option.bind_some,b32];rw [List.drop_eq_getElem_cons hi];have hw:=zLW i (by omega);by_cases hc:l[i]=32
  ·rw [show(l[i]==32)=true from by simp [hc],show decide (((i:Nat):Int)≤((l.length:Nat):Int))=true from decide_eq_true (by omega),hw,show decide (((l.length:Nat):Int)≤((l.length:Nat):Int))=true from decide_eq_true (by omega),
    show decide ((0:Int)≤((i+1:Nat):Int))=true from decide_eq_true (by omega),show decide (((i+1:Nat):Int)≤((l.length:Nat):Int))=true from decide_eq_true (by omega),show decide ((0:Int)≤0)=true from rfl]
   simp only [Bool.and_self,zH];unfold zX;rw [if_pos hc];simp only [if_true,List.length_nil,Nat.add_zero];rw [show B l=(⟨l.toArray⟩:ByteArray)from rfl,Pa15.pc,Pa15.pc];simp only [Int.toNat_zero,List.drop_zero,Nat.sub_zero,Int.toNat_natCast];rw [show(l.drop (i+1)).take (l.length-(i+1))=l.drop (i+1)from List.take_of_length_le (by rw [List.length_drop];omega)]
  ·rw [show(l[i]==32)=false from by simp [hc]]
   simp only [zK];rw [hw,zVq l hl d (i+1) K (by omega) (by omega)]
   conv=>rhs;unfold zX
   rw [if_neg hc];simp only [List.length_cons];rw [show i+1+(zX (l.drop (i+1))).1.length=i+((zX (l.drop (i+1))).1.length+1)from by omega]
theorem yh{κ:Nat}(hκ:40000≤κ)(l:List UInt8)(hl:l.length≤20000):qZ κ (B l)=some (B (zX l).1,B (zX l).2.1):=by
 unfold qZ;have h:=zVq (κ:=κ) l (by omega) l.length 0 κ (by omega) (by omega);rw [show qZ.l0 κ κ (B l,(0:Int))=_ from h,List.drop_zero];have hp:=zFq l;by_cases hm:(zX l).2.2=true
 ·rw [if_pos hm]at hp⊢
  simp only [Option.bind_some,Nat.zero_add];rw [hp.1]
 ·rw [if_neg hm]at hp⊢
  simp only [Option.bind_some];rw [hp.1,hp.2]
def nvF(c:UInt8):Nat→Nat
 |0=>0
 |m+1=>(if c=hx (16-(m+1))then 16-(m+1)else 0)+nvF c m
theorem zdW:∀(n:Fin 256),nvF (UInt8.ofNat n.val) 16≤15∧nvF (hx (n.val/16)) 16=n.val/16∧nvF (hx (n.val%16)) 16=n.val%16:=by decide+kernel
theorem zbF(c:UInt8):nvF c 16≤15:=by
 have:=(zdW ⟨c.toNat,c.toNat_lt⟩).1
 simpa using this
theorem zfR(c:UInt8):∀m,nvF c m≤16*m
 |0=>Nat.le_refl _
 |m+1=>by
  unfold nvF;have:=zfR c m;split<;>omega
theorem zdT(d:Nat)(hd:d<16):zB5[d]? =some (hx d):=by
 have:∀n:Fin 16,zB5[n.val]? =some (hx n.val):=by decide+kernel
 exact this ⟨d,hd⟩
theorem zWh{κ:Nat}(l acc:List UInt8)(i k:Nat)(c:UInt8)(hc:l[i+k]? =some c)(hi:i+k<1000000):∀(m K x:Nat),m≤16→m<K→x+16*m≤2000→
  zq.l38 κ K (B l,B acc,(i:Int),(x:Int),(k:Int),((16-m:Nat):Int))=some (B l,B acc,(i:Int),((x+nvF c m:Nat):Int),(k:Int))
 |m,0,x,_,h,_ =>by omega
 |0,K+1,x,_,_,_ =>by
  unfold zq.l38 zq.w38;rfl
 |m+1,K+1,x,hm,hK,hx1=>by
  have hle:=zfR c (m+1);unfold zq.l38 zq.w38 zq.v39;have hlt:=(List.getElem?_eq_some_iff.1 hc).1;have hw:IntKind.wrap IntKind.i64 (((i:Nat):Int)+((k:Nat):Int))=((i+k:Nat):Int):=by rw [Pa15.q8 _ (by omega) (by omega)];rfl
  rw [show decide (((16-(m+1):Nat):Int)<16)=true from decide_eq_true (by omega),hw,show decide ((0:Int)≤((i+k:Nat):Int))=true from decide_eq_true (by omega),show decide ((0:Int)≤((16-(m+1):Nat):Int))=true from decide_eq_true (by omega),Int.toNat_natCast,Int.toNat_natCast,zKo,hc];simp only [zH,Option.bind_some];rw [show([48,49,50,51,52,53,54,55,56,57,97,98,99,100,101,102]:List UInt8)[16-(m+1)]? =some (hx (16-(m+1)))from zdT _ (by omega)];simp only [Option.bind_some,zN1];unfold zq.v40 nvF;have hn:((16-(m+1):Nat):Int)+1=((16-m:Nat):Int):=by omega
  by_cases he:c=hx (16-(m+1))
  ·rw [show(c==hx (16-(m+1)))=true from beq_iff_eq.2 he,if_pos he]
   simp only [zH,Option.bind_some];rw [Pa15.q8 (((x:Nat):Int)+((16-(m+1):Nat):Int)) (by omega) (by omega),Pa15.q8 (((16-(m+1):Nat):Int)+1) (by omega) (by omega),hn,show((x:Nat):Int)+((16-(m+1):Nat):Int)=((x+(16-(m+1)):Nat):Int)from by omega,zWh l acc i k c hc hi m K _ (by omega) (by omega) (by omega)];congr 6;omega
  ·rw [show(c==hx (16-(m+1)))=false from beq_eq_false_iff_ne.2 he,if_neg he]
   simp only [zK,Option.bind_some];rw [Pa15.q8 (((16-(m+1):Nat):Int)+1) (by omega) (by omega),hn,zWh l acc i k c hc hi m K x (by omega) (by omega) (by omega),Nat.zero_add]
def uxL:List UInt8→List UInt8
 |[]=>[]
 |[_]=>[]
 |a::b::r=>UInt8.ofNat (16*nvF a 16+nvF b 16)::uxL r
theorem zbS:∀l:List UInt8,uxL (zC2 l)=l
 |[]=>rfl
 |c::r=>by
  obtain⟨_,h2,h3⟩:=zdW ⟨c.toNat,c.toNat_lt⟩;unfold zC2 uxL;simp only at h2 h3;rw [zbS r,h2,h3,show 16*(c.toNat/16)+c.toNat%16=c.toNat from Nat.div_add_mod _ _];simp
theorem zav:∀l:List UInt8,(uxL l).length≤l.length
 |[]=>Nat.le_refl _
 |[_]=>by simp [uxL]
 |a::b::r=>by
  have:=zav r;simp only [uxL,List.length_cons];omega
theorem zg8{κ:Nat}(hκ:40000≤κ)(l acc:List UInt8)(i:Nat)(a b:UInt8)(ha:l[i]? =some a)(hb:l[i+1]? =some b)(hi:i<900000):
  zq.l33 κ κ (B l,B acc,(i:Int),(0:Int),(0:Int))=some (B l,B acc,(i:Int),((16*nvF a 16+nvF b 16:Nat):Int)):=by
 have h1:=zbF a;have h2:=zbF b;obtain⟨K,rfl⟩:∃K,κ=K+3:=⟨κ-3,by omega⟩
 have d1:=zWh (κ:=K+3) l acc i 0 a ha (by omega) 16 (K+3) 0 (by omega) (by omega) (by omega);have d2:=zWh (κ:=K+3) l acc i 1 b hb (by omega) 16 (K+3) (16*nvF a 16) (by omega) (by omega) (by omega);rw [Nat.zero_add]at d1
 show zq.w33 (K+3) _ (B l) (B acc) (i:Int) 0 0=_;unfold zq.w33;rw [show decide ((0:Int)<2)=true from rfl,show IntKind.wrap IntKind.i64 ((16:Int)*0)=0 from rfl,show zq.l38 (K+3) (K+3) (B l,B acc,(i:Int),(0:Int),(0:Int),(0:Int))=_ from d1];simp only [zH,Option.bind_some];rw [show IntKind.wrap IntKind.i64 (((0:Nat):Int)+1)=1 from rfl]
 show zq.w33 (K+3) _ (B l) (B acc) (i:Int) _ 1=_;unfold zq.w33;rw [show decide ((1:Int)<2)=true from rfl,show IntKind.wrap IntKind.i64 ((16:Int)*((nvF a 16:Nat):Int))=((16*nvF a 16:Nat):Int)from by rw [Pa15.q8 _ (by omega) (by omega)];omega,
  show zq.l38 (K+3) (K+3) (B l,B acc,(i:Int),((16*nvF a 16:Nat):Int),(1:Int),(0:Int))=_ from d2]
 simp only [zH,Option.bind_some];rfl
theorem zod(n:Nat)(h:n<256):(ByteArray.mk (List.toArray (List.map (fun x=>(UInt8.ofNat (Int.toNat x))) ((IntKind.wrap IntKind.u8 ((n:Nat):Int))::[]))))=B [UInt8.ofNat n]:=by
 rw [IntKind.wrap_u8,List.map_cons,List.map_nil,show Int.toNat (((n:Nat):Int)%256)=n from by omega]
theorem zap{κ:Nat}(hκ:40000≤κ)(l:List UInt8)(hl:l.length≤20000):∀(d i K:Nat) (acc:List UInt8),l.length≤i+2*d+1→d<K→acc.length≤i→
  (i≤l.length)→zq.l22 κ K (B l,B acc,(i:Int))=some (B (acc++uxL (l.drop i)))
 |d,i,0,_,_,h,_,_ =>by omega
 |d,i,K+1,acc,h,hk,ha,hi=>by
  unfold zq.l22 zq.w22;rw [zy,zLW i (by omega)];by_cases hlt:i+1<l.length
  ·have hlt0:i<l.length:=by omega
   rw [show decide (((i+1:Nat):Int)<((l.length:Nat):Int))=true from decide_eq_true (by omega),zg8 hκ l acc i l[i] l[i+1] (List.getElem?_eq_getElem hlt0) (List.getElem?_eq_getElem hlt) (by omega)];simp only [zH,Option.bind_some];generalize hla:l[i]=la;generalize hlb:l[i+1]=lb;have h1:=zbF la;have h2:=zbF lb;generalize hn:16*nvF la 16+nvF lb 16=n;have hb:=zod n (by omega);rw [hb,zy,zy,wy (by simp;omega),qj];simp only [zH];have hd:l.drop i=la::lb::l.drop (i+2):=by rw [List.drop_eq_getElem_cons hlt0,List.drop_eq_getElem_cons hlt,hla,hlb]
   have hw2:IntKind.wrap IntKind.i64 (((i:Nat):Int)+2)=((i+2:Nat):Int):=by rw [Pa15.q8 _ (by omega) (by omega)];rfl
   cases d with
   |zero=>omega
   |succ d=>
    rw [hw2,zap hκ l hl d (i+2) K _ (by omega) (by omega) (by simp;omega) (by omega),hd];simp [uxL,hn]
  ·rw [show decide (((i+1:Nat):Int)<((l.length:Nat):Int))=false from decide_eq_false (by omega)]
   simp only [zK];have:uxL (l.drop i)=[]:=by
    have hlen:(l.drop i).length≤1:=by rw [List.length_drop];omega
    cases hq:l.drop i with
    |nil=>rfl
    |cons c r=>
     rw [hq]at hlen;cases r with
     |nil=>rfl
     |cons c' r'=>simp at hlen
   rw [this,List.append_nil]
theorem zcW{κ:Nat}(hκ:40000≤κ)(l:List UInt8)(hl:l.length≤20000):zq κ (B l)=some (B (uxL l)):=by
 unfold zq;have h:=zap hκ l hl l.length 0 κ [] (by omega) (by omega) (by simp) (by omega);rw [show zq.l22 κ κ (B l,(ByteArray.mk (List.toArray [])),(0:Int))=_ from h];simp
end Go.Proofs.YtdoifigogbdodaaGreatDoor.Wo

namespace Go.Proofs.YtdoifigogbdodaaGreatDoor.Wo
open Go Ev Ev.Seat Go.Lib
def qh(j:Nat)(zR:Int)(s:List UInt8):zM:=match j with
 |0=>⟨0,zR,[],B [],0,false,false,B [],0,0,[]⟩
 |1=>⟨1,zR,[],B [],0,false,false,B [],0,0,[]⟩
 |2=>⟨2,zR,[],B [],0,false,false,B [],0,0,[]⟩
 |3=>⟨3,zR,[],B [],0,false,false,B [],0,0,[]⟩
 |4=>⟨4,zR,[],B [],0,false,false,B [],0,0,[]⟩
 |5=>⟨5,zR,[],B [],0,false,false,B [],0,0,[]⟩
 |6=>⟨6,zR,[],B [],0,false,false,B [],0,0,[]⟩
 |7=>⟨7,zR,zQ2 (zX s).1,B (zX s).2.1,0,false,false,B [],0,0,[]⟩
 |8=>⟨8,zR,zQ2 (zX s).1,B [],0,false,false,B [],0,0,[]⟩
 |9=>⟨9,zR,[],B [],(uR (zX s).1).1,false,false,B [],0,0,[]⟩
 |10=>⟨10,zR,[],B [],(uR (zX s).1).1,false,false,B [],0,0,[]⟩
 |11=>⟨11,zR,[],B [],(uR (zX s).1).1,false,false,B [],0,0,[]⟩
 |12=>⟨12,zR,[],B [],(uR (zX (zX s).2.1).2.1).1,seq (B (zX s).1) (B [114,117,110,110,105,110,103]),seq (B (zX (zX s).2.1).1) (B [98,121,116,101,115]),B [],0,0,[]⟩
 |13=>⟨13,zR,[],B [],0,false,false,B [],0,0,ints (zX s).2.1⟩
 |14=>⟨14,zR,[],B [],0,false,false,B [],0,0,ints (uxL (zX s).2.1)⟩
 |15=>⟨15,0,[],B [],0,false,false,B (zX s).1,(uR (zX (zX s).2.1).1).1,(uR (zX (zX s).2.1).2.1).1,[]⟩
 |16=>⟨16,0,[],B [],(uR (zX s).1).1,false,false,B [],0,0,[]⟩
 |17=>⟨17,0,[],B [],0,false,false,B s,0,0,[]⟩
 |18=>⟨18,0,[],B [],0,false,false,B s,0,0,[]⟩
 |_ =>⟨0,0,[],B [],0,false,false,B [],0,0,[]⟩
abbrev zBL(c:zM):Int×Int×(List zD)×ByteArray×Int×Bool×Bool×ByteArray×Int×Int×ByteArray:=(c.kind,c.zR,c.zg,c.value,c.n,c.running,c.zO,c.port,c.zm,c.size,B (qC c.data))
theorem ph{κ:Nat}(hκ:40000≤κ)(l:List UInt8)(hl:l.length≤20000):yw κ (B l)=some (uR l):=
 Va8.zdL κ (by omega) (B l) (by rw [zy];omega)
theorem zm1{κ:Nat}(hκ:40000≤κ)(zR:Int)(s:List UInt8)(hs:s.length≤10000):zB κ 0 zR (B []) 0 false false (B []) 0 0 (B []) (B s)=some (zBL (qh 0 zR s)):=by
 have l1:=zU s;have l2:=zU (zX s).2.1;unfold zB;simp only [yh hκ s (by omega),yh hκ (zX s).2.1 (by omega),ph hκ (zX s).1 (by omega),Option.bind_some];simp only [zB.v0,zB.v1,zB.v3,zB.v4,zB.v5,zB.v6,zB.v10,zB.v11,zB.v12,zB.v13,zB.v14,zB.v15,zB.v17,Int.reduceBEq,zH,zK,Option.bind_some]
 show _ =_;kernel_rfl
theorem zm4{κ:Nat}(hκ:40000≤κ)(zR:Int)(s:List UInt8)(hs:s.length≤10000):zB κ 1 zR (B []) 0 false false (B []) 0 0 (B []) (B s)=some (zBL (qh 1 zR s)):=by
 have l1:=zU s;have l2:=zU (zX s).2.1;unfold zB;simp only [yh hκ s (by omega),yh hκ (zX s).2.1 (by omega),ph hκ (zX s).1 (by omega),Option.bind_some];simp only [zB.v0,zB.v1,zB.v3,zB.v4,zB.v5,zB.v6,zB.v10,zB.v11,zB.v12,zB.v13,zB.v14,zB.v15,zB.v17,Int.reduceBEq,zH,zK,Option.bind_some]
 show _ =_;kernel_rfl
theorem znm{κ:Nat}(hκ:40000≤κ)(zR:Int)(s:List UInt8)(hs:s.length≤10000):zB κ 2 zR (B []) 0 false false (B []) 0 0 (B []) (B s)=some (zBL (qh 2 zR s)):=by
 have l1:=zU s;have l2:=zU (zX s).2.1;unfold zB;simp only [yh hκ s (by omega),yh hκ (zX s).2.1 (by omega),ph hκ (zX s).1 (by omega),Option.bind_some];simp only [zB.v0,zB.v1,zB.v3,zB.v4,zB.v5,zB.v6,zB.v10,zB.v11,zB.v12,zB.v13,zB.v14,zB.v15,zB.v17,Int.reduceBEq,zH,zK,Option.bind_some]
 show _ =_;kernel_rfl
theorem zmg{κ:Nat}(hκ:40000≤κ)(zR:Int)(s:List UInt8)(hs:s.length≤10000):zB κ 3 zR (B []) 0 false false (B []) 0 0 (B []) (B s)=some (zBL (qh 3 zR s)):=by
 have l1:=zU s;have l2:=zU (zX s).2.1;unfold zB;simp only [yh hκ s (by omega),yh hκ (zX s).2.1 (by omega),ph hκ (zX s).1 (by omega),Option.bind_some];simp only [zB.v0,zB.v1,zB.v3,zB.v4,zB.v5,zB.v6,zB.v10,zB.v11,zB.v12,zB.v13,zB.v14,zB.v15,zB.v17,Int.reduceBEq,zH,zK,Option.bind_some]
 show _ =_;kernel_rfl
theorem zli{κ:Nat}(hκ:40000≤κ)(zR:Int)(s:List UInt8)(hs:s.length≤10000):zB κ 4 zR (B []) 0 false false (B []) 0 0 (B []) (B s)=some (zBL (qh 4 zR s)):=by
 have l1:=zU s;have l2:=zU (zX s).2.1;unfold zB;simp only [yh hκ s (by omega),yh hκ (zX s).2.1 (by omega),ph hκ (zX s).1 (by omega),Option.bind_some];simp only [zB.v0,zB.v1,zB.v3,zB.v4,zB.v5,zB.v6,zB.v10,zB.v11,zB.v12,zB.v13,zB.v14,zB.v15,zB.v17,Int.reduceBEq,zH,zK,Option.bind_some]
 show _ =_;kernel_rfl
theorem zm6{κ:Nat}(hκ:40000≤κ)(zR:Int)(s:List UInt8)(hs:s.length≤10000):zB κ 5 zR (B []) 0 false false (B []) 0 0 (B []) (B s)=some (zBL (qh 5 zR s)):=by
 have l1:=zU s;have l2:=zU (zX s).2.1;unfold zB;simp only [yh hκ s (by omega),yh hκ (zX s).2.1 (by omega),ph hκ (zX s).1 (by omega),Option.bind_some];simp only [zB.v0,zB.v1,zB.v3,zB.v4,zB.v5,zB.v6,zB.v10,zB.v11,zB.v12,zB.v13,zB.v14,zB.v15,zB.v17,Int.reduceBEq,zH,zK,Option.bind_some]
 show _ =_;kernel_rfl
theorem zmO{κ:Nat}(hκ:40000≤κ)(zR:Int)(s:List UInt8)(hs:s.length≤10000):zB κ 6 zR (B []) 0 false false (B []) 0 0 (B []) (B s)=some (zBL (qh 6 zR s)):=by
 have l1:=zU s;have l2:=zU (zX s).2.1;unfold zB;simp only [yh hκ s (by omega),yh hκ (zX s).2.1 (by omega),ph hκ (zX s).1 (by omega),Option.bind_some];simp only [zB.v0,zB.v1,zB.v3,zB.v4,zB.v5,zB.v6,zB.v10,zB.v11,zB.v12,zB.v13,zB.v14,zB.v15,zB.v17,Int.reduceBEq,zH,zK,Option.bind_some]
 show _ =_;kernel_rfl
theorem zms{κ:Nat}(hκ:40000≤κ)(zR:Int)(s:List UInt8)(hs:s.length≤10000):zB κ 7 zR (B []) 0 false false (B []) 0 0 (B []) (B s)=some (zBL (qh 7 zR s)):=by
 have l1:=zU s;have l2:=zU (zX s).2.1;unfold zB;simp only [yh hκ s (by omega),yh hκ (zX s).2.1 (by omega),ph hκ (zX s).1 (by omega),Option.bind_some];obtain⟨e,a,hp⟩:=zVx hκ (zX s).1 (by omega);simp only [zB.v0,zB.v1,zB.v3,zB.v4,zB.v5,zB.v6,zB.v10,zB.v11,zB.v12,zB.v13,zB.v14,zB.v15,zB.v17,Int.reduceBEq,zH,zK,Option.bind_some,hp]
 show _ =_;kernel_rfl
theorem zl9{κ:Nat}(hκ:40000≤κ)(zR:Int)(s:List UInt8)(hs:s.length≤10000):zB κ 8 zR (B []) 0 false false (B []) 0 0 (B []) (B s)=some (zBL (qh 8 zR s)):=by
 have l1:=zU s;have l2:=zU (zX s).2.1;unfold zB;simp only [yh hκ s (by omega),yh hκ (zX s).2.1 (by omega),ph hκ (zX s).1 (by omega),Option.bind_some];obtain⟨e,a,hp⟩:=zVx hκ (zX s).1 (by omega);simp only [zB.v0,zB.v1,zB.v3,zB.v4,zB.v5,zB.v6,zB.v10,zB.v11,zB.v12,zB.v13,zB.v14,zB.v15,zB.v17,Int.reduceBEq,zH,zK,Option.bind_some,hp]
 show _ =_;kernel_rfl
theorem zmF{κ:Nat}(hκ:40000≤κ)(zR:Int)(s:List UInt8)(hs:s.length≤10000):zB κ 9 zR (B []) 0 false false (B []) 0 0 (B []) (B s)=some (zBL (qh 9 zR s)):=by
 have l1:=zU s;have l2:=zU (zX s).2.1;unfold zB;simp only [yh hκ s (by omega),yh hκ (zX s).2.1 (by omega),ph hκ (zX s).1 (by omega),Option.bind_some];simp only [zB.v0,zB.v1,zB.v3,zB.v4,zB.v5,zB.v6,zB.v10,zB.v11,zB.v12,zB.v13,zB.v14,zB.v15,zB.v17,Int.reduceBEq,zH,zK,Option.bind_some]
 show _ =_;kernel_rfl
theorem zka{κ:Nat}(hκ:40000≤κ)(zR:Int)(s:List UInt8)(hs:s.length≤10000):zB κ 10 zR (B []) 0 false false (B []) 0 0 (B []) (B s)=some (zBL (qh 10 zR s)):=by
 have l1:=zU s;have l2:=zU (zX s).2.1;unfold zB;simp only [yh hκ s (by omega),yh hκ (zX s).2.1 (by omega),ph hκ (zX s).1 (by omega),Option.bind_some];simp only [zB.v0,zB.v1,zB.v3,zB.v4,zB.v5,zB.v6,zB.v10,zB.v11,zB.v12,zB.v13,zB.v14,zB.v15,zB.v17,Int.reduceBEq,zH,zK,Option.bind_some]
 show _ =_;kernel_rfl
theorem zjq{κ:Nat}(hκ:40000≤κ)(zR:Int)(s:List UInt8)(hs:s.length≤10000):zB κ 11 zR (B []) 0 false false (B []) 0 0 (B []) (B s)=some (zBL (qh 11 zR s)):=by
 have l1:=zU s;have l2:=zU (zX s).2.1;unfold zB;simp only [yh hκ s (by omega),yh hκ (zX s).2.1 (by omega),ph hκ (zX s).1 (by omega),Option.bind_some];simp only [zB.v0,zB.v1,zB.v3,zB.v4,zB.v5,zB.v6,zB.v10,zB.v11,zB.v12,zB.v13,zB.v14,zB.v15,zB.v17,Int.reduceBEq,zH,zK,Option.bind_some]
 show _ =_;kernel_rfl
theorem zjf{κ:Nat}(hκ:40000≤κ)(zR:Int)(s:List UInt8)(hs:s.length≤10000):zB κ 12 zR (B []) 0 false false (B []) 0 0 (B []) (B s)=some (zBL (qh 12 zR s)):=by
 have l1:=zU s;have l2:=zU (zX s).2.1;unfold zB;simp only [yh hκ s (by omega),yh hκ (zX s).2.1 (by omega),ph hκ (zX s).1 (by omega),Option.bind_some];simp only [zB.v0,zB.v1,zB.v3,zB.v4,zB.v5,zB.v6,zB.v10,zB.v11,zB.v12,zB.v13,zB.v14,zB.v15,zB.v17,Int.reduceBEq,zH,zK,Option.bind_some,ph hκ (zX (zX s).2.1).2.1 (by omega),ph hκ (zX (zX s).2.1).1 (by omega)]
 show _ =_;kernel_rfl
theorem zjl{κ:Nat}(hκ:40000≤κ)(zR:Int)(s:List UInt8)(hs:s.length≤10000):zB κ 13 zR (B []) 0 false false (B []) 0 0 (B []) (B s)=some (zBL (qh 13 zR s)):=by
 have l1:=zU s;have l2:=zU (zX s).2.1;unfold zB;simp only [yh hκ s (by omega),yh hκ (zX s).2.1 (by omega),ph hκ (zX s).1 (by omega),Option.bind_some];simp only [zB.v0,zB.v1,zB.v3,zB.v4,zB.v5,zB.v6,zB.v10,zB.v11,zB.v12,zB.v13,zB.v14,zB.v15,zB.v17,Int.reduceBEq,zH,zK,Option.bind_some]
 show _ =some (13,zR,[],B [],0,false,false,B [],0,0,B (qC (ints ((zX s).2.1))));rw [zY3]
 show _ =_;kernel_rfl
theorem zkG{κ:Nat}(hκ:40000≤κ)(zR:Int)(s:List UInt8)(hs:s.length≤10000):zB κ 14 zR (B []) 0 false false (B []) 0 0 (B []) (B s)=some (zBL (qh 14 zR s)):=by
 have l1:=zU s;have l2:=zU (zX s).2.1;unfold zB;simp only [yh hκ s (by omega),yh hκ (zX s).2.1 (by omega),ph hκ (zX s).1 (by omega),Option.bind_some];simp only [zB.v0,zB.v1,zB.v3,zB.v4,zB.v5,zB.v6,zB.v10,zB.v11,zB.v12,zB.v13,zB.v14,zB.v15,zB.v17,Int.reduceBEq,zH,zK,Option.bind_some,zcW hκ (zX s).2.1 (by omega)]
 show _ =some (14,zR,[],B [],0,false,false,B [],0,0,B (qC (ints (uxL (zX s).2.1))));rw [zY3]
 show _ =_;kernel_rfl
theorem zjg{κ:Nat}(hκ:40000≤κ)(zR:Int)(s:List UInt8)(hs:s.length≤10000):zB κ 15 zR (B []) 0 false false (B []) 0 0 (B []) (B s)=some (zBL (qh 15 zR s)):=by
 have l1:=zU s;have l2:=zU (zX s).2.1;unfold zB;simp only [yh hκ s (by omega),yh hκ (zX s).2.1 (by omega),ph hκ (zX s).1 (by omega),Option.bind_some];simp only [zB.v0,zB.v1,zB.v3,zB.v4,zB.v5,zB.v6,zB.v10,zB.v11,zB.v12,zB.v13,zB.v14,zB.v15,zB.v17,Int.reduceBEq,zH,zK,Option.bind_some,ph hκ (zX (zX s).2.1).2.1 (by omega),ph hκ (zX (zX s).2.1).1 (by omega)]
 show _ =_;kernel_rfl
theorem zj2{κ:Nat}(hκ:40000≤κ)(zR:Int)(s:List UInt8)(hs:s.length≤10000):zB κ 16 zR (B []) 0 false false (B []) 0 0 (B []) (B s)=some (zBL (qh 16 zR s)):=by
 have l1:=zU s;have l2:=zU (zX s).2.1;unfold zB;simp only [yh hκ s (by omega),yh hκ (zX s).2.1 (by omega),ph hκ (zX s).1 (by omega),Option.bind_some];simp only [zB.v0,zB.v1,zB.v3,zB.v4,zB.v5,zB.v6,zB.v10,zB.v11,zB.v12,zB.v13,zB.v14,zB.v15,zB.v17,Int.reduceBEq,zH,zK,Option.bind_some]
 show _ =_;kernel_rfl
theorem zkk{κ:Nat}(hκ:40000≤κ)(zR:Int)(s:List UInt8)(hs:s.length≤10000):zB κ 17 zR (B []) 0 false false (B []) 0 0 (B []) (B s)=some (zBL (qh 17 zR s)):=by
 have l1:=zU s;have l2:=zU (zX s).2.1;unfold zB;simp only [yh hκ s (by omega),yh hκ (zX s).2.1 (by omega),ph hκ (zX s).1 (by omega),Option.bind_some];simp only [zB.v0,zB.v1,zB.v3,zB.v4,zB.v5,zB.v6,zB.v10,zB.v11,zB.v12,zB.v13,zB.v14,zB.v15,zB.v17,Int.reduceBEq,zH,zK,Option.bind_some]
 show _ =_;kernel_rfl
theorem zkQ{κ:Nat}(hκ:40000≤κ)(zR:Int)(s:List UInt8)(hs:s.length≤10000):zB κ 18 zR (B []) 0 false false (B []) 0 0 (B []) (B s)=some (zBL (qh 18 zR s)):=by
 have l1:=zU s;have l2:=zU (zX s).2.1;unfold zB;simp only [yh hκ s (by omega),yh hκ (zX s).2.1 (by omega),ph hκ (zX s).1 (by omega),Option.bind_some];simp only [zB.v0,zB.v1,zB.v3,zB.v4,zB.v5,zB.v6,zB.v10,zB.v11,zB.v12,zB.v13,zB.v14,zB.v15,zB.v17,Int.reduceBEq,zH,zK,Option.bind_some]
 show _ =_;kernel_rfl
theorem zdu{κ:Nat}(hκ:40000≤κ)(zR:Int)(s:List UInt8)(hs:s.length≤10000):∀(j:Nat) (hj:j<19),zB κ (j:Int) zR (B []) 0 false false (B []) 0 0 (B []) (B s)=some (zBL (qh j zR s))
 |0,_ =>zm1 hκ zR s hs
 |1,_ =>zm4 hκ zR s hs
 |2,_ =>znm hκ zR s hs
 |3,_ =>zmg hκ zR s hs
 |4,_ =>zli hκ zR s hs
 |5,_ =>zm6 hκ zR s hs
 |6,_ =>zmO hκ zR s hs
 |7,_ =>zms hκ zR s hs
 |8,_ =>zl9 hκ zR s hs
 |9,_ =>zmF hκ zR s hs
 |10,_ =>zka hκ zR s hs
 |11,_ =>zjq hκ zR s hs
 |12,_ =>zjf hκ zR s hs
 |13,_ =>zjl hκ zR s hs
 |14,_ =>zkG hκ zR s hs
 |15,_ =>zjg hκ zR s hs
 |16,_ =>zj2 hκ zR s hs
 |17,_ =>zkk hκ zR s hs
 |18,_ =>zkQ hκ zR s hs
 |n+19,h=>absurd h (by omega)
theorem zLF(l:List UInt8):0≤(uR l).1∧(uR l).1<18446744073709551616:=by
 unfold uR;cases h:Va8.zBN (B l)with
 |none=>rw [Va8.zUg h];decide
 |some u=>
  have:=Va8.zUK h;rw [Va8.zI9 h];simp only;omega
theorem zXW(l:List UInt8):∀x∈ints l,0≤x∧x<256:=fun x h=>by
 unfold ints at h;obtain⟨b,_,rfl⟩:=List.mem_map.1 h;have:=b.toNat_lt;omega
theorem zFo(l:List UInt8):(ints l).length=l.length:=by simp [ints]
theorem zYf{κ:Nat}(hκ:40000≤κ)(zR:Int)(s:List UInt8)(hs:s.length≤5000):∀(j:Nat) (hj:j<19),uj κ (qh j zR s):=by
 have l1:=zU s;have l2:=zU (zX s).2.1;have l3:=zav (zX s).2.1;have hz:(0:Int)≤0∧(0:Int)<18446744073709551616:=by decide
 have hw:=zcj (zX s).1;have hb0:(B []).size=0:=rfl;have hn:∀x∈([]:List Int),0≤x∧x<256:=fun x h=>by cases h
 have hf0:Pa15.Fits κ []:=fun x h=>by cases h
 have hf:Pa15.Fits κ (zQ2 (zX s).1):=fun x hx=>by have:=hw.2 x hx;omega
 intro j hj
 match j,hj with
 |0,_ =>exact⟨⟨⟨hz,hz,hz,by show(B []).size≤_;rw [hb0];omega,by show([]:List Int).length≤_;simp,hn⟩,by show([]:List Int).length≤_;simp⟩,by show(B []).size≤_;rw [hb0];omega,by show(B []).size≤_;rw [hb0];omega,by show([]:List zD).length≤_;simp,hf0⟩
 |1,_ =>exact⟨⟨⟨hz,hz,hz,by show(B []).size≤_;rw [hb0];omega,by show([]:List Int).length≤_;simp,hn⟩,by show([]:List Int).length≤_;simp⟩,by show(B []).size≤_;rw [hb0];omega,by show(B []).size≤_;rw [hb0];omega,by show([]:List zD).length≤_;simp,hf0⟩
 |2,_ =>exact⟨⟨⟨hz,hz,hz,by show(B []).size≤_;rw [hb0];omega,by show([]:List Int).length≤_;simp,hn⟩,by show([]:List Int).length≤_;simp⟩,by show(B []).size≤_;rw [hb0];omega,by show(B []).size≤_;rw [hb0];omega,by show([]:List zD).length≤_;simp,hf0⟩
 |3,_ =>exact⟨⟨⟨hz,hz,hz,by show(B []).size≤_;rw [hb0];omega,by show([]:List Int).length≤_;simp,hn⟩,by show([]:List Int).length≤_;simp⟩,by show(B []).size≤_;rw [hb0];omega,by show(B []).size≤_;rw [hb0];omega,by show([]:List zD).length≤_;simp,hf0⟩
 |4,_ =>exact⟨⟨⟨hz,hz,hz,by show(B []).size≤_;rw [hb0];omega,by show([]:List Int).length≤_;simp,hn⟩,by show([]:List Int).length≤_;simp⟩,by show(B []).size≤_;rw [hb0];omega,by show(B []).size≤_;rw [hb0];omega,by show([]:List zD).length≤_;simp,hf0⟩
 |5,_ =>exact⟨⟨⟨hz,hz,hz,by show(B []).size≤_;rw [hb0];omega,by show([]:List Int).length≤_;simp,hn⟩,by show([]:List Int).length≤_;simp⟩,by show(B []).size≤_;rw [hb0];omega,by show(B []).size≤_;rw [hb0];omega,by show([]:List zD).length≤_;simp,hf0⟩
 |6,_ =>exact⟨⟨⟨hz,hz,hz,by show(B []).size≤_;rw [hb0];omega,by show([]:List Int).length≤_;simp,hn⟩,by show([]:List Int).length≤_;simp⟩,by show(B []).size≤_;rw [hb0];omega,by show(B []).size≤_;rw [hb0];omega,by show([]:List zD).length≤_;simp,hf0⟩
 |7,_ =>exact⟨⟨⟨hz,hz,hz,by show(B (zX s).2.1).size≤_;rw [zy];omega,by show([]:List Int).length≤_;simp,hn⟩,by show([]:List Int).length≤_;simp⟩,by show(B (zX s).2.1).size≤_;rw [zy];omega,by show(B []).size≤_;rw [hb0];omega,by show(zQ2 _).length≤_;omega,hf⟩
 |8,_ =>exact⟨⟨⟨hz,hz,hz,by show(B []).size≤_;rw [hb0];omega,by show([]:List Int).length≤_;simp,hn⟩,by show([]:List Int).length≤_;simp⟩,by show(B []).size≤_;rw [hb0];omega,by show(B []).size≤_;rw [hb0];omega,by show(zQ2 _).length≤_;omega,hf⟩
 |9,_ =>exact⟨⟨⟨zLF _,hz,hz,by show(B []).size≤_;rw [hb0];omega,by show([]:List Int).length≤_;simp,hn⟩,by show([]:List Int).length≤_;simp⟩,by show(B []).size≤_;rw [hb0];omega,by show(B []).size≤_;rw [hb0];omega,by show([]:List zD).length≤_;simp,hf0⟩
 |10,_ =>exact⟨⟨⟨zLF _,hz,hz,by show(B []).size≤_;rw [hb0];omega,by show([]:List Int).length≤_;simp,hn⟩,by show([]:List Int).length≤_;simp⟩,by show(B []).size≤_;rw [hb0];omega,by show(B []).size≤_;rw [hb0];omega,by show([]:List zD).length≤_;simp,hf0⟩
 |11,_ =>exact⟨⟨⟨zLF _,hz,hz,by show(B []).size≤_;rw [hb0];omega,by show([]:List Int).length≤_;simp,hn⟩,by show([]:List Int).length≤_;simp⟩,by show(B []).size≤_;rw [hb0];omega,by show(B []).size≤_;rw [hb0];omega,by show([]:List zD).length≤_;simp,hf0⟩
 |12,_ =>exact⟨⟨⟨zLF _,hz,hz,by show(B []).size≤_;rw [hb0];omega,by show([]:List Int).length≤_;simp,hn⟩,by show([]:List Int).length≤_;simp⟩,by show(B []).size≤_;rw [hb0];omega,by show(B []).size≤_;rw [hb0];omega,by show([]:List zD).length≤_;simp,hf0⟩
 |13,_ =>exact⟨⟨⟨hz,hz,hz,by show(B []).size≤_;rw [hb0];omega,by show(ints _).length≤_;rw [zFo];omega,zXW _⟩,by show(ints _).length≤_;rw [zFo];omega⟩,by show(B []).size≤_;rw [hb0];omega,by show(B []).size≤_;rw [hb0];omega,by show([]:List zD).length≤_;simp,hf0⟩
 |14,_ =>exact⟨⟨⟨hz,hz,hz,by show(B []).size≤_;rw [hb0];omega,by show(ints _).length≤_;rw [zFo];omega,zXW _⟩,by show(ints _).length≤_;rw [zFo];omega⟩,by show(B []).size≤_;rw [hb0];omega,by show(B []).size≤_;rw [hb0];omega,by show([]:List zD).length≤_;simp,hf0⟩
 |15,_ =>exact⟨⟨⟨hz,zLF _,zLF _,by show(B []).size≤_;rw [hb0];omega,by show([]:List Int).length≤_;simp,hn⟩,by show([]:List Int).length≤_;simp⟩,by show(B []).size≤_;rw [hb0];omega,by show(B (zX s).1).size≤_;rw [zy];omega,by show([]:List zD).length≤_;simp,hf0⟩
 |16,_ =>exact⟨⟨⟨zLF _,hz,hz,by show(B []).size≤_;rw [hb0];omega,by show([]:List Int).length≤_;simp,hn⟩,by show([]:List Int).length≤_;simp⟩,by show(B []).size≤_;rw [hb0];omega,by show(B []).size≤_;rw [hb0];omega,by show([]:List zD).length≤_;simp,hf0⟩
 |17,_ =>exact⟨⟨⟨hz,hz,hz,by show(B []).size≤_;rw [hb0];omega,by show([]:List Int).length≤_;simp,hn⟩,by show([]:List Int).length≤_;simp⟩,by show(B []).size≤_;rw [hb0];omega,by show(B s).size≤_;rw [zy];omega,by show([]:List zD).length≤_;simp,hf0⟩
 |18,_ =>exact⟨⟨⟨hz,hz,hz,by show(B []).size≤_;rw [hb0];omega,by show([]:List Int).length≤_;simp,hn⟩,by show([]:List Int).length≤_;simp⟩,by show(B []).size≤_;rw [hb0];omega,by show(B s).size≤_;rw [zy];omega,by show([]:List zD).length≤_;simp,hf0⟩
 |n+19,h=>exact absurd h (by omega)
end Go.Proofs.YtdoifigogbdodaaGreatDoor.Wo

namespace Go.Proofs.YtdoifigogbdodaaGreatDoor.Wo
open Go Ev Ev.Seat Go.Lib
def qN(j:Nat)(l:List UInt8):List UInt8×Int×List UInt8:=
 if j<15 then((zX (zX l).2.1).1,IntKind.wrap IntKind.i64 (if(99:Int)<(uR (zX l).1).1 then 99 else(uR (zX l).1).1),(zX (zX l).2.1).2.1)else((zX l).1,0,(zX l).2.1)
def qE(j:Nat)(l:List UInt8):zM:=qh j (qN j l).2.1 (qN j l).2.2
def zUZ(j:Nat)(l:List UInt8):Bool:=decide ((qN j l).1=vP j)&&(jL (qE j l)&&seq (zNl (qE j l)) (B l))
theorem zZH(j:Nat)(l:List UInt8):(qN j l).2.2.length≤l.length:=by
 unfold qN;have h1:=zU l;have h2:=zU (zX l).2.1;split<;>simp only<;>omega
theorem zcc(l:List UInt8):∀(j:Nat) (hj:j<19),(qE j l).kind=(j:Int)
 |0,_ =>rfl
 |1,_ =>rfl
 |2,_ =>rfl
 |3,_ =>rfl
 |4,_ =>rfl
 |5,_ =>rfl
 |6,_ =>rfl
 |7,_ =>rfl
 |8,_ =>rfl
 |9,_ =>rfl
 |10,_ =>rfl
 |11,_ =>rfl
 |12,_ =>rfl
 |13,_ =>rfl
 |14,_ =>rfl
 |15,_ =>rfl
 |16,_ =>rfl
 |17,_ =>rfl
 |18,_ =>rfl
 |n+19,h=>absurd h (by omega)
def zA7(l:List UInt8):Nat→Nat→Option zM
 |0,_ =>none
 |d+1,j=>bif zUZ j l then some (qE j l)else zA7 l d (j+1)
theorem rv5{κ:Nat}(hκ:40000≤κ)(l:List UInt8)(hl:l.length≤5000)(j:Nat)(a2 a3:Int)(a4:ByteArray)(a5:Int)(a6 a7:Bool)(a8:ByteArray)(a9 a10:Int)(a11:ByteArray):
  yU.v5 κ (B l) (j:Int) (B (zX l).1) (B (zX l).2.1) (decide ((j:Int)<15)) a2 a3 a4 a5 a6 a7 a8 a9 a10 a11 (j:Int) 0 (B []) 0 false false (B []) 0 0 (B [])=
   some (B l,(j:Int),B (qN j l).1,B (qN j l).2.2,a2,a3,a4,a5,a6,a7,a8,a9,a10,a11,(j:Int),(qN j l).2.1,B [],0,false,false,B [],0,0,B []):=by
 have h1:=zU l;unfold yU.v5 qN;by_cases h:j<15
 ·rw [decide_eq_true (show(j:Int)<15 by omega),if_pos h,ph hκ (zX l).1 (by omega),yh hκ (zX l).2.1 (by omega)]
  rfl
 ·rw [decide_eq_false (show¬(j:Int)<15 by omega),if_neg h]
  rfl
theorem rv7{κ:Nat}(hκ:40000≤κ)(l:List UInt8)(j:Nat)(hj:j<19)(w:List UInt8)(a2 a3:Int)(a4:ByteArray)(a5:Int)(a6 a7:Bool)(a8:ByteArray)(a9 a10:Int)(a11:ByteArray)(c:zM)(hc:uj κ c):
  yU.v7 κ (B l) (j:Int) (B w) a2 a3 a4 a5 a6 a7 a8 a9 a10 a11 c.kind c.zR c.zg c.value c.n c.running c.zO c.port c.zm c.size (B (qC c.data))=
   some (B l,(j:Int),(decide (w=vP j)&&(jL c&&seq (zNl c) (B l))),a2,a3,a4,a5,a6,a7,a8,a9,a10,a11,c.kind,c.zR,c.zg,c.value,c.n,c.running,c.zO,c.port,c.zm,c.size,B (qC c.data)):=by
 unfold yU.v7;rw [ju j hj];simp only [Option.bind_some,yr];cases decide (w=vP j)
 ·rfl
 simp only [zH];rw [zVt hκ c hc];simp only [Option.bind_some];cases jL c
 ·rfl
 simp only [zH];rw [zdv hκ c hc];rfl
theorem zY4{κ:Nat}(hκ:40000≤κ)(l:List UInt8)(hl:l.length≤5000)(j:Nat)(hj:j<19)(rec:_)(a2 a3:Int)(a4:ByteArray)(a5:Int)(a6 a7:Bool)(a8:ByteArray)(a9 a10:Int)(a11:ByteArray):
  yU.w4 κ rec (B l) (j:Int) a2 a3 a4 a5 a6 a7 a8 a9 a10 a11=bif zUZ j l then some (.inr (0,zBL (qE j l)))else rec (B l,((j+1:Nat):Int),a2,a3,a4,a5,a6,a7,a8,a9,a10,a11):=by
 have hh:=zZH j l;unfold yU.w4;rw [decide_eq_true (show(j:Int)<19 by omega),yh hκ l (by omega)];simp only [zH,Option.bind_some,show ByteArray.mk (List.toArray [])=B []from rfl,rv5 hκ l hl];rw [zdu hκ _ _ (by omega) j hj];have hc:uj κ (qE j l):=zYf hκ _ _ (by omega) j hj;simp only [Option.bind_some];have h7:=fun a2 a3 a4 a5 a6 a7 a8 a9 a10 a11=>rv7 hκ l j hj (qN j l).1 a2 a3 a4 a5 a6 a7 a8 a9 a10 a11 (qE j l) hc
 unfold qE at h7;rw [h7];simp only [Option.bind_some];rw [zLW j (by omega)];show(bif zUZ j l then _ else _)=_;rfl
theorem zQW{κ:Nat}(hκ:40000≤κ)(l:List UInt8)(hl:l.length≤5000)(a2 a3:Int)(a4:ByteArray)(a5:Int)(a6 a7:Bool)(a8:ByteArray)(a9 a10:Int)(a11:ByteArray):∀(d j K:Nat),d+j=19→d<K→
  yU.l4 κ K (B l,(j:Int),a2,a3,a4,a5,a6,a7,a8,a9,a10,a11)=some (match zA7 l d j with|some c=> .inr (0,zBL c)|none=> .inl (a2,a3,a4,a5,a6,a7,a8,a9,a10,a11))
 |d,j,0,_,h=>by omega
 |0,j,K+1,hd,_ =>by
  unfold yU.l4 yU.w4;rw [decide_eq_false (show¬(j:Int)<19 by omega)];rfl
 |d+1,j,K+1,hd,hk=>by
  unfold yU.l4;rw [zY4 hκ l hl j (by omega)];unfold zA7;cases zUZ j l
  ·simp only [zK]
   exact zQW hκ l hl a2 a3 a4 a5 a6 a7 a8 a9 a10 a11 d (j+1) K (by omega) (by omega)
  ·rfl
def zal(o:Option zM):Int×Int×(List zD)×ByteArray×Int×Bool×Bool×ByteArray×Int×Int×ByteArray×Int:=match o with
 |some c=>(c.kind,c.zR,c.zg,c.value,c.n,c.running,c.zO,c.port,c.zm,c.size,B (qC c.data),0)
 |none=>(0,0,[],B [],0,false,false,B [],0,0,B [],40)
theorem zb6{κ:Nat}(hκ:40000≤κ)(l:List UInt8)(hl:l.length≤5000):yU κ (B l)=some (zal (zA7 l 19 0)):=by
 unfold yU;have h:=zQW hκ l hl 0 0 (B []) 0 false false (B []) 0 0 (B []) 19 0 κ (by omega) (by omega);rw [show yU.l4 κ κ (B l,(0:Int),(0:Int),(0:Int),(ByteArray.mk (List.toArray [])),(0:Int),Bool.false,Bool.false,(ByteArray.mk (List.toArray [])),(0:Int),(0:Int),(ByteArray.mk (List.toArray [])))=_ from h];cases zA7 l 19 0<;>rfl
theorem zkU{κ:Nat}(hκ:40000≤κ){l:List UInt8}(hl:l.length≤5000){j:Nat}(hj:j<19)(h:zUZ j l=true):VL j l (qE j l)∧qJ (qE j l):=by
 have hh:=zZH j l;have hc:uj κ (qE j l):=zYf hκ _ _ (by omega) j hj;unfold zUZ at h;rw [Bool.and_eq_true,Bool.and_eq_true]at h;obtain⟨j',l',v⟩:=zYw hc.f h.2.1;have h2:=v.right.2;have h3:=Va8.zDr.1 h.2.2;rw [h2]at h3;have:=zeR.1 h3;subst this;have hk:=v.kind;rw [zcc l' j hj]at hk;have:j'=j:=by omega
 subst this;exact⟨v,hc.f⟩
theorem wQ:zX []=([],[],false):=rfl
theorem ji{w:Int}(h:zk w=true):IntKind.wrap IntKind.i64 (if(99:Int)<(uR (y5 w)).1 then 99 else(uR (y5 w)).1)=w:=by
 have:=zTu h;rw [wO h];simp only;rw [if_neg (by omega),Pa15.q8 _ (by omega) (by omega)]
theorem zma(c:zM)(hF:qJ c){ws:List (List UInt8)}(h:zJ 0 c.zR c.zg c.value c.n c.running c.zO c.port c.zm c.size c.data=some ws):(qN 0 (Lib.join ws [32])).1=vP 0∧qE 0 (Lib.join ws [32])=zx 0 c:=by
 unfold zJ at h;simp only at h;cases h0:zk c.zR
 ·rw [h0]at h;cases h
 rw [h0,zH]at h;have f1:=hF.f.hn;have f2:=hF.f.pq;have f3:=hF.f.w9;have f4:=hF.f.gE;have hcw:=fun X=>zV (a:=y5 c.zR) X (yJ _)
 have hck:=fun X=>zV (a:=[108,111,99,107]) X (by decide)
 have hcn:zX [108,111,99,107]=([108,111,99,107],[],false):=by decide
 cases h;unfold qE qN qh vP zx;simp only [show(0:Nat)<15 from by decide,if_true,j1,j2,wQ,hcw,ji h0,hck,hcn];exact⟨trivial,trivial⟩
theorem zmV(c:zM)(hF:qJ c){ws:List (List UInt8)}(h:zJ 1 c.zR c.zg c.value c.n c.running c.zO c.port c.zm c.size c.data=some ws):(qN 1 (Lib.join ws [32])).1=vP 1∧qE 1 (Lib.join ws [32])=zx 1 c:=by
 unfold zJ at h;simp only at h;cases h0:zk c.zR
 ·rw [h0]at h;cases h
 rw [h0,zH]at h;have f1:=hF.f.hn;have f2:=hF.f.pq;have f3:=hF.f.w9;have f4:=hF.f.gE;have hcw:=fun X=>zV (a:=y5 c.zR) X (yJ _)
 have hck:=fun X=>zV (a:=[117,110,108,111,99,107]) X (by decide)
 have hcn:zX [117,110,108,111,99,107]=([117,110,108,111,99,107],[],false):=by decide
 cases h;unfold qE qN qh vP zx;simp only [show(1:Nat)<15 from by decide,if_true,j1,j2,wQ,hcw,ji h0,hck,hcn];exact⟨trivial,trivial⟩
theorem zme(c:zM)(hF:qJ c){ws:List (List UInt8)}(h:zJ 2 c.zR c.zg c.value c.n c.running c.zO c.port c.zm c.size c.data=some ws):(qN 2 (Lib.join ws [32])).1=vP 2∧qE 2 (Lib.join ws [32])=zx 2 c:=by
 unfold zJ at h;simp only at h;cases h0:zk c.zR
 ·rw [h0]at h;cases h
 rw [h0,zH]at h;have f1:=hF.f.hn;have f2:=hF.f.pq;have f3:=hF.f.w9;have f4:=hF.f.gE;have hcw:=fun X=>zV (a:=y5 c.zR) X (yJ _)
 have hck:=fun X=>zV (a:=[100,105,115,99,97,114,100]) X (by decide)
 have hcn:zX [100,105,115,99,97,114,100]=([100,105,115,99,97,114,100],[],false):=by decide
 cases h;unfold qE qN qh vP zx;simp only [show(2:Nat)<15 from by decide,if_true,j1,j2,wQ,hcw,ji h0,hck,hcn];exact⟨trivial,trivial⟩
theorem zlr(c:zM)(hF:qJ c){ws:List (List UInt8)}(h:zJ 3 c.zR c.zg c.value c.n c.running c.zO c.port c.zm c.size c.data=some ws):(qN 3 (Lib.join ws [32])).1=vP 3∧qE 3 (Lib.join ws [32])=zx 3 c:=by
 unfold zJ at h;simp only at h;cases h0:zk c.zR
 ·rw [h0]at h;cases h
 rw [h0,zH]at h;have f1:=hF.f.hn;have f2:=hF.f.pq;have f3:=hF.f.w9;have f4:=hF.f.gE;have hcw:=fun X=>zV (a:=y5 c.zR) X (yJ _)
 have hck:=fun X=>zV (a:=[99,104,101,99,107]) X (by decide)
 have hcn:zX [99,104,101,99,107]=([99,104,101,99,107],[],false):=by decide
 cases h;unfold qE qN qh vP zx;simp only [show(3:Nat)<15 from by decide,if_true,j1,j2,wQ,hcw,ji h0,hck,hcn];exact⟨trivial,trivial⟩
theorem znK(c:zM)(hF:qJ c){ws:List (List UInt8)}(h:zJ 4 c.zR c.zg c.value c.n c.running c.zO c.port c.zm c.size c.data=some ws):(qN 4 (Lib.join ws [32])).1=vP 4∧qE 4 (Lib.join ws [32])=zx 4 c:=by
 unfold zJ at h;simp only at h;cases h0:zk c.zR
 ·rw [h0]at h;cases h
 rw [h0,zH]at h;have f1:=hF.f.hn;have f2:=hF.f.pq;have f3:=hF.f.w9;have f4:=hF.f.gE;have hcw:=fun X=>zV (a:=y5 c.zR) X (yJ _)
 have hck:=fun X=>zV (a:=[99,111,110,102,105,114,109]) X (by decide)
 have hcn:zX [99,111,110,102,105,114,109]=([99,111,110,102,105,114,109],[],false):=by decide
 cases h;unfold qE qN qh vP zx;simp only [show(4:Nat)<15 from by decide,if_true,j1,j2,wQ,hcw,ji h0,hck,hcn];exact⟨trivial,trivial⟩
theorem zly(c:zM)(hF:qJ c){ws:List (List UInt8)}(h:zJ 5 c.zR c.zg c.value c.n c.running c.zO c.port c.zm c.size c.data=some ws):(qN 5 (Lib.join ws [32])).1=vP 5∧qE 5 (Lib.join ws [32])=zx 5 c:=by
 unfold zJ at h;simp only at h;cases h0:zk c.zR
 ·rw [h0]at h;cases h
 rw [h0,zH]at h;have f1:=hF.f.hn;have f2:=hF.f.pq;have f3:=hF.f.w9;have f4:=hF.f.gE;have hcw:=fun X=>zV (a:=y5 c.zR) X (yJ _)
 have hck:=fun X=>zV (a:=[99,97,110,99,101,108]) X (by decide)
 have hcn:zX [99,97,110,99,101,108]=([99,97,110,99,101,108],[],false):=by decide
 cases h;unfold qE qN qh vP zx;simp only [show(5:Nat)<15 from by decide,if_true,j1,j2,wQ,hcw,ji h0,hck,hcn];exact⟨trivial,trivial⟩
theorem znp(c:zM)(hF:qJ c){ws:List (List UInt8)}(h:zJ 6 c.zR c.zg c.value c.n c.running c.zO c.port c.zm c.size c.data=some ws):(qN 6 (Lib.join ws [32])).1=vP 6∧qE 6 (Lib.join ws [32])=zx 6 c:=by
 unfold zJ at h;simp only at h;cases h0:zk c.zR
 ·rw [h0]at h;cases h
 rw [h0,zH]at h;have f1:=hF.f.hn;have f2:=hF.f.pq;have f3:=hF.f.w9;have f4:=hF.f.gE;have hcw:=fun X=>zV (a:=y5 c.zR) X (yJ _)
 have hck:=fun X=>zV (a:=[115,97,118,101]) X (by decide)
 have hcn:zX [115,97,118,101]=([115,97,118,101],[],false):=by decide
 cases h;unfold qE qN qh vP zx;simp only [show(6:Nat)<15 from by decide,if_true,j1,j2,wQ,hcw,ji h0,hck,hcn];exact⟨trivial,trivial⟩
theorem zmL(c:zM)(hF:qJ c){ws:List (List UInt8)}(h:zJ 7 c.zR c.zg c.value c.n c.running c.zO c.port c.zm c.size c.data=some ws):(qN 7 (Lib.join ws [32])).1=vP 7∧qE 7 (Lib.join ws [32])=zx 7 c:=by
 unfold zJ at h;simp only at h;cases h0:zk c.zR
 ·rw [h0]at h;cases h
 rw [h0,zH]at h;cases h1:qT c.zg
 ·rw [h1]at h;cases h
 rw [h1,zH]at h;cases h2:Lex5.qa c.value.data.toList
 ·rw [h2]at h;cases h
 rw [h2,zH]at h;have f1:=hF.f.hn;have f2:=hF.f.pq;have f3:=hF.f.w9;have f4:=hF.f.gE;have hcw:=fun X=>zV (a:=y5 c.zR) X (yJ _)
 have hck:=fun X=>zV (a:=[115,101,116]) X (by decide)
 have hcn:zX [115,101,116]=([115,101,116],[],false):=by decide
 have hcy:=fun X=>zV (a:=zCb c.zg) X (zCu _)
 have hcz:=wA (zCu c.zg);cases h;unfold qE qN qh vP zx;simp only [show(7:Nat)<15 from by decide,if_true,j1,j2,wQ,hcw,ji h0,hck,hcn,hcy,hcz,zY5 h1,wz];exact⟨trivial,trivial⟩
theorem zlv(c:zM)(hF:qJ c){ws:List (List UInt8)}(h:zJ 8 c.zR c.zg c.value c.n c.running c.zO c.port c.zm c.size c.data=some ws):(qN 8 (Lib.join ws [32])).1=vP 8∧qE 8 (Lib.join ws [32])=zx 8 c:=by
 unfold zJ at h;simp only at h;cases h0:zk c.zR
 ·rw [h0]at h;cases h
 rw [h0,zH]at h;cases h1:qT c.zg
 ·rw [h1]at h;cases h
 rw [h1,zH]at h;have f1:=hF.f.hn;have f2:=hF.f.pq;have f3:=hF.f.w9;have f4:=hF.f.gE;have hcw:=fun X=>zV (a:=y5 c.zR) X (yJ _)
 have hck:=fun X=>zV (a:=[100,101,108]) X (by decide)
 have hcn:zX [100,101,108]=([100,101,108],[],false):=by decide
 have hcy:=fun X=>zV (a:=zCb c.zg) X (zCu _)
 have hcz:=wA (zCu c.zg);cases h;unfold qE qN qh vP zx;simp only [show(8:Nat)<15 from by decide,if_true,j1,j2,wQ,hcw,ji h0,hck,hcn,hcy,hcz,zY5 h1];exact⟨trivial,trivial⟩
theorem znO(c:zM)(hF:qJ c){ws:List (List UInt8)}(h:zJ 9 c.zR c.zg c.value c.n c.running c.zO c.port c.zm c.size c.data=some ws):(qN 9 (Lib.join ws [32])).1=vP 9∧qE 9 (Lib.join ws [32])=zx 9 c:=by
 unfold zJ at h;simp only at h;cases h0:zk c.zR
 ·rw [h0]at h;cases h
 rw [h0,zH]at h;have f1:=hF.f.hn;have f2:=hF.f.pq;have f3:=hF.f.w9;have f4:=hF.f.gE;have hcw:=fun X=>zV (a:=y5 c.zR) X (yJ _)
 have hck:=fun X=>zV (a:=[99,111,109,109,105,116]) X (by decide)
 have hcn:zX [99,111,109,109,105,116]=([99,111,109,109,105,116],[],false):=by decide
 have hcm:=wA (kC c.n);by_cases hz:0<c.n
 ·rw [decide_eq_true hz,zH]at h
  cases h;unfold qE qN qh vP zx;simp only [show(9:Nat)<15 from by decide,if_true,j1,j2,wQ,hcw,ji h0,hck,hcn,hcm,wZ f1];exact⟨trivial,trivial⟩
 ·rw [decide_eq_false hz,zK]at h
  cases h;unfold qE qN qh vP zx;have e0:c.n=0:=by omega
  simp only [show(9:Nat)<15 from by decide,if_true,j1,j2,wQ,hcw,ji h0,hck,hcn,hcm,wZ f1,e0,zlL];exact⟨trivial,trivial⟩
theorem zkt(c:zM)(hF:qJ c){ws:List (List UInt8)}(h:zJ 10 c.zR c.zg c.value c.n c.running c.zO c.port c.zm c.size c.data=some ws):(qN 10 (Lib.join ws [32])).1=vP 10∧qE 10 (Lib.join ws [32])=zx 10 c:=by
 unfold zJ at h;simp only at h;cases h0:zk c.zR
 ·rw [h0]at h;cases h
 rw [h0,zH]at h;have f1:=hF.f.hn;have f2:=hF.f.pq;have f3:=hF.f.w9;have f4:=hF.f.gE;have hcw:=fun X=>zV (a:=y5 c.zR) X (yJ _)
 have hck:=fun X=>zV (a:=[114,111,108,108,98,97,99,107]) X (by decide)
 have hcn:zX [114,111,108,108,98,97,99,107]=([114,111,108,108,98,97,99,107],[],false):=by decide
 have hcm:=wA (kC c.n);cases h;unfold qE qN qh vP zx;simp only [show(10:Nat)<15 from by decide,if_true,j1,j2,wQ,hcw,ji h0,hck,hcn,hcm,wZ f1];exact⟨trivial,trivial⟩
theorem zjn(c:zM)(hF:qJ c){ws:List (List UInt8)}(h:zJ 11 c.zR c.zg c.value c.n c.running c.zO c.port c.zm c.size c.data=some ws):(qN 11 (Lib.join ws [32])).1=vP 11∧qE 11 (Lib.join ws [32])=zx 11 c:=by
 unfold zJ at h;simp only at h;cases h0:zk c.zR
 ·rw [h0]at h;cases h
 rw [h0,zH]at h;have f1:=hF.f.hn;have f2:=hF.f.pq;have f3:=hF.f.w9;have f4:=hF.f.gE;have hcw:=fun X=>zV (a:=y5 c.zR) X (yJ _)
 have hck:=fun X=>zV (a:=[112,114,117,110,101]) X (by decide)
 have hcn:zX [112,114,117,110,101]=([112,114,117,110,101],[],false):=by decide
 have hcm:=wA (kC c.n);cases h;unfold qE qN qh vP zx;simp only [show(11:Nat)<15 from by decide,if_true,j1,j2,wQ,hcw,ji h0,hck,hcn,hcm,wZ f1];exact⟨trivial,trivial⟩
theorem zks(c:zM)(hF:qJ c){ws:List (List UInt8)}(h:zJ 12 c.zR c.zg c.value c.n c.running c.zO c.port c.zm c.size c.data=some ws):(qN 12 (Lib.join ws [32])).1=vP 12∧qE 12 (Lib.join ws [32])=zx 12 c:=by
 unfold zJ at h;simp only at h;cases h0:zk c.zR
 ·rw [h0]at h;cases h
 rw [h0,zH]at h;have f1:=hF.f.hn;have f2:=hF.f.pq;have f3:=hF.f.w9;have f4:=hF.f.gE;have hcw:=fun X=>zV (a:=y5 c.zR) X (yJ _)
 have hck:=fun X=>zV (a:=[115,104,111,119]) X (by decide)
 have hcn:zX [115,104,111,119]=([115,104,111,119],[],false):=by decide
 have hcm:=wA (kC c.n);have hs1:=fun X=>zV (a:=bm c.running) X (zK1 _)
 have hs2:=fun X=>zV (a:=zEN c.zO) X (zP2 _)
 cases h;unfold qE qN qh vP zx;simp only [show(12:Nat)<15 from by decide,if_true,j1,j2,wQ,hcw,ji h0,hck,hcn,hcm,wZ f1,hs1,hs2,yr,(zIY c.running).2,(zOo c.zO).2];exact⟨trivial,trivial⟩
theorem zkD(c:zM)(hF:qJ c){ws:List (List UInt8)}(h:zJ 13 c.zR c.zg c.value c.n c.running c.zO c.port c.zm c.size c.data=some ws):(qN 13 (Lib.join ws [32])).1=vP 13∧qE 13 (Lib.join ws [32])=zx 13 c:=by
 unfold zJ at h;simp only at h;cases h0:zk c.zR
 ·rw [h0]at h;cases h
 rw [h0,zH]at h;have f1:=hF.f.hn;have f2:=hF.f.pq;have f3:=hF.f.w9;have f4:=hF.f.gE;have hcw:=fun X=>zV (a:=y5 c.zR) X (yJ _)
 have hck:=fun X=>zV (a:=[108,111,97,100]) X (by decide)
 have hcn:zX [108,111,97,100]=([108,111,97,100],[],false):=by decide
 have ht:=fun X=>zV (a:=[116,101,120,116]) X (by decide)
 cases h;unfold qE qN qh vP zx;simp only [show(13:Nat)<15 from by decide,if_true,j1,j2,wQ,hcw,ji h0,hck,hcn,ht,zA2 f4];exact⟨trivial,trivial⟩
theorem zkK(c:zM)(hF:qJ c){ws:List (List UInt8)}(h:zJ 14 c.zR c.zg c.value c.n c.running c.zO c.port c.zm c.size c.data=some ws):(qN 14 (Lib.join ws [32])).1=vP 14∧qE 14 (Lib.join ws [32])=zx 14 c:=by
 unfold zJ at h;simp only at h;cases h0:zk c.zR
 ·rw [h0]at h;cases h
 rw [h0,zH]at h;have f1:=hF.f.hn;have f2:=hF.f.pq;have f3:=hF.f.w9;have f4:=hF.f.gE;have hcw:=fun X=>zV (a:=y5 c.zR) X (yJ _)
 have hck:=fun X=>zV (a:=[108,111,97,100]) X (by decide)
 have hcn:zX [108,111,97,100]=([108,111,97,100],[],false):=by decide
 have ht:=fun X=>zV (a:=[98,121,116,101,115]) X (by decide)
 cases h;unfold qE qN qh vP zx;simp only [show(14:Nat)<15 from by decide,if_true,j1,j2,wQ,hcw,ji h0,hck,hcn,ht,zA2 f4,zbS];exact⟨trivial,trivial⟩
theorem zlI(c:zM)(hF:qJ c){ws:List (List UInt8)}(h:zJ 15 c.zR c.zg c.value c.n c.running c.zO c.port c.zm c.size c.data=some ws):(qN 15 (Lib.join ws [32])).1=vP 15∧qE 15 (Lib.join ws [32])=zx 15 c:=by
 unfold zJ at h;simp only at h;cases h0:Pa15.vf c.port
 ·rw [h0]at h;cases h
 rw [h0,zH]at h;have f1:=hF.f.hn;have f2:=hF.f.pq;have f3:=hF.f.w9;have f4:=hF.f.gE;have hck:=fun X=>zV (a:=[112,97,99,107,101,116]) X (by decide)
 have hcn:zX [112,97,99,107,101,116]=([112,97,99,107,101,116],[],false):=by decide
 have hp:=fun X=>zV (a:=c.port.data.toList) X (zMB h0)
 have hq:=fun X=>zV (a:=gB c.zm) X (kC _)
 have hr:=wA (kC c.size);cases h;unfold qE qN qh vP zx;simp only [show¬(15:Nat)<15 from by decide,if_false,j1,j2,wQ,hck,hcn,hp,hq,hr,wZ f2,wZ f3,wz];exact⟨trivial,trivial⟩
theorem zkM(c:zM)(hF:qJ c){ws:List (List UInt8)}(h:zJ 16 c.zR c.zg c.value c.n c.running c.zO c.port c.zm c.size c.data=some ws):(qN 16 (Lib.join ws [32])).1=vP 16∧qE 16 (Lib.join ws [32])=zx 16 c:=by
 unfold zJ at h;simp only at h;have f1:=hF.f.hn;have f2:=hF.f.pq;have f3:=hF.f.w9;have f4:=hF.f.gE;have hck:=fun X=>zV (a:=[116,105,99,107]) X (by decide)
 have hcn:zX [116,105,99,107]=([116,105,99,107],[],false):=by decide
 have hcm:=wA (kC c.n);cases h;unfold qE qN qh vP zx;simp only [show¬(16:Nat)<15 from by decide,if_false,j1,j2,wQ,hck,hcn,hcm,wZ f1];exact⟨trivial,trivial⟩
theorem zkV(c:zM)(hF:qJ c){ws:List (List UInt8)}(h:zJ 17 c.zR c.zg c.value c.n c.running c.zO c.port c.zm c.size c.data=some ws):(qN 17 (Lib.join ws [32])).1=vP 17∧qE 17 (Lib.join ws [32])=zx 17 c:=by
 unfold zJ at h;simp only at h;cases h0:Pa15.vf c.port
 ·rw [h0]at h;cases h
 rw [h0,zH]at h;have f1:=hF.f.hn;have f2:=hF.f.pq;have f3:=hF.f.w9;have f4:=hF.f.gE;have hck:=fun X=>zV (a:=[110,101,120,116]) X (by decide)
 have hcn:zX [110,101,120,116]=([110,101,120,116],[],false):=by decide
 cases h;unfold qE qN qh vP zx;simp only [show¬(17:Nat)<15 from by decide,if_false,j1,j2,wQ,hck,hcn,wz];exact⟨trivial,trivial⟩
theorem zkg(c:zM)(hF:qJ c){ws:List (List UInt8)}(h:zJ 18 c.zR c.zg c.value c.n c.running c.zO c.port c.zm c.size c.data=some ws):(qN 18 (Lib.join ws [32])).1=vP 18∧qE 18 (Lib.join ws [32])=zx 18 c:=by
 unfold zJ at h;simp only at h;cases h0:Pa15.vf c.port
 ·rw [h0]at h;cases h
 rw [h0,zH]at h;have f1:=hF.f.hn;have f2:=hF.f.pq;have f3:=hF.f.w9;have f4:=hF.f.gE;have hck:=fun X=>zV (a:=[100,117,109,112]) X (by decide)
 have hcn:zX [100,117,109,112]=([100,117,109,112],[],false):=by decide
 cases h;unfold qE qN qh vP zx;simp only [show¬(18:Nat)<15 from by decide,if_false,j1,j2,wQ,hck,hcn,wz];exact⟨trivial,trivial⟩
theorem comp(c:zM)(hF:qJ c){ws:List (List UInt8)}:∀(j:Nat) (hj:j<19) (h:zJ j c.zR c.zg c.value c.n c.running c.zO c.port c.zm c.size c.data=some ws),(qN j (Lib.join ws [32])).1=vP j∧qE j (Lib.join ws [32])=zx j c
 |0,_,h=>zma c hF h
 |1,_,h=>zmV c hF h
 |2,_,h=>zme c hF h
 |3,_,h=>zlr c hF h
 |4,_,h=>znK c hF h
 |5,_,h=>zly c hF h
 |6,_,h=>znp c hF h
 |7,_,h=>zmL c hF h
 |8,_,h=>zlv c hF h
 |9,_,h=>znO c hF h
 |10,_,h=>zkt c hF h
 |11,_,h=>zjn c hF h
 |12,_,h=>zks c hF h
 |13,_,h=>zkD c hF h
 |14,_,h=>zkK c hF h
 |15,_,h=>zlI c hF h
 |16,_,h=>zkM c hF h
 |17,_,h=>zkV c hF h
 |18,_,h=>zkg c hF h
 |n+19,hj,_ =>absurd hj (by omega)
theorem zlM{l:List UInt8}{j:Nat}{c:zM}(v:VL j l c)(hF:qJ c):zUZ j l=true∧qE j l=c:=by
 obtain⟨ws,h1,h2⟩:=v.ws;obtain⟨e1,e2⟩:=comp c hF j v.lt h1;rw [h2]at e1 e2;rw [v.only]at e2;refine⟨?_,e2⟩;unfold zUZ;rw [e1,e2,v.right.1,v.right.2,decide_eq_true rfl,zCh];rfl
theorem zQg{κ:Nat}(hκ:40000≤κ){l:List UInt8}(hl:l.length≤5000):∀{d j:Nat} {c:zM},d+j=19→zA7 l d j=some c→∃i,VL i l c∧qJ c
 |0,j,c,_,h=>by cases h
 |d+1,j,c,hd,h=>by
  unfold zA7 at h;cases ha:zUZ j l
  ·rw [ha]at h
   exact zQg hκ hl (d:=d) (j:=j+1) (by omega) h
  ·rw [ha]at h
   cases h;exact⟨j,zkU hκ hl (by omega) ha⟩
theorem zQm{l:List UInt8}:∀{d j:Nat},d+j=19→zA7 l d j=none→∀i,j≤i→i<19→zUZ i l=false
 |0,j,hd,_,i,h1,h2=>by omega
 |d+1,j,hd,h,i,h1,h2=>by
  unfold zA7 at h;cases ha:zUZ j l
  ·rw [ha]at h
   by_cases e:i=j
   ·subst e;exact ha
   ·exact zQm (d:=d) (j:=j+1) (by omega) h i (by omega) h2
  ·rw [ha]at h;cases h
theorem zbi{κ:Nat}(hκ:40000≤κ){l:List UInt8}(hl:l.length≤5000):zA7 l 19 0=jq κ l 19 0:=by
 cases h:zA7 l 19 0 with
 |some c=>
  obtain⟨i,v,f⟩:=zQg hκ hl rfl h;exact(zdX hκ (by omega) v f).symm
 |none=>
  cases h2:jq κ l 19 0 with
  |none=>rfl
  |some c=>
   obtain⟨⟨j,v⟩,g⟩:=zXa h2;have:=(zlM v (zW4 g (by omega))).1;rw [zQm rfl h j (Nat.zero_le _) v.lt]at this;cases this
theorem zVF(l:List UInt8):yb 40000 (B l)=some true:=by
 unfold yb;rw [zee,zy];simp only [Option.bind_some,Bool.not_true,zK];by_cases hl:l.length≤4000
 case neg=>rw [show decide (((l.length:Nat):Int)>4000)=true from decide_eq_true (by omega)];rfl
 rw [show decide (((l.length:Nat):Int)>4000)=false from decide_eq_false (by omega),zeO (Nat.le_refl _) l (by omega),zb6 (Nat.le_refl _) l (by omega),zbi (Nat.le_refl _) (by omega)];simp only [zK,Option.bind_some];cases hf:jq 40000 l 19 0 with
 |none=>kernel_rfl
 |some c=>
  obtain⟨⟨j,v⟩,g⟩:=zXa hf;have hF:=zW4 g (by omega);have hw:=v.zg;simp only [zd1,zal];unfold yb.v0;rw [show∀l:List Int,ByteArray.mk (List.toArray (List.map (fun x=>UInt8.ofNat (Int.toNat x)) l))=B (qC l)from fun _ =>rfl,zDf c c (by omega) (by omega),zOU];simp only [Option.bind_some,Bool.not_true,zK];rw [show((0:Int) !=0)=false from rfl];simp only [zK];unfold yb.v2;rw [za5 (Nat.le_refl _) c hF,v.right.2,zYK (Nat.le_refl _) c hF,v.right.1];simp only [show((0:Int) !=0)=false from rfl,zK,zH,Option.bind_some,zCh]
theorem zT6(s:ByteArray):yb 40000 s=some true:=by
 rw [←wz s];exact zVF s.data.toList
end Go.Proofs.YtdoifigogbdodaaGreatDoor.Wo
