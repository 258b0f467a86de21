import Derived.Test.YtdoifigogbdodaaGreatDoorEvKnownOne
set_option linter.unusedVariables false
set_option linter.unusedSimpArgs false
set_option maxHeartbeats 1000000
namespace Go.Proofs.YtdoifigogbdodaaGreatDoor.Ev.Seat
open Go Ev Go.Proofs
def zBE:=yi (T:=T) [⟨[(1,.s),(2,.ptr 0 0),(4,.ptr 1 0),(5,.s),(6,.s),(7,.s),(8,.s),(9,.i .u64),(36,.i .i64)],uk,[]⟩] [⟨.normal,⟨[(2,.ptr 0 0),(4,.ptr 1 0)],[.cells 32 none [.i .i64,.i .i64,.own 2,.s,.i .u64,.b,.b,.s,.i .u64,.i .u64,.s],.cells 32 none zUe,.row 55 true],[]⟩⟩]
theorem zL0:zN zBE:=zQ _ _
theorem zMZ(κ:Nat)(m:Int):zP Tryz.prog C (G m) Tryz.f31.ntmps 0 (zG (.blk 0) (zC Tryz.f31)) (zBE.cut zkX (cur _ (zB.v0 κ))):=
 Piece.join zL0 zY mixed (wv κ m) zgu zhh (cut:=(zO6 κ)) (X:=zl3) (zI (l:=[(zG (.cnd 37 7) (zC Tryz.f31),bM κ),(zG (.cnd 37 8) (zC Tryz.f31),xq κ)]) (by kernel_rfl) (all_cons (zJ5 κ m) (all_cons (zGA κ m) (all_nil)))) (fun s=>by kernel_rfl)
def xP(κ:Nat):Cut T:=zBE.cut zkX (cur _ (zB.v0 κ))
theorem zGf(κ:Nat)(m:Int):zP Tryz.prog C (G m) Tryz.f31.ntmps 0 (zG (.blk 0) (zC Tryz.f31)) (xP κ):=zMZ κ m
def zPh(κ:Nat):Key→Option (Cut T):=zh zS (.blk 0) (xP κ)
def zCG:=vB (T:=T) [.agg zUe,.s] [] [⟨false,.agg zJt,[]⟩]
theorem zQE:zo zCG:=zw _ _ _
theorem zVH(κ:Nat)(m:Int):wM Tryz.prog C (G m) 31 (zCG.entry (cur _ (zB κ))):=
 Spec.ok zQE zY mixed (wv κ m) (cut:=(zPh κ)) (NR:=(zW 0 [0])) (NP:=(zW 0 [0])) (nB:=0) Tryz.func31 (c:=(zC Tryz.f31)) (by kernel_rfl) (by kernel_rfl) (fun i=>by kernel_rfl) zF zF (zI (l:=[(zG (.blk 0) (zC Tryz.f31),xP κ)]) (by kernel_rfl) (all_cons (zGf κ m) (all_nil))) (fun i=>by kernel_rfl)
noncomputable def zjd(κ:Nat):qK T:=(zjU κ).zj 31 zCG (cur _ (zB κ))
theorem zFN(κ:Nat)(m:Int):ql Tryz.prog C (G m) (zjd κ):=(wv κ m).zj (zVH κ m)
def zBe:=yi (T:=T) [⟨[(0,.s),(2,.ptr 0 0),(4,.i .i64),(5,.s),(6,.s),(7,.ptr 1 0),(24,.b)],uk,[]⟩] [⟨.normal,⟨[(0,.s),(2,.ptr 0 0),(4,.i .i64),(5,.s),(6,.s),(7,.ptr 1 0)],uk,[]⟩⟩]
theorem zQB:zN zBe:=zQ _ _
theorem zOT(κ:Nat)(m:Int):zP Tryz.prog C (G m) Tryz.f16.ntmps 0 (zG (.cnd 24 8) (zC Tryz.f16)) (zBe.cut (zW 0 [0,2,4,5,6,7,24]) (cur _ (yU.v5 κ))):=
 Piece.join zQB zY mixed (zFN κ m) zF zhf (cut:=zS) (X:=zl6) (zI (l:=[]) (by kernel_rfl) (all_nil)) (fun s=>by kernel_rfl)
def zBC(κ:Nat):Cut T:=zBe.cut (zW 0 [0,2,4,5,6,7,24]) (cur _ (yU.v5 κ))
theorem zN6(κ:Nat)(m:Int):zP Tryz.prog C (G m) Tryz.f16.ntmps 0 (zG (.cnd 24 8) (zC Tryz.f16)) (zBC κ):=zOT κ m
def zE6(κ:Nat):Key→Option (Cut T):=zh zS (.cnd 24 8) (zBC κ)
def zB1:=yi (T:=T) [⟨[(0,.s),(2,.ptr 0 0),(4,.i .i64),(5,.s),(7,.ptr 1 0)],zk1,[]⟩] [⟨.normal,⟨[(0,.s),(2,.ptr 0 0),(4,.i .i64),(7,.ptr 1 0),(57,.b)],zk1,[]⟩⟩]
theorem zPV:zN zB1:=zQ _ _
theorem zO2(κ:Nat)(m:Int):zP Tryz.prog C (G m) Tryz.f16.ntmps 0 (zG (.reg 13) (zC Tryz.f16)) (zB1.cut (zW 0 [0,2,4,5,7]) (cur _ (yU.v7 κ))):=
 Piece.join zPV zY mixed (zFN κ m) zF zhl (cut:=(zE6 κ)) (X:=zlo) (zI (l:=[]) (by kernel_rfl) (all_nil)) (fun s=>by kernel_rfl)
def zAu(κ:Nat):Cut T:=zB1.cut (zW 0 [0,2,4,5,7]) (cur _ (yU.v7 κ))
theorem zMe(κ:Nat)(m:Int):zP Tryz.prog C (G m) Tryz.f16.ntmps 0 (zG (.reg 13) (zC Tryz.f16)) (zAu κ):=zO2 κ m
def zTK(κ:Nat):Key→Option (Cut T):=zh (zE6 κ) (.reg 13) (zAu κ)
def zBy:=yi (T:=T) [⟨[(0,.s),(2,.ptr 0 0),(4,.i .i64)],[.cells 32 none zUe],[]⟩] [⟨.normal,⟨[(2,.ptr 0 0)],[.cells 32 none zUe],[]⟩⟩,⟨.ret,⟨[(2,.ptr 0 0),(3,.i .i64)],zEY,[]⟩⟩]
theorem zO9:zN zBy:=zQ _ _
theorem zOS(κ:Nat)(m:Int):zP Tryz.prog C (G m) Tryz.f16.ntmps 0 (zG (.blk 0) (zC Tryz.f16)) (zBy.cut (zW 0 [0,2,4]) (yU.l4 κ κ)):=
 Piece.loop zO9 zY mixed (zFN κ m) zF zaz (cut:=(zTK κ)) (X:=zkL) (id:=0) (body:=zf (zG (.blk 0) (zC Tryz.f16))) (zI (l:=[(zG (.cnd 24 8) (zC Tryz.f16),zBC κ),(zG (.reg 13) (zC Tryz.f16),zAu κ)]) (by kernel_rfl) (all_cons (zN6 κ m) (all_cons (zMe κ m) (all_nil)))) (f:=yU.l4 κ) (fun s=>by kernel_rfl) (fun k s=>by kernel_rfl) κ
def zA5(κ:Nat):Cut T:=zBy.cut (zW 0 [0,2,4]) (yU.l4 κ κ)
theorem zMI(κ:Nat)(m:Int):zP Tryz.prog C (G m) Tryz.f16.ntmps 0 (zG (.blk 0) (zC Tryz.f16)) (zA5 κ):=zOS κ m
def zTR(κ:Nat):Key→Option (Cut T):=zh zS (.blk 0) (zA5 κ)
def zDG:=vB (T:=T) [.s] [] [⟨false,.qu [.agg zJt,.i .i64],[]⟩]
theorem zRZ:zo zDG:=zw _ _ _
theorem zWA(κ:Nat)(m:Int):wM Tryz.prog C (G m) 16 (zDG.entry (fun a0=>yU κ a0)):=
 Spec.ok zRZ zY mixed (zFN κ m) (cut:=(zTR κ)) (NR:=(jO (slS 0 [0,2] 55) (zW 0 [0]))) (NP:=(zW 0 [0])) (nB:=0) Tryz.func16 (c:=(zC Tryz.f16)) (by kernel_rfl) (by kernel_rfl) (fun i=>by kernel_rfl) (y7 (zTo zY) zF) zF (zI (l:=[(zG (.blk 0) (zC Tryz.f16),zA5 κ)]) (by kernel_rfl) (all_cons (zMI κ m) (all_nil))) (fun i=>by kernel_rfl)
noncomputable def zi0(κ:Nat):qK T:=(zjd κ).zj 16 zDG (fun a0=>yU κ a0)
theorem zXM(κ:Nat)(m:Int):ql Tryz.prog C (G m) (zi0 κ):=(zFN κ m).zj (zWA κ m)
def zDE:=vB (T:=T) zhe [] [⟨false,.agg zJt,[]⟩]
theorem zRR:zo zDE:=zw _ _ _
theorem zWW(κ:Nat)(m:Int):wM Tryz.prog C (G m) 11 (zDE.entry (cur _ (zVp κ))):=
 Spec.ok zRR zY mixed (zXM κ m) (cut:=zS) (NR:=(zW 0 [0])) (NP:=(zW 0 [0])) (nB:=0) Tryz.func11 (c:=(zC Tryz.f11)) (by kernel_rfl) (by kernel_rfl) (fun i=>by kernel_rfl) zF zF (zI (l:=[]) (by kernel_rfl) (all_nil)) (fun i=>by kernel_rfl)
noncomputable def zhw(κ:Nat):qK T:=(zi0 κ).zj 11 zDE (cur _ (zVp κ))
theorem zLo(κ:Nat)(m:Int):ql Tryz.prog C (G m) (zhw κ):=(zXM κ m).zj (zWW κ m)
def kM:=yi (T:=T) [⟨[(0,.s),(4,.ptr 0 0),(5,.i .i64),(6,.ptr 1 0),(7,.i .i64)],[.cells 26 none wH,.cells 32 none zJt],[]⟩] [⟨.normal,⟨[(0,.s),(4,.ptr 0 0),(5,.i .i64),(33,.b)],qe,[]⟩⟩]
theorem zEU:zN kM:=zQ _ _
theorem zEV(κ:Nat)(m:Int):zP Tryz.prog C (G m) Tryz.f4.ntmps 0 (zG (.reg 8) (zC Tryz.f4)) (kM.cut (zW 0 [0,4,5,6,7]) (cur _ (yb.v0 κ))):=
 Piece.join zEU zY mixed (zLo κ m) zF zf4 (cut:=zS) (X:=zmc) (zI (l:=[]) (by kernel_rfl) (all_nil)) (fun s=>by kernel_rfl)
def jo(κ:Nat):Cut T:=kM.cut (zW 0 [0,4,5,6,7]) (cur _ (yb.v0 κ))
theorem zDK(κ:Nat)(m:Int):zP Tryz.prog C (G m) Tryz.f4.ntmps 0 (zG (.reg 8) (zC Tryz.f4)) (jo κ):=zEV κ m
def pV(κ:Nat):Key→Option (Cut T):=zh zS (.reg 8) (jo κ)
def kP:=yi (T:=T) [⟨[(0,.s),(4,.ptr 0 0),(5,.i .i64)],qe,[]⟩] [⟨.normal,⟨[(2,.b)],[],[]⟩⟩]
theorem zEX:zN kP:=zQ _ _
theorem zES(κ:Nat)(m:Int):zP Tryz.prog C (G m) Tryz.f4.ntmps 0 (zG (.reg 10) (zC Tryz.f4)) (kP.cut (zW 0 [0,4,5]) (cur _ (yb.v2 κ))):=
 Piece.join zEX zY mixed (zLo κ m) zF zKv (cut:=(pV κ)) (X:=xx0) (zI (l:=[]) (by kernel_rfl) (all_nil)) (fun s=>by kernel_rfl)
def jk(κ:Nat):Cut T:=kP.cut (zW 0 [0,4,5]) (cur _ (yb.v2 κ))
theorem zDa(κ:Nat)(m:Int):zP Tryz.prog C (G m) Tryz.f4.ntmps 0 (zG (.reg 10) (zC Tryz.f4)) (jk κ):=zES κ m
def zHZ(κ:Nat):Key→Option (Cut T):=zh (pV κ) (.reg 10) (jk κ)
def vu:=vB (T:=T) [.s] [] [⟨false,.b,[]⟩]
theorem zFe:zo vu:=zw _ _ _
theorem zBW(κ:Nat)(m:Int):wM Tryz.prog C (G m) 4 (vu.entry (fun a0=>yb κ a0)):=
 Spec.ok zFe zY mixed (zLo κ m) (cut:=(zHZ κ)) (NR:=(zW 0 [0])) (NP:=(zW 0 [0])) (nB:=0) Tryz.func4 (c:=(zC Tryz.f4)) (by kernel_rfl) (by kernel_rfl) (fun i=>by kernel_rfl) zF zF (zI (l:=[(zG (.reg 8) (zC Tryz.f4),jo κ),(zG (.reg 10) (zC Tryz.f4),jk κ)]) (by kernel_rfl) (all_cons (zDK κ m) (all_cons (zDa κ m) (all_nil)))) (fun i=>by kernel_rfl)
noncomputable def zle(κ:Nat):qK T:=(zhw κ).zj 4 vu (fun a0=>yb κ a0)
theorem znW(κ:Nat)(m:Int):ql Tryz.prog C (G m) (zle κ):=(zLo κ m).zj (zBW κ m)
end Go.Proofs.YtdoifigogbdodaaGreatDoor.Ev.Seat
