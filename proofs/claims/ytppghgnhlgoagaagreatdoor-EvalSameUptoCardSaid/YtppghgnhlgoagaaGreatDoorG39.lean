/- Parts. -/
import Derived.Test.YtppghgnhlgoagaaGreatDoorG37
set_option linter.all false
set_option maxRecDepth 100000
set_option maxHeartbeats 4000000
namespace Go.Proofs.YtppghgnhlgoagaaGreatDoor
open Go Go.RowKit
open Go.Lib renaming hid->zh
theorem wkArm_op3 (x:Nx) (bn off n c j pe:Nat) (tp:Addr) (text:Int) (h:Value) (w1 wr:World) (B:Nat) (tb:Tb) (ask0 t7 asked:Value) (na:Nat) (L:List Value) (Qn:Act->World->Prop) (Q0:Exit->Act->World->Prop) {s1 s3 s4 s5 s6 s8 s9 az bQ dA aC ag aA aJ aK aB aN aO aP ae iq iw jA dY dZ dh di dm dn dw eF eG eH eP eQ eU eX eY eu fA fB fC fD fE fF fG fH fJ ah fK fM fO fP fQ fU fV fZ gB gG gI gJ gK gQ gU gV gW gX gY gZ gm gp gq gu gy gz iC iD iE iG iH iJ iK iL iM iP iQ iR iT iU iW iY iZ ig ik bC bD bF bG bH bI bJ bK bM bP bT bU bV bZ bg bi bu cO cZ cu dB dC ai dD dE dF dG dH dI dJ dK dL dM dN dP dQ dR dS dU dV dW dX aS aQ aU aV aW aX aY aZ aF aG aH aI:Value} (pre:List (Arg×List En)) (a b:V)
  (hW:WX w1 wr B tb ask0 t7 (pre++[(vArg a,[]),(vArg b,[])]) asked na L) (hB1:B<=w1.heap.size) (hpl:(pre++[(vArg a,[]),(vArg b,[])]).length<=j) (hj:j<n) (hn:n<=1024) (hcell:∀ i u,x.cells[i]? =some u->wr.cell? ⟨bn,off+(j*15+i),none⟩=some u) (hE:AtB wr pe (zAc tp text h)) (hents:tb.ents.length<=1048576) (hna:na<=100000) (k4:x.kind=4) (hu: ¬ (x.op=1∨x.op=2)) (hv:SzV (twoG text x.op a b)) (htw:∀ w',AtB w' pe (zAc tp text h)->zBn tb.pt tb.tp ask0.ownBlock w1 w'->Rt 24 #[.pointer (some ⟨pe,0,none⟩),.int .i64 x.op,(vG a),(vG b)] w' (vG (twoG text x.op a b)))
  (hNx:NxW x ((pre++[(vArg a,[]),(vArg b,[])]).map zAH) bn off n c j pe w1 B tb text ask0 na L Qn s1 s3 s4 s5 s6 s8 aC ag aA aJ aK aB aN aO aP aF aG aH aI) :
  Code.wp Tryz.prog ((Tryz.f11.body.bind zAY).getD .skip) (Exit.then Qn (npQ Q0)) ⟨#[.pointer (some ⟨pe,0,none⟩),s1,.iface 31 (.pointer (some ⟨tb.pt,0,none⟩)),s3,s4,s5,s6,t7,s8,s9,az,bQ,dA,aC,ag,aA,aJ,aK,aB,aN,aO,aP,.slice (some ⟨bn,off,none⟩) n c,.int .i64 n,.int .i64 j,ae,iq,iw,jA,dY,dZ,dh,di,dm,dn,dw,eF,eG,eH,eP,eQ,eU,eX,eY,eu,fA,fB,fC,fD,fE,fF,fG,fH,fJ,ah,fK,fM,fO,fP,fQ,fU,fV,fZ,gB,gG,gI,gJ,gK,gQ,gU,gV,gW,gX,gY,gZ,gm,gp,gq,gu,gy,gz,iC,iD,iE,iG,iH,iJ,iK,iL,iM,iP,iQ,iR,iT,iU,iW,iY,iZ,ig,ik,bC,bD,bF,bG,bH,bI,bJ,bK,bM,bP,bT,bU,bV,bZ,bg,bi,bu,cO,cZ,cu,dB,dC,ai,dD,dE,dF,dG,dH,dI,dJ,dK,dL,dM,dN,dP,dQ,dR,dS,dU,dV,dW,dX,aS,aQ,aU,aV,aW,aX,aY,aZ,aF,aG,aH,aI],[]⟩ wr:=by
 obtain⟨i0,hi,hz0,hz1,hz2⟩:=info_parts info_GX
 have c0:=hcell 0 _ rfl
 have c1:=hcell 1 _ rfl
 have c2:=hcell 2 _ rfl
 have c3:=hcell 3 _ rfl
 have c4:=hcell 4 _ rfl
 have c5:=hcell 5 _ rfl
 have c6:=hcell 6 _ rfl
 have c7:=hcell 7 _ rfl
 have c8:=hcell 8 _ rfl
 have c9:=hcell 9 _ rfl
 have c10:=hcell 10 _ rfl
 have c11:=hcell 11 _ rfl
 have c12:=hcell 12 _ rfl
 have c13:=hcell 13 _ rfl
 have c14:=hcell 14 _ rfl
 simp only[<- Nat.add_assoc,Nat.add_zero] at c0 c1 c2 c3 c4 c5 c6 c7 c8 c9 c10 c11 c12 c13 c14
 have HW:=zh hW
 have HNX:=zh @hNx
 have HE:=zh hE
 have hsz:=hW.kept.2.2.2.1
 clear hcell hNx hW hE
 conv=>arg 2;whnf
 have hn1:(x.kind==1)=false:=by simp[k4]
 have hn2:(x.kind==2)=false:=by simp[k4]
 have hn3:(x.kind==3)=false:=by simp[k4]
 have kk4:(x.kind==4)=true:=by simp[k4]
 have u1:(x.op==1)=false:=by simp;omega
 have u2:(x.op==2)=false:=by simp;omega
 have hst:zBv tb text ((pre++[(vArg a,[]),(vArg b,[])]).map zAH) x=((pre++[(vArg (twoG text x.op a b),[])]).map zAH,[]):=by
  unfold zBv
  rw[if_neg (by omega),if_neg (by omega),if_neg (by omega),if_pos k4]
  have e1:(pre++[(vArg a,([]:List En)),(vArg b,[])]).map zAH=pre.map zAH++[.val a,.val b]:=by simp[zAH,vArg]
  rw[e1,zBY]
  exact congrArg (fun l=>(l,[])) (opG_two hu _ a b)
 have HST:=zh hst
 have HV:=zh hv
 have HTW:=zh htw
 obtain⟨m,hm⟩:∃ m,m=pre.length:=⟨_,rfl⟩
 have hl2:(pre++[(vArg a,([]:List En)),(vArg b,[])]).length=m+2:=by rw[hm];simp
 have hO:=HW.out.own
 rw[hl2] at hO hpl
 obtain⟨g,cc,rfl,hcap,hcm,hbg,hgl,hcl,hfz⟩:=zAf hO (by omega)
 have ha:((pre++[(vArg a,([]:List En)),(vArg b,[])]).map Prod.fst)[m]? =some (vArg a):=by rw[hm];simp
 have hb:((pre++[(vArg a,([]:List En)),(vArg b,[])]).map Prod.fst)[m+1]? =some (vArg b):=by rw[hm];simp
 have a1:=hcl _ _ (zA9 Arg.cells 11 Arg.cells_length _ m (vArg a) ha 1 _ rfl)
 have fa1:=hfz (m*11+1)
 have a2:=hcl _ _ (zA9 Arg.cells 11 Arg.cells_length _ m (vArg a) ha 2 _ rfl)
 have fa2:=hfz (m*11+2)
 have a3:=hcl _ _ (zA9 Arg.cells 11 Arg.cells_length _ m (vArg a) ha 3 _ rfl)
 have fa3:=hfz (m*11+3)
 have a4:=hcl _ _ (zA9 Arg.cells 11 Arg.cells_length _ m (vArg a) ha 4 _ rfl)
 have fa4:=hfz (m*11+4)
 have a5:=hcl _ _ (zA9 Arg.cells 11 Arg.cells_length _ m (vArg a) ha 5 _ rfl)
 have fa5:=hfz (m*11+5)
 have b1:=hcl _ _ (zA9 Arg.cells 11 Arg.cells_length _ (m+1) (vArg b) hb 1 _ rfl)
 have b2:=hcl _ _ (zA9 Arg.cells 11 Arg.cells_length _ (m+1) (vArg b) hb 2 _ rfl)
 have b3:=hcl _ _ (zA9 Arg.cells 11 Arg.cells_length _ (m+1) (vArg b) hb 3 _ rfl)
 have b4:=hcl _ _ (zA9 Arg.cells 11 Arg.cells_length _ (m+1) (vArg b) hb 4 _ rfl)
 have b5:=hcl _ _ (zA9 Arg.cells 11 Arg.cells_length _ (m+1) (vArg b) hb 5 _ rfl)
 have hw0:IntKind.i64.wrap (m:Int)=m:=by rw[IntKind.wrap_i64];omega
 have hw4:(0:Int)<=(m:Int):=by omega
 have hw1:IntKind.i64.wrap ((m:Int)+1)=(m:Int)+1:=by rw[IntKind.wrap_i64];omega
 have hw2:IntKind.i64.wrap ((m:Int)+2-2)=(m:Int):=by rw[IntKind.wrap_i64];omega
 have hw3:IntKind.i64.wrap ((m:Int)+2-1)=(m:Int)+1:=by rw[IntKind.wrap_i64];omega
 have hw5:(m:Int)<(m:Int)+2:=by omega
 have hw6:(m:Int)+1<(m:Int)+2:=by omega
 have hw7:(0:Int)<=(m:Int)+1:=by omega
 have hw8:((m:Int)+1).toNat=m+1:=by omega
 have HM:=zh hm
 have hk0:zBn tb.pt tb.tp ask0.ownBlock w1 wr:=HW.out.kept
 have HK0:=zh hk0
 clear hst hu k4 hv hcl hfz ha hb hO hm hl2 htw hk0
 go_upto_region 24 with fail
 go_cut [143] from 25 to 149 (fun aQ wx=>Below wr.heap.size (setV wr g (m*11+1) (twoG text x.op a b)) wx)
 case first =>
  go_region_law ((go_simp;go_at_call 24;refine mB (HTW.out _ (HE.out.below bel) (HK0.out.below bel)) ?_;intro l5 m5))
  all_goals(go_wp2_with fail;go_meet;unfold setV;exact bel)
 case rest =>
  obtain rfl:=HM.out
  have HR3:=zh (WX.op2 HW.out hB1 HV.out hcut)
  clear hcut
  go_wp2
  exact HNX.out (pre++[(vArg (twoG text x.op a b),[])]) asked na L _ (by rw[HST.out]) (by rw[HST.out];simp[zBi]) (by omega) HR3.out
end Go.Proofs.YtppghgnhlgoagaaGreatDoor
