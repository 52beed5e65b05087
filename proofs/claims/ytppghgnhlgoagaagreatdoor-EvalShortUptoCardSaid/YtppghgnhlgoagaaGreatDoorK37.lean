/-
  Parts of a proof.
-/
import Derived.Test.YtppghgnhlgoagaaGreatDoorK13
set_option linter.all false
set_option maxRecDepth 100000
set_option maxHeartbeats 4000000
namespace Go.Proofs.YtppghgnhlgoagaaGreatDoor
open Go Go.RowKit
open Go.Lib renaming hid->zh
def zAX:Code->Option Code
 | .loop c=>some c
 | .seq a b=>match zAX a with
   | some c=>some c
   | none=>zAX b
 | .block _ c=>zAX c
 | .scope c=>zAX c
 | .cond _ a b=>match zAX a with
   | some c=>some c
   | none=>zAX b
 | _=>none
theorem depArm_may (x:Nx) (ps:List P3) (bn off n c j:Nat) (wB wr:World) (t4:Value) (Qn:Act->World->Prop) (Q0:Exit->Act->World->Prop) (s0 s1 s2 s3 s5 s6 s7 s8 s9 iZ jG jS aC ah aA aJ aK aB aN aO aP nI nJ nK ae jr jv jw jy kC kD kE kF kG kH kJ kK kL kM kN kP kQ kR kS kT kU kV kW kX kY ax kZ ku kw kz lC lD lF lG lH lI lJ lK lL lM lN lQ lS lU lV lW lX lY lZ lh lm mD mF mG mJ mM mO mP mQ mV mW mX mY mZ mf mg mi mr nC nD nG ig ik iq iw jA jB jC jD jE jF jH jI jJ jK jL jM jO jP jQ jR jT jU iY jV jW jX jY jZ ja jb jc jd je jf jg jh ji jk jl jm jo jq aS aQ aU aV aW aX aY aZ aF aG aH aI nH:Value)
  (hS:zAG wB wr 141 3 t4 ps.length (flatC P3.cells ps)) (hP:Pbd j ps) (hpl:ps.length<=j) (hj:j<n) (hn:n<=1024) (hcell:∀ i u,x.cells[i]? =some u->wr.cell? ⟨bn,off+(j*15+i),none⟩=some u)
  (hMY:∀ w,Calls Tryz.prog 50 #[x.val] w fun e w'=>e=.returned (.bool (ndMay x))/\Below w.heap.size w w') (hmay:ndMay x=false)
  (hNx:∀ (v4 v6 v7 v8 v9 dJ dU dw nM fJ fK bV bZ fM bg bi bK ai fO bu fP cO fQ fU bM fV ag cZ cu fZ dA ay dB aj gB dC gG dD gI bP dE gJ gK dF au dG dH dI gQ gU az gV bC gW gX bQ bT gY gZ gm gp gq gu gy gz iC iD iE iG iH iJ iK iL iM iP iQ iR iT iU iW dK dL dM dN dP bF dQ dR dS bU dV dW dX dY dZ dh di bG dm dn eF eG eH eP bH eQ eU bD eX eY ed eu fA fB fC fD fE fF bI bJ fG fH:Value) (ps':List P3) (w':World),dstep ps x=some ps'->zAG wB w' 141 3 v4 ps'.length (flatC P3.cells ps')->Qn ⟨#[s0,s1,s2,s3,v4,s5,v6,v7,v8,v9,dJ,dU,dw,aC,nM,aA,aJ,aK,aB,aN,aO,aP,nI,nJ,nK,ae,.slice (some ⟨bn,off,none⟩) n c,.int .i64 n,.int .i64 (j+1:Nat),fJ,fK,bV,bZ,fM,bg,bi,bK,ai,fO,bu,fP,cO,fQ,fU,bM,fV,ag,cZ,cu,fZ,dA,ay,dB,aj,gB,dC,gG,dD,gI,bP,dE,gJ,gK,dF,au,dG,dH,dI,gQ,gU,az,gV,bC,gW,gX,bQ,bT,gY,gZ,gm,gp,gq,gu,gy,gz,iC,iD,iE,iG,iH,iJ,iK,iL,iM,iP,iQ,iR,iT,iU,iW,dK,dL,dM,dN,dP,bF,dQ,dR,dS,bU,dV,dW,dX,dY,dZ,dh,di,bG,dm,dn,eF,eG,eH,eP,bH,eQ,eU,bD,eX,eY,ed,eu,fA,fB,fC,fD,fE,fF,bI,bJ,fG,fH,aS,aQ,aU,aV,aW,aX,aY,aZ,aF,aG,aH,aI,nH],[]⟩ w')
  (hRt:dstep ps x=none->∀ (v4 v6 v7 v8 v9 dJ dU dw nM fJ fK bV bZ fM bg bi bK ai fO bu fP cO fQ fU bM fV ag cZ cu fZ dA ay dB aj gB dC gG dD gI bP dE gJ gK dF au dG dH dI gQ gU az gV bC gW gX bQ bT gY gZ gm gp gq gu gy gz iC iD iE iG iH iJ iK iL iM iP iQ iR iT iU iW dK dL dM dN dP bF dQ dR dS bU dV dW dX dY dZ dh di bG dm dn eF eG eH eP bH eQ eU bD eX eY ed eu fA fB fC fD fE fF bI bJ fG fH:Value) (w':World),Below wr.heap.size wr w'->Q0 .ret ⟨#[s0,s1,.int .i64 0,.bool false,v4,s5,v6,v7,v8,v9,dJ,dU,dw,aC,nM,aA,aJ,aK,aB,aN,aO,aP,nI,nJ,nK,ae,.slice (some ⟨bn,off,none⟩) n c,.int .i64 n,.int .i64 j,fJ,fK,bV,bZ,fM,bg,bi,bK,ai,fO,bu,fP,cO,fQ,fU,bM,fV,ag,cZ,cu,fZ,dA,ay,dB,aj,gB,dC,gG,dD,gI,bP,dE,gJ,gK,dF,au,dG,dH,dI,gQ,gU,az,gV,bC,gW,gX,bQ,bT,gY,gZ,gm,gp,gq,gu,gy,gz,iC,iD,iE,iG,iH,iJ,iK,iL,iM,iP,iQ,iR,iT,iU,iW,dK,dL,dM,dN,dP,bF,dQ,dR,dS,bU,dV,dW,dX,dY,dZ,dh,di,bG,dm,dn,eF,eG,eH,eP,bH,eQ,eU,bD,eX,eY,ed,eu,fA,fB,fC,fD,fE,fF,bI,bJ,fG,fH,aS,aQ,aU,aV,aW,aX,aY,aZ,aF,aG,aH,aI,nH],[]⟩ w') :
  Code.wp Tryz.prog ((Tryz.f33.body.bind zAX).getD .skip) (Exit.then Qn Q0) ⟨#[s0,s1,s2,s3,t4,s5,s6,s7,s8,s9,iZ,jG,jS,aC,ah,aA,aJ,aK,aB,aN,aO,aP,nI,nJ,nK,ae,.slice (some ⟨bn,off,none⟩) n c,.int .i64 n,.int .i64 j,jr,jv,jw,jy,kC,kD,kE,kF,kG,kH,kJ,kK,kL,kM,kN,kP,kQ,kR,kS,kT,kU,kV,kW,kX,kY,ax,kZ,ku,kw,kz,lC,lD,lF,lG,lH,lI,lJ,lK,lL,lM,lN,lQ,lS,lU,lV,lW,lX,lY,lZ,lh,lm,mD,mF,mG,mJ,mM,mO,mP,mQ,mV,mW,mX,mY,mZ,mf,mg,mi,mr,nC,nD,nG,ig,ik,iq,iw,jA,jB,jC,jD,jE,jF,jH,jI,jJ,jK,jL,jM,jO,jP,jQ,jR,jT,jU,iY,jV,jW,jX,jY,jZ,ja,jb,jc,jd,je,jf,jg,jh,ji,jk,jl,jm,jo,jq,aS,aQ,aU,aV,aW,aX,aY,aZ,aF,aG,aH,aI,nH],[]⟩ wr:=by
 obtain⟨i0,hi,hz0,hz1,hz2⟩:=info_parts info_P3
 have c0:=hcell 0 _ rfl
 have c1:=hcell 1 _ rfl
 have c2:=hcell 2 _ rfl
 have c3:=hcell 3 _ rfl
 have c4:=hcell 4 _ rfl
 have c5:=hcell 5 _ rfl
 have c6:=hcell 6 _ rfl
 have c7:=hcell 7 _ rfl
 have c8:=hcell 8 _ rfl
 have c9:=hcell 9 _ rfl
 have c10:=hcell 10 _ rfl
 have c11:=hcell 11 _ rfl
 have c12:=hcell 12 _ rfl
 have c13:=hcell 13 _ rfl
 have c14:=hcell 14 _ rfl
 simp only[<- Nat.add_assoc,Nat.add_zero] at c0 c1 c2 c3 c4 c5 c6 c7 c8 c9 c10 c11 c12 c13 c14
 have HS:=zh hS
 have HP:=zh hP
 have HNX:=zh hNx
 have HRT:=zh hRt
 have HMY:=zh hMY
 have hsz:=hS.1.size
 clear hcell hNx hRt hMY hS hP
 conv=>arg 2;whnf
 have H0:=zh (dstep_no (l:=ps) hmay)
 rw[hmay] at HMY
 clear hmay
 go_wp2_with(go_at_call 50;refine mB (HMY.out _) ?_;intro l m0)
 exact HRT.out H0.out _ _ _ _ _ _ _ _ _ _ _ _ _ _ _ _ _ _ _ _ _ _ _ _ _ _ _ _ _ _ _ _ _ _ _ _ _ _ _ _ _ _ _ _ _ _ _ _ _ _ _ _ _ _ _ _ _ _ _ _ _ _ _ _ _ _ _ _ _ _ _ _ _ _ _ _ _ _ _ _ _ _ _ _ _ _ _ _ _ _ _ _ _ _ _ _ _ _ _ _ _ _ _ _ _ _ _ _ _ _ _ _ _ _ _ _ _ _ _ _ _ _ _ bel
theorem depArm_rect (x:Nx) (ps:List P3) (bn off n c j:Nat) (wB wr:World) (t4:Value) (Qn:Act->World->Prop) (Q0:Exit->Act->World->Prop) (s0 s1 s2 s3 s5 s6 s7 s8 s9 iZ jG jS aC ah aA aJ aK aB aN aO aP nI nJ nK ae jr jv jw jy kC kD kE kF kG kH kJ kK kL kM kN kP kQ kR kS kT kU kV kW kX kY ax kZ ku kw kz lC lD lF lG lH lI lJ lK lL lM lN lQ lS lU lV lW lX lY lZ lh lm mD mF mG mJ mM mO mP mQ mV mW mX mY mZ mf mg mi mr nC nD nG ig ik iq iw jA jB jC jD jE jF jH jI jJ jK jL jM jO jP jQ jR jT jU iY jV jW jX jY jZ ja jb jc jd je jf jg jh ji jk jl jm jo jq aS aQ aU aV aW aX aY aZ aF aG aH aI nH:Value)
  (hS:zAG wB wr 141 3 t4 ps.length (flatC P3.cells ps)) (hP:Pbd j ps) (hpl:ps.length<=j) (hj:j<n) (hn:n<=1024) (hcell:∀ i u,x.cells[i]? =some u->wr.cell? ⟨bn,off+(j*15+i),none⟩=some u)
  (hMY:∀ w,Calls Tryz.prog 50 #[x.val] w fun e w'=>e=.returned (.bool (ndMay x))/\Below w.heap.size w w') (hmay:ndMay x=true) (k3:x.kind=3)
  (hNx:∀ (v4 v6 v7 v8 v9 dJ dU dw nM fJ fK bV bZ fM bg bi bK ai fO bu fP cO fQ fU bM fV ag cZ cu fZ dA ay dB aj gB dC gG dD gI bP dE gJ gK dF au dG dH dI gQ gU az gV bC gW gX bQ bT gY gZ gm gp gq gu gy gz iC iD iE iG iH iJ iK iL iM iP iQ iR iT iU iW dK dL dM dN dP bF dQ dR dS bU dV dW dX dY dZ dh di bG dm dn eF eG eH eP bH eQ eU bD eX eY ed eu fA fB fC fD fE fF bI bJ fG fH:Value) (ps':List P3) (w':World),dstep ps x=some ps'->zAG wB w' 141 3 v4 ps'.length (flatC P3.cells ps')->Qn ⟨#[s0,s1,s2,s3,v4,s5,v6,v7,v8,v9,dJ,dU,dw,aC,nM,aA,aJ,aK,aB,aN,aO,aP,nI,nJ,nK,ae,.slice (some ⟨bn,off,none⟩) n c,.int .i64 n,.int .i64 (j+1:Nat),fJ,fK,bV,bZ,fM,bg,bi,bK,ai,fO,bu,fP,cO,fQ,fU,bM,fV,ag,cZ,cu,fZ,dA,ay,dB,aj,gB,dC,gG,dD,gI,bP,dE,gJ,gK,dF,au,dG,dH,dI,gQ,gU,az,gV,bC,gW,gX,bQ,bT,gY,gZ,gm,gp,gq,gu,gy,gz,iC,iD,iE,iG,iH,iJ,iK,iL,iM,iP,iQ,iR,iT,iU,iW,dK,dL,dM,dN,dP,bF,dQ,dR,dS,bU,dV,dW,dX,dY,dZ,dh,di,bG,dm,dn,eF,eG,eH,eP,bH,eQ,eU,bD,eX,eY,ed,eu,fA,fB,fC,fD,fE,fF,bI,bJ,fG,fH,aS,aQ,aU,aV,aW,aX,aY,aZ,aF,aG,aH,aI,nH],[]⟩ w')
  (hRt:dstep ps x=none->∀ (v4 v6 v7 v8 v9 dJ dU dw nM fJ fK bV bZ fM bg bi bK ai fO bu fP cO fQ fU bM fV ag cZ cu fZ dA ay dB aj gB dC gG dD gI bP dE gJ gK dF au dG dH dI gQ gU az gV bC gW gX bQ bT gY gZ gm gp gq gu gy gz iC iD iE iG iH iJ iK iL iM iP iQ iR iT iU iW dK dL dM dN dP bF dQ dR dS bU dV dW dX dY dZ dh di bG dm dn eF eG eH eP bH eQ eU bD eX eY ed eu fA fB fC fD fE fF bI bJ fG fH:Value) (w':World),Below wr.heap.size wr w'->Q0 .ret ⟨#[s0,s1,.int .i64 0,.bool false,v4,s5,v6,v7,v8,v9,dJ,dU,dw,aC,nM,aA,aJ,aK,aB,aN,aO,aP,nI,nJ,nK,ae,.slice (some ⟨bn,off,none⟩) n c,.int .i64 n,.int .i64 j,fJ,fK,bV,bZ,fM,bg,bi,bK,ai,fO,bu,fP,cO,fQ,fU,bM,fV,ag,cZ,cu,fZ,dA,ay,dB,aj,gB,dC,gG,dD,gI,bP,dE,gJ,gK,dF,au,dG,dH,dI,gQ,gU,az,gV,bC,gW,gX,bQ,bT,gY,gZ,gm,gp,gq,gu,gy,gz,iC,iD,iE,iG,iH,iJ,iK,iL,iM,iP,iQ,iR,iT,iU,iW,dK,dL,dM,dN,dP,bF,dQ,dR,dS,bU,dV,dW,dX,dY,dZ,dh,di,bG,dm,dn,eF,eG,eH,eP,bH,eQ,eU,bD,eX,eY,ed,eu,fA,fB,fC,fD,fE,fF,bI,bJ,fG,fH,aS,aQ,aU,aV,aW,aX,aY,aZ,aF,aG,aH,aI,nH],[]⟩ w') :
  Code.wp Tryz.prog ((Tryz.f33.body.bind zAX).getD .skip) (Exit.then Qn Q0) ⟨#[s0,s1,s2,s3,t4,s5,s6,s7,s8,s9,iZ,jG,jS,aC,ah,aA,aJ,aK,aB,aN,aO,aP,nI,nJ,nK,ae,.slice (some ⟨bn,off,none⟩) n c,.int .i64 n,.int .i64 j,jr,jv,jw,jy,kC,kD,kE,kF,kG,kH,kJ,kK,kL,kM,kN,kP,kQ,kR,kS,kT,kU,kV,kW,kX,kY,ax,kZ,ku,kw,kz,lC,lD,lF,lG,lH,lI,lJ,lK,lL,lM,lN,lQ,lS,lU,lV,lW,lX,lY,lZ,lh,lm,mD,mF,mG,mJ,mM,mO,mP,mQ,mV,mW,mX,mY,mZ,mf,mg,mi,mr,nC,nD,nG,ig,ik,iq,iw,jA,jB,jC,jD,jE,jF,jH,jI,jJ,jK,jL,jM,jO,jP,jQ,jR,jT,jU,iY,jV,jW,jX,jY,jZ,ja,jb,jc,jd,je,jf,jg,jh,ji,jk,jl,jm,jo,jq,aS,aQ,aU,aV,aW,aX,aY,aZ,aF,aG,aH,aI,nH],[]⟩ wr:=by
 obtain⟨i0,hi,hz0,hz1,hz2⟩:=info_parts info_P3
 have c0:=hcell 0 _ rfl
 have c1:=hcell 1 _ rfl
 have c2:=hcell 2 _ rfl
 have c3:=hcell 3 _ rfl
 have c4:=hcell 4 _ rfl
 have c5:=hcell 5 _ rfl
 have c6:=hcell 6 _ rfl
 have c7:=hcell 7 _ rfl
 have c8:=hcell 8 _ rfl
 have c9:=hcell 9 _ rfl
 have c10:=hcell 10 _ rfl
 have c11:=hcell 11 _ rfl
 have c12:=hcell 12 _ rfl
 have c13:=hcell 13 _ rfl
 have c14:=hcell 14 _ rfl
 simp only[<- Nat.add_assoc,Nat.add_zero] at c0 c1 c2 c3 c4 c5 c6 c7 c8 c9 c10 c11 c12 c13 c14
 have HS:=zh hS
 have HP:=zh hP
 have HNX:=zh hNx
 have HRT:=zh hRt
 have HMY:=zh hMY
 have hsz:=hS.1.size
 clear hcell hNx hRt hMY hS hP
 conv=>arg 2;whnf
 rw[hmay] at HMY
 have kk3:(x.kind==3)=true:=by simp[k3]
 have HST:=zh (show dstep ps x=some (ps++[⟨0,7,true⟩]) from dstep_rect hmay k3)
 clear hmay k3
 go_wp2_with(first|(go_at_call 50;refine mB (HMY.out _) ?_;intro l m0)|(at_builtin;refine wpList_append_own _ rfl _ _ 139 rfl wB.heap.size 141 i0 _ 3 24 Tryz.underlying139 hi hz0 hz1 hz2 rfl (by decide) _ _ _ rfl (zAD HS.out.2 bel) _ 1 1 (P3.cells (⟨0,7,true⟩)) rfl rfl ?_ ?_ ?_ ?_ ?_ ?_))
 all_goals first
  | exact P3.cells_one _
  | (simp only[maxLen];omega)
  | omega
  | (have h1:=HS.out.1.size;simp at h1 ⊢;omega)
  | (exact fun i u hu=>zAO (by simp) i u hu)
  | skip
 all_goals
  intro v' w1 hown' hgrow _
  have R1:=zAG.step HS.out bel (show w1.ownsRow wB.heap.size 141 3 v' (ps.length+1) (flatC P3.cells (ps)++P3.cells (⟨0,7,true⟩)) from by simpa using hown') hgrow
  have HR':=zh R1
  clear hown' hgrow R1 c0 c1 c2 c3 c4 c5 c6 c7 c8 c9 c10 c11 c12 c13 c14 HS
  go_wp2
  exact HNX.out _ _ _ _ _ _ _ _ _ _ _ _ _ _ _ _ _ _ _ _ _ _ _ _ _ _ _ _ _ _ _ _ _ _ _ _ _ _ _ _ _ _ _ _ _ _ _ _ _ _ _ _ _ _ _ _ _ _ _ _ _ _ _ _ _ _ _ _ _ _ _ _ _ _ _ _ _ _ _ _ _ _ _ _ _ _ _ _ _ _ _ _ _ _ _ _ _ _ _ _ _ _ _ _ _ _ _ _ _ _ _ _ _ _ _ _ _ _ _ _ _ _ (ps++[⟨0,7,true⟩]) _ HST.out (by rw[zAJ,List.length_append];simpa [flatC] using HR'.out)
theorem depArm_push (x:Nx) (ps:List P3) (bn off n c j:Nat) (wB wr:World) (t4:Value) (Qn:Act->World->Prop) (Q0:Exit->Act->World->Prop) (s0 s1 s2 s3 s5 s6 s7 s8 s9 iZ jG jS aC ah aA aJ aK aB aN aO aP nI nJ nK ae jr jv jw jy kC kD kE kF kG kH kJ kK kL kM kN kP kQ kR kS kT kU kV kW kX kY ax kZ ku kw kz lC lD lF lG lH lI lJ lK lL lM lN lQ lS lU lV lW lX lY lZ lh lm mD mF mG mJ mM mO mP mQ mV mW mX mY mZ mf mg mi mr nC nD nG ig ik iq iw jA jB jC jD jE jF jH jI jJ jK jL jM jO jP jQ jR jT jU iY jV jW jX jY jZ ja jb jc jd je jf jg jh ji jk jl jm jo jq aS aQ aU aV aW aX aY aZ aF aG aH aI nH:Value)
  (hS:zAG wB wr 141 3 t4 ps.length (flatC P3.cells ps)) (hP:Pbd j ps) (hpl:ps.length<=j) (hj:j<n) (hn:n<=1024) (hcell:∀ i u,x.cells[i]? =some u->wr.cell? ⟨bn,off+(j*15+i),none⟩=some u)
  (hMY:∀ w,Calls Tryz.prog 50 #[x.val] w fun e w'=>e=.returned (.bool (ndMay x))/\Below w.heap.size w w') (hmay:ndMay x=true) (k3:x.kind≠3) (k4:x.kind≠4) (k5:x.kind≠5)
  (hNx:∀ (v4 v6 v7 v8 v9 dJ dU dw nM fJ fK bV bZ fM bg bi bK ai fO bu fP cO fQ fU bM fV ag cZ cu fZ dA ay dB aj gB dC gG dD gI bP dE gJ gK dF au dG dH dI gQ gU az gV bC gW gX bQ bT gY gZ gm gp gq gu gy gz iC iD iE iG iH iJ iK iL iM iP iQ iR iT iU iW dK dL dM dN dP bF dQ dR dS bU dV dW dX dY dZ dh di bG dm dn eF eG eH eP bH eQ eU bD eX eY ed eu fA fB fC fD fE fF bI bJ fG fH:Value) (ps':List P3) (w':World),dstep ps x=some ps'->zAG wB w' 141 3 v4 ps'.length (flatC P3.cells ps')->Qn ⟨#[s0,s1,s2,s3,v4,s5,v6,v7,v8,v9,dJ,dU,dw,aC,nM,aA,aJ,aK,aB,aN,aO,aP,nI,nJ,nK,ae,.slice (some ⟨bn,off,none⟩) n c,.int .i64 n,.int .i64 (j+1:Nat),fJ,fK,bV,bZ,fM,bg,bi,bK,ai,fO,bu,fP,cO,fQ,fU,bM,fV,ag,cZ,cu,fZ,dA,ay,dB,aj,gB,dC,gG,dD,gI,bP,dE,gJ,gK,dF,au,dG,dH,dI,gQ,gU,az,gV,bC,gW,gX,bQ,bT,gY,gZ,gm,gp,gq,gu,gy,gz,iC,iD,iE,iG,iH,iJ,iK,iL,iM,iP,iQ,iR,iT,iU,iW,dK,dL,dM,dN,dP,bF,dQ,dR,dS,bU,dV,dW,dX,dY,dZ,dh,di,bG,dm,dn,eF,eG,eH,eP,bH,eQ,eU,bD,eX,eY,ed,eu,fA,fB,fC,fD,fE,fF,bI,bJ,fG,fH,aS,aQ,aU,aV,aW,aX,aY,aZ,aF,aG,aH,aI,nH],[]⟩ w')
  (hRt:dstep ps x=none->∀ (v4 v6 v7 v8 v9 dJ dU dw nM fJ fK bV bZ fM bg bi bK ai fO bu fP cO fQ fU bM fV ag cZ cu fZ dA ay dB aj gB dC gG dD gI bP dE gJ gK dF au dG dH dI gQ gU az gV bC gW gX bQ bT gY gZ gm gp gq gu gy gz iC iD iE iG iH iJ iK iL iM iP iQ iR iT iU iW dK dL dM dN dP bF dQ dR dS bU dV dW dX dY dZ dh di bG dm dn eF eG eH eP bH eQ eU bD eX eY ed eu fA fB fC fD fE fF bI bJ fG fH:Value) (w':World),Below wr.heap.size wr w'->Q0 .ret ⟨#[s0,s1,.int .i64 0,.bool false,v4,s5,v6,v7,v8,v9,dJ,dU,dw,aC,nM,aA,aJ,aK,aB,aN,aO,aP,nI,nJ,nK,ae,.slice (some ⟨bn,off,none⟩) n c,.int .i64 n,.int .i64 j,fJ,fK,bV,bZ,fM,bg,bi,bK,ai,fO,bu,fP,cO,fQ,fU,bM,fV,ag,cZ,cu,fZ,dA,ay,dB,aj,gB,dC,gG,dD,gI,bP,dE,gJ,gK,dF,au,dG,dH,dI,gQ,gU,az,gV,bC,gW,gX,bQ,bT,gY,gZ,gm,gp,gq,gu,gy,gz,iC,iD,iE,iG,iH,iJ,iK,iL,iM,iP,iQ,iR,iT,iU,iW,dK,dL,dM,dN,dP,bF,dQ,dR,dS,bU,dV,dW,dX,dY,dZ,dh,di,bG,dm,dn,eF,eG,eH,eP,bH,eQ,eU,bD,eX,eY,ed,eu,fA,fB,fC,fD,fE,fF,bI,bJ,fG,fH,aS,aQ,aU,aV,aW,aX,aY,aZ,aF,aG,aH,aI,nH],[]⟩ w') :
  Code.wp Tryz.prog ((Tryz.f33.body.bind zAX).getD .skip) (Exit.then Qn Q0) ⟨#[s0,s1,s2,s3,t4,s5,s6,s7,s8,s9,iZ,jG,jS,aC,ah,aA,aJ,aK,aB,aN,aO,aP,nI,nJ,nK,ae,.slice (some ⟨bn,off,none⟩) n c,.int .i64 n,.int .i64 j,jr,jv,jw,jy,kC,kD,kE,kF,kG,kH,kJ,kK,kL,kM,kN,kP,kQ,kR,kS,kT,kU,kV,kW,kX,kY,ax,kZ,ku,kw,kz,lC,lD,lF,lG,lH,lI,lJ,lK,lL,lM,lN,lQ,lS,lU,lV,lW,lX,lY,lZ,lh,lm,mD,mF,mG,mJ,mM,mO,mP,mQ,mV,mW,mX,mY,mZ,mf,mg,mi,mr,nC,nD,nG,ig,ik,iq,iw,jA,jB,jC,jD,jE,jF,jH,jI,jJ,jK,jL,jM,jO,jP,jQ,jR,jT,jU,iY,jV,jW,jX,jY,jZ,ja,jb,jc,jd,je,jf,jg,jh,ji,jk,jl,jm,jo,jq,aS,aQ,aU,aV,aW,aX,aY,aZ,aF,aG,aH,aI,nH],[]⟩ wr:=by
 obtain⟨i0,hi,hz0,hz1,hz2⟩:=info_parts info_P3
 have c0:=hcell 0 _ rfl
 have c1:=hcell 1 _ rfl
 have c2:=hcell 2 _ rfl
 have c3:=hcell 3 _ rfl
 have c4:=hcell 4 _ rfl
 have c5:=hcell 5 _ rfl
 have c6:=hcell 6 _ rfl
 have c7:=hcell 7 _ rfl
 have c8:=hcell 8 _ rfl
 have c9:=hcell 9 _ rfl
 have c10:=hcell 10 _ rfl
 have c11:=hcell 11 _ rfl
 have c12:=hcell 12 _ rfl
 have c13:=hcell 13 _ rfl
 have c14:=hcell 14 _ rfl
 simp only[<- Nat.add_assoc,Nat.add_zero] at c0 c1 c2 c3 c4 c5 c6 c7 c8 c9 c10 c11 c12 c13 c14
 have HS:=zh hS
 have HP:=zh hP
 have HNX:=zh hNx
 have HRT:=zh hRt
 have HMY:=zh hMY
 have hsz:=hS.1.size
 clear hcell hNx hRt hMY hS hP
 conv=>arg 2;whnf
 rw[hmay] at HMY
 have kk3:(x.kind==3)=false:=by simp[k3]
 have kk4:(x.kind==4)=false:=by simp[k4]
 have kk5:(x.kind==5)=false:=by simp[k5]
 have HST:=zh (show dstep ps x=some (ps++[⟨0,7,false⟩]) from dstep_push hmay k3 k4 k5)
 clear hmay k3 k4 k5
 go_wp2_with(first|(go_at_call 50;refine mB (HMY.out _) ?_;intro l m0)|(at_builtin;refine wpList_append_own _ rfl _ _ 139 rfl wB.heap.size 141 i0 _ 3 24 Tryz.underlying139 hi hz0 hz1 hz2 rfl (by decide) _ _ _ rfl (zAD HS.out.2 bel) _ 1 1 (P3.cells (⟨0,7,false⟩)) rfl rfl ?_ ?_ ?_ ?_ ?_ ?_))
 all_goals first
  | exact P3.cells_one _
  | (simp only[maxLen];omega)
  | omega
  | (have h1:=HS.out.1.size;simp at h1 ⊢;omega)
  | (exact fun i u hu=>zAO (by simp) i u hu)
  | skip
 all_goals
  intro v' w1 hown' hgrow _
  have R1:=zAG.step HS.out bel (show w1.ownsRow wB.heap.size 141 3 v' (ps.length+1) (flatC P3.cells (ps)++P3.cells (⟨0,7,false⟩)) from by simpa using hown') hgrow
  have HR':=zh R1
  clear hown' hgrow R1 c0 c1 c2 c3 c4 c5 c6 c7 c8 c9 c10 c11 c12 c13 c14 HS
  go_wp2
  exact HNX.out _ _ _ _ _ _ _ _ _ _ _ _ _ _ _ _ _ _ _ _ _ _ _ _ _ _ _ _ _ _ _ _ _ _ _ _ _ _ _ _ _ _ _ _ _ _ _ _ _ _ _ _ _ _ _ _ _ _ _ _ _ _ _ _ _ _ _ _ _ _ _ _ _ _ _ _ _ _ _ _ _ _ _ _ _ _ _ _ _ _ _ _ _ _ _ _ _ _ _ _ _ _ _ _ _ _ _ _ _ _ _ _ _ _ _ _ _ _ _ _ _ _ (ps++[⟨0,7,false⟩]) _ HST.out (by rw[zAJ,List.length_append];simpa [flatC] using HR'.out)
end Go.Proofs.YtppghgnhlgoagaaGreatDoor
