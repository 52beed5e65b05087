/- Parts. -/
import Derived.Test.YtppghgnhlgoagaaGreatDoorG13
set_option linter.all false
set_option maxRecDepth 100000
set_option maxHeartbeats 4000000
namespace Go.Proofs.YtppghgnhlgoagaaGreatDoor
open Go Go.RowKit
open Go.Lib renaming hid->zh
def zAY:Code->Option Code
 | .loop c=>some c
 | .seq a b=>match zAY a with
   | some c=>some c
   | none=>zAY b
 | .block _ c=>zAY c
 | .scope c=>zAY c
 | .cond _ a b=>match zAY a with
   | some c=>some c
   | none=>zAY b
 | _=>none
section
variable {s0 s1 s2 s3 s5 s6 s7 s8 s9 az bQ dA aC ag aA aJ aK aB aN aO aP au ax ay ae dY dZ dh di dm dn dw eF eG eH eP eQ eU eX eY eu fA fB fC fD fE fF fG fH fJ ah fK fM fO fP fQ fU fV fZ gB gG gI gJ gK gQ gU gV gW gX gY gZ gm gp gq gu gy gz iC iD iE iG iH iJ iK iL iM iP iQ iR iT iU iW iY iZ ig ik bC bD bF bG bH bI bJ bK bM bP bT bU bV bZ bg bi bu cO cZ cu dB dC ai dD dE dF dG dH dI dJ dK dL dM dN dP dQ dR dS dU dV dW dX aS aQ aU aV aW aX aY aZ aF aG aH aI aj:Value}
theorem depArm_may (x:Nx) (ps:List P3) (bn off n c j:Nat) (wB wr:World) (t4:Value) (Qn:Act->World->Prop) (Q0:Exit->Act->World->Prop)
  (hS:zAE wB wr 141 3 t4 ps.length (zBi P3.cells ps)) (hP:Pbd j ps) (hpl:ps.length<=j) (hj:j<n) (hn:n<=1024) (hcell:∀ i u,x.cells[i]? =some u->wr.cell? ⟨bn,off+(j*15+i),none⟩=some u)
  (hMY:∀ w,Rt 50 #[x.val] w (.bool (zBj x))) (hmay:zBj x=false)
  (hNx:NxD x ps wB bn off n c j Qn s0 s1 s2 s3 s5 aC aA aJ aK aB aN aO aP au ax ay ae aS aQ aU aV aW aX aY aZ aF aG aH aI aj)
  (hRt:RtD x ps wr bn off n c j Q0 s0 s1 s5 aC aA aJ aK aB aN aO aP au ax ay ae aS aQ aU aV aW aX aY aZ aF aG aH aI aj) :
  Code.wp Tryz.prog ((Tryz.f33.body.bind zAY).getD .skip) (Exit.then Qn Q0) ⟨#[s0,s1,s2,s3,t4,s5,s6,s7,s8,s9,az,bQ,dA,aC,ag,aA,aJ,aK,aB,aN,aO,aP,au,ax,ay,ae,.slice (some ⟨bn,off,none⟩) n c,.int .i64 n,.int .i64 j,dY,dZ,dh,di,dm,dn,dw,eF,eG,eH,eP,eQ,eU,eX,eY,eu,fA,fB,fC,fD,fE,fF,fG,fH,fJ,ah,fK,fM,fO,fP,fQ,fU,fV,fZ,gB,gG,gI,gJ,gK,gQ,gU,gV,gW,gX,gY,gZ,gm,gp,gq,gu,gy,gz,iC,iD,iE,iG,iH,iJ,iK,iL,iM,iP,iQ,iR,iT,iU,iW,iY,iZ,ig,ik,bC,bD,bF,bG,bH,bI,bJ,bK,bM,bP,bT,bU,bV,bZ,bg,bi,bu,cO,cZ,cu,dB,dC,ai,dD,dE,dF,dG,dH,dI,dJ,dK,dL,dM,dN,dP,dQ,dR,dS,dU,dV,dW,dX,aS,aQ,aU,aV,aW,aX,aY,aZ,aF,aG,aH,aI,aj],[]⟩ wr:=by
 obtain⟨i0,hi,hz0,hz1,hz2⟩:=info_parts info_P3
 have c0:=hcell 0 _ rfl
 have c1:=hcell 1 _ rfl
 have c2:=hcell 2 _ rfl
 have c3:=hcell 3 _ rfl
 have c4:=hcell 4 _ rfl
 have c5:=hcell 5 _ rfl
 have c6:=hcell 6 _ rfl
 have c7:=hcell 7 _ rfl
 have c8:=hcell 8 _ rfl
 have c9:=hcell 9 _ rfl
 have c10:=hcell 10 _ rfl
 have c11:=hcell 11 _ rfl
 have c12:=hcell 12 _ rfl
 have c13:=hcell 13 _ rfl
 have c14:=hcell 14 _ rfl
 simp only[<- Nat.add_assoc,Nat.add_zero] at c0 c1 c2 c3 c4 c5 c6 c7 c8 c9 c10 c11 c12 c13 c14
 have HS:=zh hS
 have HP:=zh hP
 have HNX:=zh @hNx
 have HRT:=zh @hRt
 have HMY:=zh hMY
 have hsz:=hS.1.size
 clear hcell hNx hRt hMY hS hP
 conv=>arg 2;whnf
 have H0:=zh (dstep_no (l:=ps) hmay)
 rw[hmay] at HMY
 clear hmay
 go_wp2_with(go_at_call 50;refine mB (HMY.out _) ?_;intro l m0)
 exact HRT.out H0.out _ bel
theorem depArm_rect (x:Nx) (ps:List P3) (bn off n c j:Nat) (wB wr:World) (t4:Value) (Qn:Act->World->Prop) (Q0:Exit->Act->World->Prop)
  (hS:zAE wB wr 141 3 t4 ps.length (zBi P3.cells ps)) (hP:Pbd j ps) (hpl:ps.length<=j) (hj:j<n) (hn:n<=1024) (hcell:∀ i u,x.cells[i]? =some u->wr.cell? ⟨bn,off+(j*15+i),none⟩=some u)
  (hMY:∀ w,Rt 50 #[x.val] w (.bool (zBj x))) (hmay:zBj x=true) (k3:x.kind=3)
  (hNx:NxD x ps wB bn off n c j Qn s0 s1 s2 s3 s5 aC aA aJ aK aB aN aO aP au ax ay ae aS aQ aU aV aW aX aY aZ aF aG aH aI aj)
  (hRt:RtD x ps wr bn off n c j Q0 s0 s1 s5 aC aA aJ aK aB aN aO aP au ax ay ae aS aQ aU aV aW aX aY aZ aF aG aH aI aj) :
  Code.wp Tryz.prog ((Tryz.f33.body.bind zAY).getD .skip) (Exit.then Qn Q0) ⟨#[s0,s1,s2,s3,t4,s5,s6,s7,s8,s9,az,bQ,dA,aC,ag,aA,aJ,aK,aB,aN,aO,aP,au,ax,ay,ae,.slice (some ⟨bn,off,none⟩) n c,.int .i64 n,.int .i64 j,dY,dZ,dh,di,dm,dn,dw,eF,eG,eH,eP,eQ,eU,eX,eY,eu,fA,fB,fC,fD,fE,fF,fG,fH,fJ,ah,fK,fM,fO,fP,fQ,fU,fV,fZ,gB,gG,gI,gJ,gK,gQ,gU,gV,gW,gX,gY,gZ,gm,gp,gq,gu,gy,gz,iC,iD,iE,iG,iH,iJ,iK,iL,iM,iP,iQ,iR,iT,iU,iW,iY,iZ,ig,ik,bC,bD,bF,bG,bH,bI,bJ,bK,bM,bP,bT,bU,bV,bZ,bg,bi,bu,cO,cZ,cu,dB,dC,ai,dD,dE,dF,dG,dH,dI,dJ,dK,dL,dM,dN,dP,dQ,dR,dS,dU,dV,dW,dX,aS,aQ,aU,aV,aW,aX,aY,aZ,aF,aG,aH,aI,aj],[]⟩ wr:=by
 obtain⟨i0,hi,hz0,hz1,hz2⟩:=info_parts info_P3
 have c0:=hcell 0 _ rfl
 have c1:=hcell 1 _ rfl
 have c2:=hcell 2 _ rfl
 have c3:=hcell 3 _ rfl
 have c4:=hcell 4 _ rfl
 have c5:=hcell 5 _ rfl
 have c6:=hcell 6 _ rfl
 have c7:=hcell 7 _ rfl
 have c8:=hcell 8 _ rfl
 have c9:=hcell 9 _ rfl
 have c10:=hcell 10 _ rfl
 have c11:=hcell 11 _ rfl
 have c12:=hcell 12 _ rfl
 have c13:=hcell 13 _ rfl
 have c14:=hcell 14 _ rfl
 simp only[<- Nat.add_assoc,Nat.add_zero] at c0 c1 c2 c3 c4 c5 c6 c7 c8 c9 c10 c11 c12 c13 c14
 have HS:=zh hS
 have HP:=zh hP
 have HNX:=zh @hNx
 have HRT:=zh @hRt
 have HMY:=zh hMY
 have hsz:=hS.1.size
 clear hcell hNx hRt hMY hS hP
 conv=>arg 2;whnf
 rw[hmay] at HMY
 have kk3:(x.kind==3)=true:=by simp[k3]
 have HST:=zh (show zBt ps x=some (ps++[⟨0,7,true⟩]) from dstep_rect hmay k3)
 clear hmay k3
 go_wp2_with(first|(go_at_call 50;refine mB (HMY.out _) ?_;intro l m0)|(at_builtin;refine wpList_append_own _ rfl _ _ 139 rfl wB.heap.size 141 i0 _ 3 24 Tryz.underlying139 hi hz0 hz1 hz2 rfl (by decide) _ _ _ rfl (zA7 HS.out.2 bel) _ 1 1 (P3.cells (⟨0,7,true⟩)) rfl rfl ?_ ?_ ?_ ?_ ?_ ?_))
 all_goals first
  | exact P3.cells_one _
  | (simp only[maxLen];omega)
  | omega
  | (have h1:=HS.out.1.size;simp at h1 ⊢;omega)
  | (exact fun i u hu=>zAJ (by simp) i u hu)
  | skip
 all_goals
  intro v' w1 hown' hgrow _
  have R1:=zAE.step HS.out bel (show w1.ownsRow wB.heap.size 141 3 v' (ps.length+1) (zBi P3.cells (ps)++P3.cells (⟨0,7,true⟩)) from by simpa using hown') hgrow
  have HR':=zh R1
  clear hown' hgrow R1 c0 c1 c2 c3 c4 c5 c6 c7 c8 c9 c10 c11 c12 c13 c14 HS
  go_wp2
  exact HNX.out (ps++[⟨0,7,true⟩]) _ HST.out (by rw[zAC,List.length_append];simpa [zBi] using HR'.out)
theorem depArm_push (x:Nx) (ps:List P3) (bn off n c j:Nat) (wB wr:World) (t4:Value) (Qn:Act->World->Prop) (Q0:Exit->Act->World->Prop)
  (hS:zAE wB wr 141 3 t4 ps.length (zBi P3.cells ps)) (hP:Pbd j ps) (hpl:ps.length<=j) (hj:j<n) (hn:n<=1024) (hcell:∀ i u,x.cells[i]? =some u->wr.cell? ⟨bn,off+(j*15+i),none⟩=some u)
  (hMY:∀ w,Rt 50 #[x.val] w (.bool (zBj x))) (hmay:zBj x=true) (k3:x.kind≠3) (k4:x.kind≠4) (k5:x.kind≠5)
  (hNx:NxD x ps wB bn off n c j Qn s0 s1 s2 s3 s5 aC aA aJ aK aB aN aO aP au ax ay ae aS aQ aU aV aW aX aY aZ aF aG aH aI aj)
  (hRt:RtD x ps wr bn off n c j Q0 s0 s1 s5 aC aA aJ aK aB aN aO aP au ax ay ae aS aQ aU aV aW aX aY aZ aF aG aH aI aj) :
  Code.wp Tryz.prog ((Tryz.f33.body.bind zAY).getD .skip) (Exit.then Qn Q0) ⟨#[s0,s1,s2,s3,t4,s5,s6,s7,s8,s9,az,bQ,dA,aC,ag,aA,aJ,aK,aB,aN,aO,aP,au,ax,ay,ae,.slice (some ⟨bn,off,none⟩) n c,.int .i64 n,.int .i64 j,dY,dZ,dh,di,dm,dn,dw,eF,eG,eH,eP,eQ,eU,eX,eY,eu,fA,fB,fC,fD,fE,fF,fG,fH,fJ,ah,fK,fM,fO,fP,fQ,fU,fV,fZ,gB,gG,gI,gJ,gK,gQ,gU,gV,gW,gX,gY,gZ,gm,gp,gq,gu,gy,gz,iC,iD,iE,iG,iH,iJ,iK,iL,iM,iP,iQ,iR,iT,iU,iW,iY,iZ,ig,ik,bC,bD,bF,bG,bH,bI,bJ,bK,bM,bP,bT,bU,bV,bZ,bg,bi,bu,cO,cZ,cu,dB,dC,ai,dD,dE,dF,dG,dH,dI,dJ,dK,dL,dM,dN,dP,dQ,dR,dS,dU,dV,dW,dX,aS,aQ,aU,aV,aW,aX,aY,aZ,aF,aG,aH,aI,aj],[]⟩ wr:=by
 obtain⟨i0,hi,hz0,hz1,hz2⟩:=info_parts info_P3
 have c0:=hcell 0 _ rfl
 have c1:=hcell 1 _ rfl
 have c2:=hcell 2 _ rfl
 have c3:=hcell 3 _ rfl
 have c4:=hcell 4 _ rfl
 have c5:=hcell 5 _ rfl
 have c6:=hcell 6 _ rfl
 have c7:=hcell 7 _ rfl
 have c8:=hcell 8 _ rfl
 have c9:=hcell 9 _ rfl
 have c10:=hcell 10 _ rfl
 have c11:=hcell 11 _ rfl
 have c12:=hcell 12 _ rfl
 have c13:=hcell 13 _ rfl
 have c14:=hcell 14 _ rfl
 simp only[<- Nat.add_assoc,Nat.add_zero] at c0 c1 c2 c3 c4 c5 c6 c7 c8 c9 c10 c11 c12 c13 c14
 have HS:=zh hS
 have HP:=zh hP
 have HNX:=zh @hNx
 have HRT:=zh @hRt
 have HMY:=zh hMY
 have hsz:=hS.1.size
 clear hcell hNx hRt hMY hS hP
 conv=>arg 2;whnf
 rw[hmay] at HMY
 have kk3:(x.kind==3)=false:=by simp[k3]
 have kk4:(x.kind==4)=false:=by simp[k4]
 have kk5:(x.kind==5)=false:=by simp[k5]
 have HST:=zh (show zBt ps x=some (ps++[⟨0,7,false⟩]) from dstep_push hmay k3 k4 k5)
 clear hmay k3 k4 k5
 go_wp2_with(first|(go_at_call 50;refine mB (HMY.out _) ?_;intro l m0)|(at_builtin;refine wpList_append_own _ rfl _ _ 139 rfl wB.heap.size 141 i0 _ 3 24 Tryz.underlying139 hi hz0 hz1 hz2 rfl (by decide) _ _ _ rfl (zA7 HS.out.2 bel) _ 1 1 (P3.cells (⟨0,7,false⟩)) rfl rfl ?_ ?_ ?_ ?_ ?_ ?_))
 all_goals first
  | exact P3.cells_one _
  | (simp only[maxLen];omega)
  | omega
  | (have h1:=HS.out.1.size;simp at h1 ⊢;omega)
  | (exact fun i u hu=>zAJ (by simp) i u hu)
  | skip
 all_goals
  intro v' w1 hown' hgrow _
  have R1:=zAE.step HS.out bel (show w1.ownsRow wB.heap.size 141 3 v' (ps.length+1) (zBi P3.cells (ps)++P3.cells (⟨0,7,false⟩)) from by simpa using hown') hgrow
  have HR':=zh R1
  clear hown' hgrow R1 c0 c1 c2 c3 c4 c5 c6 c7 c8 c9 c10 c11 c12 c13 c14 HS
  go_wp2
  exact HNX.out (ps++[⟨0,7,false⟩]) _ HST.out (by rw[zAC,List.length_append];simpa [zBi] using HR'.out)
end
end Go.Proofs.YtppghgnhlgoagaaGreatDoor
