/- Parts. -/
import Derived.Test.YtppghgnhlgoagaaGreatDoorG36
set_option linter.all false
set_option maxRecDepth 100000
set_option maxHeartbeats 4000000
namespace Go.Proofs.YtppghgnhlgoagaaGreatDoor
open Go Go.RowKit
open Go.Lib renaming hid->zh
section
variable {s0 s1 s2 s3 s5 s6 s7 s8 s9 az bQ dA aC ag aA aJ aK aB aN aO aP au ax ay ae dY dZ dh di dm dn dw eF eG eH eP eQ eU eX eY eu fA fB fC fD fE fF fG fH fJ ah fK fM fO fP fQ fU fV fZ gB gG gI gJ gK gQ gU gV gW gX gY gZ gm gp gq gu gy gz iC iD iE iG iH iJ iK iL iM iP iQ iR iT iU iW iY iZ ig ik bC bD bF bG bH bI bJ bK bM bP bT bU bV bZ bg bi bu cO cZ cu dB dC ai dD dE dF dG dH dI dJ dK dL dM dN dP dQ dR dS dU dV dW dX aS aQ aU aV aW aX aY aZ aF aG aH aI aj:Value}
theorem depArm_op1 (x:Nx) (ps:List P3) (bn off n c j:Nat) (wB wr:World) (t4:Value) (Qn:Act->World->Prop) (Q0:Exit->Act->World->Prop)
  (hS:zAE wB wr 141 3 t4 ps.length (zBi P3.cells ps)) (hP:Pbd j ps) (hpl:ps.length<=j) (hj:j<n) (hn:n<=1024) (hcell:∀ i u,x.cells[i]? =some u->wr.cell? ⟨bn,off+(j*15+i),none⟩=some u)
  (hMY:∀ w,Rt 50 #[x.val] w (.bool (zBj x))) (hmay:zBj x=true) (k4:x.kind=4) (hu:x.op=1)
  (hNx:NxD x ps wB bn off n c j Qn s0 s1 s2 s3 s5 aC aA aJ aK aB aN aO aP au ax ay ae aS aQ aU aV aW aX aY aZ aF aG aH aI aj)
  (hRt:RtD x ps wr bn off n c j Q0 s0 s1 s5 aC aA aJ aK aB aN aO aP au ax ay ae aS aQ aU aV aW aX aY aZ aF aG aH aI aj) :
  Code.wp Tryz.prog ((Tryz.f33.body.bind zAY).getD .skip) (Exit.then Qn Q0) ⟨#[s0,s1,s2,s3,t4,s5,s6,s7,s8,s9,az,bQ,dA,aC,ag,aA,aJ,aK,aB,aN,aO,aP,au,ax,ay,ae,.slice (some ⟨bn,off,none⟩) n c,.int .i64 n,.int .i64 j,dY,dZ,dh,di,dm,dn,dw,eF,eG,eH,eP,eQ,eU,eX,eY,eu,fA,fB,fC,fD,fE,fF,fG,fH,fJ,ah,fK,fM,fO,fP,fQ,fU,fV,fZ,gB,gG,gI,gJ,gK,gQ,gU,gV,gW,gX,gY,gZ,gm,gp,gq,gu,gy,gz,iC,iD,iE,iG,iH,iJ,iK,iL,iM,iP,iQ,iR,iT,iU,iW,iY,iZ,ig,ik,bC,bD,bF,bG,bH,bI,bJ,bK,bM,bP,bT,bU,bV,bZ,bg,bi,bu,cO,cZ,cu,dB,dC,ai,dD,dE,dF,dG,dH,dI,dJ,dK,dL,dM,dN,dP,dQ,dR,dS,dU,dV,dW,dX,aS,aQ,aU,aV,aW,aX,aY,aZ,aF,aG,aH,aI,aj],[]⟩ wr:=by
 obtain⟨i0,hi,hz0,hz1,hz2⟩:=info_parts info_P3
 have c0:=hcell 0 _ rfl
 have c1:=hcell 1 _ rfl
 have c2:=hcell 2 _ rfl
 have c3:=hcell 3 _ rfl
 have c4:=hcell 4 _ rfl
 have c5:=hcell 5 _ rfl
 have c6:=hcell 6 _ rfl
 have c7:=hcell 7 _ rfl
 have c8:=hcell 8 _ rfl
 have c9:=hcell 9 _ rfl
 have c10:=hcell 10 _ rfl
 have c11:=hcell 11 _ rfl
 have c12:=hcell 12 _ rfl
 have c13:=hcell 13 _ rfl
 have c14:=hcell 14 _ rfl
 simp only[<- Nat.add_assoc,Nat.add_zero] at c0 c1 c2 c3 c4 c5 c6 c7 c8 c9 c10 c11 c12 c13 c14
 have HS:=zh hS
 have HP:=zh hP
 have HNX:=zh @hNx
 have HRT:=zh @hRt
 have HMY:=zh hMY
 have hsz:=hS.1.size
 clear hcell hNx hRt hMY hS hP
 conv=>arg 2;whnf
 rw[hmay] at HMY
 have hn3:(x.kind==3)=false:=by simp[k4]
 have kk4:(x.kind==4)=true:=by simp[k4]
 have hds:=dstep_op (l:=ps) hmay k4
 have u1:(x.op==1)=true:=by simp[hu]
 rcases List.eq_nil_or_concat ps with rfl|⟨pre,a,rfl⟩
 ·rw[dOp_one0 (.inl hu)] at hds
  have H0:=zh hds
  obtain⟨A0,c0',rfl,-,-⟩:=zAk HS.out.2
  clear hds hu k4 hmay
  go_wp2_with(go_at_call 50;refine mB (HMY.out _) ?_;intro l m0)
  exact HRT.out H0.out _ bel
 ·rw[List.concat_eq_append] at *
  rw[dOp_one (.inl hu)] at hds
  obtain⟨m,hm⟩:∃ m,m=pre.length:=⟨_,rfl⟩
  have hl2:(pre++[a]).length=m+1:=by rw[hm];simp
  have hS:=HS.out
  rw[hl2] at hS hpl
  obtain⟨g,cc,rfl,hcap,hcm,hbg,hgl,hcl,hfz⟩:=zAf hS.2 (by omega)
  have ha:(pre++[a])[m]? =some a:=by rw[hm];simp
  obtain⟨ha0,ha1,hab⟩:=HP.out a (by simp)
  have e0:=hcl _ _ (zA9 P3.cells 3 P3.cells_length _ m a ha 0 _ rfl)
  have e1:=hcl _ _ (zA9 P3.cells 3 P3.cells_length _ m a ha 1 _ rfl)
  have e2:=hcl _ _ (zA9 P3.cells 3 P3.cells_length _ m a ha 2 _ rfl)
  simp only[Nat.add_zero] at e0
  have HO:=zh (show zAE wB wr 141 3 (.slice (some ⟨g,0,none⟩) m cc) m (zBi P3.cells pre) from ⟨hS.1,by have h:=pop_flat P3.cells P3.cells_length (m:=m) (pre++[a]) hl2 (by omega) hS.2;rw[List.take_append_of_le_length (by omega),List.take_of_length_le (by omega)] at h;exact h⟩)
  have g1:=zh ha0;have g2:=zh ha1;have g3:=zh ha0;have g4:=zh ha1
  have HM:=zh hm
  have hw0:IntKind.i64.wrap (m:Int)=m:=by rw[IntKind.wrap_i64];omega
  have hw4:(0:Int)<=(m:Int):=by omega
  have hw1:IntKind.i64.wrap ((m:Int)+1-1)=(m:Int):=by rw[IntKind.wrap_i64];omega
  have hw5:(m:Int)<(m:Int)+1:=by omega
  have HDS:=zh hds
  clear hds hmay k4 hu hm hl2 hS ha hcl ha0 ha1 hab hfz
  go_upto_region 19 with (go_at_call 50;refine mB (HMY.out _) ?_;intro l m0)
  go_cut [8,9] from 29 to 141 (fun s8 s9 wx=>∃ p q:Nat,s8=.pointer (some ⟨p,0,none⟩)/\s9=.pointer (some ⟨q,0,none⟩)/\AtB wx p (P3.cells a)/\AtB wx q (P3.cells a)/\wx.cell? ⟨wr.heap.size,12,none⟩=some (.int .i64 x.op)/\Below wr.heap.size wr wx)
  case first =>
   go_region_held3 (fun w'=>w'.cell? ⟨g,m*3,none⟩=some (.int .i64 a.d)/\w'.cell? ⟨g,m*3+1,none⟩=some (.int .i64 a.b)/\w'.cell? ⟨g,m*3+2,none⟩=some (.bool a.m))
    (first|((try dsimp only);refine⟨?_,?_,?_⟩<;>(repeat(first|with_reducible assumption|with_reducible refine zAT ?_|with_reducible refine cell_drewNJ ?_ _|with_reducible refine zAB ?_ _|with_reducible refine zAZ ?_ _ _|(with_reducible refine zAF ?_ (by first|omega|(simp;omega)))))))
    (first|fail)
   all_goals(go_wp2_with fail;go_meet;exact⟨_,_,rfl,rfl,(by first|(refine AtB.new ?_;simp only[World.size_alloc,zAU];done)|(refine AtB.zAv (AtB.new ?_) _;simp only[World.size_alloc,zAU];done)),(by first|(refine AtB.new ?_;simp only[World.size_alloc,zAU];done)|(refine AtB.zAv (AtB.new ?_) _;simp only[World.size_alloc,zAU];done)),(zAB (zAB (zAZ ((AtB.new rfl) 12 _ rfl) _ _) _) _),bel⟩)
  case rest =>
   obtain⟨p,q,rfl,rfl,hA,hQ,hk12,hBX⟩:=hcut
   have p0:=hA 0 _ rfl
   have p1:=hA 1 _ rfl
   have p2:=hA 2 _ rfl
   have q0:=hQ 0 _ rfl
   have q1:=hQ 1 _ rfl
   have q2:=hQ 2 _ rfl
   clear hA hQ c0 c1 c2 c3 c4 c5 c6 c7 c8 c9 c10 c11 c12 c13 c14 e0 e1 e2
   have lp:=zA2 p0
   have lq:=zA2 q0
   have lk:=zA2 hk12
   have hsx:=hBX.size
   cases ham:a.m
   ·have hds:=HDS.out
    rw[ham,if_neg (by decide)] at hds
    have HST:=zh hds
    rw[ham] at p2 q2
    clear hds ham HDS
    go_wp2_with(first|(go_at_call 51;refine(refs_level0 x.op _).mono ?_;rintro e w1 ⟨rfl,rfl⟩)|(go_at_call 52;refine mB (part_insideX _ _ _ _ (by first|exact g1.out|exact g3.out) (by first|(have:=g2.out;omega)|(have:=g4.out;omega)) _) ?_;intro l5 m5)|(at_builtin;refine wpList_append_own _ rfl _ _ 139 rfl wB.heap.size 141 i0 _ 3 24 Tryz.underlying139 hi hz0 hz1 hz2 rfl (by decide) _ _ _ rfl (zA7 (zA7 HO.out.2 hBX) bel) _ 1 1 (P3.cells (pOne x.op a)) rfl rfl ?_ ?_ ?_ ?_ ?_ ?_))
    all_goals first
     | exact P3.cells_one _
     | (simp only[maxLen];omega)
     | omega
     | (have h1:=HO.out.1.size;simp at h1 ⊢;omega)
     | (exact fun i u hu=>zAJ (by simp) i u hu)
     | skip
    all_goals
     intro v' w1 hown' hgrow _
     have R1:=zAE.step HO.out bel (show w1.ownsRow wB.heap.size 141 3 v' (m+1) (zBi P3.cells (pre)++P3.cells (pOne x.op a)) from by simpa using hown') hgrow
     have HR':=zh R1
     clear hown' hgrow R1 HS HO p0 p1 p2 q0 q1 q2 hk12 hBX
     go_wp2
     exact HNX.out (pre++[pOne x.op a]) _ HST.out (by rw[zAC,List.length_append,<-HM.out];simpa [zBi] using HR'.out)
   ·have hds:=HDS.out
    rw[ham,if_pos rfl] at hds
    have H0:=zh hds
    rw[ham] at p2 q2
    clear hds ham HDS
    go_wp2
    exact HRT.out H0.out _ bel
theorem depArm_op2 (x:Nx) (ps:List P3) (bn off n c j:Nat) (wB wr:World) (t4:Value) (Qn:Act->World->Prop) (Q0:Exit->Act->World->Prop)
  (hS:zAE wB wr 141 3 t4 ps.length (zBi P3.cells ps)) (hP:Pbd j ps) (hpl:ps.length<=j) (hj:j<n) (hn:n<=1024) (hcell:∀ i u,x.cells[i]? =some u->wr.cell? ⟨bn,off+(j*15+i),none⟩=some u)
  (hMY:∀ w,Rt 50 #[x.val] w (.bool (zBj x))) (hmay:zBj x=true) (k4:x.kind=4) (hu:x.op=2)
  (hNx:NxD x ps wB bn off n c j Qn s0 s1 s2 s3 s5 aC aA aJ aK aB aN aO aP au ax ay ae aS aQ aU aV aW aX aY aZ aF aG aH aI aj)
  (hRt:RtD x ps wr bn off n c j Q0 s0 s1 s5 aC aA aJ aK aB aN aO aP au ax ay ae aS aQ aU aV aW aX aY aZ aF aG aH aI aj) :
  Code.wp Tryz.prog ((Tryz.f33.body.bind zAY).getD .skip) (Exit.then Qn Q0) ⟨#[s0,s1,s2,s3,t4,s5,s6,s7,s8,s9,az,bQ,dA,aC,ag,aA,aJ,aK,aB,aN,aO,aP,au,ax,ay,ae,.slice (some ⟨bn,off,none⟩) n c,.int .i64 n,.int .i64 j,dY,dZ,dh,di,dm,dn,dw,eF,eG,eH,eP,eQ,eU,eX,eY,eu,fA,fB,fC,fD,fE,fF,fG,fH,fJ,ah,fK,fM,fO,fP,fQ,fU,fV,fZ,gB,gG,gI,gJ,gK,gQ,gU,gV,gW,gX,gY,gZ,gm,gp,gq,gu,gy,gz,iC,iD,iE,iG,iH,iJ,iK,iL,iM,iP,iQ,iR,iT,iU,iW,iY,iZ,ig,ik,bC,bD,bF,bG,bH,bI,bJ,bK,bM,bP,bT,bU,bV,bZ,bg,bi,bu,cO,cZ,cu,dB,dC,ai,dD,dE,dF,dG,dH,dI,dJ,dK,dL,dM,dN,dP,dQ,dR,dS,dU,dV,dW,dX,aS,aQ,aU,aV,aW,aX,aY,aZ,aF,aG,aH,aI,aj],[]⟩ wr:=by
 obtain⟨i0,hi,hz0,hz1,hz2⟩:=info_parts info_P3
 have c0:=hcell 0 _ rfl
 have c1:=hcell 1 _ rfl
 have c2:=hcell 2 _ rfl
 have c3:=hcell 3 _ rfl
 have c4:=hcell 4 _ rfl
 have c5:=hcell 5 _ rfl
 have c6:=hcell 6 _ rfl
 have c7:=hcell 7 _ rfl
 have c8:=hcell 8 _ rfl
 have c9:=hcell 9 _ rfl
 have c10:=hcell 10 _ rfl
 have c11:=hcell 11 _ rfl
 have c12:=hcell 12 _ rfl
 have c13:=hcell 13 _ rfl
 have c14:=hcell 14 _ rfl
 simp only[<- Nat.add_assoc,Nat.add_zero] at c0 c1 c2 c3 c4 c5 c6 c7 c8 c9 c10 c11 c12 c13 c14
 have HS:=zh hS
 have HP:=zh hP
 have HNX:=zh @hNx
 have HRT:=zh @hRt
 have HMY:=zh hMY
 have hsz:=hS.1.size
 clear hcell hNx hRt hMY hS hP
 conv=>arg 2;whnf
 rw[hmay] at HMY
 have hn3:(x.kind==3)=false:=by simp[k4]
 have kk4:(x.kind==4)=true:=by simp[k4]
 have hds:=dstep_op (l:=ps) hmay k4
 have u1:(x.op==1)=false:=by simp[hu]
 have u2:(x.op==2)=true:=by simp[hu]
 rcases List.eq_nil_or_concat ps with rfl|⟨pre,a,rfl⟩
 ·rw[dOp_one0 (.inr hu)] at hds
  have H0:=zh hds
  obtain⟨A0,c0',rfl,-,-⟩:=zAk HS.out.2
  clear hds hu k4 hmay
  go_wp2_with(go_at_call 50;refine mB (HMY.out _) ?_;intro l m0)
  exact HRT.out H0.out _ bel
 ·rw[List.concat_eq_append] at *
  rw[dOp_one (.inr hu)] at hds
  obtain⟨m,hm⟩:∃ m,m=pre.length:=⟨_,rfl⟩
  have hl2:(pre++[a]).length=m+1:=by rw[hm];simp
  have hS:=HS.out
  rw[hl2] at hS hpl
  obtain⟨g,cc,rfl,hcap,hcm,hbg,hgl,hcl,hfz⟩:=zAf hS.2 (by omega)
  have ha:(pre++[a])[m]? =some a:=by rw[hm];simp
  obtain⟨ha0,ha1,hab⟩:=HP.out a (by simp)
  have e0:=hcl _ _ (zA9 P3.cells 3 P3.cells_length _ m a ha 0 _ rfl)
  have e1:=hcl _ _ (zA9 P3.cells 3 P3.cells_length _ m a ha 1 _ rfl)
  have e2:=hcl _ _ (zA9 P3.cells 3 P3.cells_length _ m a ha 2 _ rfl)
  simp only[Nat.add_zero] at e0
  have HO:=zh (show zAE wB wr 141 3 (.slice (some ⟨g,0,none⟩) m cc) m (zBi P3.cells pre) from ⟨hS.1,by have h:=pop_flat P3.cells P3.cells_length (m:=m) (pre++[a]) hl2 (by omega) hS.2;rw[List.take_append_of_le_length (by omega),List.take_of_length_le (by omega)] at h;exact h⟩)
  have g1:=zh ha0;have g2:=zh ha1;have g3:=zh ha0;have g4:=zh ha1
  have HM:=zh hm
  have hw0:IntKind.i64.wrap (m:Int)=m:=by rw[IntKind.wrap_i64];omega
  have hw4:(0:Int)<=(m:Int):=by omega
  have hw1:IntKind.i64.wrap ((m:Int)+1-1)=(m:Int):=by rw[IntKind.wrap_i64];omega
  have hw5:(m:Int)<(m:Int)+1:=by omega
  have HDS:=zh hds
  clear hds hmay k4 hu hm hl2 hS ha hcl ha0 ha1 hab hfz
  go_upto_region 19 with (go_at_call 50;refine mB (HMY.out _) ?_;intro l m0)
  go_cut [8,9] from 29 to 141 (fun s8 s9 wx=>∃ p q:Nat,s8=.pointer (some ⟨p,0,none⟩)/\s9=.pointer (some ⟨q,0,none⟩)/\AtB wx p (P3.cells a)/\AtB wx q (P3.cells a)/\wx.cell? ⟨wr.heap.size,12,none⟩=some (.int .i64 x.op)/\Below wr.heap.size wr wx)
  case first =>
   go_region_held3 (fun w'=>w'.cell? ⟨g,m*3,none⟩=some (.int .i64 a.d)/\w'.cell? ⟨g,m*3+1,none⟩=some (.int .i64 a.b)/\w'.cell? ⟨g,m*3+2,none⟩=some (.bool a.m))
    (first|((try dsimp only);refine⟨?_,?_,?_⟩<;>(repeat(first|with_reducible assumption|with_reducible refine zAT ?_|with_reducible refine cell_drewNJ ?_ _|with_reducible refine zAB ?_ _|with_reducible refine zAZ ?_ _ _|(with_reducible refine zAF ?_ (by first|omega|(simp;omega)))))))
    (first|fail)
   all_goals(go_wp2_with fail;go_meet;exact⟨_,_,rfl,rfl,(by first|(refine AtB.new ?_;simp only[World.size_alloc,zAU];done)|(refine AtB.zAv (AtB.new ?_) _;simp only[World.size_alloc,zAU];done)),(by first|(refine AtB.new ?_;simp only[World.size_alloc,zAU];done)|(refine AtB.zAv (AtB.new ?_) _;simp only[World.size_alloc,zAU];done)),(zAB (zAB (zAZ ((AtB.new rfl) 12 _ rfl) _ _) _) _),bel⟩)
  case rest =>
   obtain⟨p,q,rfl,rfl,hA,hQ,hk12,hBX⟩:=hcut
   have p0:=hA 0 _ rfl
   have p1:=hA 1 _ rfl
   have p2:=hA 2 _ rfl
   have q0:=hQ 0 _ rfl
   have q1:=hQ 1 _ rfl
   have q2:=hQ 2 _ rfl
   clear hA hQ c0 c1 c2 c3 c4 c5 c6 c7 c8 c9 c10 c11 c12 c13 c14 e0 e1 e2
   have lp:=zA2 p0
   have lq:=zA2 q0
   have lk:=zA2 hk12
   have hsx:=hBX.size
   cases ham:a.m
   ·have hds:=HDS.out
    rw[ham,if_neg (by decide)] at hds
    have HST:=zh hds
    rw[ham] at p2 q2
    clear hds ham HDS
    go_wp2_with(first|(go_at_call 51;refine(refs_level0 x.op _).mono ?_;rintro e w1 ⟨rfl,rfl⟩)|(go_at_call 52;refine mB (part_insideX _ _ _ _ (by first|exact g1.out|exact g3.out) (by first|(have:=g2.out;omega)|(have:=g4.out;omega)) _) ?_;intro l5 m5)|(at_builtin;refine wpList_append_own _ rfl _ _ 139 rfl wB.heap.size 141 i0 _ 3 24 Tryz.underlying139 hi hz0 hz1 hz2 rfl (by decide) _ _ _ rfl (zA7 (zA7 HO.out.2 hBX) bel) _ 1 1 (P3.cells (pOne x.op a)) rfl rfl ?_ ?_ ?_ ?_ ?_ ?_))
    all_goals first
     | exact P3.cells_one _
     | (simp only[maxLen];omega)
     | omega
     | (have h1:=HO.out.1.size;simp at h1 ⊢;omega)
     | (exact fun i u hu=>zAJ (by simp) i u hu)
     | skip
    all_goals
     intro v' w1 hown' hgrow _
     have R1:=zAE.step HO.out bel (show w1.ownsRow wB.heap.size 141 3 v' (m+1) (zBi P3.cells (pre)++P3.cells (pOne x.op a)) from by simpa using hown') hgrow
     have HR':=zh R1
     clear hown' hgrow R1 HS HO p0 p1 p2 q0 q1 q2 hk12 hBX
     go_wp2
     exact HNX.out (pre++[pOne x.op a]) _ HST.out (by rw[zAC,List.length_append,<-HM.out];simpa [zBi] using HR'.out)
   ·have hds:=HDS.out
    rw[ham,if_pos rfl] at hds
    have H0:=zh hds
    rw[ham] at p2 q2
    clear hds ham HDS
    go_wp2
    exact HRT.out H0.out _ bel
end
end Go.Proofs.YtppghgnhlgoagaaGreatDoor
