/- Parts. -/
import Derived.Test.YtppghgnhlgoagaaGreatDoorG36
set_option linter.all false
set_option maxRecDepth 100000
set_option maxHeartbeats 4000000
namespace Go.Proofs.YtppghgnhlgoagaaGreatDoor
open Go Go.RowKit
open Go.Lib renaming hid->zh
section
variable {s0 s1 s2 s3 s5 s6 s7 s8 s9 az bQ dA aC ag aA aJ aK aB aN aO aP au ax ay ae dY dZ dh di dm dn dw eF eG eH eP eQ eU eX eY eu fA fB fC fD fE fF fG fH fJ ah fK fM fO fP fQ fU fV fZ gB gG gI gJ gK gQ gU gV gW gX gY gZ gm gp gq gu gy gz iC iD iE iG iH iJ iK iL iM iP iQ iR iT iU iW iY iZ ig ik bC bD bF bG bH bI bJ bK bM bP bT bU bV bZ bg bi bu cO cZ cu dB dC ai dD dE dF dG dH dI dJ dK dL dM dN dP dQ dR dS dU dV dW dX aS aQ aU aV aW aX aY aZ aF aG aH aI aj:Value}
theorem depArm_callA (x:Nx) (ps:List P3) (bn off n c j:Nat) (wB wr:World) (t4:Value) (Qn:Act->World->Prop) (Q0:Exit->Act->World->Prop)
  (hS:zAE wB wr 141 3 t4 ps.length (zBi P3.cells ps)) (hP:Pbd j ps) (hpl:ps.length<=j) (hj:j<n) (hn:n<=1024) (hcell:∀ i u,x.cells[i]? =some u->wr.cell? ⟨bn,off+(j*15+i),none⟩=some u)
  (hMY:∀ w,Rt 50 #[x.val] w (.bool (zBj x))) (hmay:zBj x=true) (k5:x.kind=5) (hla:(ps.length:Int)<x.args)
  (hNx:NxD x ps wB bn off n c j Qn s0 s1 s2 s3 s5 aC aA aJ aK aB aN aO aP au ax ay ae aS aQ aU aV aW aX aY aZ aF aG aH aI aj)
  (hRt:RtD x ps wr bn off n c j Q0 s0 s1 s5 aC aA aJ aK aB aN aO aP au ax ay ae aS aQ aU aV aW aX aY aZ aF aG aH aI aj) :
  Code.wp Tryz.prog ((Tryz.f33.body.bind zAY).getD .skip) (Exit.then Qn Q0) ⟨#[s0,s1,s2,s3,t4,s5,s6,s7,s8,s9,az,bQ,dA,aC,ag,aA,aJ,aK,aB,aN,aO,aP,au,ax,ay,ae,.slice (some ⟨bn,off,none⟩) n c,.int .i64 n,.int .i64 j,dY,dZ,dh,di,dm,dn,dw,eF,eG,eH,eP,eQ,eU,eX,eY,eu,fA,fB,fC,fD,fE,fF,fG,fH,fJ,ah,fK,fM,fO,fP,fQ,fU,fV,fZ,gB,gG,gI,gJ,gK,gQ,gU,gV,gW,gX,gY,gZ,gm,gp,gq,gu,gy,gz,iC,iD,iE,iG,iH,iJ,iK,iL,iM,iP,iQ,iR,iT,iU,iW,iY,iZ,ig,ik,bC,bD,bF,bG,bH,bI,bJ,bK,bM,bP,bT,bU,bV,bZ,bg,bi,bu,cO,cZ,cu,dB,dC,ai,dD,dE,dF,dG,dH,dI,dJ,dK,dL,dM,dN,dP,dQ,dR,dS,dU,dV,dW,dX,aS,aQ,aU,aV,aW,aX,aY,aZ,aF,aG,aH,aI,aj],[]⟩ wr:=by
 obtain⟨i0,hi,hz0,hz1,hz2⟩:=info_parts info_P3
 have c0:=hcell 0 _ rfl
 have c1:=hcell 1 _ rfl
 have c2:=hcell 2 _ rfl
 have c3:=hcell 3 _ rfl
 have c4:=hcell 4 _ rfl
 have c5:=hcell 5 _ rfl
 have c6:=hcell 6 _ rfl
 have c7:=hcell 7 _ rfl
 have c8:=hcell 8 _ rfl
 have c9:=hcell 9 _ rfl
 have c10:=hcell 10 _ rfl
 have c11:=hcell 11 _ rfl
 have c12:=hcell 12 _ rfl
 have c13:=hcell 13 _ rfl
 have c14:=hcell 14 _ rfl
 simp only[<- Nat.add_assoc,Nat.add_zero] at c0 c1 c2 c3 c4 c5 c6 c7 c8 c9 c10 c11 c12 c13 c14
 have HS:=zh hS
 have HP:=zh hP
 have HNX:=zh @hNx
 have HRT:=zh @hRt
 have HMY:=zh hMY
 have hsz:=hS.1.size
 clear hcell hNx hRt hMY hS hP
 conv=>arg 2;whnf
 rw[hmay] at HMY
 have hn3:(x.kind==3)=false:=by simp[k5]
 have hn4:(x.kind==4)=false:=by simp[k5]
 have kk5:(x.kind==5)=true:=by simp[k5]
 obtain⟨ha0,ha16⟩:=ndMay_args hmay k5
 have hds:=zBa (l:=ps) hmay k5
 obtain⟨ar,har⟩:∃ ar:Nat,x.args=ar:=⟨x.args.toNat,by omega⟩
 rw[har] at c14
 unfold Nx.val at HMY
 simp only[har] at HMY
 rw[har,Int.toNat_natCast] at hds
 rw[har] at ha16
 have hl:ps.length<ar:=by omega
 rw[if_pos hl] at hds
 have H0:=zh hds
 obtain⟨A0,c0',rfl,-,-⟩:=zAk HS.out.2
 have hl':(ps.length:Int)<(ar:Int):=by omega
 clear hds k5 hmay har hl hla
 go_wp2_with(go_at_call 50;refine mB (HMY.out _) ?_;intro l m0)
 exact HRT.out H0.out _ bel
theorem depArm_call3 (x:Nx) (ps:List P3) (bn off n c j:Nat) (wB wr:World) (t4:Value) (Qn:Act->World->Prop) (Q0:Exit->Act->World->Prop)
  (hS:zAE wB wr 141 3 t4 ps.length (zBi P3.cells ps)) (hP:Pbd j ps) (hpl:ps.length<=j) (hj:j<n) (hn:n<=1024) (hcell:∀ i u,x.cells[i]? =some u->wr.cell? ⟨bn,off+(j*15+i),none⟩=some u)
  (hMY:∀ w,Rt 50 #[x.val] w (.bool (zBj x))) (hmay:zBj x=true) (k5:x.kind=5) (hla: ¬ (ps.length:Int)<x.args) (hlb:x.args≠0)
  (hNx:NxD x ps wB bn off n c j Qn s0 s1 s2 s3 s5 aC aA aJ aK aB aN aO aP au ax ay ae aS aQ aU aV aW aX aY aZ aF aG aH aI aj)
  (hRt:RtD x ps wr bn off n c j Q0 s0 s1 s5 aC aA aJ aK aB aN aO aP au ax ay ae aS aQ aU aV aW aX aY aZ aF aG aH aI aj) :
  Code.wp Tryz.prog ((Tryz.f33.body.bind zAY).getD .skip) (Exit.then Qn Q0) ⟨#[s0,s1,s2,s3,t4,s5,s6,s7,s8,s9,az,bQ,dA,aC,ag,aA,aJ,aK,aB,aN,aO,aP,au,ax,ay,ae,.slice (some ⟨bn,off,none⟩) n c,.int .i64 n,.int .i64 j,dY,dZ,dh,di,dm,dn,dw,eF,eG,eH,eP,eQ,eU,eX,eY,eu,fA,fB,fC,fD,fE,fF,fG,fH,fJ,ah,fK,fM,fO,fP,fQ,fU,fV,fZ,gB,gG,gI,gJ,gK,gQ,gU,gV,gW,gX,gY,gZ,gm,gp,gq,gu,gy,gz,iC,iD,iE,iG,iH,iJ,iK,iL,iM,iP,iQ,iR,iT,iU,iW,iY,iZ,ig,ik,bC,bD,bF,bG,bH,bI,bJ,bK,bM,bP,bT,bU,bV,bZ,bg,bi,bu,cO,cZ,cu,dB,dC,ai,dD,dE,dF,dG,dH,dI,dJ,dK,dL,dM,dN,dP,dQ,dR,dS,dU,dV,dW,dX,aS,aQ,aU,aV,aW,aX,aY,aZ,aF,aG,aH,aI,aj],[]⟩ wr:=by
 obtain⟨i0,hi,hz0,hz1,hz2⟩:=info_parts info_P3
 have c0:=hcell 0 _ rfl
 have c1:=hcell 1 _ rfl
 have c2:=hcell 2 _ rfl
 have c3:=hcell 3 _ rfl
 have c4:=hcell 4 _ rfl
 have c5:=hcell 5 _ rfl
 have c6:=hcell 6 _ rfl
 have c7:=hcell 7 _ rfl
 have c8:=hcell 8 _ rfl
 have c9:=hcell 9 _ rfl
 have c10:=hcell 10 _ rfl
 have c11:=hcell 11 _ rfl
 have c12:=hcell 12 _ rfl
 have c13:=hcell 13 _ rfl
 have c14:=hcell 14 _ rfl
 simp only[<- Nat.add_assoc,Nat.add_zero] at c0 c1 c2 c3 c4 c5 c6 c7 c8 c9 c10 c11 c12 c13 c14
 have HS:=zh hS
 have HP:=zh hP
 have HNX:=zh @hNx
 have HRT:=zh @hRt
 have HMY:=zh hMY
 have hsz:=hS.1.size
 clear hcell hNx hRt hMY hS hP
 conv=>arg 2;whnf
 rw[hmay] at HMY
 have hn3:(x.kind==3)=false:=by simp[k5]
 have hn4:(x.kind==4)=false:=by simp[k5]
 have kk5:(x.kind==5)=true:=by simp[k5]
 obtain⟨ha0,ha16⟩:=ndMay_args hmay k5
 have hds:=zBa (l:=ps) hmay k5
 obtain⟨ar,har⟩:∃ ar:Nat,x.args=ar:=⟨x.args.toNat,by omega⟩
 rw[har] at c14
 unfold Nx.val at HMY
 simp only[har] at HMY
 rw[har,Int.toNat_natCast] at hds
 rw[har] at ha16
 have hl: ¬ ps.length<ar:=by omega
 rw[if_neg hl] at hds
 obtain⟨m,hm⟩:∃ m,ps.length=m+ar:=⟨ps.length-ar,by omega⟩
 have hS:=HS.out
 rw[hm] at hS hpl
 rw[hm,Nat.add_sub_cancel] at hds
 have HST:=zh hds
 have HTL:=zh (show (ps.take m).length=m by rw[List.length_take];omega)
 have har0:ar≠0:=by omega
 clear hds k5 hmay har hl hla hlb
 obtain⟨g,cc,rfl,hcap,hcm,hbg,hgl,hcl,hfz⟩:=zAf hS.2 (by omega)
 have hpc:∀ k p,(ps.drop m)[k]? =some p->∀ i u,p.cells[i]? =some u->wr.cell? ⟨g,m*3+(k*3+i),none⟩=some u:=fun k p hk i u hu=>by
  rw[List.getElem?_drop] at hk
  have h:=hcl _ _ (zA9 P3.cells 3 P3.cells_length ps (m+k) p hk i u hu)
  rw[show m*3+(k*3+i)=(m+k)*3+i by rw[Nat.add_mul];omega]
  exact h
 have hdl:(ps.drop m).length=ar:=by simp;omega
 have HO:=zh (show zAE wB wr 141 3 (.slice (some ⟨g,0,none⟩) m cc) m (zBi P3.cells (ps.take m)) from ⟨hS.1,pop_flat P3.cells P3.cells_length (m:=m) ps hm (by omega) hS.2⟩)
 have HPD:=zh (HP.out.drop (k:=m))
 have hmc:m<cc:=by omega
 have hw0:IntKind.i64.wrap (m:Int)=m:=by rw[IntKind.wrap_i64];omega
 have hw4:(0:Int)<=(m:Int):=by omega
 have hw1:IntKind.i64.wrap ((m:Int)+1-1)=(m:Int):=by rw[IntKind.wrap_i64];omega
 have hw5:(m:Int)<(m:Int)+1:=by omega
 have hw1':IntKind.i64.wrap ((m:Int)+(ar:Int)-(ar:Int))=(m:Int):=by rw[IntKind.wrap_i64];omega
 have hw9:(m:Int)<=(m:Int)+(ar:Int):=by omega
 have hw10: ¬ (m:Int)+(ar:Int)<(ar:Int):=by omega
 have HPC:=zh hpc
 have HDL:=zh hdl
 have HM:=zh hm
 clear hcl hS hpc hdl hm hfz
 obtain⟨wo,rfl⟩:∃ wo:World,wo=wr:=⟨_,rfl⟩
 go_wp2_with(go_at_call 50;refine mB (HMY.out _) ?_;intro l m0)
 clear c0 c1 c2 c3 c4 c5 c6 c7 c8 c9 c10 c11 c12 c13 c14
 go_loopw [12,120] (fun nU pJ wq=>∃ k:Nat,k<=ar/\pJ=.int .i64 k/\nU=.int .i64 (maxD ((ps.drop m).take k))/\Below wo.heap.size wo wq/\wq.cell? ⟨wo.heap.size,14,none⟩=some (.int .i64 ar)) (fun _ t _=>ar-(intOf t).toNat)
 case atStart=>exact⟨0,Nat.zero_le _,rfl,rfl,bel,zAZ ((AtB.new rfl) 14 _ rfl) _ _⟩
 case round =>
  obtain⟨k,hk,rfl,e12,hBq,h14⟩:=hrel
  have hsx:=hBq.size
  have lk:=zA2 h14
  by_cases hkl:k<ar
  ·subst e12
   obtain⟨p,hp⟩:∃ p,(ps.drop m)[k]? =some p:=⟨_,List.getElem?_eq_getElem (show k<(ps.drop m).length by rw[HDL.out];exact hkl)⟩
   have d0:=cell_below (HPC.out k p hp 0 _ rfl) hBq
   have d1:=cell_below (HPC.out k p hp 1 _ rfl) hBq
   have d2:=cell_below (HPC.out k p hp 2 _ rfl) hBq
   simp only[<- Nat.add_assoc,Nat.add_zero] at d0 d1 d2
   have hmx:=maxD_take _ _ _ hp
   have HMX:=zh hmx
   clear hp hmx
   go_wp2
   all_goals go_roundw
   case rel=>exact⟨k+1,by omega,by go_num,by rw[HMX.out],bel,zAB h14 _⟩
   case measure=>simp[intOf];omega
  ·obtain rfl:k=ar:=by omega
   rw[List.take_of_length_le (by rw[HDL.out];exact Nat.le_refl _)] at e12
   subst e12
   obtain⟨D0,D1⟩:=HPD.out.maxD
   have hwD:IntKind.i64.wrap (maxD (ps.drop m)+1)=maxD (ps.drop m)+1:=by rw[IntKind.wrap_i64];omega
   go_wp2_with(at_builtin;refine wpList_append_own _ rfl _ _ 139 rfl wB.heap.size 141 i0 _ 3 24 Tryz.underlying139 hi hz0 hz1 hz2 rfl (by decide) _ _ _ rfl (zA7 (zA7 HO.out.2 hBq) bel) _ 1 1 (P3.cells (⟨maxD (ps.drop m)+1,7,false⟩)) rfl rfl ?_ ?_ ?_ ?_ ?_ ?_)
   all_goals first
    | exact P3.cells_one _
    | (simp only[maxLen];omega)
    | omega
    | (have h1:=HO.out.1.size;simp at h1 ⊢;omega)
    | (exact fun i u hu=>zAJ (by simp) i u hu)
    | skip
   all_goals
    intro v' w1 hown' hgrow _
    have R1:=zAE.step HO.out bel (show w1.ownsRow wB.heap.size 141 3 v' (m+1) (zBi P3.cells (ps.take m)++P3.cells (⟨maxD (ps.drop m)+1,7,false⟩)) from by simpa using hown') hgrow
    have HR':=zh R1
    clear hown' hgrow R1 HS HO hBq h14
    go_wp2
    exact HNX.out (ps.take m++[⟨maxD (ps.drop m)+1,7,false⟩]) _ HST.out (by rw[zAC,List.length_append,HTL.out];simpa [zBi] using HR'.out)
end
end Go.Proofs.YtppghgnhlgoagaaGreatDoor
