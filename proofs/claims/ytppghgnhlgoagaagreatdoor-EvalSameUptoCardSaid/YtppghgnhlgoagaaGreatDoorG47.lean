/- Parts. -/
import Derived.Test.YtppghgnhlgoagaaGreatDoorG44
import Derived.Test.YtppghgnhlgoagaaGreatDoorG45
import Derived.Test.YtppghgnhlgoagaaGreatDoorG46
set_option linter.all false
set_option maxRecDepth 100000
set_option maxHeartbeats 4000000
namespace Go.Proofs.YtppghgnhlgoagaaGreatDoor
open Go Go.RowKit
open Go.Lib renaming hid->zh
theorem depArm_call0 (x:Nx) (ps:List P3) (bn off n c j:Nat) (wB wr:World) (t4:Value) (Qn:Act->World->Prop) (Q0:Exit->Act->World->Prop) {s0 s1 s2 s3 s5 s6 s7 s8 s9 az bQ dA aC ag aA aJ aK aB aN aO aP au ax ay ae dY dZ dh di dm dn dw eF eG eH eP eQ eU eX eY eu fA fB fC fD fE fF fG fH fJ ah fK fM fO fP fQ fU fV fZ gB gG gI gJ gK gQ gU gV gW gX gY gZ gm gp gq gu gy gz iC iD iE iG iH iJ iK iL iM iP iQ iR iT iU iW iY iZ ig ik bC bD bF bG bH bI bJ bK bM bP bT bU bV bZ bg bi bu cO cZ cu dB dC ai dD dE dF dG dH dI dJ dK dL dM dN dP dQ dR dS dU dV dW dX aS aQ aU aV aW aX aY aZ aF aG aH aI aj:Value}
  (hS:zAE wB wr 141 3 t4 ps.length (zBi P3.cells ps)) (hP:Pbd j ps) (hpl:ps.length<=j) (hj:j<n) (hn:n<=1024) (hcell:∀ i u,x.cells[i]? =some u->wr.cell? ⟨bn,off+(j*15+i),none⟩=some u)
  (hMY:∀ w,Rt 50 #[x.val] w (.bool (zBj x))) (hmay:zBj x=true) (k5:x.kind=5) (hla:x.args=0)
  (hNx:NxD x ps wB bn off n c j Qn s0 s1 s2 s3 s5 aC aA aJ aK aB aN aO aP au ax ay ae aS aQ aU aV aW aX aY aZ aF aG aH aI aj)
  (hRt:RtD x ps wr bn off n c j Q0 s0 s1 s5 aC aA aJ aK aB aN aO aP au ax ay ae aS aQ aU aV aW aX aY aZ aF aG aH aI aj) :
  Code.wp Tryz.prog ((Tryz.f33.body.bind zAY).getD .skip) (Exit.then Qn Q0) ⟨#[s0,s1,s2,s3,t4,s5,s6,s7,s8,s9,az,bQ,dA,aC,ag,aA,aJ,aK,aB,aN,aO,aP,au,ax,ay,ae,.slice (some ⟨bn,off,none⟩) n c,.int .i64 n,.int .i64 j,dY,dZ,dh,di,dm,dn,dw,eF,eG,eH,eP,eQ,eU,eX,eY,eu,fA,fB,fC,fD,fE,fF,fG,fH,fJ,ah,fK,fM,fO,fP,fQ,fU,fV,fZ,gB,gG,gI,gJ,gK,gQ,gU,gV,gW,gX,gY,gZ,gm,gp,gq,gu,gy,gz,iC,iD,iE,iG,iH,iJ,iK,iL,iM,iP,iQ,iR,iT,iU,iW,iY,iZ,ig,ik,bC,bD,bF,bG,bH,bI,bJ,bK,bM,bP,bT,bU,bV,bZ,bg,bi,bu,cO,cZ,cu,dB,dC,ai,dD,dE,dF,dG,dH,dI,dJ,dK,dL,dM,dN,dP,dQ,dR,dS,dU,dV,dW,dX,aS,aQ,aU,aV,aW,aX,aY,aZ,aF,aG,aH,aI,aj],[]⟩ wr:=by
 obtain⟨i0,hi,hz0,hz1,hz2⟩:=info_parts info_P3
 have c0:=hcell 0 _ rfl
 have c1:=hcell 1 _ rfl
 have c2:=hcell 2 _ rfl
 have c3:=hcell 3 _ rfl
 have c4:=hcell 4 _ rfl
 have c5:=hcell 5 _ rfl
 have c6:=hcell 6 _ rfl
 have c7:=hcell 7 _ rfl
 have c8:=hcell 8 _ rfl
 have c9:=hcell 9 _ rfl
 have c10:=hcell 10 _ rfl
 have c11:=hcell 11 _ rfl
 have c12:=hcell 12 _ rfl
 have c13:=hcell 13 _ rfl
 have c14:=hcell 14 _ rfl
 simp only[<- Nat.add_assoc,Nat.add_zero] at c0 c1 c2 c3 c4 c5 c6 c7 c8 c9 c10 c11 c12 c13 c14
 have HS:=zh hS
 have HP:=zh hP
 have HNX:=zh @hNx
 have HRT:=zh @hRt
 have HMY:=zh hMY
 have hsz:=hS.1.size
 clear hcell hNx hRt hMY hS hP
 conv=>arg 2;whnf
 rw[hmay] at HMY
 have hn3:(x.kind==3)=false:=by simp[k5]
 have hn4:(x.kind==4)=false:=by simp[k5]
 have kk5:(x.kind==5)=true:=by simp[k5]
 obtain⟨ha0,ha16⟩:=ndMay_args hmay k5
 have hds:=zBa (l:=ps) hmay k5
 obtain⟨ar,har⟩:∃ ar:Nat,x.args=ar:=⟨x.args.toNat,by omega⟩
 rw[har] at c14
 unfold Nx.val at HMY
 simp only[har] at HMY
 rw[har,Int.toNat_natCast] at hds
 rw[har] at ha16
 have hl: ¬ ps.length<ar:=by omega
 rw[if_neg hl] at hds
 obtain⟨m,hm⟩:∃ m,ps.length=m+ar:=⟨ps.length-ar,by omega⟩
 have hS:=HS.out
 rw[hm] at hS hpl
 rw[hm,Nat.add_sub_cancel] at hds
 have HST:=zh hds
 have HTL:=zh (show (ps.take m).length=m by rw[List.length_take];omega)
 have har0:ar=0:=by omega
 clear hds k5 hmay har hl hla
 subst har0
 have e1:ps.take m=ps:=List.take_of_length_le (by omega)
 have e2:ps.drop m=[]:=List.drop_eq_nil_of_le (by omega)
 have HSZ:=zh (show zBt ps x=some (ps++[⟨1,7,false⟩]) from by have h:=HST.out;rw[e1,e2] at h;exact h)
 have hm:ps.length=m:=hm
 have HM:=zh hm
 rw[Nat.add_zero] at hS
 have hpl:m<=j:=hpl
 clear e1 e2 hm HTL HST
 have hw0:IntKind.i64.wrap (m:Int)=m:=by rw[IntKind.wrap_i64];omega
 have hw4:(0:Int)<=(m:Int):=by omega
 have hw1:IntKind.i64.wrap ((m:Int)+1-1)=(m:Int):=by rw[IntKind.wrap_i64];omega
 have hw5:(m:Int)<(m:Int)+1:=by omega
 rcases own_formX hS.2 with ⟨rfl,rfl⟩|⟨g,cc,rfl,hcap,hcm,hgl⟩
 ·have HO:=zh hS
  clear hS hw0 hw4 hw1 hw5
  go_wp2_with(go_at_call 50;refine mB (HMY.out _) ?_;intro l m0)
  refine wp_loop_rounds 1 ?_
  rw[rounds_succ]
  go_wp2_with(at_builtin;refine wpList_append_own _ rfl _ _ 139 rfl wB.heap.size 141 i0 _ 3 24 Tryz.underlying139 hi hz0 hz1 hz2 rfl (by decide) _ _ _ rfl (zA7 HO.out.2 bel) _ 1 1 (P3.cells (⟨1,7,false⟩)) rfl rfl ?_ ?_ ?_ ?_ ?_ ?_)
  all_goals first
   | exact P3.cells_one _
   | (simp only[maxLen];omega)
   | omega
   | (have h1:=HO.out.1.size;simp at h1 ⊢;omega)
   | (exact fun i u hu=>zAJ (by simp) i u hu)
   | skip
  all_goals
   intro v' w1 hown' hgrow _
   have R1:=zAE.step HO.out bel (show w1.ownsRow wB.heap.size 141 3 v' (0+1) (zBi P3.cells (ps)++P3.cells (⟨1,7,false⟩)) from by simpa using hown') hgrow
   have HR':=zh R1
   clear hown' hgrow R1 c0 c1 c2 c3 c4 c5 c6 c7 c8 c9 c10 c11 c12 c13 c14 HS HO
   go_wp2
   exact HNX.out (ps++[⟨1,7,false⟩]) _ HSZ.out (by rw[zAC,List.length_append,HM.out];simpa [zBi] using HR'.out)
 ·have HO:=zh hS
  clear hS
  by_cases hmc:m<cc
  ·go_wp2_with(go_at_call 50;refine mB (HMY.out _) ?_;intro l m0)
   refine wp_loop_rounds 1 ?_
   rw[rounds_succ]
   go_wp2_with(at_builtin;refine wpList_append_own _ rfl _ _ 139 rfl wB.heap.size 141 i0 _ 3 24 Tryz.underlying139 hi hz0 hz1 hz2 rfl (by decide) _ _ _ rfl (zA7 HO.out.2 bel) _ 1 1 (P3.cells (⟨1,7,false⟩)) rfl rfl ?_ ?_ ?_ ?_ ?_ ?_)
   all_goals first
    | exact P3.cells_one _
    | (simp only[maxLen];omega)
    | omega
    | (have h1:=HO.out.1.size;simp at h1 ⊢;omega)
    | (exact fun i u hu=>zAJ (by simp) i u hu)
    | skip
   all_goals
    intro v' w1 hown' hgrow _
    have R1:=zAE.step HO.out bel (show w1.ownsRow wB.heap.size 141 3 v' (m+1) (zBi P3.cells (ps)++P3.cells (⟨1,7,false⟩)) from by simpa using hown') hgrow
    have HR':=zh R1
    clear hown' hgrow R1 c0 c1 c2 c3 c4 c5 c6 c7 c8 c9 c10 c11 c12 c13 c14 HS HO
    go_wp2
    exact HNX.out (ps++[⟨1,7,false⟩]) _ HSZ.out (by rw[zAC,List.length_append,HM.out];simpa [zBi] using HR'.out)
  ·obtain rfl:m=cc:=by omega
   go_wp2_with(go_at_call 50;refine mB (HMY.out _) ?_;intro l m0)
   refine wp_loop_rounds 1 ?_
   rw[rounds_succ]
   go_wp2_with(at_builtin;refine wpList_append_own _ rfl _ _ 139 rfl wB.heap.size 141 i0 _ 3 24 Tryz.underlying139 hi hz0 hz1 hz2 rfl (by decide) _ _ _ rfl (zA7 HO.out.2 bel) _ 1 1 (P3.cells (⟨1,7,false⟩)) rfl rfl ?_ ?_ ?_ ?_ ?_ ?_)
   all_goals first
    | exact P3.cells_one _
    | (simp only[maxLen];omega)
    | omega
    | (have h1:=HO.out.1.size;simp at h1 ⊢;omega)
    | (exact fun i u hu=>zAJ (by simp) i u hu)
    | skip
   all_goals
    intro v' w1 hown' hgrow _
    have R1:=zAE.step HO.out bel (show w1.ownsRow wB.heap.size 141 3 v' (m+1) (zBi P3.cells (ps)++P3.cells (⟨1,7,false⟩)) from by simpa using hown') hgrow
    have HR':=zh R1
    clear hown' hgrow R1 c0 c1 c2 c3 c4 c5 c6 c7 c8 c9 c10 c11 c12 c13 c14 HS HO
    go_wp2
    exact HNX.out (ps++[⟨1,7,false⟩]) _ HSZ.out (by rw[zAC,List.length_append,HM.out];simpa [zBi] using HR'.out)
theorem depArm_all (x:Nx) (ps:List P3) (bn off n c j:Nat) (wB wr:World) (t4:Value)
  (hS:zAE wB wr 141 3 t4 ps.length (zBi P3.cells ps)) (hP:Pbd j ps) (hpl:ps.length<=j) (hj:j<n) (hn:n<=1024) (hcell:∀ i u,x.cells[i]? =some u->wr.cell? ⟨bn,off+(j*15+i),none⟩=some u)
  (hMY:∀ w,Rt 50 #[x.val] w (.bool (zBj x))) (Qn:Act->World->Prop) (Q0:Exit->Act->World->Prop) (s0 s1 s2 s3 s5 s6 s7 s8 s9 az bQ dA aC ag aA aJ aK aB aN aO aP au ax ay ae dY dZ dh di dm dn dw eF eG eH eP eQ eU eX eY eu fA fB fC fD fE fF fG fH fJ ah fK fM fO fP fQ fU fV fZ gB gG gI gJ gK gQ gU gV gW gX gY gZ gm gp gq gu gy gz iC iD iE iG iH iJ iK iL iM iP iQ iR iT iU iW iY iZ ig ik bC bD bF bG bH bI bJ bK bM bP bT bU bV bZ bg bi bu cO cZ cu dB dC ai dD dE dF dG dH dI dJ dK dL dM dN dP dQ dR dS dU dV dW dX aS aQ aU aV aW aX aY aZ aF aG aH aI aj:Value)
  (hNx:NxD x ps wB bn off n c j Qn s0 s1 s2 s3 s5 aC aA aJ aK aB aN aO aP au ax ay ae aS aQ aU aV aW aX aY aZ aF aG aH aI aj)
  (hRt:RtD x ps wr bn off n c j Q0 s0 s1 s5 aC aA aJ aK aB aN aO aP au ax ay ae aS aQ aU aV aW aX aY aZ aF aG aH aI aj) :
  Code.wp Tryz.prog ((Tryz.f33.body.bind zAY).getD .skip) (Exit.then Qn Q0) ⟨#[s0,s1,s2,s3,t4,s5,s6,s7,s8,s9,az,bQ,dA,aC,ag,aA,aJ,aK,aB,aN,aO,aP,au,ax,ay,ae,.slice (some ⟨bn,off,none⟩) n c,.int .i64 n,.int .i64 j,dY,dZ,dh,di,dm,dn,dw,eF,eG,eH,eP,eQ,eU,eX,eY,eu,fA,fB,fC,fD,fE,fF,fG,fH,fJ,ah,fK,fM,fO,fP,fQ,fU,fV,fZ,gB,gG,gI,gJ,gK,gQ,gU,gV,gW,gX,gY,gZ,gm,gp,gq,gu,gy,gz,iC,iD,iE,iG,iH,iJ,iK,iL,iM,iP,iQ,iR,iT,iU,iW,iY,iZ,ig,ik,bC,bD,bF,bG,bH,bI,bJ,bK,bM,bP,bT,bU,bV,bZ,bg,bi,bu,cO,cZ,cu,dB,dC,ai,dD,dE,dF,dG,dH,dI,dJ,dK,dL,dM,dN,dP,dQ,dR,dS,dU,dV,dW,dX,aS,aQ,aU,aV,aW,aX,aY,aZ,aF,aG,aH,aI,aj],[]⟩ wr:=by
 by_cases hmay:zBj x=true
 ·by_cases k3:x.kind=3
  ·exact depArm_rect x ps bn off n c j wB wr t4 Qn Q0 hS hP hpl hj hn hcell hMY hmay k3 @hNx @hRt
  by_cases k4:x.kind=4
  ·by_cases h1:x.op=1
   ·exact depArm_op1 x ps bn off n c j wB wr t4 Qn Q0 hS hP hpl hj hn hcell hMY hmay k4 h1 @hNx @hRt
   by_cases h2:x.op=2
   ·exact depArm_op2 x ps bn off n c j wB wr t4 Qn Q0 hS hP hpl hj hn hcell hMY hmay k4 h2 @hNx @hRt
   exact depArm_op3 x ps bn off n c j wB wr t4 Qn Q0 hS hP hpl hj hn hcell hMY hmay k4 (by omega) @hNx @hRt
  by_cases k5:x.kind=5
  ·by_cases h1:(ps.length:Int)<x.args
   ·exact depArm_callA x ps bn off n c j wB wr t4 Qn Q0 hS hP hpl hj hn hcell hMY hmay k5 h1 @hNx @hRt
   by_cases h2:x.args=0
   ·exact depArm_call0 x ps bn off n c j wB wr t4 Qn Q0 hS hP hpl hj hn hcell hMY hmay k5 h2 @hNx @hRt
   exact depArm_call3 x ps bn off n c j wB wr t4 Qn Q0 hS hP hpl hj hn hcell hMY hmay k5 h1 h2 @hNx @hRt
  exact depArm_push x ps bn off n c j wB wr t4 Qn Q0 hS hP hpl hj hn hcell hMY hmay k3 k4 k5 @hNx @hRt
 ·exact depArm_may x ps bn off n c j wB wr t4 Qn Q0 hS hP hpl hj hn hcell hMY (by simpa using hmay) @hNx @hRt
theorem depth_loop (xs:List Nx) (bn off n c B:Nat) (w:World) (hr:Reads w B 15 (some ⟨bn,off,none⟩) n (zBi Nx.cells xs)) (h1:1<=n) (h2:n<=1024) (hnm:∀ x∈xs,x.name.size<=1000000000000) (rd:Int) (rb:Bool) (hR:dGo xs []=(rd,rb)) :
  Rt 33 #[.agg #[.slice (some ⟨bn,off,none⟩) n c]] w (.tuple #[.int .i64 rd,.bool rb]):=by
 obtain⟨R,hRR⟩:∃ R,R=(rd,rb):=⟨_,rfl⟩
 rw[<- hRR] at hR
 have hlen:xs.length=n:=by
  have:=hr.1
  rw[zAD Nx.cells 15 Nx.cells_length] at this
  omega
 obtain⟨_,_,e0,_,hc⟩:=hr.2 (by omega)
 cases e0
 have HC:=zh hc
 have HR:=zh hR
 have HRR:=zh hRR
 have HNM:=zh hnm
 have HL:=zh hlen
 clear hr hc hR hnm hRR hlen
 go_enter Tryz.func33,Tryz.ntmps33
 go_wp2
 go_loopw [28,4] (fun o9 t4 wr=>∃ j ps,j<=n/\o9=.int .i64 (j:Nat)/\zAE (w.alloc (.cells #[.slice (some ⟨bn,off,none⟩) n c] 24)) wr 141 3 t4 ps.length (zBi P3.cells ps)/\dGo (xs.drop j) ps=R/\Pbd j ps/\ps.length<=j) (fun t _ _=>n-(intOf t).toNat)
 case atStart=>exact⟨0,[],Nat.zero_le _,rfl,⟨Below.refl _ _,World.ownsRow_nil _ _ _ _⟩,HR.out,(fun p hp=>by cases hp),Nat.le_refl _⟩
 case round =>
  obtain⟨j,ps,hj,rfl,hS,hg,hP,hpl⟩:=hrel
  have hB2:Below w.heap.size w wr:=Below.trans (show Below w.heap.size w (w.alloc (.cells #[.slice (some ⟨bn,off,none⟩) n c] 24)) from bel) (hS.1.mono (by simp))
  have hsz:=hB2.size
  by_cases hlt:j<n
  ·obtain⟨x,hx⟩:∃ x,xs[j]? =some x:=⟨_,List.getElem?_eq_getElem (show j<xs.length by have:=HL.out;omega)⟩
   have hcell:∀ i u,x.cells[i]? =some u->wr.cell? ⟨bn,off+(j*15+i),none⟩=some u:=fun i u hu=>by
    have h1:=HC.out _ u (zA9 Nx.cells 15 Nx.cells_length xs j x hx i u hu)
    exact(hB2.cell (p:=⟨bn,_,none⟩) (World.block_lt_of_cell? w _ h1)).trans h1
   have hd:xs.drop j=x::xs.drop (j+1):=by
    obtain⟨hm,hv⟩:=List.getElem?_eq_some_iff.1 hx
    rw[List.drop_eq_getElem_cons hm,hv]
   rw[hd,dGo_cons] at hg
   have hxm:=List.mem_of_getElem? hx
   have hMY:=fun w=>refs_may x (HNM.out x hxm) w
   have harm:=depArm_all x ps bn off n c j _ wr _ hS hP hpl hlt h2 hcell hMY
   refine harm _ _ _ _ _ _ _ _ _ _ _ _ _ _ _ _ _ _ _ _ _ _ _ _ _ _ _ _ _ _ _ _ _ _ _ _ _ _ _ _ _ _ _ _ _ _ _ _ _ _ _ _ _ _ _ _ _ _ _ _ _ _ _ _ _ _ _ _ _ _ _ _ _ _ _ _ _ _ _ _ _ _ _ _ _ _ _ _ _ _ _ _ _ _ _ _ _ _ _ _ _ _ _ _ _ _ _ _ _ _ _ _ _ _ _ _ _ _ _ _ _ _ _ _ _ _ _ _ _ _ _ _ _ _ _ _ _ _ _ _ _ _ _ _ _ _ _ _ _ _ _ _ _ ?_ ?_
   ·intro v4 v6 v7 v8 v9 jr kH kT nZ lM lN jV jW lQ jX jY jP jC lS jZ lT ja lU lV jQ lW jB jb jc lX jd jF je jD lY jf lZ jg lh jR jh lm mD ji jE jk jl jm mF mG jG mJ jH mM mO jS jT mP mQ mV mW mX mY mZ mf mg mi mr nC nD nG nH nI nJ nK nM nN nO nP nR jv jw jy kC kD jJ kE kF kG jU kJ kK kL kM kN kP kQ jK kR kS kU kV kW kX jL kY kZ jI ku kw kz lC lD lF lG lH lI lJ jM jO lK lL ps' w' hst hS'
    have hb:=dstep_bd hst hP hpl
    rw[hst] at hg
    have HG:=zh (show dGo (xs.drop (j+1)) ps'=R from hg)
    refine⟨?_,?_⟩
    ·(repeat apply Exists.intro)
     exact⟨⟨j+1,ps',by omega,rfl,hS',HG.out,hb.1,hb.2⟩,rfl⟩
    ·simp[intOf]
     omega
   ·intro hst v4 v6 v7 v8 v9 jr kH kT nZ lM lN jV jW lQ jX jY jP jC lS jZ lT ja lU lV jQ lW jB jb jc lX jd jF je jD lY jf lZ jg lh jR jh lm mD ji jE jk jl jm mF mG jG mJ jH mM mO jS jT mP mQ mV mW mX mY mZ mf mg mi mr nC nD nG nH nI nJ nK nM nN nO nP nR jv jw jy kC kD jJ kE kF kG jU kJ kK kL kM kN kP kQ jK kR kS kU kV kW kX jL kY kZ jI ku kw kz lC lD lF lG lH lI lJ jM jO lK lL w' hb
    rw[hst] at hg
    have h0:=HRR.out.symm.trans (show R=(0,false) from hg.symm)
    cases h0
    go_ret2
    exact⟨rfl,hB2.trans (hb.mono hsz)⟩
  ·obtain rfl:j=n:=by omega
   have HS:=zh hS
   rw[List.drop_eq_nil_of_le (by rw[HL.out];exact Nat.le_refl _)] at hg
   by_cases hl:ps.length=1
   ·obtain⟨p,rfl⟩:=List.length_eq_one_iff.1 hl
    obtain⟨g,cc,rfl,hcap,hcm,hbg,hgl,hcl,hfz⟩:=zAf HS.out.2 (by simp)
    have e0:wr.cell? ⟨g,0,none⟩=some (.int .i64 p.d):=hcl 0 _ rfl
    have e1:wr.cell? ⟨g,1,none⟩=some (.int .i64 p.b):=hcl 1 _ rfl
    have e2:wr.cell? ⟨g,2,none⟩=some (.bool p.m):=hcl 2 _ rfl
    have hg:(if p.m then (0,false) else (p.d,true))=R:=hg
    clear hcl hl hP hS hfz
    cases hpm:p.m
    ·rw[hpm] at e2 hg
     have H0:=zh (HRR.out.symm.trans hg.symm)
     clear hg hpm
     go_wp2
     go_ret2
     have h0:=H0.out
     cases h0
     exact⟨rfl,hB2⟩
    ·rw[hpm] at e2 hg
     have H0:=zh (HRR.out.symm.trans hg.symm)
     clear hg hpm
     go_wp2
     go_ret2
     have h0:=H0.out
     cases h0
     exact⟨rfl,hB2⟩
   ·have h0:R=(0,false):=by
     rw[<- hg]
     match ps,hl with
     | [],_=>rfl
     | [p],h=>exact absurd rfl h
     | _::_::_,_=>rfl
    have H0:=zh (HRR.out.symm.trans h0)
    obtain⟨A0,c0',rfl,-,-⟩:=zAk HS.out.2
    have hb:((ps.length:Int) != 1)=true:=by simp;omega
    clear hg h0 hP hS hl
    go_wp2
    go_ret2
    have h0:=H0.out
    cases h0
    exact⟨rfl,hB2⟩
theorem refs_depthX (xs:List Nx) (A:Option Addr) (n c B:Nat) (w:World) (hr:Reads w B 15 A n (zBi Nx.cells xs)) (hm:n<=1000000000000) (hnm:∀ x∈xs,x.name.size<=1000000000000) :
  Rt 33 #[.agg #[.slice A n c]] w (.tuple #[.int .i64 (depthG xs).1,.bool (depthG xs).2]):=by
 have hlen:xs.length=n:=by
  have:=hr.1
  rw[zAD Nx.cells 15 Nx.cells_length] at this
  omega
 by_cases h1:1<=n/\n<=1024
 ·have e:depthG xs=dGo xs []:=by unfold depthG;rw[if_neg (by omega)]
  rw[e]
  obtain⟨bn,off,rfl,hb,hc⟩:=hr.2 (by omega)
  exact depth_loop xs bn off n c B w hr h1.1 h1.2 hnm _ _ rfl
 ·have e:depthG xs=(0,false):=by unfold depthG;rw[if_pos (by omega)]
  rw[e]
  clear e hr hnm hlen
  by_cases h0:n<1
  ·obtain rfl:n=0:=by omega
   go_enter Tryz.func33,Tryz.ntmps33
   go_wp2
   go_ret2
   exact⟨rfl,bel⟩
  ·have i1:(1024:Int)<(n:Int):=by omega
   have i2: ¬ (n:Int)<1:=by omega
   clear h1 h0
   go_enter Tryz.func33,Tryz.ntmps33
   go_wp2
   go_ret2
   exact⟨rfl,bel⟩
theorem refs_CheckX (xs:List Nx) (A:Option Addr) (n c B:Nat) (w:World) (hr:Reads w B 15 A n (zBi Nx.cells xs)) (hm:n<=1000000000000) (hnm:∀ x∈xs,x.name.size<=1000000000000) :
  Rt 20 #[.agg #[.slice A n c]] w (.int .i64 (errI (zBD xs))):=by
 have HD:=zh (fun (w':World) (h:Reads w' B 15 A n (zBi Nx.cells xs))=>refs_depthX xs A n c B w' h hm hnm)
 have HR:=zh hr
 obtain⟨d,b,hd⟩:∃ d b,depthG xs=(d,b):=⟨_,_,rfl⟩
 have e:zBD xs=(b&&decide (d<=32)):=by unfold zBD;rw[hd]
 rw[hd] at HD
 rw[e]
 unfold errI
 clear hr hm hnm hd e
 cases b
 ·go_enter Tryz.func20,Tryz.ntmps20
  go_wp2_with(go_at_call 33;refine mB (HD.out _ (HR.out.keeps kps)) ?_;intro l m)
  all_goals go_ret
  all_goals exact⟨rfl,bel⟩
 ·by_cases h:d<=32
  ·have h2: ¬ 32<d:=by omega
   rw[decide_eq_true h]
   go_enter Tryz.func20,Tryz.ntmps20
   go_wp2_with(go_at_call 33;refine mB (HD.out _ (HR.out.keeps kps)) ?_;intro l m)
   all_goals go_ret
   all_goals exact⟨rfl,bel⟩
  ·have h2:32<d:=by omega
   rw[decide_eq_false h]
   go_enter Tryz.func20,Tryz.ntmps20
   go_wp2_with(go_at_call 33;refine mB (HD.out _ (HR.out.keeps kps)) ?_;intro l m)
   all_goals go_ret
   all_goals exact⟨rfl,bel⟩
end Go.Proofs.YtppghgnhlgoagaaGreatDoor
