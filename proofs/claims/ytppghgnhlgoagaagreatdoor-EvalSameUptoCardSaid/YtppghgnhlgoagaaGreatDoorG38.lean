/- Parts. -/
import Derived.Test.YtppghgnhlgoagaaGreatDoorG37
set_option linter.all false
set_option maxRecDepth 100000
set_option maxHeartbeats 4000000
namespace Go.Proofs.YtppghgnhlgoagaaGreatDoor
open Go Go.RowKit
open Go.Lib renaming hid->zh
theorem method_Rect (a:Addr) (w:World):(method 479 31 (.pointer (some a)) "Rect").run Tryz.prog w=.ok (366,.pointer (some a)) w:=by kernel_rfl
theorem wkArm_rect (x:Nx) (pl:List (Arg×List En)) (bn off n c j pe:Nat) (tp:Addr) (text:Int) (h:Value) (w1 wr:World) (B:Nat) (tb:Tb) (ask0 t7 asked:Value) (na:Nat) (L:List Value) (Qn:Act->World->Prop) (Q0:Exit->Act->World->Prop) {s1 s3 s4 s5 s6 s8 s9 az bQ dA aC ag aA aJ aK aB aN aO aP ae iq iw jA dY dZ dh di dm dn dw eF eG eH eP eQ eU eX eY eu fA fB fC fD fE fF fG fH fJ ah fK fM fO fP fQ fU fV fZ gB gG gI gJ gK gQ gU gV gW gX gY gZ gm gp gq gu gy gz iC iD iE iG iH iJ iK iL iM iP iQ iR iT iU iW iY iZ ig ik bC bD bF bG bH bI bJ bK bM bP bT bU bV bZ bg bi bu cO cZ cu dB dC ai dD dE dF dG dH dI dJ dK dL dM dN dP dQ dR dS dU dV dW dX aS aQ aU aV aW aX aY aZ aF aG aH aI:Value}
  (hW:WX w1 wr B tb ask0 t7 pl asked na L) (hB1:B<=w1.heap.size) (hpl:pl.length<=j) (hj:j<n) (hn:n<=1024) (hcell:∀ i u,x.cells[i]? =some u->wr.cell? ⟨bn,off+(j*15+i),none⟩=some u) (hE:AtB wr pe (zAc tp text h)) (hents:tb.ents.length<=1048576) (hna:na<=100000) (k3:x.kind=3) (hse:∀ e∈tb.ents,SzV e.v)
  (hNx:NxW x (pl.map zAH) bn off n c j pe w1 B tb text ask0 na L Qn s1 s3 s4 s5 s6 s8 aC ag aA aJ aK aB aN aO aP aF aG aH aI) :
  Code.wp Tryz.prog ((Tryz.f11.body.bind zAY).getD .skip) (Exit.then Qn (npQ Q0)) ⟨#[.pointer (some ⟨pe,0,none⟩),s1,.iface 31 (.pointer (some ⟨tb.pt,0,none⟩)),s3,s4,s5,s6,t7,s8,s9,az,bQ,dA,aC,ag,aA,aJ,aK,aB,aN,aO,aP,.slice (some ⟨bn,off,none⟩) n c,.int .i64 n,.int .i64 j,ae,iq,iw,jA,dY,dZ,dh,di,dm,dn,dw,eF,eG,eH,eP,eQ,eU,eX,eY,eu,fA,fB,fC,fD,fE,fF,fG,fH,fJ,ah,fK,fM,fO,fP,fQ,fU,fV,fZ,gB,gG,gI,gJ,gK,gQ,gU,gV,gW,gX,gY,gZ,gm,gp,gq,gu,gy,gz,iC,iD,iE,iG,iH,iJ,iK,iL,iM,iP,iQ,iR,iT,iU,iW,iY,iZ,ig,ik,bC,bD,bF,bG,bH,bI,bJ,bK,bM,bP,bT,bU,bV,bZ,bg,bi,bu,cO,cZ,cu,dB,dC,ai,dD,dE,dF,dG,dH,dI,dJ,dK,dL,dM,dN,dP,dQ,dR,dS,dU,dV,dW,dX,aS,aQ,aU,aV,aW,aX,aY,aZ,aF,aG,aH,aI],[]⟩ wr:=by
 obtain⟨i0,hi,hz0,hz1,hz2⟩:=info_parts info_GX
 have c0:=hcell 0 _ rfl
 have c1:=hcell 1 _ rfl
 have c2:=hcell 2 _ rfl
 have c3:=hcell 3 _ rfl
 have c4:=hcell 4 _ rfl
 have c5:=hcell 5 _ rfl
 have c6:=hcell 6 _ rfl
 have c7:=hcell 7 _ rfl
 have c8:=hcell 8 _ rfl
 have c9:=hcell 9 _ rfl
 have c10:=hcell 10 _ rfl
 have c11:=hcell 11 _ rfl
 have c12:=hcell 12 _ rfl
 have c13:=hcell 13 _ rfl
 have c14:=hcell 14 _ rfl
 simp only[<- Nat.add_assoc,Nat.add_zero] at c0 c1 c2 c3 c4 c5 c6 c7 c8 c9 c10 c11 c12 c13 c14
 have HW:=zh hW
 have HNX:=zh @hNx
 have HE:=zh hE
 have hsz:=hW.kept.2.2.2.1
 clear hcell hNx hW hE
 conv=>arg 2;whnf
 have hst:zBv tb text (pl.map zAH) x=(pl.map zAH++[.rect x.top x.left x.bottom x.right (zCE tb.ents x.top x.left x.bottom x.right)],[akRect x.top x.left x.bottom x.right]):=by unfold zBv;rw[if_neg (by omega),if_neg (by omega),if_pos k3]
 have HST:=zh hst
 have hn1:(x.kind==1)=false:=by simp[k3]
 have hn2:(x.kind==2)=false:=by simp[k3]
 have kk3:(x.kind==3)=true:=by simp[k3]
 have HSZ:=zh (rectN_sz (t:=x.top) (le:=x.left) (b:=x.bottom) (r:=x.right) hse)
 have HLE:=zh (Nat.le_trans (rectN_le tb.ents x.top x.left x.bottom x.right) hents)
 have HAW:=zh (show asked.ownBlock≠some wr.heap.size from fun e=>by have:=(HW.out.src.own.lt _ e).2;omega)
 have HPT:=zh (show wr.heap.size≠tb.pt from by have h1:=HW.out.src.lt;have h2:=HW.out.src.le;omega)
 obtain⟨RR,hRR⟩:∃ RR,RR=(zCE tb.ents x.top x.left x.bottom x.right):=⟨_,rfl⟩
 have hmth:=method_Rect ⟨tb.pt,0,none⟩
 clear hst k3 hse
 go_upto_region 19 with fail
 go_region_law (first
  | (go_simp;go_at_call 366;refine(table_RectG x.top x.left x.bottom x.right _ B tb asked na L (HW.out.src.below bel) hents (by omega)).mono ?_;rintro e w2 ⟨v2,ask2,rfl,hown2,hs2,hk2,hw2,hne2⟩;have HW2:=zh (WX.turn HW.out hB1 bel hs2 hk2 hw2 (WX.lfOne HW.out _));have hsw2:=HW2.out.kept.2.2.2.1;have hsx2:=hk2.2.2.2.1;obtain⟨A2,cc2,rfl,hei⟩:=entsIn_own (base:=w1.heap.size) (t7:=t7) x.top x.left x.bottom x.right hown2 (by simp;omega) hne2 (fun k hk=>by have:=(HW.out.own.lt k hk).2;simp;omega);have HEI:=zh hei;have p8:=hk2.cell (b:=wr.heap.size) (i:=8) HPT.out HAW.out ((AtB.new rfl) 8 _ rfl);have p9:=hk2.cell (b:=wr.heap.size) (i:=9) HPT.out HAW.out ((AtB.new rfl) 9 _ rfl);have p10:=hk2.cell (b:=wr.heap.size) (i:=10) HPT.out HAW.out ((AtB.new rfl) 10 _ rfl);have p11:=hk2.cell (b:=wr.heap.size) (i:=11) HPT.out HAW.out ((AtB.new rfl) 11 _ rfl);have lp8:=zA2 p8;clear hs2 hk2 hw2 hown2 hne2 hei)
  | (refine step_append_lies _ (by rfl) _ _ _ (by rfl) w1.heap.size 91 i0 _ 11 112 Tryz.underlying84 hi hz0 hz1 hz2 (by rfl) (by decide) t7 pl.length (zBi Arg.cells (pl.map Prod.fst)) (by rfl) (zA7 HW2.out.own bel) _ 1 1 ((rArg x.top x.left x.bottom x.right A2 (zCE tb.ents x.top x.left x.bottom x.right).length cc2).cells) (by rfl) (by rfl) (by exact fun i u hu=>zAJ (by simp) i u hu) (Arg.cells_one _) (by decide) (by simp only[maxLen];omega) (by omega) (by simp;omega) _ rfl ?_;intro g cap w3 hown hgrow hat hlt))
 all_goals
  go_wp2_with fail
  have HR3:=zh (WX.pushP (p:=(rArg x.top x.left x.bottom x.right A2 (zCE tb.ents x.top x.left x.bottom x.right).length cc2,(zCE tb.ents x.top x.left x.bottom x.right))) HW2.out hB1 bel hgrow hown hat (HEI.out.below bel) (wf_rArg _ _ _ _ _ _ _ _) (sz_rArg HLE.out HSZ.out))
  clear hown hgrow hat
  go_wp2
  exact HNX.out (pl++[(rArg x.top x.left x.bottom x.right A2 (zCE tb.ents x.top x.left x.bottom x.right).length cc2,(zCE tb.ents x.top x.left x.bottom x.right))]) ask2 (na+1) (L++(akRect x.top x.left x.bottom x.right).cells) _ (by rw[HST.out,zBY];rfl) (by rw[HST.out];simp[zBi]) (by omega) HR3.out
theorem wkArm_op1 (x:Nx) (bn off n c j pe:Nat) (tp:Addr) (text:Int) (h:Value) (w1 wr:World) (B:Nat) (tb:Tb) (ask0 t7 asked:Value) (na:Nat) (L:List Value) (Qn:Act->World->Prop) (Q0:Exit->Act->World->Prop) {s1 s3 s4 s5 s6 s8 s9 az bQ dA aC ag aA aJ aK aB aN aO aP ae iq iw jA dY dZ dh di dm dn dw eF eG eH eP eQ eU eX eY eu fA fB fC fD fE fF fG fH fJ ah fK fM fO fP fQ fU fV fZ gB gG gI gJ gK gQ gU gV gW gX gY gZ gm gp gq gu gy gz iC iD iE iG iH iJ iK iL iM iP iQ iR iT iU iW iY iZ ig ik bC bD bF bG bH bI bJ bK bM bP bT bU bV bZ bg bi bu cO cZ cu dB dC ai dD dE dF dG dH dI dJ dK dL dM dN dP dQ dR dS dU dV dW dX aS aQ aU aV aW aX aY aZ aF aG aH aI:Value} (pre:List (Arg×List En)) (a:V)
  (hW:WX w1 wr B tb ask0 t7 (pre++[(vArg a,[])]) asked na L) (hB1:B<=w1.heap.size) (hpl:(pre++[(vArg a,[])]).length<=j) (hj:j<n) (hn:n<=1024) (hcell:∀ i u,x.cells[i]? =some u->wr.cell? ⟨bn,off+(j*15+i),none⟩=some u) (hE:AtB wr pe (zAc tp text h)) (hents:tb.ents.length<=1048576) (hna:na<=100000) (k4:x.kind=4) (hu:x.op=1) (ha:Is64 a.num) (hv:SzV (oneG x.op a))
  (hNx:NxW x ((pre++[(vArg a,[])]).map zAH) bn off n c j pe w1 B tb text ask0 na L Qn s1 s3 s4 s5 s6 s8 aC ag aA aJ aK aB aN aO aP aF aG aH aI) :
  Code.wp Tryz.prog ((Tryz.f11.body.bind zAY).getD .skip) (Exit.then Qn (npQ Q0)) ⟨#[.pointer (some ⟨pe,0,none⟩),s1,.iface 31 (.pointer (some ⟨tb.pt,0,none⟩)),s3,s4,s5,s6,t7,s8,s9,az,bQ,dA,aC,ag,aA,aJ,aK,aB,aN,aO,aP,.slice (some ⟨bn,off,none⟩) n c,.int .i64 n,.int .i64 j,ae,iq,iw,jA,dY,dZ,dh,di,dm,dn,dw,eF,eG,eH,eP,eQ,eU,eX,eY,eu,fA,fB,fC,fD,fE,fF,fG,fH,fJ,ah,fK,fM,fO,fP,fQ,fU,fV,fZ,gB,gG,gI,gJ,gK,gQ,gU,gV,gW,gX,gY,gZ,gm,gp,gq,gu,gy,gz,iC,iD,iE,iG,iH,iJ,iK,iL,iM,iP,iQ,iR,iT,iU,iW,iY,iZ,ig,ik,bC,bD,bF,bG,bH,bI,bJ,bK,bM,bP,bT,bU,bV,bZ,bg,bi,bu,cO,cZ,cu,dB,dC,ai,dD,dE,dF,dG,dH,dI,dJ,dK,dL,dM,dN,dP,dQ,dR,dS,dU,dV,dW,dX,aS,aQ,aU,aV,aW,aX,aY,aZ,aF,aG,aH,aI],[]⟩ wr:=by
 obtain⟨i0,hi,hz0,hz1,hz2⟩:=info_parts info_GX
 have c0:=hcell 0 _ rfl
 have c1:=hcell 1 _ rfl
 have c2:=hcell 2 _ rfl
 have c3:=hcell 3 _ rfl
 have c4:=hcell 4 _ rfl
 have c5:=hcell 5 _ rfl
 have c6:=hcell 6 _ rfl
 have c7:=hcell 7 _ rfl
 have c8:=hcell 8 _ rfl
 have c9:=hcell 9 _ rfl
 have c10:=hcell 10 _ rfl
 have c11:=hcell 11 _ rfl
 have c12:=hcell 12 _ rfl
 have c13:=hcell 13 _ rfl
 have c14:=hcell 14 _ rfl
 simp only[<- Nat.add_assoc,Nat.add_zero] at c0 c1 c2 c3 c4 c5 c6 c7 c8 c9 c10 c11 c12 c13 c14
 have HW:=zh hW
 have HNX:=zh @hNx
 have HE:=zh hE
 have hsz:=hW.kept.2.2.2.1
 clear hcell hNx hW hE
 conv=>arg 2;whnf
 have hn1:(x.kind==1)=false:=by simp[k4]
 have hn2:(x.kind==2)=false:=by simp[k4]
 have hn3:(x.kind==3)=false:=by simp[k4]
 have kk4:(x.kind==4)=true:=by simp[k4]
 have u1:(x.op==1)=true:=by simp[hu]
 have hst:zBv tb text ((pre++[(vArg a,[])]).map zAH) x=((pre++[(vArg (oneG x.op a),[])]).map zAH,[]):=by
  unfold zBv
  rw[if_neg (by omega),if_neg (by omega),if_neg (by omega),if_pos k4,zBY,zBY]
  exact congrArg (fun l=>(l,[])) (opG_one (.inl hu) _ a)
 have HST:=zh hst
 have HV:=zh hv
 have HA:=zh ha
 obtain⟨m,hm⟩:∃ m,m=pre.length:=⟨_,rfl⟩
 have hl2:(pre++[(vArg a,([]:List En))]).length=m+1:=by rw[hm];simp
 have hO:=HW.out.own
 rw[hl2] at hO hpl
 obtain⟨g,cc,rfl,hcap,hcm,hbg,hgl,hcl,hfz⟩:=zAf hO (by omega)
 have ha:((pre++[(vArg a,([]:List En))]).map Prod.fst)[m]? =some (vArg a):=by rw[hm];simp
 have a1:=hcl _ _ (zA9 Arg.cells 11 Arg.cells_length _ m (vArg a) ha 1 _ rfl)
 have fa1:=hfz (m*11+1)
 have a2:=hcl _ _ (zA9 Arg.cells 11 Arg.cells_length _ m (vArg a) ha 2 _ rfl)
 have fa2:=hfz (m*11+2)
 have a3:=hcl _ _ (zA9 Arg.cells 11 Arg.cells_length _ m (vArg a) ha 3 _ rfl)
 have fa3:=hfz (m*11+3)
 have a4:=hcl _ _ (zA9 Arg.cells 11 Arg.cells_length _ m (vArg a) ha 4 _ rfl)
 have fa4:=hfz (m*11+4)
 have a5:=hcl _ _ (zA9 Arg.cells 11 Arg.cells_length _ m (vArg a) ha 5 _ rfl)
 have fa5:=hfz (m*11+5)
 have hw0:IntKind.i64.wrap (m:Int)=m:=by rw[IntKind.wrap_i64];omega
 have hw4:(0:Int)<=(m:Int):=by omega
 have hw1:IntKind.i64.wrap ((m:Int)+1-1)=(m:Int):=by rw[IntKind.wrap_i64];omega
 have hw5:(m:Int)<(m:Int)+1:=by omega
 have HM:=zh hm
 clear hst hu k4 hv hcl hfz ha hO hm hl2
 go_upto_region 23 with fail
 go_cut [122] from 25 to 149 (fun ai wx=>Below wr.heap.size (setV wr g (m*11+1) (oneG x.op a)) wx)
 case first =>
  go_region_law ((go_simp;go_at_call 23;refine mB (eval_one x.op a HA.out _) ?_;intro l5 m5))
  all_goals(go_wp2_with fail;go_meet;unfold setV;exact bel)
 case rest =>
  obtain rfl:=HM.out
  have HR3:=zh (WX.op1 HW.out hB1 HV.out hcut)
  clear hcut
  go_wp2
  exact HNX.out (pre++[(vArg (oneG x.op a),[])]) asked na L _ (by rw[HST.out]) (by rw[HST.out];simp[zBi]) (by omega) HR3.out
end Go.Proofs.YtppghgnhlgoagaaGreatDoor
