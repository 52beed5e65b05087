/- Parts. -/
import Derived.Test.YtppghgnhlgoagaaGreatDoorG37
set_option linter.all false
set_option maxRecDepth 100000
set_option maxHeartbeats 4000000
namespace Go.Proofs.YtppghgnhlgoagaaGreatDoor
open Go Go.RowKit
open Go.Lib renaming hid->zh
theorem wkArm_ask (x:Nx) (bn off n c j pe:Nat) (tp:Addr) (text:Int) (h:Value) (w1 wr:World) (B:Nat) (tb:Tb) (ask0 t7 asked:Value) (na:Nat) (L:List Value) (Qn:Act->World->Prop) (Q0:Exit->Act->World->Prop) {s1 s3 s4 s5 s6 s8 s9 az bQ dA aC ag aA aJ aK aB aN aO aP ae iq iw jA dY dZ dh di dm dn dw eF eG eH eP eQ eU eX eY eu fA fB fC fD fE fF fG fH fJ ah fK fM fO fP fQ fU fV fZ gB gG gI gJ gK gQ gU gV gW gX gY gZ gm gp gq gu gy gz iC iD iE iG iH iJ iK iL iM iP iQ iR iT iU iW iY iZ ig ik bC bD bF bG bH bI bJ bK bM bP bT bU bV bZ bg bi bu cO cZ cu dB dC ai dD dE dF dG dH dI dJ dK dL dM dN dP dQ dR dS dU dV dW dX aS aQ aU aV aW aX aY aZ aF aG aH aI:Value} (pre args:List (Arg×List En))
  (hW:WX w1 wr B tb ask0 t7 (pre++args) asked na L) (hB1:B<=w1.heap.size) (hpl:(pre++args).length<=j) (hj:j<n) (hn:n<=1024) (hcell:∀ i u,x.cells[i]? =some u->wr.cell? ⟨bn,off+(j*15+i),none⟩=some u) (hE:AtB wr pe (zAc tp text h)) (hents:tb.ents.length<=1048576) (hna:na<=100000) (k5:x.kind=5) (har:x.args=(args.length:Int)) (har1:0<args.length) (h16:args.length<=16) (hname:x.name=⟨#[65,83,75]⟩) (hv:SzV (askG tb text (args.map zAH)).1) (hh:HostOf tb h) (htold:tb.told.length<=1048576) (hpe:pe≠tb.pt) (hpe2:asked.ownBlock≠some pe)
  (hNx:NxW x ((pre++args).map zAH) bn off n c j pe w1 B tb text ask0 na L Qn s1 s3 s4 s5 s6 s8 aC ag aA aJ aK aB aN aO aP aF aG aH aI) :
  Code.wp Tryz.prog ((Tryz.f11.body.bind zAY).getD .skip) (Exit.then Qn (npQ Q0)) ⟨#[.pointer (some ⟨pe,0,none⟩),s1,.iface 31 (.pointer (some ⟨tb.pt,0,none⟩)),s3,s4,s5,s6,t7,s8,s9,az,bQ,dA,aC,ag,aA,aJ,aK,aB,aN,aO,aP,.slice (some ⟨bn,off,none⟩) n c,.int .i64 n,.int .i64 j,ae,iq,iw,jA,dY,dZ,dh,di,dm,dn,dw,eF,eG,eH,eP,eQ,eU,eX,eY,eu,fA,fB,fC,fD,fE,fF,fG,fH,fJ,ah,fK,fM,fO,fP,fQ,fU,fV,fZ,gB,gG,gI,gJ,gK,gQ,gU,gV,gW,gX,gY,gZ,gm,gp,gq,gu,gy,gz,iC,iD,iE,iG,iH,iJ,iK,iL,iM,iP,iQ,iR,iT,iU,iW,iY,iZ,ig,ik,bC,bD,bF,bG,bH,bI,bJ,bK,bM,bP,bT,bU,bV,bZ,bg,bi,bu,cO,cZ,cu,dB,dC,ai,dD,dE,dF,dG,dH,dI,dJ,dK,dL,dM,dN,dP,dQ,dR,dS,dU,dV,dW,dX,aS,aQ,aU,aV,aW,aX,aY,aZ,aF,aG,aH,aI],[]⟩ wr:=by
 obtain⟨i0,hi,hz0,hz1,hz2⟩:=info_parts info_GX
 have c0:=hcell 0 _ rfl
 have c1:=hcell 1 _ rfl
 have c2:=hcell 2 _ rfl
 have c3:=hcell 3 _ rfl
 have c4:=hcell 4 _ rfl
 have c5:=hcell 5 _ rfl
 have c6:=hcell 6 _ rfl
 have c7:=hcell 7 _ rfl
 have c8:=hcell 8 _ rfl
 have c9:=hcell 9 _ rfl
 have c10:=hcell 10 _ rfl
 have c11:=hcell 11 _ rfl
 have c12:=hcell 12 _ rfl
 have c13:=hcell 13 _ rfl
 have c14:=hcell 14 _ rfl
 simp only[<- Nat.add_assoc,Nat.add_zero] at c0 c1 c2 c3 c4 c5 c6 c7 c8 c9 c10 c11 c12 c13 c14
 have HW:=zh hW
 have HNX:=zh @hNx
 have HE:=zh hE
 have hsz:=hW.kept.2.2.2.1
 clear hcell hNx hW hE
 conv=>arg 2;whnf
 have hn1:(x.kind==1)=false:=by simp[k5]
 have hn2:(x.kind==2)=false:=by simp[k5]
 have hn3:(x.kind==3)=false:=by simp[k5]
 have hn4:(x.kind==4)=false:=by simp[k5]
 have q1:x.name.toList=[65,83,75]:=by rw[hname,ByteArray.toList_eq]
 have q2:(x.name.toList==[65,83,75])=true:=by simp[q1]
 obtain⟨m,hm⟩:∃ m,m=pre.length:=⟨_,rfl⟩
 obtain⟨R,K,hRK⟩:∃ R K,askG tb text (args.map zAH)=(R,K):=⟨_,_,rfl⟩
 have hv:SzV R:=by have h:=hv;rw[hRK] at h;exact h
 have HV:=zh hv
 have HM:=zh hm
 have HPT:=zh (show wr.heap.size≠tb.pt/\wr.heap.size+1≠tb.pt from by have h1:=HW.out.src.lt;have h2:=HW.out.src.le;omega)
 have HAW:=zh (show asked.ownBlock≠some wr.heap.size/\asked.ownBlock≠some (wr.heap.size+1) from ⟨fun e=>by have:=(HW.out.src.own.lt _ e).2;omega,fun e=>by have:=(HW.out.src.own.lt _ e).2;omega⟩)
 have HBW:=zh HW.out.src.le
 obtain⟨ar,har0⟩:∃ ar,ar=args.length:=⟨_,rfl⟩
 have hl2:(pre++args).length=m+ar:=by rw[hm,har0];simp
 rw[<- har0] at har h16
 rw[har] at c14
 have hst:zBv tb text ((pre++args).map zAH) x=((pre++[(vArg R,[])]).map zAH,K):=by
  unfold zBv
  rw[if_neg (by omega),if_neg (by omega),if_neg (by omega),if_neg (by omega),if_pos hname,har,Int.toNat_natCast,List.length_map,hl2,Nat.add_sub_cancel,List.map_append,List.take_append_of_le_length (by simp;omega),List.take_of_length_le (by simp;omega),List.drop_append_of_le_length (by simp;omega),List.drop_eq_nil_of_le (by simp;omega),List.nil_append,hRK,zBY]
  rfl
 have HST:=zh hst
 have HAR:=zh har0
 have hO:=HW.out.own
 rw[hl2] at hO hpl
 obtain⟨g,cc,rfl,hcap,hcm,hbg,hgl,hcl,hfz⟩:=zAf hO (by omega)
 have hmc:m<cc:=by omega
 have hmcc:m<=cc:=by omega
 have hw0:IntKind.i64.wrap (m:Int)=m:=by rw[IntKind.wrap_i64];omega
 have hw4:(0:Int)<=(m:Int):=by omega
 have hw1:IntKind.i64.wrap ((m:Int)+1-1)=(m:Int):=by rw[IntKind.wrap_i64];omega
 have hw5:(m:Int)<(m:Int)+1:=by omega
 have hw1':IntKind.i64.wrap ((m:Int)+(ar:Int)-(ar:Int))=(m:Int):=by rw[IntKind.wrap_i64];omega
 have hw9:(m:Int)<=(m:Int)+(ar:Int):=by omega
 have HASK:=zh (show ∀ w':World,Below wr.heap.size wr w'->Calls Tryz.prog 25 #[.pointer (some ⟨pe,0,none⟩),.slice (some ⟨g,m*11,none⟩) ar (cc-m)] w' fun e w''=>e=.returned (vG R)/\AskPost w' w'' B tb asked na L K from fun w' hb=>by
  have h:=eval_askG pe tp text h args (some ⟨g,m*11,none⟩) (cc-m) w' B tb asked na L (HW.out.src.below hb) hna htold hpe hpe2 (HE.out.below hb) hh (by omega) (fun p hp=>HW.out.wf p (List.mem_append_right _ hp)) (fun p hp=>⟨g,m*11,rfl,by rw[hm];exact HW.out.argAt hb p (by rw[hp];rfl)⟩)
  rw[hRK,<-har0] at h
  exact h)
 clear hst hv hm har0 hO hl2 hcl hfz hname k5 har hRK hh
 go_upto_region 11 with fail
 go_cut [54] from 25 to 149 (fun ah wx=>∃ ask2 na2,WX w1 wx B tb ask0 (.slice (some ⟨g,0,none⟩) (m+ar) cc) (pre++args) ask2 na2 (L++zBi Ak.cells K)/\na2<=na+1/\wx.cell? ⟨wr.heap.size,14,none⟩=some (.int .i64 ar)/\AtB wx (wr.heap.size+1) [.int .i64 R.tag,.int .i64 R.num,.string R.str,.bool R.is,.int .i64 R.code])
 case first =>
  go_wp2_with(go_at_call 25;refine(HASK.out _ bel).mono ?_;rintro e w2 ⟨rfl,ask2,na2,hs2,hna2,hn0,hk2,hw2⟩;have KL:=zh (WX.lfApp HW.out K hn0);have hz:w2.heap[wr.heap.size+1]? =some (.cells #[.int .i64 0,.int .i64 0,.string ⟨#[]⟩,.bool false,.int .i64 0] 44 (0,0)):=(hk2.2.2.2.2 _ (by simp) HPT.out.2 HAW.out.2).trans (by have h:=heap_alloc_new (wr.alloc (nObj x ar)) zObj;simpa using h);have q14:=hk2.cell (b:=wr.heap.size) (i:=14) HPT.out.1 HAW.out.1 (zAB ((AtB.new rfl) 14 _ rfl) _);have v0:w2.cell? ⟨wr.heap.size+1,0,none⟩=some (.int .i64 0):=cell_of_row w2 _ 0 _ _ (0,0) hz;have v1:w2.cell? ⟨wr.heap.size+1,1,none⟩=some (.int .i64 0):=cell_of_row w2 _ 1 _ _ (0,0) hz;have v2:w2.cell? ⟨wr.heap.size+1,2,none⟩=some (.string ⟨#[]⟩):=cell_of_row w2 _ 2 _ _ (0,0) hz;have v3:w2.cell? ⟨wr.heap.size+1,3,none⟩=some (.bool false):=cell_of_row w2 _ 3 _ _ (0,0) hz;have v4:w2.cell? ⟨wr.heap.size+1,4,none⟩=some (.int .i64 0):=cell_of_row w2 _ 4 _ _ (0,0) hz;have f0:=frozen_of_row w2 (wr.heap.size+1) 0 _ _ hz;have f1:=frozen_of_row w2 (wr.heap.size+1) 1 _ _ hz;have f2:=frozen_of_row w2 (wr.heap.size+1) 2 _ _ hz;have f3:=frozen_of_row w2 (wr.heap.size+1) 3 _ _ hz;have f4:=frozen_of_row w2 (wr.heap.size+1) 4 _ _ hz;have KK:=zh ((zBu.of_below (pt:=tb.pt) (row:=asked.ownBlock) (show Below wr.heap.size wr ((wr.alloc (nObj x ar)).alloc zObj) from bel)).trans hk2 (.inl rfl));have KS:=zh hs2;have KW:=zh hw2;have KN:=zh hna2;have HZ:=zh hz;clear hz hs2 hk2 hw2 hna2 hn0)
  all_goals
   go_meet
   have ha1:B<=wr.heap.size+1:=by have:=HBW.out;omega
   have ha3:ask2.ownBlock≠some (wr.heap.size+1):=fun e=>by
    rcases KW.out with h|h
    ·exact HAW.out.2 (h ▸ e)
    ·have h3:=h _ e;rw[alz,alz] at h3;omega
   have ha4:wr.heap.size<=wr.heap.size+1:=by omega
   have hw2':ask2.ownBlock=asked.ownBlock∨∀ k,ask2.ownBlock=some k->wr.heap.size<=k:=KW.out.imp id fun h k hk=>by have:=h k hk;simp at this;omega
   exact⟨ask2,na2,WX.turn HW.out hB1 (Below.refl _ _) (((((KS.out.set ha1 ha3).set ha1 ha3).set ha1 ha3).set ha1 ha3).set ha1 ha3) (((((KK.out.set ha4).set ha4).set ha4).set ha4).set ha4) hw2' KL.out,KN.out,zAF (zAF (zAF (zAF (zAF q14 (by omega)) (by omega)) (by omega)) (by omega)) (by omega),setV_at (AtB.some5 (show AtB w2 (wr.heap.size+1) [.int .i64 0,.int .i64 0,.string ⟨#[]⟩,.bool false,.int .i64 0] from fun j u hu=>(cell_of_row w2 _ j _ _ (0,0) HZ.out).trans (by simpa using hu)))⟩
 case rest =>
  obtain⟨ask2,na2,hW2,hna2,h14,hRv⟩:=hcut
  have HW2:=zh hW2
  have r0:=hRv 0 _ rfl
  have r1:=hRv 1 _ rfl
  have r2:=hRv 2 _ rfl
  have r3:=hRv 3 _ rfl
  have r4:=hRv 4 _ rfl
  have l14:=zA2 h14
  have lr:=zA2 r0
  have hsx:=hW2.kept.2.2.2.1
  clear hRv hW2 c0 c1 c2 c3 c4 c5 c6 c7 c8 c9 c10 c11 c12 c13 c14
  go_wp2
  go_region_law ((refine step_append_lies _ (by rfl) _ _ _ (by rfl) w1.heap.size 91 i0 _ 11 112 Tryz.underlying84 hi hz0 hz1 hz2 (by rfl) (by decide) (.slice (some ⟨g,0,none⟩) m cc) m (zBi Arg.cells (pre.map Prod.fst)) (by rfl) (zA7 (by have h:=(WX.pop (pre:=pre) (args:=args) (by rw[<- HM.out,<-HAR.out];exact HW2.out)).own;rw[<- HM.out] at h;exact h) bel) _ 1 1 ((vArg R).cells) (by rfl) (by rfl) (by exact fun i u hu=>zAJ (by simp) i u hu) (Arg.cells_one _) (by decide) (by simp only[maxLen];omega) (by omega) (by simp;omega) _ rfl ?_;intro g' cap w3 hown hgrow hat hlt))
  all_goals
   go_wp2_with fail
   have HR3:=zh (WX.pushV (WX.pop (pre:=pre) (args:=args) (by rw[<- HM.out,<-HAR.out];exact HW2.out)) hB1 bel hgrow (by rw[<- HM.out];exact hown) hat HV.out)
   clear hown hgrow hat
   go_wp2
   exact HNX.out (pre++[(vArg R,[])]) ask2 na2 (L++zBi Ak.cells K) _ (by rw[HST.out]) (by rw[HST.out]) hna2 (by have h:=HR3.out;rw[<- HM.out] at h;exact h)
end Go.Proofs.YtppghgnhlgoagaaGreatDoor
