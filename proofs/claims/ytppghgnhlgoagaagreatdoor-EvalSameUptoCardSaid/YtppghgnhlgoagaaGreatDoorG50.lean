/- Parts. -/
import Derived.Test.YtppghgnhlgoagaaGreatDoorG49
set_option linter.all false
set_option maxRecDepth 100000
set_option maxHeartbeats 4000000
namespace Go.Proofs.YtppghgnhlgoagaaGreatDoor
open Go Go.RowKit
open Go.Lib renaming hid->zh
theorem info_P5:(Tryz.prog.info? 103).map (fun i=>(i.zero,i.size,i.bytes))=some (some (.agg #[.int .i64 0,.int .i64 0,.bool false]),3,24):=by kernel_rfl
theorem pGo_cons (x:Nx) (xs:List Nx) (l:List P3):pGo (x::xs) l=match zBt l x with
 | none=>none
 | some l'=>pGo xs l':=rfl
theorem stk_formZ {w:World} {base e size n:Nat} {v:Value} {xs:List Value} (h:w.ownsRow base e size v n xs):(v=.slice none 0 0/\n=0)∨∃ g c,v=.slice (some ⟨g,0,none⟩) n c/\n<=c/\c<=maxLen/\(∀ j u,xs[j]? =some u->w.cell? ⟨g,j,none⟩=some u):=by
 rcases h.2 with h1|⟨g,cap,cur,e1,hg,hh,h1,h2,h3,h4⟩
 ·exact .inl h1
 ·subst e1
  refine .inr ⟨g,cap,rfl,h1,h2,fun j u hu=> ?_⟩
  have hj:j<xs.length:=(List.getElem?_eq_some_iff.1 hu).1
  rw[h.cellAt j (by rw[<- h.1];exact hj),hu]
theorem flat_oneP (l:List P3):∀ u∈zBi P3.cells l,u.oneCell'=true:=fun u hu=>by
 obtain⟨e,_,he⟩:=List.mem_flatMap.1 hu
 exact P3.cells_one e u he
set_option maxHeartbeats 16000000 in
theorem ref05_put (xs:List Nx) (A:Option Addr) (n c B:Nat) (w:World) (hr:Reads w B 15 A n (zBi Nx.cells xs)) (hm:n<=1024) (hnm:∀ x∈xs,x.name.size<=1000000000000) (h64:∀ x∈xs,Is64 x.v.num) (R:Option (List P3)) (hR:pGo xs []=R) :
  Calls Tryz.prog 27 #[.slice A n c] w fun e w'=>∃ v:Value,e=.returned (.tuple #[v,.bool R.isSome])/\Below w.heap.size w w'/\∀ l,R=some l->w'.ownsRow w.heap.size 103 3 v l.length (zBi P3.cells l):=by
 obtain⟨i0,hi,hz0,hz1,hz2⟩:=info_parts info_P5
 have hlen:xs.length=n:=by
  have:=hr.1
  rw[zAD Nx.cells 15 Nx.cells_length] at this
  omega
 have HR:=zh hr
 have HX:=zh (And.intro hnm h64)
 have HL:=zh hlen
 have HP:=zh hR
 clear hr hnm h64 hlen hR
 go_enter Tryz.func27,Tryz.ntmps27
 go_wp2
 go_loopw [5,4] (fun t5 t4 wr=>∃ (j:Nat) (ps:List P3),j<=n/\t5=.int .i64 j/\zAE w wr 103 3 t4 ps.length (zBi P3.cells ps)/\Pbd j ps/\ps.length<=j/\RowKit.Hid (pGo (xs.drop j) ps=R)) (fun t _ _=>n-(intOf t).toNat)
 case atStart=>exact⟨0,[],Nat.zero_le _,rfl,⟨Below.refl _ _,World.ownsRow_nil _ _ _ _⟩,(fun p hp=>by cases hp),Nat.le_refl _,HP⟩
 case round =>
  obtain⟨j,ps,hj,rfl,hS,hP,hpl,hg⟩:=hrel
  have hB2:Below w.heap.size w wr:=hS.1
  have hsz:=hB2.size
  by_cases hlt:j<n
  ·obtain⟨x,hx⟩:∃ x,xs[j]? =some x:=⟨_,List.getElem?_eq_getElem (show j<xs.length by have:=HL.out;omega)⟩
   obtain⟨bk,off,rfl,_,hc⟩:=HR.out.2 (by omega)
   have hcell:∀ i u,x.cells[i]? =some u->wr.cell? ⟨bk,off+(j*15+i),none⟩=some u:=fun i u hu=>cell_below (hc _ u (zA9 Nx.cells 15 Nx.cells_length xs j x hx i u hu)) hB2
   have hd:xs.drop j=x::xs.drop (j+1):=by
    obtain⟨hm,hv⟩:=List.getElem?_eq_some_iff.1 hx
    rw[List.drop_eq_getElem_cons hm,hv]
   have hG:=hg.out
   rw[hd,pGo_cons] at hG
   have hxm:=List.mem_of_getElem? hx
   have HND:=zh (fun w=>ref05_node x (HX.out.1 x hxm) (HX.out.2 x hxm) w)
   have HTK:=zh (fun w=>ref05_takes x w)
   have c0:=hcell 0 _ rfl
   have c1:=hcell 1 _ rfl
   have c2:=hcell 2 _ rfl
   have c3:=hcell 3 _ rfl
   have c4:=hcell 4 _ rfl
   have c5:=hcell 5 _ rfl
   have c6:=hcell 6 _ rfl
   have c7:=hcell 7 _ rfl
   have c8:=hcell 8 _ rfl
   have c9:=hcell 9 _ rfl
   have c10:=hcell 10 _ rfl
   have c11:=hcell 11 _ rfl
   have c12:=hcell 12 _ rfl
   have c13:=hcell 13 _ rfl
   have c14:=hcell 14 _ rfl
   simp only[<- Nat.add_assoc,Nat.add_zero] at c0 c1 c2 c3 c4 c5 c6 c7 c8 c9 c10 c11 c12 c13 c14
   have lc:=zA2 c0
   clear hcell hd hc hx
   by_cases hmay:zBj x=true
   ·have htb:=take_bd hmay
    rw[hmay] at HND
    obtain⟨kn,hkn⟩:∃ kn:Nat,takeG x=(kn:Int):=⟨(takeG x).toNat,by omega⟩
    by_cases hks:ps.length<kn
    ·rw[dstep_take hmay (by omega)] at hG
     obtain rfl:R=none:=hG.symm
     obtain⟨A0,cc,rfl,-,-⟩:=zAk hS.2
     rw[hkn] at HTK
     have hgt:(ps.length:Int)<(kn:Int):=by omega
     clear hG hg hmay hS hP hkn htb
     go_wp2_with(first|(go_at_call 46;refine mB (HND.out _) ?_;intro l1 n1)|(go_at_call 47;refine mB (HTK.out _) ?_;intro l2 n2))
     go_returns
     exact⟨_,rfl,bel,fun l h=>by cases h⟩
    ·have hst:=dstep_part hmay (show takeG x<=(ps.length:Int) by omega) (fun p hp=>(hP p hp).1)
     obtain⟨m,hmk⟩:∃ m,ps.length=m+kn:=⟨ps.length-kn,by omega⟩
     rw[hkn,Int.toNat_natCast,hmk,Nat.add_sub_cancel] at hst
     have hPT:∀ (A':Option Addr) (c' B':Nat) (w':World),Reads w' B' 3 A' kn (zBi P3.cells (ps.drop m))->Rt 48 #[x.val,.slice A' kn c'] w' (.tuple #[.agg #[.int .i64 (zBp x (ps.drop m)).1.d,.int .i64 (zBp x (ps.drop m)).1.b,.bool (zBp x (ps.drop m)).1.m],.bool (zBp x (ps.drop m)).2]) :=
      fun A' c' B' w' h=>ref05_part hmay h (by omega) fun p hp=>by have:=hP p (List.mem_of_mem_drop hp);omega
     rw[hkn] at HTK
     obtain⟨q,ok,hqo⟩:∃ q ok,zBp x (ps.drop m)=(q,ok):=⟨_,_,rfl⟩
     rw[hqo] at hst
     simp only[hqo] at hPT
     have hngt: ¬ ((m:Int)+(kn:Int)<(kn:Int)):=by omega
     have HMK:=zh hmk
     have hO:=hS.2
     rw[hmk] at hO
     have HS:=zh hS
     have hnb:∀ ps',zBt ps x=some ps'->Pbd (j+1) ps'/\ps'.length<=j+1:=fun ps' h=>dstep_bd h hP hpl
     have HNB:=zh hnb
     have hPTz:RowKit.Hid (kn=0->∀ (A':Option Addr) (c':Nat) (w':World),Rt 48 #[x.val,.slice A' 0 c'] w' (.tuple #[.agg #[.int .i64 q.d,.int .i64 q.b,.bool q.m],.bool ok])):=zh fun h0 A' c' w'=>by
      subst h0
      refine hPT A' c' 0 w' ⟨?_,fun h=>absurd h (by omega)⟩
      rw[zAD P3.cells 3 P3.cells_length,List.length_drop]
      omega
     by_cases hk0:kn=0
     ·subst hk0
      have HPT:=zh (hPTz.out rfl)
      have hmj:m<=1024:=by omega
      have hmz: ¬ ((m:Int)<0):=by omega
      have hmz2: ¬ ((m:Int)<((0:Nat):Int)):=by omega
      have hw1:(0:Int)<=(m:Int):=by omega
      have hw3:IntKind.i64.wrap (m:Int)=m:=by rw[IntKind.wrap_i64];omega
      have hw0:IntKind.i64.wrap ((m:Int)-0)=m:=by rw[IntKind.wrap_i64];omega
      have hO':=hO
      rw[Nat.add_zero] at hO'
      rcases stk_formZ hO' with ⟨rfl,rfl⟩|⟨g,cc,rfl,hcm,hcap,hcl⟩
      ·as_aux_lemma =>
        have hz0':IntKind.i64.wrap (0-0)=0:=by rw[IntKind.wrap_i64];rfl
        have hz1':IntKind.i64.wrap 0=0:=by rw[IntKind.wrap_i64];rfl
        clear hPT hPTz hkn htb hP hnb hpl hS hmk hks hg hmay hqo hO hO'
        go_upto_region 9 with (first|(go_at_call 46;refine mB (HND.out _) ?_;intro l1 n1)|(go_at_call 47;refine mB (HTK.out _) ?_;intro l2 n2))
        go_cut [8,9] from 11 to 62 (fun s8 s9 wx=>∃ p:Nat,s8=.pointer (some ⟨p,0,none⟩)/\s9=.bool ok/\wx.cell? ⟨p,0,none⟩=some (.int .i64 q.d)/\wx.cell? ⟨p,1,none⟩=some (.int .i64 q.b)/\wx.cell? ⟨p,2,none⟩=some (.bool q.m)/\Below wr.heap.size wr wx)
        case first =>
         go_region_held3 (fun w'=>w'.cell? ⟨bk,off+j*15,none⟩=some (.int .i64 x.kind)/\w'.cell? ⟨bk,off+j*15+1,none⟩=some (.int .i64 x.v.tag)/\w'.cell? ⟨bk,off+j*15+2,none⟩=some (.int .i64 x.v.num)/\w'.cell? ⟨bk,off+j*15+3,none⟩=some (.string x.v.str)/\w'.cell? ⟨bk,off+j*15+4,none⟩=some (.bool x.v.is)/\w'.cell? ⟨bk,off+j*15+5,none⟩=some (.int .i64 x.v.code)/\w'.cell? ⟨bk,off+j*15+6,none⟩=some (.int .i64 x.row)/\w'.cell? ⟨bk,off+j*15+7,none⟩=some (.int .i64 x.col)/\w'.cell? ⟨bk,off+j*15+8,none⟩=some (.int .i64 x.top)/\w'.cell? ⟨bk,off+j*15+9,none⟩=some (.int .i64 x.left)/\w'.cell? ⟨bk,off+j*15+10,none⟩=some (.int .i64 x.bottom)/\w'.cell? ⟨bk,off+j*15+11,none⟩=some (.int .i64 x.right)/\w'.cell? ⟨bk,off+j*15+12,none⟩=some (.int .i64 x.op)/\w'.cell? ⟨bk,off+j*15+13,none⟩=some (.string x.name)/\w'.cell? ⟨bk,off+j*15+14,none⟩=some (.int .i64 x.args)) (((try dsimp only);(repeat' apply And.intro)<;>(first|assumption|exact cell_below (w:=wr) (by assumption) bel))) (first|(go_at_call 48;refine mB (HPT.out _ _ _) ?_;intro l3 n3))
         all_goals(go_wp2_with fail;go_meet;refine⟨_,rfl,rfl,?_,?_,?_,bel⟩<;>first|assumption|(go_simp;done))
        case rest =>
         obtain⟨p,rfl,rfl,p0,p1,p2,hBX⟩:=hcut
         have lp:=zA2 p0
         have hsx:=hBX.size
         clear c0 c1 c2 c3 c4 c5 c6 c7 c8 c9 c10 c11 c12 c13 c14
         cases ok
         ·have hRn:R=none:=by
           rw[show zBt ps x=none from hst] at hG
           exact hG.symm
          subst hRn
          go_wp2_with fail
          go_returns
          exact⟨_,rfl,hB2.trans (hBX.mono hsz),fun l h=>by cases h⟩
         ·have hst2:zBt ps x=some (ps.take 0++[q]):=hst
          rw[hst2] at hG
          have HG:=zh hG
          have hn2:=HNB.out _ hst2
          have HN2:=zh hn2.1
          have hl2:=hn2.2
          clear hG hst hst2 hn2
          go_wp2_with(first|(at_builtin;refine zC2 rfl _ _ 99 rfl w.heap.size 103 i0 3 Tryz.underlying99 hi hz1 _ _ _ rfl (World.ownsRow_nil _ _ _ _) _ rfl ?_)|(at_builtin;refine wpList_append_own _ rfl _ _ 99 rfl w.heap.size 103 i0 _ 3 24 Tryz.underlying99 hi hz0 hz1 hz2 rfl (by decide) _ _ _ rfl (World.ownsRow_nil _ _ _ _) _ 1 1 (P3.cells q) rfl ?_ ?_ ?_ ?_ ?_ ?_ ?_))
          all_goals first
           | exact P3.cells_one q
           | rfl
           | (simp only[maxLen];omega)
           | omega
           | (simp;omega)
           | exact fun i u hu=>zAJ (by simp) i u hu
           | exact fun i u hu=>hu
           | exact fun i u hu=>by simpa using hu
           | skip
          ·intro v2 w4 hown2 hgrow2 _
           have S2:=zAE.step (show zAE w _ 103 3 (.slice none 0 0) 0 [] from ⟨HS.out.1.trans (hBX.mono hsz),World.ownsRow_nil _ _ _ _⟩) bel hown2 hgrow2
           have HS2:=zh S2
           clear hown2 hgrow2 S2
           go_wp2
           have hps:ps=[]:=List.length_eq_zero_iff.1 (by have:=HMK.out;omega)
           have el:(ps.take 0++[q]).length=1:=by rw[hps];simp
           have e2:zBi P3.cells (ps.take 0++[q])=P3.cells q:=by rw[hps];simp[zBi]
           have h2:=HS2.out
           try simp only[Nat.zero_add,List.nil_append] at h2
           go_round
           case rel=>exact⟨j+1,ps.take 0++[q],by omega,by go_num,by rw[el,e2];exact h2,HN2.out,hl2,zh HG.out⟩
           case measure=>simp[intOf];omega
      ·have HCL:=zh hcl
       have hmcc:m<=cc:=hcm
       by_cases hcc:cc=m
       ·obtain rfl:m=cc:=hcc.symm
        as_aux_lemma =>
         clear hPT hPTz hkn htb hP hcl hnb hpl hS hmk hks hg hmay hqo hO hO'
         go_upto_region 9 with (first|(go_at_call 46;refine mB (HND.out _) ?_;intro l1 n1)|(go_at_call 47;refine mB (HTK.out _) ?_;intro l2 n2))
         go_cut [8,9] from 11 to 62 (fun s8 s9 wx=>∃ p:Nat,s8=.pointer (some ⟨p,0,none⟩)/\s9=.bool ok/\wx.cell? ⟨p,0,none⟩=some (.int .i64 q.d)/\wx.cell? ⟨p,1,none⟩=some (.int .i64 q.b)/\wx.cell? ⟨p,2,none⟩=some (.bool q.m)/\Below wr.heap.size wr wx)
         case first =>
          go_region_held3 (fun w'=>w'.cell? ⟨bk,off+j*15,none⟩=some (.int .i64 x.kind)/\w'.cell? ⟨bk,off+j*15+1,none⟩=some (.int .i64 x.v.tag)/\w'.cell? ⟨bk,off+j*15+2,none⟩=some (.int .i64 x.v.num)/\w'.cell? ⟨bk,off+j*15+3,none⟩=some (.string x.v.str)/\w'.cell? ⟨bk,off+j*15+4,none⟩=some (.bool x.v.is)/\w'.cell? ⟨bk,off+j*15+5,none⟩=some (.int .i64 x.v.code)/\w'.cell? ⟨bk,off+j*15+6,none⟩=some (.int .i64 x.row)/\w'.cell? ⟨bk,off+j*15+7,none⟩=some (.int .i64 x.col)/\w'.cell? ⟨bk,off+j*15+8,none⟩=some (.int .i64 x.top)/\w'.cell? ⟨bk,off+j*15+9,none⟩=some (.int .i64 x.left)/\w'.cell? ⟨bk,off+j*15+10,none⟩=some (.int .i64 x.bottom)/\w'.cell? ⟨bk,off+j*15+11,none⟩=some (.int .i64 x.right)/\w'.cell? ⟨bk,off+j*15+12,none⟩=some (.int .i64 x.op)/\w'.cell? ⟨bk,off+j*15+13,none⟩=some (.string x.name)/\w'.cell? ⟨bk,off+j*15+14,none⟩=some (.int .i64 x.args)) (((try dsimp only);(repeat' apply And.intro)<;>(first|assumption|exact cell_below (w:=wr) (by assumption) bel))) (first|(go_at_call 48;refine mB (HPT.out _ _ _) ?_;intro l3 n3))
          all_goals(go_wp2_with fail;go_meet;refine⟨_,rfl,rfl,?_,?_,?_,bel⟩<;>first|assumption|(go_simp;done))
         case rest =>
          obtain⟨p,rfl,rfl,p0,p1,p2,hBX⟩:=hcut
          have lp:=zA2 p0
          have hsx:=hBX.size
          clear c0 c1 c2 c3 c4 c5 c6 c7 c8 c9 c10 c11 c12 c13 c14
          cases ok
          ·have hRn:R=none:=by
            rw[show zBt ps x=none from hst] at hG
            exact hG.symm
           subst hRn
           go_wp2_with fail
           go_returns
           exact⟨_,rfl,hB2.trans (hBX.mono hsz),fun l h=>by cases h⟩
          ·have hst2:zBt ps x=some (ps.take m++[q]):=hst
           rw[hst2] at hG
           have HG:=zh hG
           have hn2:=HNB.out _ hst2
           have HN2:=zh hn2.1
           have hl2:=hn2.2
           clear hG hst hst2 hn2
           go_wp2_with(at_builtin;refine wpList_append_own _ rfl _ _ 99 rfl w.heap.size 103 i0 _ 3 24 Tryz.underlying99 hi hz0 hz1 hz2 rfl (by decide) _ _ _ rfl (World.ownsRow_nil _ _ _ _) ⟨g,0,none⟩ m m (zBi P3.cells (ps.take m)) rfl ?_ ?_ ?_ ?_ ?_ ?_ ?_)
           all_goals first
            | exact flat_oneP _
            | (rw[zAD P3.cells 3 P3.cells_length,List.length_take,Nat.min_eq_left (by have:=HMK.out;omega)];done)
            | (simp only[maxLen];omega)
            | omega
            | (simp;omega)
            | (intro i u hu
               have h1:(zBi P3.cells ps)[i]? =some u:=by
                rw[show zBi P3.cells ps=zBi P3.cells (ps.take m)++zBi P3.cells (ps.drop m) from by rw[<- zAC,List.take_append_drop],List.getElem?_append_left (List.getElem?_eq_some_iff.1 hu).1]
                exact hu
               exact cell_below (HCL.out i u h1) (hBX.trans (by exact bel)))
            | skip
           all_goals
            intro v1 w3 hown1 hgrow1 _
            have S1:=zAE.step (show zAE w _ 103 3 (.slice none 0 0) 0 [] from ⟨HS.out.1.trans (hBX.mono hsz),World.ownsRow_nil _ _ _ _⟩) bel hown1 hgrow1
            have d0:w3.cell? ⟨p,0,none⟩=some (.int .i64 q.d):=hgrow1.cell (by go_simp) (by simp[Value.ownBlock])
            have d1:w3.cell? ⟨p,1,none⟩=some (.int .i64 q.b):=hgrow1.cell (by go_simp) (by simp[Value.ownBlock])
            have d2:w3.cell? ⟨p,2,none⟩=some (.bool q.m):=hgrow1.cell (by go_simp) (by simp[Value.ownBlock])
            have ld:=zA2 d0
            have HS1:=zh S1
            clear hown1 hgrow1 S1 p0 p1 p2
            go_wp2_with(at_builtin;refine wpList_append_own _ rfl _ _ 99 rfl w.heap.size 103 i0 _ 3 24 Tryz.underlying99 hi hz0 hz1 hz2 rfl (by decide) _ _ _ rfl (zA7 HS1.out.2 bel) _ 1 1 (P3.cells q) rfl ?_ ?_ ?_ ?_ ?_ ?_ ?_)
            all_goals first
             | exact P3.cells_one q
             | rfl
             | (simp only[maxLen];omega)
             | omega
             | (have:=HS1.out.1.size;simp;omega)
             | exact fun i u hu=>zAJ (by simp) i u hu
             | exact fun i u hu=>hu
             | exact fun i u hu=>by simpa using hu
             | skip
            all_goals
             intro v2 w4 hown2 hgrow2 _
             have S2:=zAE.step HS1.out bel hown2 hgrow2
             have HS2:=zh S2
             clear hown2 hgrow2 S2 d0 d1 d2
             go_wp2
             have el:(ps.take m++[q]).length=m+1:=by have:=HMK.out;simp;omega
             have e2:zBi P3.cells (ps.take m++[q])=zBi P3.cells (ps.take m)++P3.cells q:=by rw[zAC];simp[zBi]
             go_round
             case rel=>exact⟨j+1,ps.take m++[q],by omega,by go_num,by rw[el,e2];exact HS2.out,HN2.out,hl2,zh HG.out⟩
             case measure=>simp[intOf];omega
       ·have hnc: ¬ cc=m:=hcc
        have hmc:m<cc:=by omega
        as_aux_lemma =>
         clear hPT hPTz hkn htb hP hcl hnb hpl hS hmk hks hg hmay hqo hO hO' hcc
         go_upto_region 9 with (first|(go_at_call 46;refine mB (HND.out _) ?_;intro l1 n1)|(go_at_call 47;refine mB (HTK.out _) ?_;intro l2 n2))
         go_cut [8,9] from 11 to 62 (fun s8 s9 wx=>∃ p:Nat,s8=.pointer (some ⟨p,0,none⟩)/\s9=.bool ok/\wx.cell? ⟨p,0,none⟩=some (.int .i64 q.d)/\wx.cell? ⟨p,1,none⟩=some (.int .i64 q.b)/\wx.cell? ⟨p,2,none⟩=some (.bool q.m)/\Below wr.heap.size wr wx)
         case first =>
          go_region_held3 (fun w'=>w'.cell? ⟨bk,off+j*15,none⟩=some (.int .i64 x.kind)/\w'.cell? ⟨bk,off+j*15+1,none⟩=some (.int .i64 x.v.tag)/\w'.cell? ⟨bk,off+j*15+2,none⟩=some (.int .i64 x.v.num)/\w'.cell? ⟨bk,off+j*15+3,none⟩=some (.string x.v.str)/\w'.cell? ⟨bk,off+j*15+4,none⟩=some (.bool x.v.is)/\w'.cell? ⟨bk,off+j*15+5,none⟩=some (.int .i64 x.v.code)/\w'.cell? ⟨bk,off+j*15+6,none⟩=some (.int .i64 x.row)/\w'.cell? ⟨bk,off+j*15+7,none⟩=some (.int .i64 x.col)/\w'.cell? ⟨bk,off+j*15+8,none⟩=some (.int .i64 x.top)/\w'.cell? ⟨bk,off+j*15+9,none⟩=some (.int .i64 x.left)/\w'.cell? ⟨bk,off+j*15+10,none⟩=some (.int .i64 x.bottom)/\w'.cell? ⟨bk,off+j*15+11,none⟩=some (.int .i64 x.right)/\w'.cell? ⟨bk,off+j*15+12,none⟩=some (.int .i64 x.op)/\w'.cell? ⟨bk,off+j*15+13,none⟩=some (.string x.name)/\w'.cell? ⟨bk,off+j*15+14,none⟩=some (.int .i64 x.args)) (((try dsimp only);(repeat' apply And.intro)<;>(first|assumption|exact cell_below (w:=wr) (by assumption) bel))) (first|(go_at_call 48;refine mB (HPT.out _ _ _) ?_;intro l3 n3))
          all_goals(go_wp2_with fail;go_meet;refine⟨_,rfl,rfl,?_,?_,?_,bel⟩<;>first|assumption|(go_simp;done))
         case rest =>
          obtain⟨p,rfl,rfl,p0,p1,p2,hBX⟩:=hcut
          have lp:=zA2 p0
          have hsx:=hBX.size
          clear c0 c1 c2 c3 c4 c5 c6 c7 c8 c9 c10 c11 c12 c13 c14
          cases ok
          ·have hRn:R=none:=by
            rw[show zBt ps x=none from hst] at hG
            exact hG.symm
           subst hRn
           go_wp2_with fail
           go_returns
           exact⟨_,rfl,hB2.trans (hBX.mono hsz),fun l h=>by cases h⟩
          ·have hst2:zBt ps x=some (ps.take m++[q]):=hst
           rw[hst2] at hG
           have HG:=zh hG
           have hn2:=HNB.out _ hst2
           have HN2:=zh hn2.1
           have hl2:=hn2.2
           clear hG hst hst2 hn2
           go_wp2_with(at_builtin;refine wpList_append_own _ rfl _ _ 99 rfl w.heap.size 103 i0 _ 3 24 Tryz.underlying99 hi hz0 hz1 hz2 rfl (by decide) _ _ _ rfl (World.ownsRow_nil _ _ _ _) ⟨g,0,none⟩ m cc (zBi P3.cells (ps.take m)) rfl ?_ ?_ ?_ ?_ ?_ ?_ ?_)
           all_goals first
            | exact flat_oneP _
            | (rw[zAD P3.cells 3 P3.cells_length,List.length_take,Nat.min_eq_left (by have:=HMK.out;omega)];done)
            | (simp only[maxLen];omega)
            | omega
            | (simp;omega)
            | (intro i u hu
               have h1:(zBi P3.cells ps)[i]? =some u:=by
                rw[show zBi P3.cells ps=zBi P3.cells (ps.take m)++zBi P3.cells (ps.drop m) from by rw[<- zAC,List.take_append_drop],List.getElem?_append_left (List.getElem?_eq_some_iff.1 hu).1]
                exact hu
               exact cell_below (HCL.out i u h1) (hBX.trans (by exact bel)))
            | skip
           all_goals
            intro v1 w3 hown1 hgrow1 _
            have S1:=zAE.step (show zAE w _ 103 3 (.slice none 0 0) 0 [] from ⟨HS.out.1.trans (hBX.mono hsz),World.ownsRow_nil _ _ _ _⟩) bel hown1 hgrow1
            have d0:w3.cell? ⟨p,0,none⟩=some (.int .i64 q.d):=hgrow1.cell (by go_simp) (by simp[Value.ownBlock])
            have d1:w3.cell? ⟨p,1,none⟩=some (.int .i64 q.b):=hgrow1.cell (by go_simp) (by simp[Value.ownBlock])
            have d2:w3.cell? ⟨p,2,none⟩=some (.bool q.m):=hgrow1.cell (by go_simp) (by simp[Value.ownBlock])
            have ld:=zA2 d0
            have HS1:=zh S1
            clear hown1 hgrow1 S1 p0 p1 p2
            go_wp2_with(at_builtin;refine wpList_append_own _ rfl _ _ 99 rfl w.heap.size 103 i0 _ 3 24 Tryz.underlying99 hi hz0 hz1 hz2 rfl (by decide) _ _ _ rfl (zA7 HS1.out.2 bel) _ 1 1 (P3.cells q) rfl ?_ ?_ ?_ ?_ ?_ ?_ ?_)
            all_goals first
             | exact P3.cells_one q
             | rfl
             | (simp only[maxLen];omega)
             | omega
             | (have:=HS1.out.1.size;simp;omega)
             | exact fun i u hu=>zAJ (by simp) i u hu
             | exact fun i u hu=>hu
             | exact fun i u hu=>by simpa using hu
             | skip
            all_goals
             intro v2 w4 hown2 hgrow2 _
             have S2:=zAE.step HS1.out bel hown2 hgrow2
             have HS2:=zh S2
             clear hown2 hgrow2 S2 d0 d1 d2
             go_wp2
             have el:(ps.take m++[q]).length=m+1:=by have:=HMK.out;simp;omega
             have e2:zBi P3.cells (ps.take m++[q])=zBi P3.cells (ps.take m)++P3.cells q:=by rw[zAC];simp[zBi]
             go_round
             case rel=>exact⟨j+1,ps.take m++[q],by omega,by go_num,by rw[el,e2];exact HS2.out,HN2.out,hl2,zh HG.out⟩
             case measure=>simp[intOf];omega
     ·obtain⟨g,cc,rfl,hcap,hcm,hbg,hgl,hcl,hfz⟩:=zAf hO (by omega)
      have hmc:m<cc:=by omega
      have hmcc:m<=cc:=by omega
      have hnc: ¬ cc=m:=by omega
      have hmj:m<=1024:=by omega
      have HPT:=zh (show ∀ (w':World) (D O L C:Nat) (X:Value),D=g->O=m*3->L=kn->C=cc-m->X=x.val->Below wr.heap.size wr w'->Rt 48 #[X,.slice (some ⟨D,O,none⟩) L C] w' (.tuple #[.agg #[.int .i64 q.d,.int .i64 q.b,.bool q.m],.bool ok]) from fun w' D O L C X hD hO hL hC hX hb=>by
       rw[hD,hO,hL,hC,hX]
       refine hPT _ _ w'.heap.size w' ⟨?_,fun _=>⟨g,m*3,rfl,Nat.lt_of_lt_of_le hgl hb.size,fun i u hu=> ?_⟩⟩
       ·rw[zAD P3.cells 3 P3.cells_length,List.length_drop]
        omega
       ·refine cell_below (hcl (m*3+i) u ?_) hb
        have e1:zBi P3.cells ps=zBi P3.cells (ps.take m)++zBi P3.cells (ps.drop m):=by rw[<- zAC,List.take_append_drop]
        rw[e1,List.getElem?_append_right (by rw[zAD P3.cells 3 P3.cells_length,List.length_take];omega),zAD P3.cells 3 P3.cells_length,List.length_take,Nat.min_eq_left (by omega),Nat.add_sub_cancel_left]
        exact hu)
      have HCL:=zh hcl
      have hw0:IntKind.i64.wrap ((m:Int)+(kn:Int)-(kn:Int))=(m:Int):=by rw[IntKind.wrap_i64];omega
      have hw1:(0:Int)<=(m:Int):=by omega
      have hw3:IntKind.i64.wrap (m:Int)=m:=by rw[IntKind.wrap_i64];omega
      have hw2:(m:Int)<=(m:Int)+(kn:Int):=by omega
      as_aux_lemma =>
       clear hPT hPTz hkn htb hP hcl hfz hnb hk0 hpl hS hmk hks hg hmay hqo hO
       go_upto_region 9 with (first|(go_at_call 46;refine mB (HND.out _) ?_;intro l1 n1)|(go_at_call 47;refine mB (HTK.out _) ?_;intro l2 n2))
       go_cut [8,9] from 11 to 62 (fun s8 s9 wx=>∃ p:Nat,s8=.pointer (some ⟨p,0,none⟩)/\s9=.bool ok/\wx.cell? ⟨p,0,none⟩=some (.int .i64 q.d)/\wx.cell? ⟨p,1,none⟩=some (.int .i64 q.b)/\wx.cell? ⟨p,2,none⟩=some (.bool q.m)/\Below wr.heap.size wr wx)
       case first =>
        go_region_held3 (fun w'=>w'.cell? ⟨bk,off+j*15,none⟩=some (.int .i64 x.kind)/\w'.cell? ⟨bk,off+j*15+1,none⟩=some (.int .i64 x.v.tag)/\w'.cell? ⟨bk,off+j*15+2,none⟩=some (.int .i64 x.v.num)/\w'.cell? ⟨bk,off+j*15+3,none⟩=some (.string x.v.str)/\w'.cell? ⟨bk,off+j*15+4,none⟩=some (.bool x.v.is)/\w'.cell? ⟨bk,off+j*15+5,none⟩=some (.int .i64 x.v.code)/\w'.cell? ⟨bk,off+j*15+6,none⟩=some (.int .i64 x.row)/\w'.cell? ⟨bk,off+j*15+7,none⟩=some (.int .i64 x.col)/\w'.cell? ⟨bk,off+j*15+8,none⟩=some (.int .i64 x.top)/\w'.cell? ⟨bk,off+j*15+9,none⟩=some (.int .i64 x.left)/\w'.cell? ⟨bk,off+j*15+10,none⟩=some (.int .i64 x.bottom)/\w'.cell? ⟨bk,off+j*15+11,none⟩=some (.int .i64 x.right)/\w'.cell? ⟨bk,off+j*15+12,none⟩=some (.int .i64 x.op)/\w'.cell? ⟨bk,off+j*15+13,none⟩=some (.string x.name)/\w'.cell? ⟨bk,off+j*15+14,none⟩=some (.int .i64 x.args)) (((try dsimp only);(repeat' apply And.intro)<;>(first|assumption|exact cell_below (w:=wr) (by assumption) bel))) (first|(go_at_call 48;refine mB (HPT.out _ _ _ _ _ _ (by first|rfl|omega) (by first|rfl|omega) (by first|rfl|omega) (by first|rfl|omega) rfl bel) ?_;intro l3 n3))
        all_goals(go_wp2_with fail;go_meet;refine⟨_,rfl,rfl,?_,?_,?_,bel⟩<;>first|assumption|(go_simp;done))
       case rest =>
        obtain⟨p,rfl,rfl,p0,p1,p2,hBX⟩:=hcut
        have lp:=zA2 p0
        have hsx:=hBX.size
        clear c0 c1 c2 c3 c4 c5 c6 c7 c8 c9 c10 c11 c12 c13 c14
        cases ok
        ·have hRn:R=none:=by
          rw[show zBt ps x=none from hst] at hG
          exact hG.symm
         subst hRn
         go_wp2_with fail
         go_returns
         exact⟨_,rfl,hB2.trans (hBX.mono hsz),fun l h=>by cases h⟩
        ·have hst2:zBt ps x=some (ps.take m++[q]):=hst
         rw[hst2] at hG
         have HG:=zh hG
         have hn2:=HNB.out _ hst2
         have HN2:=zh hn2.1
         have hl2:=hn2.2
         clear hG hst hst2 hn2
         go_wp2_with(at_builtin;refine wpList_append_own _ rfl _ _ 99 rfl w.heap.size 103 i0 _ 3 24 Tryz.underlying99 hi hz0 hz1 hz2 rfl (by decide) _ _ _ rfl (World.ownsRow_nil _ _ _ _) ⟨g,0,none⟩ m cc (zBi P3.cells (ps.take m)) rfl ?_ ?_ ?_ ?_ ?_ ?_ ?_)
         all_goals first
          | exact flat_oneP _
          | (rw[zAD P3.cells 3 P3.cells_length,List.length_take,Nat.min_eq_left (by have:=HMK.out;omega)];done)
          | (simp only[maxLen];omega)
          | omega
          | (simp;omega)
          | (intro i u hu
             have h1:(zBi P3.cells ps)[i]? =some u:=by
              rw[show zBi P3.cells ps=zBi P3.cells (ps.take m)++zBi P3.cells (ps.drop m) from by rw[<- zAC,List.take_append_drop],List.getElem?_append_left (List.getElem?_eq_some_iff.1 hu).1]
              exact hu
             exact cell_below (HCL.out i u h1) (hBX.trans (by exact bel)))
          | skip
         all_goals
          intro v1 w3 hown1 hgrow1 _
          have S1:=zAE.step (show zAE w _ 103 3 (.slice none 0 0) 0 [] from ⟨HS.out.1.trans (hBX.mono hsz),World.ownsRow_nil _ _ _ _⟩) bel hown1 hgrow1
          have d0:w3.cell? ⟨p,0,none⟩=some (.int .i64 q.d):=hgrow1.cell (by go_simp) (by simp[Value.ownBlock])
          have d1:w3.cell? ⟨p,1,none⟩=some (.int .i64 q.b):=hgrow1.cell (by go_simp) (by simp[Value.ownBlock])
          have d2:w3.cell? ⟨p,2,none⟩=some (.bool q.m):=hgrow1.cell (by go_simp) (by simp[Value.ownBlock])
          have ld:=zA2 d0
          have HS1:=zh S1
          clear hown1 hgrow1 S1 p0 p1 p2
          go_wp2_with(at_builtin;refine wpList_append_own _ rfl _ _ 99 rfl w.heap.size 103 i0 _ 3 24 Tryz.underlying99 hi hz0 hz1 hz2 rfl (by decide) _ _ _ rfl (zA7 HS1.out.2 bel) _ 1 1 (P3.cells q) rfl ?_ ?_ ?_ ?_ ?_ ?_ ?_)
          all_goals first
           | exact P3.cells_one q
           | rfl
           | (simp only[maxLen];omega)
           | omega
           | (have:=HS1.out.1.size;simp;omega)
           | exact fun i u hu=>zAJ (by simp) i u hu
           | exact fun i u hu=>hu
           | exact fun i u hu=>by simpa using hu
           | skip
          all_goals
           intro v2 w4 hown2 hgrow2 _
           have S2:=zAE.step HS1.out bel hown2 hgrow2
           have HS2:=zh S2
           clear hown2 hgrow2 S2 d0 d1 d2
           go_wp2
           have el:(ps.take m++[q]).length=m+1:=by have:=HMK.out;simp;omega
           have e2:zBi P3.cells (ps.take m++[q])=zBi P3.cells (ps.take m)++P3.cells q:=by rw[zAC];simp[zBi]
           go_round
           case rel=>exact⟨j+1,ps.take m++[q],by omega,by go_num,by rw[el,e2];exact HS2.out,HN2.out,hl2,zh HG.out⟩
           case measure=>simp[intOf];omega
   ·rw[dstep_no (by simpa using hmay)] at hG
    obtain rfl:R=none:=hG.symm
    have hmf:zBj x=false:=by simpa using hmay
    rw[hmf] at HND
    obtain⟨tk,htk⟩:∃ tk,takeG x=tk:=⟨_,rfl⟩
    rw[htk] at HTK
    obtain⟨A0,cc,rfl,-,-⟩:=zAk hS.2
    clear hG hg hmay hmf htk hS hP
    go_wp2_with(first|(go_at_call 46;refine mB (HND.out _) ?_;intro l1 n1)|(go_at_call 47;refine mB (HTK.out _) ?_;intro l2 n2))
    go_returns
    exact⟨_,rfl,bel,fun l h=>by cases h⟩
  ·obtain rfl:j=n:=by omega
   have hG:=hg.out
   rw[List.drop_eq_nil_of_le (by rw[HL.out];exact Nat.le_refl _)] at hG
   obtain rfl:R=some ps:=hG.symm
   have HS:=zh hS
   clear hG hg hS hP
   go_wp2
   go_returns
   exact⟨_,rfl,HS.out.1,fun l h=>by cases h;exact HS.out.2⟩
theorem ref05_Check (xs:List Nx) (A:Option Addr) (n c B:Nat) (w:World) (hr:Reads w B 15 A n (zBi Nx.cells xs)) (hm:n<=1000000000000) (hnm:∀ x∈xs,x.name.size<=1000000000000) (h64:∀ x∈xs,Is64 x.v.num) :
  Rt 12 #[.agg #[.slice A n c]] w (.int .i64 (errI (zBD xs))):=by
 have hlen:xs.length=n:=by
  have:=hr.1
  rw[zAD Nx.cells 15 Nx.cells_length] at this
  omega
 by_cases h0:n<1
 ·obtain rfl:n=0:=by omega
  have e:zBD xs=false:=by unfold zBD depthG;rw[if_pos (by omega)];rfl
  rw[e]
  unfold errI
  clear e hr hnm h64 hlen h0
  go_enter Tryz.func12,Tryz.ntmps12
  go_wp2
  go_ret
  exact⟨rfl,bel⟩
 have i2: ¬ (n:Int)<1:=by omega
 by_cases h1:1024<n
 ·have e:zBD xs=false:=by unfold zBD depthG;rw[if_pos (by omega)];rfl
  have i1:(1024:Int)<(n:Int):=by omega
  rw[e]
  unfold errI
  clear e hr hnm h64 hlen h0 h1
  go_enter Tryz.func12,Tryz.ntmps12
  go_wp2
  go_ret
  exact⟨rfl,bel⟩
 have i1: ¬ (1024:Int)<(n:Int):=by omega
 have e:zBD xs=((dGo xs []).2&&decide ((dGo xs []).1<=32)):=by unfold zBD depthG;rw[if_neg (by omega)]
 rw[e,dGo_pGo]
 obtain⟨R,hR⟩:∃ R,pGo xs []=R:=⟨_,rfl⟩
 have HP:=zh (fun (w':World) (h:Reads w' B 15 A n (zBi Nx.cells xs))=>ref05_put xs A n c B w' h (by omega) hnm h64 R hR)
 rw[hR]
 have HR:=zh hr
 clear e hr hnm h64 hlen h0 h1 hR
 rcases R with _|l
 ·rw[show errI _=20 from rfl]
  go_enter Tryz.func12,Tryz.ntmps12
  go_wp2_with(go_at_call 27;refine(HP.out _ (HR.out.keeps kps)).mono ?_;rintro e w1 ⟨v,rfl,hb,-⟩;obtain⟨l1,m1,rfl⟩:=zA0 hb;clear hb)
  go_ret
  exact⟨rfl,bel⟩
 rcases l with _|⟨p,_|⟨q,r⟩⟩
 ·rw[show errI _=20 from rfl]
  go_enter Tryz.func12,Tryz.ntmps12
  go_wp2_with(go_at_call 27;refine(HP.out _ (HR.out.keeps kps)).mono ?_;rintro e w1 ⟨v,rfl,hb,hv⟩;obtain⟨A1,c1,rfl,-,-⟩:=zAk (hv _ rfl);obtain⟨l1,m1,rfl⟩:=zA0 hb;clear hb hv)
  go_ret
  exact⟨rfl,bel⟩
 ·obtain⟨pd,pb,pm⟩:=p
  have HQ:RowKit.Hid (∀ (w':World),Reads w' B 15 A n (zBi Nx.cells xs)->Calls Tryz.prog 27 #[.slice A n c] w' fun e w''=>∃ g cc,e=.returned (.tuple #[.slice (some ⟨g,0,none⟩) (1:Nat) cc,.bool true])/\Below w'.heap.size w' w''/\w''.cell? ⟨g,0,none⟩=some (.int .i64 pd)/\w''.cell? ⟨g,1,none⟩=some (.int .i64 pb)/\w''.cell? ⟨g,2,none⟩=some (.bool pm)):=zh fun w' h=>(HP.out w' h).mono fun e w1 hh=>by
   obtain⟨v,rfl,hb,hv⟩:=hh
   have ho:=hv _ rfl
   obtain⟨g,cc,rfl,hcap,hcm,hbg,hgl,hcl,hfz⟩:=zAf ho (by simp)
   exact⟨g,cc,rfl,hb,hcl 0 _ rfl,hcl 1 _ rfl,hcl 2 _ rfl⟩
  clear HP
  by_cases h:pd<=32
  ·have h2: ¬ 32<pd:=by omega
   cases pm
   ·rw[show errI _=0 from by unfold errI;simp[h]]
    clear h
    go_enter Tryz.func12,Tryz.ntmps12
    go_wp2_with(go_at_call 27;refine(HQ.out _ (HR.out.keeps kps)).mono ?_;rintro e w1 ⟨g,cc,rfl,hb,d0,d1,d2⟩;have ld:=zA2 d0;obtain⟨l1,m1,rfl⟩:=zA0 hb;clear hb)
    go_ret
    exact⟨rfl,bel⟩
   ·rw[show errI _=20 from rfl]
    clear h
    go_enter Tryz.func12,Tryz.ntmps12
    go_wp2_with(go_at_call 27;refine(HQ.out _ (HR.out.keeps kps)).mono ?_;rintro e w1 ⟨g,cc,rfl,hb,d0,d1,d2⟩;have ld:=zA2 d0;obtain⟨l1,m1,rfl⟩:=zA0 hb;clear hb)
    go_ret
    exact⟨rfl,bel⟩
  ·have h2:32<pd:=by omega
   cases pm
   all_goals
    rw[show errI _=20 from by unfold errI;simp[h]]
    clear h
    go_enter Tryz.func12,Tryz.ntmps12
    go_wp2_with(go_at_call 27;refine(HQ.out _ (HR.out.keeps kps)).mono ?_;rintro e w1 ⟨g,cc,rfl,hb,d0,d1,d2⟩;have ld:=zA2 d0;obtain⟨l1,m1,rfl⟩:=zA0 hb;clear hb)
    go_ret
    exact⟨rfl,bel⟩
 ·rw[show errI _=20 from rfl]
  have hne: ¬ ((((⟨p.d,p.b,p.m⟩:P3)::q::r).length:Int)=1):=by simp only[List.length_cons];omega
  have hne2: ¬ (((r.length+1+1:Nat):Int)=1):=by omega
  go_enter Tryz.func12,Tryz.ntmps12
  go_wp2_with(go_at_call 27;refine(HP.out _ (HR.out.keeps kps)).mono ?_;rintro e w1 ⟨v,rfl,hb,hv⟩;obtain⟨A1,c1,rfl,-,-⟩:=zAk (hv _ rfl);obtain⟨l1,m1,rfl⟩:=zA0 hb;clear hb hv)
  go_ret
  exact⟨rfl,bel⟩
structure Rf where
 many:Bool
 top:Int
 left:Int
 bottom:Int
 right:Int
deriving DecidableEq
def Rf.cells (r:Rf):List Value:=[.bool r.many,.int .i64 r.top,.int .i64 r.left,.int .i64 r.bottom,.int .i64 r.right]
theorem Rf.cells_length (r:Rf):r.cells.length=5:=rfl
theorem Rf.cells_one (r:Rf):∀ u∈r.cells,u.oneCell'=true:=by
 intro u hu
 simp only[Rf.cells,List.mem_cons,List.not_mem_nil,or_false] at hu
 rcases hu with rfl|rfl|rfl|rfl|rfl<;>rfl
def refN (x:Nx):Option Rf:=if x.kind=2 then some ⟨false,x.row,x.col,x.row,x.col⟩ else if x.kind=3 then some ⟨true,x.top,x.left,x.bottom,x.right⟩ else none
def zCD (l:List Rf) (x:Nx):List Rf:=match refN x with
 | none=>l
 | some r=>if r∈l then l else l++[r]
def ofG (xs:List Nx):List Rf:=if zBD xs then xs.foldl zCD [] else []
def refdG (l:List Rf) (row col:Int):Bool:=l.any fun r=>inB r.top r.left r.bottom r.right row col
def rfO:Rf:=⟨false,0,0,0,0⟩
def Rf.val (r:Rf):Value:=.agg #[.bool r.many,.int .i64 r.top,.int .i64 r.left,.int .i64 r.bottom,.int .i64 r.right]
theorem ref05_Ref (x:Nx) (w:World):Rt 29 #[x.val] w (.tuple #[((refN x).getD rfO).val,.bool (refN x).isSome]):=by
 obtain⟨k,v,r,q,t,l,bo,ri,o,nm,ar⟩:=x
 unfold Nx.val refN Rf.val rfO
 dsimp only
 by_cases h2:k=2
 ·subst h2
  rw[if_pos rfl]
  go_enter Tryz.func29,Tryz.ntmps29
  go_wp2
  exact bodyPost_ret (by simp[results,Tryz.results29,go_sem];try rfl) rfl ⟨rfl,bel⟩
 ·by_cases h3:k=3
  ·subst h3
   rw[if_neg h2,if_pos rfl]
   go_enter Tryz.func29,Tryz.ntmps29
   go_wp2
   exact bodyPost_ret (by simp[results,Tryz.results29,go_sem];try rfl) rfl ⟨rfl,bel⟩
  ·rw[if_neg h2,if_neg h3]
   have k2:(k==2)=false:=by simp[h2]
   have k3:(k==3)=false:=by simp[h3]
   clear h2 h3
   go_enter Tryz.func29,Tryz.ntmps29
   go_wp2
   exact bodyPost_ret (by simp[results,Tryz.results29,go_sem];try rfl) rfl ⟨rfl,bel⟩
def Ak.val (x:Ak):Value:=.agg #[.bool x.host,.int .i64 x.n,.int .i64 x.row,.int .i64 x.col,.int .i64 x.top,.int .i64 x.left,.int .i64 x.bottom,.int .i64 x.right]
theorem neqA (x:Ak) (w:World):(binOp .neq 113 x.val x.val).run Tryz.prog w=.ok (.bool false) w:=by
 obtain⟨a,b,c,d,e,f,g,h⟩:=x
 unfold Ak.val
 rw[run_neq_struct]
 go_simp
theorem eqlR (x y:Rf) (w:World):(binOp .eql 106 x.val y.val).run Tryz.prog w=.ok (.bool (decide (x=y))) w:=by
 obtain⟨a,b,c,d,e⟩:=x
 obtain⟨a',b',c',d',e'⟩:=y
 unfold Rf.val
 rw[run_eql_struct]
 go_simp
 refine dite (a=a') (fun h1=> ?_) (fun h1=>by simp[h1])
 refine dite (b=b') (fun h2=> ?_) (fun h2=>by simp[h2])
 refine dite (c=c') (fun h3=> ?_) (fun h3=>by simp[h3])
 refine dite (d=d') (fun h4=> ?_) (fun h4=>by simp[h4])
 refine dite (e=e') (fun h5=> ?_) (fun h5=>by simp[h5])
 simp[h1,h2,h3,h4,h5]
theorem refd_drop {R:List Rf} {j:Nat} {r:Rf} (h:R[j]? =some r) (row col:Int):refdG (R.drop j) row col=(inB r.top r.left r.bottom r.right row col || refdG (R.drop (j+1)) row col):=by
 obtain⟨hm,hv⟩:=List.getElem?_eq_some_iff.1 h
 rw[List.drop_eq_getElem_cons hm,hv]
 rfl
theorem law_referred (R:List Rf) (row col:Int) (A:Option Addr) (n c B:Nat) (w:World) (hr:Reads w B 5 A n (zBi Rf.cells R)) (hm:n<=100000000):Rt 17 #[.slice A n c,.agg #[.int .i64 row,.int .i64 col]] w (.bool (refdG R row col)):=by
 have hlen:R.length=n:=by
  have:=hr.1
  rw[zAD Rf.cells 5 Rf.cells_length] at this
  omega
 have HR:=zh hr
 have HL:=zh hlen
 obtain⟨V,hV⟩:∃ V,refdG R row col=V:=⟨_,rfl⟩
 rw[hV]
 have HV:=zh hV
 clear hr hlen hV
 go_enter Tryz.func17,Tryz.ntmps17
 go_wp2
 go_loopw [5] (fun t wr=>∃ j:Nat,j<=n/\t=.int .i64 j/\Below w.heap.size w wr/\wr.cell? ⟨w.heap.size,0,none⟩=some (.int .i64 row)/\wr.cell? ⟨w.heap.size,1,none⟩=some (.int .i64 col)/\RowKit.Hid (refdG (R.drop j) row col=V)) (fun t _=>n-(intOf t).toNat)
 case atStart=>exact⟨0,Nat.zero_le _,rfl,bel,by go_simp,by go_simp,HV⟩
 case round =>
  obtain⟨j,hj,rfl,hB,b0,b1,hg⟩:=hrel
  have hs:=hB.size
  have lb:=zA2 b0
  by_cases hlt:j<n
  ·obtain⟨r,hx⟩:∃ r,R[j]? =some r:=⟨_,List.getElem?_eq_getElem (show j<R.length by have:=HL.out;omega)⟩
   obtain⟨bk,off,rfl,_,hc⟩:=HR.out.2 (by omega)
   have hcell:∀ i u,r.cells[i]? =some u->wr.cell? ⟨bk,off+(j*5+i),none⟩=some u:=fun i u hu=>cell_below (hc _ u (zA9 Rf.cells 5 Rf.cells_length R j r hx i u hu)) hB
   have c0:=hcell 0 _ rfl
   have c1:=hcell 1 _ rfl
   have c2:=hcell 2 _ rfl
   have c3:=hcell 3 _ rfl
   have c4:=hcell 4 _ rfl
   simp only[<- Nat.add_assoc,Nat.add_zero] at c0 c1 c2 c3 c4
   have lc:=zA2 c0
   have hG:=hg.out
   rw[refd_drop hx] at hG
   have hin:=ref03_In r.top r.left r.bottom r.right row col
   have HB:=zh hB
   have hi1:(0:Int)<=(j:Int):=by omega
   have hi2:(j:Int)<(n:Int):=by omega
   cases hq:inB r.top r.left r.bottom r.right row col
   ·rw[hq] at hin hG
    have HG:=zh (show refdG (R.drop (j+1)) row col=V from hG)
    have HIN:=zh hin
    clear hcell hc hx hB hg hG hq hin
    go_wp2
    (refine qmI ?_;(repeat(go_big_quiet_step ((go_at_call 30;exact Calls.zA6 (HIN.out _)))));refine qmE ?_;intro lq nq)
    go_wp2
    go_roundw
    case rel=>exact⟨j+1,by omega,by go_num,HB.out.trans (Below.mono (B:=wr.heap.size) bel hs),by go_simp,by go_simp,zh HG.out⟩
    case measure=>simp[intOf];omega
   ·rw[hq] at hin hG
    obtain rfl:true=V:=hG
    have HIN:=zh hin
    clear hcell hc hx hB hg hq hin
    go_wp2
    (refine qmI ?_;(repeat(go_big_quiet_step ((go_at_call 30;exact Calls.zA6 (HIN.out _)))));refine qmE ?_;intro lq nq)
    go_wp2
    go_returns
    exact⟨rfl,HB.out.trans (Below.mono (B:=wr.heap.size) bel hs)⟩
  ·obtain rfl:j=n:=by omega
   have hG:=hg.out
   rw[List.drop_eq_nil_of_le (by rw[HL.out];exact Nat.le_refl _)] at hG
   obtain rfl:false=V:=hG
   have HB:=zh hB
   clear hg hB
   go_wp2
   go_returns
   exact⟨rfl,HB.out⟩
theorem law_alike (la:List Ak) (A A':Option Addr) (n c c' B B':Nat) (w:World) (h1:Reads w B 8 A n (zBi Ak.cells la)) (h2:Reads w B' 8 A' n (zBi Ak.cells la)) (hm:n<=100000000):Rt 19 #[.slice A n c,.slice A' n c'] w (.bool true):=by
 have hlen:la.length=n:=by
  have:=h1.1
  rw[zAD Ak.cells 8 Ak.cells_length] at this
  omega
 have H1:=zh h1
 have H2:=zh h2
 have HL:=zh hlen
 clear h1 h2 hlen
 go_enter Tryz.func19,Tryz.ntmps19
 go_wp2
 go_loopw [5] (fun t wr=>∃ j:Nat,j<=n/\t=.int .i64 j/\Below w.heap.size w wr) (fun t _=>n-(intOf t).toNat)
 case atStart=>exact⟨0,Nat.zero_le _,rfl,Below.refl _ _⟩
 case round =>
  obtain⟨j,hj,rfl,hB⟩:=hrel
  have hs:=hB.size
  by_cases hlt:j<n
  ·obtain⟨x,hx⟩:∃ x,la[j]? =some x:=⟨_,List.getElem?_eq_getElem (show j<la.length by have:=HL.out;omega)⟩
   obtain⟨bk,off,rfl,_,hc⟩:=H1.out.2 (by omega)
   obtain⟨bq,oq,rfl,_,hd⟩:=H2.out.2 (by omega)
   have hcell:∀ i u,x.cells[i]? =some u->wr.cell? ⟨bk,off+(j*8+i),none⟩=some u:=fun i u hu=>cell_below (hc _ u (zA9 Ak.cells 8 Ak.cells_length la j x hx i u hu)) hB
   have hdell:∀ i u,x.cells[i]? =some u->wr.cell? ⟨bq,oq+(j*8+i),none⟩=some u:=fun i u hu=>cell_below (hd _ u (zA9 Ak.cells 8 Ak.cells_length la j x hx i u hu)) hB
   have c0:=hcell 0 _ rfl
   have c1:=hcell 1 _ rfl
   have c2:=hcell 2 _ rfl
   have c3:=hcell 3 _ rfl
   have c4:=hcell 4 _ rfl
   have c5:=hcell 5 _ rfl
   have c6:=hcell 6 _ rfl
   have c7:=hcell 7 _ rfl
   have d0:=hdell 0 _ rfl
   have d1:=hdell 1 _ rfl
   have d2:=hdell 2 _ rfl
   have d3:=hdell 3 _ rfl
   have d4:=hdell 4 _ rfl
   have d5:=hdell 5 _ rfl
   have d6:=hdell 6 _ rfl
   have d7:=hdell 7 _ rfl
   simp only[<- Nat.add_assoc,Nat.add_zero] at c0 c1 c2 c3 c4 c5 c6 c7 d0 d1 d2 d3 d4 d5 d6 d7
   have lc:=zA2 c0
   have ld:=zA2 d0
   have HB:=zh hB
   have hi1:(0:Int)<=(j:Int):=by omega
   have hi2:(j:Int)<(n:Int):=by omega
   have hq:=fun (w:World)=>neqA x w
   unfold Ak.val at hq
   clear hcell hdell hc hd hx hB
   go_wp2
   go_quiet (fail)
   go_wp2
   go_roundw
   case rel=>exact⟨j+1,by omega,by go_num,HB.out.trans (Below.mono (B:=wr.heap.size) bel hs)⟩
   case measure=>simp[intOf];omega
  ·obtain rfl:j=n:=by omega
   have HB:=zh hB
   clear hB
   go_wp2
   go_returns
   exact⟨rfl,HB.out⟩
theorem info_Rf:(Tryz.prog.info? 106).map (fun i=>(i.zero,i.size,i.bytes))=some (some (.agg #[.bool false,.int .i64 0,.int .i64 0,.int .i64 0,.int .i64 0]),5,40):=by kernel_rfl
def isG (b:Bool) (r:Rf) (l:List Rf) (k:Nat):Bool:=b&& !decide (r∈l.take k)
theorem isG_yes {b:Bool} {r:Rf} {l:List Rf} {k:Nat} (h:l[k]? =some r):isG b r l (k+1)=false:=by
 unfold isG
 rw[zBc h]
 simp
theorem isG_no {b:Bool} {r y:Rf} {l:List Rf} {k:Nat} (h:l[k]? =some y) (hy:y≠r):isG b r l (k+1)=isG b r l k:=by
 unfold isG
 rw[zBc h]
 have:(r∈l.take k++[y])=(r∈l.take k):=by
  simp only[List.mem_append,List.mem_singleton,eq_iff_iff]
  exact⟨fun h=>h.resolve_right fun e=>hy e.symm,.inl⟩
 simp only[this]
theorem ofStep_is (l:List Rf) (x:Nx):zCD l x=if isG (refN x).isSome ((refN x).getD rfO) l l.length=true then l++[(refN x).getD rfO] else l:=by
 unfold zCD isG
 rw[List.take_length]
 cases refN x with
 | none=>rfl
 | some r =>
   simp only[Option.isSome_some,Option.getD_some,Bool.true_and]
   by_cases h:r∈l<;>simp[h]
theorem ofStep_len (l:List Rf) (x:Nx):(zCD l x).length<=l.length+1:=by
 rw[ofStep_is]
 split<;>simp
theorem of_cons (x:Nx) (xs:List Nx) (l:List Rf):(x::xs).foldl zCD l=xs.foldl zCD (zCD l x):=rfl
theorem ref05_Of (xs:List Nx) (A:Option Addr) (n c B:Nat) (w:World) (hr:Reads w B 15 A n (zBi Nx.cells xs)) (hm:n<=1000000000) (hnm:∀ x∈xs,x.name.size<=1000000000000) (h64:∀ x∈xs,Is64 x.v.num) :
  Calls Tryz.prog 16 #[.agg #[.slice A n c]] w fun e w'=>∃ v:Value,e=.returned v/\Below w.heap.size w w'/\w'.ownsRow w.heap.size 106 5 v (ofG xs).length (zBi Rf.cells (ofG xs))/\(ofG xs).length<=n:=by
 have hlen:xs.length=n:=by
  have:=hr.1
  rw[zAD Nx.cells 15 Nx.cells_length] at this
  omega
 have HCK:=zh (fun (w':World) (h:Reads w' B 15 A n (zBi Nx.cells xs))=>ref05_Check xs A n c B w' h (by omega) hnm h64)
 have HR:=zh hr
 have HL:=zh hlen
 cases hck:zBD xs
 ·have e:ofG xs=[]:=by unfold ofG;rw[hck];rfl
  rw[e]
  rw[hck] at HCK
  unfold errI at HCK
  simp only[Bool.false_eq_true,if_false] at HCK
  clear hr hnm h64 hlen hck e
  go_enter Tryz.func16,Tryz.ntmps16
  go_wp2_with(go_at_call 12;refine mB (HCK.out _ (HR.out.keeps kps)) ?_;intro l1 m1)
  go_ret
  exact⟨_,rfl,bel,World.ownsRow_nil _ _ _ _,Nat.zero_le _⟩
 obtain⟨i0,hi,hz0,hz1,hz2⟩:=info_parts info_Rf
 obtain⟨R,hR⟩:∃ R,ofG xs=R:=⟨_,rfl⟩
 rw[hR]
 have e:xs.foldl zCD []=R:=by rw[<- hR];unfold ofG;rw[hck];rfl
 have HP:=zh e
 rw[hck] at HCK
 unfold errI at HCK
 simp only[if_true] at HCK
 clear hr hnm h64 hlen hck e hR
 go_enter Tryz.func16,Tryz.ntmps16
 go_wp2_with(go_at_call 12;refine mB (HCK.out _ (HR.out.keeps kps)) ?_;intro l1 m1)
 go_loopw [5,4] (fun t5 t4 wr=>∃ (j:Nat) (l:List Rf),j<=n/\t5=.int .i64 j/\Below w.heap.size w wr/\wr.cell? ⟨w.heap.size,0,none⟩=some (.slice A n c)/\wr.ownsRow (w.heap.size+1) 106 5 t4 l.length (zBi Rf.cells l)/\l.length<=j/\RowKit.Hid ((xs.drop j).foldl zCD l=R)) (fun t _ _=>n-(intOf t).toNat)
 case atStart=>exact⟨0,[],Nat.zero_le _,rfl,bel,by go_simp,World.ownsRow_nil _ _ _ _,Nat.le_refl _,HP⟩
 case round =>
  obtain⟨j,l,hj,rfl,hB,b0,hO,hlj,hg⟩:=hrel
  have hsz:=hB.size
  have lb:=zA2 b0
  obtain⟨wo,rfl⟩:∃ wo,wo=wr:=⟨_,rfl⟩
  obtain⟨Al,cl,rfl,hlc,hcm⟩:=zAk hO
  by_cases hlt:j<n
  ·obtain⟨x,hx⟩:∃ x,xs[j]? =some x:=⟨_,List.getElem?_eq_getElem (show j<xs.length by have:=HL.out;omega)⟩
   obtain⟨bk,off,rfl,_,hc⟩:=HR.out.2 (by omega)
   have hcell:∀ i u,x.cells[i]? =some u->wo.cell? ⟨bk,off+(j*15+i),none⟩=some u:=fun i u hu=>cell_below (hc _ u (zA9 Nx.cells 15 Nx.cells_length xs j x hx i u hu)) hB
   have c0:=hcell 0 _ rfl
   have c1:=hcell 1 _ rfl
   have c2:=hcell 2 _ rfl
   have c3:=hcell 3 _ rfl
   have c4:=hcell 4 _ rfl
   have c5:=hcell 5 _ rfl
   have c6:=hcell 6 _ rfl
   have c7:=hcell 7 _ rfl
   have c8:=hcell 8 _ rfl
   have c9:=hcell 9 _ rfl
   have c10:=hcell 10 _ rfl
   have c11:=hcell 11 _ rfl
   have c12:=hcell 12 _ rfl
   have c13:=hcell 13 _ rfl
   have c14:=hcell 14 _ rfl
   simp only[<- Nat.add_assoc,Nat.add_zero] at c0 c1 c2 c3 c4 c5 c6 c7 c8 c9 c10 c11 c12 c13 c14
   have lc:=zA2 c0
   have hd:xs.drop j=x::xs.drop (j+1):=by
    obtain⟨hm,hv⟩:=List.getElem?_eq_some_iff.1 hx
    rw[List.drop_eq_getElem_cons hm,hv]
   have hG:=hg.out
   rw[hd,of_cons] at hG
   have HS:=zh (ofStep_is l x)
   have HN:=zh (ofStep_len l x)
   have HRF:=zh (fun w=>ref05_Ref x w)
   obtain⟨b,hb⟩:∃ b,(refN x).isSome=b:=⟨_,rfl⟩
   obtain⟨r,hr⟩:∃ r,(refN x).getD rfO=r:=⟨_,rfl⟩
   rw[hb,hr] at HS HRF
   unfold Rf.val at HRF
   obtain⟨l2,hl2⟩:∃ l2,zCD l x=l2:=⟨_,rfl⟩
   rw[hl2] at HS HN hG
   have HG:=zh hG
   have HB:=zh hB
   have HO:=zh hO
   have HE:=zh (fun (y:Rf) (w:World)=>eqlR y r w)
   have hi1:(0:Int)<=(j:Int):=by omega
   have hi2:(j:Int)<(n:Int):=by omega
   have HCR:=zh (fun (W:World) (hb:Below wo.heap.size wo W) (k:Nat) (y:Rf) (hy:l[k]? =some y)=>show ∃ g,Al=some ⟨g,0,none⟩/\∀ i u,y.cells[i]? =some u->W.cell? ⟨g,k*5+i,none⟩=some u from by
    obtain⟨g,cc,e1,-,-,-,-,hcl,-⟩:=zAf hO (by have:=(List.getElem?_eq_some_iff.1 hy).1;omega)
    cases e1
    exact⟨g,rfl,fun i u hu=>cell_below (hcl _ u (zA9 Rf.cells 5 Rf.cells_length l k y hy i u hu)) hb⟩)
   clear hcell hc hx hd hG hg hb hr hl2 hO hB
   go_wp2_with(go_at_call 29;refine mB (HRF.out _) ?_;intro l1 m1)
   have HNE:=zh (show some w.heap.size≠(Value.slice Al l.length cl).ownBlock from fun e=>by have:=(HO.out.lt _ e.symm).1;omega)
   go_loopw [7,8] (fun t7 t8 wi=>∃ k:Nat,k<=l.length/\t7=.bool (isG b r l k)/\t8=.int .i64 k/\Below (wo.heap.size+l1.length+1) ((more wo l1 m1).alloc (.cells #[.bool r.many,.int .i64 r.top,.int .i64 r.left,.int .i64 r.bottom,.int .i64 r.right] 106)) wi) (fun _ t8 _=>l.length-(intOf t8).toNat)
   case atStart=>exact⟨0,Nat.zero_le _,by simp[isG],rfl,bel⟩
   case round =>
    obtain⟨k,hk,rfl,rfl,hBi⟩:=hrel
    have hsi:=hBi.size
    rw[alz,zAU] at hsi
    have r0:wr.cell? ⟨wo.heap.size+l1.length,0,none⟩=some (.bool r.many):=cell_below (w:=((more wo l1 m1).alloc (.cells #[.bool r.many,.int .i64 r.top,.int .i64 r.left,.int .i64 r.bottom,.int .i64 r.right] 106))) ((AtB.new (by simp)) 0 _ rfl) (by simpa using hBi)
    have r1:wr.cell? ⟨wo.heap.size+l1.length,1,none⟩=some (.int .i64 r.top):=cell_below (w:=((more wo l1 m1).alloc (.cells #[.bool r.many,.int .i64 r.top,.int .i64 r.left,.int .i64 r.bottom,.int .i64 r.right] 106))) ((AtB.new (by simp)) 1 _ rfl) (by simpa using hBi)
    have r2:wr.cell? ⟨wo.heap.size+l1.length,2,none⟩=some (.int .i64 r.left):=cell_below (w:=((more wo l1 m1).alloc (.cells #[.bool r.many,.int .i64 r.top,.int .i64 r.left,.int .i64 r.bottom,.int .i64 r.right] 106))) ((AtB.new (by simp)) 2 _ rfl) (by simpa using hBi)
    have r3:wr.cell? ⟨wo.heap.size+l1.length,3,none⟩=some (.int .i64 r.bottom):=cell_below (w:=((more wo l1 m1).alloc (.cells #[.bool r.many,.int .i64 r.top,.int .i64 r.left,.int .i64 r.bottom,.int .i64 r.right] 106))) ((AtB.new (by simp)) 3 _ rfl) (by simpa using hBi)
    have r4:wr.cell? ⟨wo.heap.size+l1.length,4,none⟩=some (.int .i64 r.right):=cell_below (w:=((more wo l1 m1).alloc (.cells #[.bool r.many,.int .i64 r.top,.int .i64 r.left,.int .i64 r.bottom,.int .i64 r.right] 106))) ((AtB.new (by simp)) 4 _ rfl) (by simpa using hBi)
    have lr:=zA2 r0
    have hBo:Below wo.heap.size wo wr:=Below.trans (show Below wo.heap.size wo ((more wo l1 m1).alloc (.cells #[.bool r.many,.int .i64 r.top,.int .i64 r.left,.int .i64 r.bottom,.int .i64 r.right] 106)) from bel) (hBi.mono (by omega))
    have bb:wr.cell? ⟨w.heap.size,0,none⟩=some (.slice (some ⟨bk,off,none⟩) n c):=cell_below b0 hBo
    have HBI:=zh hBi
    have HBO:=zh hBo
    by_cases hlk:k<l.length
    ·obtain⟨y,hy⟩:∃ y,l[k]? =some y:=⟨_,List.getElem?_eq_getElem hlk⟩
     obtain⟨g,rfl,hcl⟩:=HCR.out wr hBo k y hy
     have y0:=hcl 0 _ rfl
     have y1:=hcl 1 _ rfl
     have y2:=hcl 2 _ rfl
     have y3:=hcl 3 _ rfl
     have y4:=hcl 4 _ rfl
     simp only[Nat.add_zero] at y0 y1 y2 y3 y4
     have ly:=zA2 y0
     have hk1:(0:Int)<=(k:Int):=by omega
     have hk2:(k:Int)<(l.length:Int):=by omega
     have hq:=fun (w:World)=>HE.out y w
     unfold Rf.val at hq
     by_cases hyr:y=r
     ·rw[decide_eq_true hyr] at hq
      have HIS:=zh (isG_yes (b:=b) (hyr ▸ hy))
      clear hcl hy hyr hBi hBo
      go_wp2
      go_quiet (fail)
      go_wp2
      go_roundw
      case rel=>exact⟨k+1,by omega,by rw[HIS.out],by go_num,HBI.out.trans (Below.mono (B:=wr.heap.size) bel (by omega))⟩
      case measure=>simp[intOf];omega
     ·rw[decide_eq_false hyr] at hq
      have HIS:=zh (isG_no (b:=b) hy hyr)
      clear hcl hy hyr hBi hBo
      go_wp2
      go_quiet (fail)
      go_wp2
      go_roundw
      case rel=>exact⟨k+1,by omega,by rw[HIS.out],by go_num,HBI.out.trans (Below.mono (B:=wr.heap.size) bel (by omega))⟩
      case measure=>simp[intOf];omega
    ·obtain rfl:k=l.length:=by omega
     obtain⟨q,hq⟩:∃ q,isG b r l l.length=q:=⟨_,rfl⟩
     rw[hq] at HS ⊢
     have hnk: ¬ (l.length:Int)<(l.length:Int):=by omega
     clear hq hBi hBo
     cases q
     ·have hs2:=HS.out
      simp only[Bool.false_eq_true,if_false] at hs2
      subst hs2
      clear HS
      go_wp2
      go_roundw
      case rel=>exact⟨j+1,_,by omega,by go_num,HB.out.trans (HBO.out.mono hsz),bb,zA7 HO.out HBO.out,by omega,zh HG.out⟩
      case measure=>simp[intOf];omega
     ·have hs2:=HS.out
      simp only[if_true] at hs2
      subst hs2
      clear HS
      go_wp2_with(at_builtin;refine wpList_append_own _ rfl _ _ 59 rfl (w.heap.size+1) 106 i0 _ 5 40 Tryz.underlying59 hi hz0 hz1 hz2 rfl (by decide) _ _ _ rfl (zA7 HO.out (HBO.out.trans bel)) _ 1 1 (Rf.cells r) rfl ?_ ?_ ?_ ?_ ?_ ?_ ?_)
      all_goals first
       | exact Rf.cells_one _
       | rfl
       | (simp only[maxLen];omega)
       | omega
       | (simp;omega)
       | exact fun i u hu=>zAJ (by simp) i u hu
       | exact fun i u hu=>hu
       | exact fun i u hu=>by simpa using hu
       | skip
      all_goals
       intro v1 w3 hown hgrow _
       have bb2:w3.cell? ⟨w.heap.size,0,none⟩=some (.slice (some ⟨bk,off,none⟩) n c):=(hgrow.cell_far _ (by go_size) HNE.out).trans (by (repeat(first|with_reducible assumption|with_reducible refine zAT ?_|with_reducible refine zAB ?_ _)))
       have HBW:=zh (zAE.step (show zAE w wr 106 5 (.slice Al l.length cl) l.length (zBi Rf.cells l) from ⟨HB.out.trans (HBO.out.mono hsz),own_mono (zA7 HO.out HBO.out) (by omega)⟩) bel (own_mono hown (by omega)) hgrow).1
       have HN1:=zh hown
       clear hown hgrow
       go_wp2
       go_roundw
       case rel=>exact⟨j+1,l++[r],by omega,by go_num,HBW.out,bb2,by rw[zAC,List.length_append];simpa [zBi] using HN1.out,by simp;omega,zh HG.out⟩
       case measure=>simp[intOf];omega
  ·obtain rfl:j=n:=by omega
   have hG:=hg.out
   rw[List.drop_eq_nil_of_le (by rw[HL.out];exact Nat.le_refl _)] at hG
   obtain rfl:l=R:=hG
   have HB:=zh hB
   have HO:=zh hO
   clear hg hB hO
   go_wp2
   go_returns
   exact⟨_,rfl,HB.out,own_mono HO.out (by omega),hlj⟩
end Go.Proofs.YtppghgnhlgoagaaGreatDoor
