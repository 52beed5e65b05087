/- Parts. -/
import Derived.Test.YtppghgnhlgoagaaGreatDoorG13
set_option linter.all false
set_option maxRecDepth 100000
set_option maxHeartbeats 4000000
namespace Go.Proofs.YtppghgnhlgoagaaGreatDoor
open Go Go.RowKit
open Go.Lib renaming hid->zh
theorem nm_up {c:UInt8} (l:List UInt8) (k:Nat) (h:65<=c.toNat/\c.toNat<=90):nmGo (c::l) k k 0=nmGo l (k+1) (k+1) 0:=by rw[nm_cons,if_pos ⟨h,rfl⟩]
theorem ref05_Named (s:ByteArray) (hs:s.size<=1000000000000) (w:World):Calls Tryz.prog 75 #[.string s] w fun e w'=>e=.returned (.bool (namedX s))/\w=w':=by
 by_cases h1:1<=s.size/\s.size<=16/\s.toList≠[84,82,85,69]/\s.toList≠[70,65,76,83,69]
 ·obtain⟨R,hR⟩:∃ R,nmGo s.data.toList 0 0 0=R:=⟨_,rfl⟩
  have e:namedX s=R:=by rw[<- hR];exact if_neg (by rintro(h|h|h|h)<;>first|omega|exact h1.2.2.1 h|exact h1.2.2.2 h)
  obtain⟨h1,h2,h3,h4⟩:=h1
  have i1:(1:Int)<=(s.size:Int):=by omega
  have i2:(s.size:Int)<=16:=by omega
  have i4:(s.toList==[70,65,76,83,69])=false:=by simp[h4]
  rw[e]
  have HR:=zh hR
  clear e hR h4
  go_enter Tryz.func75,Tryz.ntmps75
  go_wp2
  go_loop [3] (fun a=>∃ L:Nat,L<=s.size/\a=.int .i64 L/\nmGo (s.data.toList.drop L) L L 0=R) (fun a=>s.size-(intOf a).toNat)
  case atStart=>exact⟨0,by omega,rfl,HR.out⟩
  case round =>
   obtain⟨L,hL,rfl,hg⟩:=hrel
   by_cases hlt:L<s.size
   ·rw[nm_drop s L hlt] at hg
    have c0:(0:Int)<=((s[L].toNat:Nat):Int):=by omega
    have c1:((s[L].toNat:Nat):Int)<=255:=by have:=s[L].toNat_lt;omega
    by_cases hup:65<=s[L].toNat/\s[L].toNat<=90
    ·rw[nm_up _ _ hup] at hg
     have HG:=zh hg
     have u1:(65:Int)<=((s[L].toNat:Nat):Int):=by omega
     have u2:((s[L].toNat:Nat):Int)<=90:=by omega
     clear hg
     go_wp2
     exact⟨⟨L+1,by omega,by go_num,HG.out⟩,by simp[intOf];omega⟩
    ·have HUP:=zh hup
     have hu: ¬ ((65:Int)<=((s[L].toNat:Nat):Int)/\((s[L].toNat:Nat):Int)<=90):=by omega
     by_cases h0:L=0
     ·have hf:R=false:=by rw[<- hg,nm_cons,if_neg (by omega),if_neg (by omega),if_neg (by omega)]
      have HF:=zh hf
      have hz:((L:Int)==0)=true:=by simp[h0]
      clear hg hup hf h0
      go_wp2
      all_goals first
       | (exfalso;omega)
       | (go_ret;exact⟨congrArg (fun b=>Ending.returned (Value.bool b)) (show _=R from HF.out.symm),rfl⟩)
     ·have HG:=zh (show nmGo (s.data.toList.drop L) L L 0=R from by rw[nm_drop s L hlt];exact hg)
      have hz:((L:Int)==0)=false:=by simp;omega
      clear hg hup
      go_wp2
      all_goals first
       | (exfalso;omega)
       | skip
      all_goals
       go_loop [4,5] (fun p i=>∃ k D:Nat,L<=k/\k<=s.size/\L+D<=k/\p=.bool (decide (L+D=k))/\i=.int .i64 k/\nmGo (s.data.toList.drop k) k L D=R) (fun _ i=>s.size-(intOf i).toNat)
       case atStart=>exact⟨L,0,by omega,by omega,by omega,by simp,rfl,HG.out⟩
       case round =>
        obtain⟨k,D,hk1,hk2,hD,rfl,rfl,hg⟩:=hrel
        by_cases hlt2:k<s.size
        ·rw[nm_drop s k hlt2] at hg
         have HG2:=zh hg
         have d0:(0:Int)<=((s[k].toNat:Nat):Int):=by omega
         have d1:((s[k].toNat:Nat):Int)<=255:=by have:=s[k].toNat_lt;omega
         have HL:=zh (show k=L->¬ (65<=s[k].toNat/\s[k].toNat<=90) from fun e=>by subst e;exact HUP.out)
         obtain⟨b,hb⟩:∃ b,s[k].toNat=b:=⟨_,rfl⟩
         rw[hb] at d0 d1
         clear hg
         by_cases hdg:48<=b/\b<=57
         ·have e1:(48:Int)<=(b:Int):=by omega
          have e2:(b:Int)<=57:=by omega
          have e3: ¬ (65:Int)<=(b:Int):=by omega
          by_cases hp:L+D=k
          ·have hR:nmGo (s.data.toList.drop (k+1)) (k+1) L (D+1)=R:=by rw[<- HG2.out,nm_cons,if_neg (by rw[hb];omega),if_pos (by rw[hb];omega)]
           have HR2:=zh hR
           have hpp:decide (L+D=k)=true:=by simp[hp]
           have hpn:decide (L+(D+1)=k+1)=true:=by simp;omega
           rw[hpp]
           clear hR hpp
           go_wp2
           all_goals first
            | (exfalso;omega)
            | (go_round
               case rel=>exact⟨k+1,D+1,by omega,by omega,by omega,by rw[hpn],by go_num,HR2.out⟩
               case measure=>simp[intOf];omega)
          ·have hR:nmGo (s.data.toList.drop (k+1)) (k+1) L D=R:=by rw[<- HG2.out,nm_cons,if_neg (by rw[hb];omega),if_neg (by omega),if_pos (by rw[hb];omega)]
           have HR2:=zh hR
           have hpp:decide (L+D=k)=false:=by simp[hp]
           have hpn:decide (L+D=k+1)=false:=by simp;omega
           rw[hpp]
           clear hR hpp
           go_wp2
           all_goals first
            | (exfalso;omega)
            | (go_round
               case rel=>exact⟨k+1,D,by omega,by omega,by omega,by rw[hpn],by go_num,HR2.out⟩
               case measure=>simp[intOf];omega)
         ·have e1: ¬ ((48:Int)<=(b:Int)/\(b:Int)<=57):=by omega
          have e9:((b:Int) != 95)= !decide (b=95):=by by_cases h:b=95<;>simp[h];omega
          have hpn:decide (L+D=k+1)=false:=by simp;omega
          by_cases hok:(65<=b/\b<=90)∨b=95
          ·have hR:nmGo (s.data.toList.drop (k+1)) (k+1) L D=R:=by
            have h2: ¬ ((65<=s[k].toNat/\s[k].toNat<=90)/\L=k):=fun h=>HL.out h.2.symm h.1
            rw[<- HG2.out,nm_cons,if_neg h2,if_neg (by rw[hb];omega),if_pos (by rw[hb];omega)]
           have HR2:=zh hR
           clear hR
           rcases hok with hok|hok
           ·have e4:(65:Int)<=(b:Int):=by omega
            have e5:(b:Int)<=90:=by omega
            go_wp2
            all_goals first
             | (exfalso;omega)
             | (go_round
                case rel=>exact⟨k+1,D,by omega,by omega,by omega,by rw[hpn],by go_num,HR2.out⟩
                case measure=>simp[intOf];omega)
           ·subst hok
            have e6:(((95:Nat):Int) != 95)=false:=by decide
            clear e9
            go_wp2
            all_goals first
             | (exfalso;omega)
             | (go_round
                case rel=>exact⟨k+1,D,by omega,by omega,by omega,by rw[hpn],by go_num,HR2.out⟩
                case measure=>simp[intOf];omega)
          ·have hf:R=false:=by
            have h2: ¬ ((65<=s[k].toNat/\s[k].toNat<=90)/\L=k):=by rw[hb];omega
            rw[<- HG2.out,nm_cons,if_neg h2,if_neg (by rw[hb];omega),if_neg (by rw[hb];omega)]
           have HF:=zh hf
           have e6:((b:Int) != 95)=true:=by simp;omega
           have e7: ¬ ((65:Int)<=(b:Int)/\(b:Int)<=90):=by omega
           clear hf hok e9
           go_wp2
           all_goals first
            | (exfalso;omega)
            | (go_ret;exact⟨congrArg (fun b=>Ending.returned (Value.bool b)) (show _=R from HF.out.symm),rfl⟩)
        ·obtain rfl:k=s.size:=by omega
         rw[List.drop_eq_nil_of_le (by simp)] at hg
         have hf:R= !decide (L+D=s.size):=by
          rw[<- hg]
          have hp:L<s.size:=hlt
          unfold nmGo
          by_cases hd:L+D=s.size
          ·have hd0:(D==0)=false:=by simp;omega
           simp[hd,hd0]
          ·have hd1:L+D<s.size:=by omega
           simp[hd,hd1]
         have HF:=zh hf
         clear hg hf
         go_wp2
         all_goals(go_ret;exact⟨congrArg (fun b=>Ending.returned (Value.bool b)) (show _=R from HF.out.symm),rfl⟩)
   ·obtain rfl:L=s.size:=by omega
    rw[List.drop_eq_nil_of_le (by simp)] at hg
    have hf:R=true:=by rw[<- hg];rfl
    have HF:=zh hf
    have hz:((s.size:Int)==0)=false:=beq_eq_false_iff_ne.2 (by omega)
    clear hg hf
    go_wp2
    all_goals first
     | (exfalso;omega)
     | skip
    all_goals
     go_loop [4,5] (fun p i=>p=.bool false/\i=.int .i64 s.size) (fun _ i=>s.size-(intOf i).toNat)
     case atStart=>exact⟨rfl,rfl⟩
     case round =>
      obtain⟨rfl,rfl⟩:=hrel
      go_wp2
      all_goals(go_ret;exact⟨congrArg (fun b=>Ending.returned (Value.bool b)) (show _=R from HF.out.symm),rfl⟩)
 ·have e:namedX s=false:=if_pos (by
   by_cases a:s.size<1
   ·exact .inl a
   ·by_cases b:16<s.size
    ·exact .inr (.inl b)
    ·by_cases c:s.toList=[84,82,85,69]
     ·exact .inr (.inr (.inl c))
     ·by_cases d:s.toList=[70,65,76,83,69]
      ·exact .inr (.inr (.inr d))
      ·exact absurd ⟨by omega,by omega,c,d⟩ h1)
  rw[e]
  go_enter Tryz.func75,Tryz.ntmps75
  by_cases a:s.size<1
  ·have a1:(s.size:Int)<1:=by omega
   go_wp2
   all_goals(go_ret;exact⟨rfl,rfl⟩)
  ·have a1: ¬ (s.size:Int)<1:=by omega
   by_cases b:16<s.size
   ·have b1:(16:Int)<(s.size:Int):=by omega
    go_wp2
    all_goals(go_ret;exact⟨rfl,rfl⟩)
   ·have b1: ¬ (16:Int)<(s.size:Int):=by omega
    by_cases c:s.toList=[84,82,85,69]
    ·go_wp2
     all_goals(go_ret;exact⟨rfl,rfl⟩)
    ·have d:(s.toList==[70,65,76,83,69])=true:=by
      by_cases d:s.toList=[70,65,76,83,69]
      ·simp[d]
      ·exact absurd ⟨by omega,by omega,c,d⟩ h1
     clear e h1 a b
     go_wp2
     all_goals(go_ret;exact⟨rfl,rfl⟩)
theorem ref05_Level (k:Int) (h1:1<=k) (h2:k<=13) (w:World):Calls Tryz.prog 76 #[.int .i64 k] w fun e w'=>e=.returned (.int .i64 (lev k))/\w=w':=by
 have hk:k=1∨k=2∨k=3∨k=4∨k=5∨k=6∨k=7∨k=8∨k=9∨k=10∨k=11∨k=12∨k=13:=by omega
 clear h1 h2
 rcases hk with rfl|rfl|rfl|rfl|rfl|rfl|rfl|rfl|rfl|rfl|rfl|rfl|rfl
 all_goals
  go_enter Tryz.func76,Tryz.ntmps76
  go_wp2
  go_ret
  exact⟨rfl,rfl⟩
theorem ref05_within (d b least:Int) (m:Bool) (h0:0<=d) (h1:d<=1000000) (w:World):Rt 77 #[.agg #[.int .i64 d,.int .i64 b,.bool m],.int .i64 least] w (.int .i64 (insG d b least)):=by
 by_cases h:b<least
 ·have e:insG d b least=d+1:=if_pos h
  rw[e]
  go_enter Tryz.func77,Tryz.ntmps77
  go_wp2
  go_ret
  exact⟨rfl,bel⟩
 ·have e:insG d b least=d:=if_neg h
  rw[e]
  go_enter Tryz.func77,Tryz.ntmps77
  go_wp2
  go_ret
  exact⟨rfl,bel⟩
def takeG (x:Nx):Int:=if x.kind=5 then x.args else if x.kind=4 then (opK x.op:Int) else 0
theorem ref05_takes (x:Nx) (w:World):Rt 47 #[x.val] w (.int .i64 (takeG x)):=by
 obtain⟨k,v,r,q,t,l,bo,ri,o,nm,ar⟩:=x
 unfold Nx.val takeG opK
 dsimp only
 by_cases h5:k=5
 ·subst h5
  rw[if_pos rfl]
  go_enter Tryz.func47,Tryz.ntmps47
  go_wp2
  go_ret
  exact⟨rfl,bel⟩
 ·have k5:(k==5)=false:=by simp[h5]
  by_cases h4:k=4
  ·subst h4
   rw[if_neg h5,if_pos rfl]
   by_cases a:o=1
   ·subst a
    go_enter Tryz.func47,Tryz.ntmps47
    go_wp2
    go_ret
    exact⟨rfl,bel⟩
   ·have a1:(o==1)=false:=by simp[a]
    by_cases b:o=2
    ·subst b
     go_enter Tryz.func47,Tryz.ntmps47
     go_wp2
     go_ret
     exact⟨rfl,bel⟩
    ·have b1:(o==2)=false:=by simp[b]
     rw[if_neg (by omega)]
     clear a b
     go_enter Tryz.func47,Tryz.ntmps47
     go_wp2
     go_ret
     exact⟨rfl,bel⟩
  ·have k4:(k==4)=false:=by simp[h4]
   rw[if_neg h5,if_neg h4]
   clear h4 h5
   go_enter Tryz.func47,Tryz.ntmps47
   go_wp2
   go_ret
   exact⟨rfl,bel⟩
def sameN (x:Nx):Nx:=if x.kind=1 then { nx0 1 with v:=x.v } else if x.kind=2 then { nx0 2 with row:=x.row,col:=x.col } else if x.kind=3 then { nx0 3 with top:=x.top,left:=x.left,bottom:=x.bottom,right:=x.right } else if x.kind=4 then { nx0 4 with op:=x.op } else { nx0 5 with name:=x.name,args:=x.args }
def okN (x:Nx):Bool:=if x.kind=1 then (((mayG x.v&&x.v.tag != 0)&&decide (0<=x.v.num))&&x.v.code != 1) else if x.kind=2 then zCB x.row x.col else if x.kind=3 then rectB x.top x.left x.bottom x.right else if x.kind=4 then (decide (1<=x.op)&&decide (x.op<=13)) else if x.kind=5 then ((namedX x.name&&decide (0<=x.args))&&decide (x.args<=16)) else false
theorem ndMay_ok (x:Nx):zBj x=(okN x&&eqN x (sameN x)):=by
 obtain⟨k,v,r,q,t,l,bo,ri,o,nm,ar⟩:=x
 unfold zBj okN sameN
 dsimp only
 by_cases h1:k=1
 ·subst h1
  simp only[if_pos]
  by_cases h:mayG v=false∨v.tag=0∨v.num<0∨v.code=1
  ·rw[if_pos h]
   rcases h with h|h|h|h
   ·simp[h]
   ·simp[h]
   ·have: ¬ 0<=v.num:=by omega
    simp[this]
   ·simp[h]
  ·rw[if_neg h]
   have a1:mayG v=true:=by
    cases hm:mayG v with
    | true=>rfl
    | false=>exact absurd (.inl hm) h
   have a2:v.tag≠0:=fun e=>h (.inr (.inl e))
   have a3:0<=v.num:=by omega
   have a4:v.code≠1:=fun e=>h (.inr (.inr (.inr e)))
   simp[a1,a2,a3,a4,eqN,nx0]
 by_cases h2:k=2
 ·subst h2
  simp only[if_neg h1,if_pos]
  cases zCB r q<;>simp[eqN,nx0]
 by_cases h3:k=3
 ·subst h3
  simp only[if_neg h1,if_neg h2,if_pos]
  cases rectB t l bo ri<;>simp[eqN,nx0]
 by_cases h4:k=4
 ·subst h4
  simp only[if_neg h1,if_neg h2,if_neg h3,if_pos]
  by_cases h:o<1∨13<o
  ·rw[if_pos h]
   rcases h with h|h
   ·have: ¬ 1<=o:=by omega
    simp[this]
   ·have: ¬ o<=13:=by omega
    simp[this]
  ·rw[if_neg h]
   have a1:1<=o:=by omega
   have a2:o<=13:=by omega
   simp[a1,a2,eqN,nx0]
 by_cases h5:k=5
 ·subst h5
  simp only[if_neg h1,if_neg h2,if_neg h3,if_neg h4,if_pos]
  by_cases h:namedX nm=false∨ar<0∨16<ar
  ·rw[if_pos h]
   rcases h with h|h|h
   ·simp[h]
   ·have: ¬ 0<=ar:=by omega
    simp[this]
   ·have: ¬ ar<=16:=by omega
    simp[this]
  ·rw[if_neg h]
   have a1:namedX nm=true:=by
    cases hm:namedX nm with
    | true=>rfl
    | false=>exact absurd (.inl hm) h
   have a2:0<=ar:=by omega
   have a3:ar<=16:=by omega
   simp[a1,a2,a3,eqN,nx0]
 ·simp only[if_neg h1,if_neg h2,if_neg h3,if_neg h4,if_neg h5,Bool.false_and]
theorem ref05_node1 (x:Nx) (hs:x.name.size<=1000000000000) (h64:Is64 x.v.num) (hk:x.kind=1) (w:World):Rt 46 #[x.val] w (.bool (zBj x)):=by
 rw[ndMay_ok]
 have hlo: -9223372036854775808<=x.v.num:=h64.1
 have hq:=fun (w:World)=>eqlN x (sameN x) w
 obtain⟨E,hE⟩:∃ E,eqN x (sameN x)=E:=⟨_,rfl⟩
 obtain⟨O,hO⟩:∃ O,okN x=O:=⟨_,rfl⟩
 rw[hE] at hq ⊢
 rw[hO]
 clear hE h64
 obtain⟨k,v,r,q,t,l,bo,ri,o,nm,ar⟩:=x
 obtain rfl:k=1:=hk
 unfold sameN at hq
 unfold okN at hO
 dsimp only at hs hq hO hlo
 unfold Nx.val at hq ⊢
 unfold nx0 VZ at hq
 dsimp only at hq ⊢
 simp only[if_pos] at hq hO
 obtain⟨M,hM⟩:∃ M,mayG v=M:=⟨_,rfl⟩
 rw[hM] at hO
 have HM:=zh hM
 clear hM
 have HO:=zh hO
 clear hO hs
 go_enter Tryz.func46,Tryz.ntmps46
 go_wp2_with(go_at_call 15;refine(ref02_May v hlo _).mono ?_;rw[HM.out];rintro e w1 ⟨rfl,hb⟩;obtain⟨l1,n1,rfl⟩:=zA0 hb;clear hb)
 all_goals go_ret
 all_goals refine⟨congrArg (fun b=>Ending.returned (Value.bool b)) (?_:_=(O&&E)),bel⟩
 all_goals rw[<- HO.out]
 all_goals(simp_all<;>(intros;omega))
theorem ref05_node2 (x:Nx) (hs:x.name.size<=1000000000000) (h64:Is64 x.v.num) (hk:x.kind=2) (w:World):Rt 46 #[x.val] w (.bool (zBj x)):=by
 rw[ndMay_ok]
 have hlo: -9223372036854775808<=x.v.num:=h64.1
 have hq:=fun (w:World)=>eqlN x (sameN x) w
 obtain⟨E,hE⟩:∃ E,eqN x (sameN x)=E:=⟨_,rfl⟩
 obtain⟨O,hO⟩:∃ O,okN x=O:=⟨_,rfl⟩
 rw[hE] at hq ⊢
 rw[hO]
 clear hE h64
 obtain⟨k,v,r,q,t,l,bo,ri,o,nm,ar⟩:=x
 obtain rfl:k=2:=hk
 unfold sameN at hq
 unfold okN at hO
 dsimp only at hs hq hO hlo
 unfold Nx.val at hq ⊢
 unfold nx0 VZ at hq
 dsimp only at hq ⊢
 simp only[if_neg (show ¬ (2:Int)=1 by decide),if_pos] at hq hO
 have HO:=zh hO
 clear hO hlo hs
 go_enter Tryz.func46,Tryz.ntmps46
 go_wp2_with(go_at_call 31;refine mB (ref03_May r q _) ?_;intro l1 n1)
 all_goals go_ret
 all_goals refine⟨congrArg (fun b=>Ending.returned (Value.bool b)) (?_:_=(O&&E)),bel⟩
 all_goals rw[<- HO.out]
 all_goals(simp_all<;>(intros;omega))
theorem ref05_node3 (x:Nx) (hs:x.name.size<=1000000000000) (h64:Is64 x.v.num) (hk:x.kind=3) (w:World):Rt 46 #[x.val] w (.bool (zBj x)):=by
 rw[ndMay_ok]
 have hlo: -9223372036854775808<=x.v.num:=h64.1
 have hq:=fun (w:World)=>eqlN x (sameN x) w
 obtain⟨E,hE⟩:∃ E,eqN x (sameN x)=E:=⟨_,rfl⟩
 obtain⟨O,hO⟩:∃ O,okN x=O:=⟨_,rfl⟩
 rw[hE] at hq ⊢
 rw[hO]
 clear hE h64
 obtain⟨k,v,r,q,t,l,bo,ri,o,nm,ar⟩:=x
 obtain rfl:k=3:=hk
 unfold sameN at hq
 unfold okN at hO
 dsimp only at hs hq hO hlo
 unfold Nx.val at hq ⊢
 unfold nx0 VZ at hq
 dsimp only at hq ⊢
 simp only[if_neg (show ¬ (3:Int)=1 by decide),if_neg (show ¬ (3:Int)=2 by decide),if_pos] at hq hO
 have HO:=zh hO
 clear hO hlo hs
 go_enter Tryz.func46,Tryz.ntmps46
 go_wp2_with(go_at_call 74;refine mB (ref03_MayRect t l bo ri _) ?_;intro l1 n1)
 all_goals go_ret
 all_goals refine⟨congrArg (fun b=>Ending.returned (Value.bool b)) (?_:_=(O&&E)),bel⟩
 all_goals rw[<- HO.out]
 all_goals(simp_all<;>(intros;omega))
theorem ref05_node4 (x:Nx) (hs:x.name.size<=1000000000000) (h64:Is64 x.v.num) (hk:x.kind=4) (w:World):Rt 46 #[x.val] w (.bool (zBj x)):=by
 rw[ndMay_ok]
 have hlo: -9223372036854775808<=x.v.num:=h64.1
 have hq:=fun (w:World)=>eqlN x (sameN x) w
 obtain⟨E,hE⟩:∃ E,eqN x (sameN x)=E:=⟨_,rfl⟩
 obtain⟨O,hO⟩:∃ O,okN x=O:=⟨_,rfl⟩
 rw[hE] at hq ⊢
 rw[hO]
 clear hE h64
 obtain⟨k,v,r,q,t,l,bo,ri,o,nm,ar⟩:=x
 obtain rfl:k=4:=hk
 unfold sameN at hq
 unfold okN at hO
 dsimp only at hs hq hO hlo
 unfold Nx.val at hq ⊢
 unfold nx0 VZ at hq
 dsimp only at hq ⊢
 simp only[if_neg (show ¬ (4:Int)=1 by decide),if_neg (show ¬ (4:Int)=2 by decide),if_neg (show ¬ (4:Int)=3 by decide),if_pos] at hq hO
 have HO:=zh hO
 clear hO hlo hs
 go_enter Tryz.func46,Tryz.ntmps46
 go_wp2
 all_goals go_ret
 all_goals refine⟨congrArg (fun b=>Ending.returned (Value.bool b)) (?_:_=(O&&E)),bel⟩
 all_goals rw[<- HO.out]
 all_goals(simp_all<;>(intros;omega))
theorem ref05_node5 (x:Nx) (hs:x.name.size<=1000000000000) (h64:Is64 x.v.num) (hk:x.kind=5) (w:World):Rt 46 #[x.val] w (.bool (zBj x)):=by
 rw[ndMay_ok]
 have hlo: -9223372036854775808<=x.v.num:=h64.1
 have hq:=fun (w:World)=>eqlN x (sameN x) w
 obtain⟨E,hE⟩:∃ E,eqN x (sameN x)=E:=⟨_,rfl⟩
 obtain⟨O,hO⟩:∃ O,okN x=O:=⟨_,rfl⟩
 rw[hE] at hq ⊢
 rw[hO]
 clear hE h64
 obtain⟨k,v,r,q,t,l,bo,ri,o,nm,ar⟩:=x
 obtain rfl:k=5:=hk
 unfold sameN at hq
 unfold okN at hO
 dsimp only at hs hq hO hlo
 unfold Nx.val at hq ⊢
 unfold nx0 VZ at hq
 dsimp only at hq ⊢
 simp only[if_neg (show ¬ (5:Int)=1 by decide),if_neg (show ¬ (5:Int)=2 by decide),if_neg (show ¬ (5:Int)=3 by decide),if_neg (show ¬ (5:Int)=4 by decide),if_pos] at hq hO
 have HO:=zh hO
 clear hO hlo
 go_enter Tryz.func46,Tryz.ntmps46
 go_wp2_with(go_at_call 75;refine(ref05_Named nm hs _).mono ?_;rintro e w1 ⟨rfl,rfl⟩)
 all_goals go_ret
 all_goals refine⟨congrArg (fun b=>Ending.returned (Value.bool b)) (?_:_=(O&&E)),bel⟩
 all_goals rw[<- HO.out]
 all_goals(simp_all<;>(intros;omega))
theorem ref05_node (x:Nx) (hs:x.name.size<=1000000000000) (h64:Is64 x.v.num) (w:World):Rt 46 #[x.val] w (.bool (zBj x)):=by
 by_cases h1:x.kind=1
 ·exact ref05_node1 x hs h64 h1 w
 by_cases h2:x.kind=2
 ·exact ref05_node2 x hs h64 h2 w
 by_cases h3:x.kind=3
 ·exact ref05_node3 x hs h64 h3 w
 by_cases h4:x.kind=4
 ·exact ref05_node4 x hs h64 h4 w
 by_cases h5:x.kind=5
 ·exact ref05_node5 x hs h64 h5 w
 have hf:zBj x=false:=by
  unfold zBj
  rw[if_neg h1,if_neg h2,if_neg h3,if_neg h4,if_neg h5]
 rw[hf]
 obtain⟨k,v,r,q,t,l,bo,ri,o,nm,ar⟩:=x
 dsimp only at h1 h2 h3 h4 h5
 unfold Nx.val
 have n1:(k==1)=false:=by simp[h1]
 have n2:(k==2)=false:=by simp[h2]
 have n3:(k==3)=false:=by simp[h3]
 have n4:(k==4)=false:=by simp[h4]
 have n5:(k==5)=false:=by simp[h5]
 clear h1 h2 h3 h4 h5 hf
 go_enter Tryz.func46,Tryz.ntmps46
 go_wp2
 all_goals go_ret
 all_goals exact⟨rfl,bel⟩
def oGo (lv:Int):Nat->Int->List P3->Option Int
 | _,d,[]=>some d
 | i,d,p::r=>if p.m then none else oGo lv (i+1) (max d (insG p.d p.b (lv+i))) r
def zBp (x:Nx) (l:List P3):P3×Bool:=if x.kind=3 then (⟨0,7,true⟩,true) else if x.kind=5 then (⟨maxD l+1,7,false⟩,true) else if x.kind=4 then match oGo (lev x.op) 0 0 l with
    | none=>(p3z,false)
    | some d=>(⟨d,lev x.op,false⟩,true)
 else (⟨0,7,false⟩,true)
theorem max_bd (l:List P3) (h:∀ p∈l,0<=p.d/\p.d<=100000):0<=maxD l/\maxD l<=100000:=by
 have hg:∀ (l:List P3) (d:Int),(∀ p∈l,0<=p.d/\p.d<=100000)->0<=d->d<=100000->0<=l.foldl (fun d p=>max d p.d) d/\l.foldl (fun d p=>max d p.d) d<=100000:=by
  intro l
  induction l with
  | nil=>intro d _ h1 h2;exact⟨h1,h2⟩
  | cons p l ih =>
    intro d h h1 h2
    have hp:=h p (by simp)
    exact ih (max d p.d) (fun q hq=>h q (List.mem_cons_of_mem _ hq)) (by omega) (by omega)
 exact hg l 0 h (by omega) (by omega)
def PtAt (w:World) (N:Nat) (p:P3):Prop:=AtB w N p.cells/\∀ i,w.frozen? ⟨N,i,none⟩=false
theorem PtAt.drewN {w:World} {N:Nat} {p:P3} (h:PtAt w N p) (k:Nat):PtAt (w.drewN k) N p:=by
 have e:(w.drewN k).heap=w.heap:=by simp
 exact⟨fun j u hu=>(World.cell?_of_block (a:=⟨N,j,none⟩) (by rw[e])).trans (h.1 j u hu),fun i=>(World.frozen?_of_block (a:=⟨N,i,none⟩) (by rw[e])).trans (h.2 i)⟩
theorem PtAt.below {w w':World} {N:Nat} {p:P3} (h:PtAt w N p) (hb:Below w.heap.size w w'):PtAt w' N p :=
 ⟨h.1.below hb,fun i=>(World.frozen?_of_block (a:=⟨N,i,none⟩) (hb.block N (zA2 (h.1 0 _ rfl)))).trans (h.2 i)⟩
theorem PtAt.set0 {w:World} {N:Nat} {p:P3} (h:PtAt w N p) (d:Int):PtAt (w.setCell ⟨N,0,none⟩ (.int .i64 d)) N ⟨d,p.b,p.m⟩:=by
 refine⟨fun j u hu=> ?_,fun i=>(World.frozen?_setCell _ _ _ _).trans (h.2 i)⟩
 match j,hu with
 | 0,hu =>
   cases hu
   exact World.cell?_setCell_same _ _ _ (h.1 0 _ rfl)
 | 1,hu =>
   cases hu
   exact(World.cell?_setCell_other _ _ _ _ (by simp)).trans (h.1 1 _ rfl)
 | 2,hu =>
   cases hu
   exact(World.cell?_setCell_other _ _ _ _ (by simp)).trans (h.1 2 _ rfl)
 | _+3,hu=>cases hu
theorem PtAt.other {w:World} {N M i:Nat} {p:P3} {u:Value} (h:PtAt w N p) (hM:N≠M):PtAt (w.setCell ⟨M,i,none⟩ u) N p :=
 ⟨fun j v hv=>(World.cell?_setCell_other _ _ _ _ (by simp[hM])).trans (h.1 j v hv),fun j=>(World.frozen?_setCell _ _ _ _).trans (h.2 j)⟩
theorem PtAt.new {w:World} {N:Nat} {p:P3} (h0:w.cell? ⟨N,0,none⟩=some (.int .i64 p.d)) (h1:w.cell? ⟨N,1,none⟩=some (.int .i64 p.b)) (h2:w.cell? ⟨N,2,none⟩=some (.bool p.m)) (hf:∀ i,w.frozen? ⟨N,i,none⟩=false):PtAt w N p:=by
 refine⟨fun j u hu=> ?_,hf⟩
 match j,hu with
 | 0,hu=>cases hu;exact h0
 | 1,hu=>cases hu;exact h1
 | 2,hu=>cases hu;exact h2
 | _+3,hu=>cases hu
section
variable {x:Nx} {l:List P3} {A:Option Addr} {n c B:Nat} {w:World}
theorem ref05_part0 (h:x.kind=3∨(x.kind≠4/\x.kind≠5)):Rt 48 #[x.val,.slice A n c] w (.tuple #[.agg #[.int .i64 (zBp x l).1.d,.int .i64 (zBp x l).1.b,.bool (zBp x l).1.m],.bool (zBp x l).2]):=by
 obtain⟨k,v,r,q,t,le,bo,ri,o,nm,ar⟩:=x
 unfold Nx.val zBp
 dsimp only at h ⊢
 by_cases h3:k=3
 ·subst h3
  rw[if_pos rfl]
  clear h
  go_enter Tryz.func48,Tryz.ntmps48
  go_wp2
  exact bodyPost_ret (by simp[results,Tryz.results48,go_sem];try rfl) rfl ⟨rfl,bel⟩
 ·have h2:=h.resolve_left h3
  rw[if_neg h3,if_neg h2.2,if_neg h2.1]
  have n3:(k==3)=false:=by simp[h3]
  have n4:(k != 4)=true:=by simp[h2.1]
  have n5:(k==5)=false:=by simp[h2.2]
  clear h h2 h3
  go_enter Tryz.func48,Tryz.ntmps48
  go_wp2
  exact bodyPost_ret (by simp[results,Tryz.results48,go_sem];try rfl) rfl ⟨rfl,bel⟩
theorem ref05_part5 (h:x.kind=5) (hr:Reads w B 3 A n (zBi P3.cells l)) (hn:n<=100000) (hbd:∀ p∈l,0<=p.d/\p.d<=100000):Rt 48 #[x.val,.slice A n c] w (.tuple #[.agg #[.int .i64 (zBp x l).1.d,.int .i64 (zBp x l).1.b,.bool (zBp x l).1.m],.bool (zBp x l).2]):=by
 have e:zBp x l=(⟨maxD l+1,7,false⟩,true):=by unfold zBp;rw[if_neg (by omega),if_pos h]
 rw[e]
 obtain⟨M,hMM⟩:∃ M,maxD l=M:=⟨_,rfl⟩
 rw[hMM]
 have HMM:=zh hMM
 obtain⟨k,v,r,q,t,le,bo,ri,o,nm,ar⟩:=x
 unfold Nx.val
 dsimp only at h ⊢
 subst h
 have hlen:l.length=n:=by
  have:=hr.1
  rw[zAD P3.cells 3 P3.cells_length] at this
  omega
 have HR:=zh hr
 have HBD:=zh hbd
 have HL:=zh hlen
 clear e hr hbd hlen hMM
 go_enter Tryz.func48,Tryz.ntmps48
 go_wp2
 go_loopw [7] (fun t wr=>∃ j:Nat,j<=n/\t=.int .i64 j/\Below w.heap.size w wr/\PtAt wr (w.heap.size+2) ⟨maxD (l.take j)+1,7,false⟩/\PtAt wr (w.heap.size+1) p3z) (fun t _=>n-(intOf t).toNat)
 case atStart =>
  refine⟨0,Nat.zero_le _,rfl,bel,?_,?_⟩
  ·rw[show maxD (l.take 0)+1=1 from by simp[maxD]]
   refine PtAt.new ?_ ?_ ?_ fun i=> ?_
   all_goals go_simp
  ·refine PtAt.new (p:=p3z) ?_ ?_ ?_ fun i=> ?_
   all_goals(try unfold p3z)
   all_goals go_simp
 case round =>
  obtain⟨j,hj,rfl,hB,h2,h1⟩:=hrel
  have hs:=hB.size
  have d0:wr.cell? ⟨w.heap.size+2,0,none⟩=some (.int .i64 (maxD (l.take j)+1)):=h2.1 0 _ rfl
  have d1:wr.cell? ⟨w.heap.size+2,1,none⟩=some (.int .i64 7):=h2.1 1 _ rfl
  have d2:wr.cell? ⟨w.heap.size+2,2,none⟩=some (.bool false):=h2.1 2 _ rfl
  have r0:wr.cell? ⟨w.heap.size+1,0,none⟩=some (.int .i64 0):=h1.1 0 _ rfl
  have r1:wr.cell? ⟨w.heap.size+1,1,none⟩=some (.int .i64 0):=h1.1 1 _ rfl
  have r2:wr.cell? ⟨w.heap.size+1,2,none⟩=some (.bool false):=h1.1 2 _ rfl
  have g0:=h2.2 0
  have q0:=h1.2 0
  have q1:=h1.2 1
  have q2:=h1.2 2
  have ld:=zA2 d0
  have lr:=zA2 r0
  have hmx:0<=maxD (l.take j)/\maxD (l.take j)<=100000:=max_bd (l.take j) (fun p hp=>HBD.out p (List.mem_of_mem_take hp))
  have H1:=zh h1
  have H2:=zh h2
  have HB:=zh hB
  obtain⟨mx,hmx2⟩:∃ mx,maxD (l.take j)=mx:=⟨_,rfl⟩
  rw[hmx2] at d0 hmx
  have HMX:=zh hmx2
  clear h2 h1 hmx2
  by_cases hlt:j<n
  ·obtain⟨p,hp⟩:∃ p,l[j]? =some p:=⟨_,List.getElem?_eq_getElem (show j<l.length by have:=HL.out;omega)⟩
   obtain⟨bk,off,rfl,_,hc⟩:=HR.out.2 (by omega)
   have c0:wr.cell? ⟨bk,off+(j*3+0),none⟩=some (.int .i64 p.d):=cell_below (hc _ _ (zA9 P3.cells 3 P3.cells_length l j p hp 0 _ rfl)) hB
   have hpd:=HBD.out p (List.mem_of_getElem? hp)
   have hM:=maxD_take l j p hp
   rw[HMX.out] at hM
   have HM:=zh hM
   have hw1:IntKind.i64.wrap (p.d+1)=p.d+1:=by rw[IntKind.wrap_i64];omega
   simp only[<- Nat.add_assoc,Nat.add_zero] at c0
   clear hc hp hM
   by_cases hgt:mx<p.d
   ·have hg1:mx+1<p.d+1:=by omega
    go_wp2
    go_quiet (fail)
    go_wp2
    exact⟨⟨j+1,by omega,by go_num,bel,by rw[HM.out,show max mx p.d=p.d from by omega];exact(H2.out.drewN _).set0 _,(H1.out.drewN _).other (by omega)⟩,by simp[intOf];omega⟩
   ·have hg1: ¬ mx+1<p.d+1:=by omega
    go_wp2
    go_quiet (fail)
    go_wp2
    exact⟨⟨j+1,by omega,by go_num,bel,by rw[HM.out,show max mx p.d=mx from by omega,<-HMX.out];exact H2.out.drewN _,H1.out.drewN _⟩,by simp[intOf];omega⟩
  ·obtain rfl:j=n:=by omega
   obtain rfl:mx=M:=by
    have h1:=HMX.out
    rw[List.take_of_length_le (by rw[HL.out];exact Nat.le_refl _)] at h1
    exact h1.symm.trans HMM.out
   go_wp2
   exact bodyPost_ret (by simp[results,Tryz.results48,go_sem,zAa,r0,r1,r2];try rfl) rfl ⟨rfl,bel⟩
end
theorem PtAt.moreP {w:World} {N:Nat} {p:P3} (h:PtAt w N p) (l:List Obj) (n:Nat):PtAt (more w l n) N p:=⟨fun j u hu=>zAZ (h.1 j u hu) l n,fun i=>(more_frozen (zA2 (h.1 0 _ rfl))).trans (h.2 i)⟩
theorem ref05_part4 {x:Nx} {l:List P3} {A:Option Addr} {n c B:Nat} {w:World} (h:x.kind=4) (ho:1<=x.op/\x.op<=13) (hr:Reads w B 3 A n (zBi P3.cells l)) (hn:n<=100000) (hbd:∀ p∈l,0<=p.d/\p.d<=100000) :
  Rt 48 #[x.val,.slice A n c] w (.tuple #[.agg #[.int .i64 (zBp x l).1.d,.int .i64 (zBp x l).1.b,.bool (zBp x l).1.m],.bool (zBp x l).2]):=by
 have e:zBp x l=match oGo (lev x.op) 0 0 l with
  | none=>(p3z,false)
  | some d=>(⟨d,lev x.op,false⟩,true):=by unfold zBp;rw[if_neg (by omega),if_neg (by omega),if_pos h];try(cases oGo (lev x.op) 0 0 l<;>rfl)
 rw[e]
 have hlv:=lev_bd x.op
 obtain⟨R,hR⟩:∃ R,oGo (lev x.op) 0 0 l=R:=⟨_,rfl⟩
 rw[hR]
 have HR0:=zh hR
 obtain⟨k,v,r,q,t,le,bo,ri,o,nm,ar⟩:=x
 unfold Nx.val
 dsimp only at h ⊢ hlv ho HR0
 have HLV:=zh (fun w=>ref05_Level o ho.1 ho.2 w)
 obtain⟨lv,hlvv⟩:∃ lv,lev o=lv:=⟨_,rfl⟩
 rw[hlvv] at hlv HR0 HLV
 rw[hlvv]
 subst h
 have hlen:l.length=n:=by
  have:=hr.1
  rw[zAD P3.cells 3 P3.cells_length] at this
  omega
 have HR:=zh hr
 have HBD:=zh hbd
 have HL:=zh hlen
 clear e hr hbd hlen hR hlvv ho
 go_enter Tryz.func48,Tryz.ntmps48
 go_wp2_with(go_at_call 76;refine(HLV.out _).mono ?_;rintro e w1 ⟨rfl,rfl⟩)
 go_loopw [9] (fun t wr=>∃ (j:Nat) (d:Int),j<=n/\t=.int .i64 j/\Below w.heap.size w wr/\PtAt wr (w.heap.size+2) ⟨d,lv,false⟩/\PtAt wr (w.heap.size+1) p3z/\0<=d/\d<=100001/\RowKit.Hid (oGo lv j d (l.drop j)=R)) (fun t _=>n-(intOf t).toNat)
 case atStart =>
  refine⟨0,0,Nat.zero_le _,rfl,bel,?_,?_,by omega,by omega,HR0⟩
  ·refine PtAt.new ?_ ?_ ?_ fun i=> ?_
   all_goals go_simp
  ·refine PtAt.new (p:=p3z) ?_ ?_ ?_ fun i=> ?_
   all_goals(try unfold p3z)
   all_goals go_simp
 case round =>
  obtain⟨j,d,hj,rfl,hB,h2,h1,hd0,hd1,hg⟩:=hrel
  have hs:=hB.size
  have d0:wr.cell? ⟨w.heap.size+2,0,none⟩=some (.int .i64 d):=h2.1 0 _ rfl
  have d1:wr.cell? ⟨w.heap.size+2,1,none⟩=some (.int .i64 lv):=h2.1 1 _ rfl
  have d2:wr.cell? ⟨w.heap.size+2,2,none⟩=some (.bool false):=h2.1 2 _ rfl
  have r0:wr.cell? ⟨w.heap.size+1,0,none⟩=some (.int .i64 0):=h1.1 0 _ rfl
  have r1:wr.cell? ⟨w.heap.size+1,1,none⟩=some (.int .i64 0):=h1.1 1 _ rfl
  have r2:wr.cell? ⟨w.heap.size+1,2,none⟩=some (.bool false):=h1.1 2 _ rfl
  have g0:=h2.2 0
  have q0:=h1.2 0
  have q1:=h1.2 1
  have q2:=h1.2 2
  have ld:=zA2 d0
  have lr:=zA2 r0
  have H1:=zh h1
  have H2:=zh h2
  clear h2 h1
  by_cases hlt:j<n
  ·obtain⟨p,hp⟩:∃ p,l[j]? =some p:=⟨_,List.getElem?_eq_getElem (show j<l.length by have:=HL.out;omega)⟩
   obtain⟨bk,off,rfl,_,hc⟩:=HR.out.2 (by omega)
   have hcell:∀ i u,p.cells[i]? =some u->wr.cell? ⟨bk,off+(j*3+i),none⟩=some u:=fun i u hu=>cell_below (hc _ _ (zA9 P3.cells 3 P3.cells_length l j p hp i u hu)) hB
   have c0:=hcell 0 _ rfl
   have c1:=hcell 1 _ rfl
   have c2:=hcell 2 _ rfl
   have hpd:=HBD.out p (List.mem_of_getElem? hp)
   have hdr:l.drop j=p::l.drop (j+1):=by
    obtain⟨hm,hv⟩:=List.getElem?_eq_some_iff.1 hp
    rw[List.drop_eq_getElem_cons hm,hv]
   have hG:=hg.out
   rw[hdr] at hG
   unfold oGo at hG
   have hw1:IntKind.i64.wrap (lv+(j:Int))=lv+(j:Int):=by rw[IntKind.wrap_i64];omega
   simp only[<- Nat.add_assoc,Nat.add_zero] at c0 c1 c2
   have lc:=zA2 c0
   cases hm:p.m
   ·rw[hm] at c2 hG
    have HG:=zh (show oGo lv (j+1) (max d (insG p.d p.b (lv+j))) (l.drop (j+1))=R from by simpa using hG)
    have HIN:=zh (fun w=>ref05_within p.d p.b (lv+j) false hpd.1 (by omega) w)
    have hib:0<=insG p.d p.b (lv+j)/\insG p.d p.b (lv+j)<=100001:=by unfold insG;split<;>omega
    obtain⟨z,hz⟩:∃ z,insG p.d p.b (lv+j)=z:=⟨_,rfl⟩
    rw[hz] at HG HIN hib
    clear hG hdr hp hc hcell hz hm hg
    by_cases hgt:d<z
    ·rw[show max d z=z from by omega] at HG
     go_wp2
     (refine qmI ?_;(repeat(go_big_quiet_step (first|(go_at_call 77;exact Calls.zA6 (HIN.out _)))));refine qmE ?_;intro lq nq)
     go_wp2
     exact⟨⟨j+1,z,by omega,by go_num,bel,(H2.out.set0 _).moreP _ _,(H1.out.other (by omega)).moreP _ _,by omega,by omega,HG⟩,by simp[intOf];omega⟩
    ·rw[show max d z=d from by omega] at HG
     go_wp2
     (refine qmI ?_;(repeat(go_big_quiet_step (first|(go_at_call 77;exact Calls.zA6 (HIN.out _)))));refine qmE ?_;intro lq nq)
     go_wp2
     exact⟨⟨j+1,d,by omega,by go_num,bel,H2.out.below bel,H1.out.below bel,by omega,by omega,HG⟩,by simp[intOf];omega⟩
   ·rw[hm] at c2 hG
    obtain rfl:R=none:=by simpa using hG.symm
    clear hG hdr hp hc hcell hm hg HR0
    go_wp2
    exact bodyPost_ret (by simp[results,Tryz.results48,go_sem,zAa,r0,r1,r2,p3z];try rfl) rfl ⟨rfl,bel⟩
  ·obtain rfl:j=n:=by omega
   have hG:=hg.out
   rw[List.drop_eq_nil_of_le (by rw[HL.out];exact Nat.le_refl _)] at hG
   obtain rfl:R=some d:=hG.symm
   clear hG hg HR0
   go_wp2
   exact bodyPost_ret (by simp[results,Tryz.results48,go_sem,zAa,r0,r1,r2];try rfl) rfl ⟨rfl,bel⟩
theorem ref05_part {x:Nx} {l:List P3} {A:Option Addr} {n c B:Nat} {w:World} (hm:zBj x=true) (hr:Reads w B 3 A n (zBi P3.cells l)) (hn:n<=100000) (hbd:∀ p∈l,0<=p.d/\p.d<=100000) :
  Rt 48 #[x.val,.slice A n c] w (.tuple #[.agg #[.int .i64 (zBp x l).1.d,.int .i64 (zBp x l).1.b,.bool (zBp x l).1.m],.bool (zBp x l).2]):=by
 by_cases h4:x.kind=4
 ·exact ref05_part4 h4 (ndMay_op hm h4) hr hn hbd
 by_cases h5:x.kind=5
 ·exact ref05_part5 h5 hr hn hbd
 exact ref05_part0 (.inr ⟨h4,h5⟩)
theorem take_bd {x:Nx} (h:zBj x=true):0<=takeG x/\takeG x<=16:=by
 unfold takeG opK
 by_cases h5:x.kind=5
 ·rw[if_pos h5];exact ndMay_args h h5
 ·rw[if_neg h5]
  split
  ·split<;>simp
  ·omega
theorem insG_nn {d b least:Int} (h:0<=d):0<=insG d b least:=by unfold insG;split<;>omega
theorem oGo_one (lv:Int) (a:P3) (h:0<=a.d):oGo lv 0 0 [a]=if a.m then none else some (insG a.d a.b lv):=by
 have h1:=insG_nn (b:=a.b) (least:=lv) h
 unfold oGo
 cases a.m
 ·simp[oGo]
  omega
 ·rfl
theorem oGo_two (lv:Int) (a b:P3) (h:0<=a.d):oGo lv 0 0 [a,b]=if a.m || b.m then none else some (max (insG a.d a.b lv) (insG b.d b.b (lv+1))):=by
 have h1:=insG_nn (b:=a.b) (least:=lv) h
 unfold oGo
 cases a.m
 ·unfold oGo
  cases b.m
  ·simp[oGo]
   omega
  ·rfl
 ·rfl
theorem dstep_take {x:Nx} {ps:List P3} (hm:zBj x=true) (h:(ps.length:Int)<takeG x):zBt ps x=none:=by
 unfold takeG at h
 by_cases h5:x.kind=5
 ·rw[if_pos h5] at h
  rw[zBa hm h5,if_pos (by omega)]
 ·rw[if_neg h5] at h
  by_cases h4:x.kind=4
  ·rw[if_pos h4] at h
   rw[dstep_op hm h4]
   by_cases hu:x.op=1∨x.op=2
   ·have e:opK x.op=1:=if_pos hu
    rw[e] at h
    obtain rfl:ps=[]:=List.length_eq_zero_iff.1 (by omega)
    exact dOp_one0 hu
   ·have e:opK x.op=2:=if_neg hu
    rw[e] at h
    exact dOp_two0 hu ps (by omega)
  ·rw[if_neg h4] at h
   omega
theorem dstep_part {x:Nx} {ps:List P3} (hm:zBj x=true) (hk:takeG x<=(ps.length:Int)) (hbd:∀ p∈ps,0<=p.d) :
  zBt ps x=if (zBp x (ps.drop (ps.length-(takeG x).toNat))).2 then some (ps.take (ps.length-(takeG x).toNat)++[(zBp x (ps.drop (ps.length-(takeG x).toNat))).1]) else none:=by
 by_cases h3:x.kind=3
 ·have et:takeG x=0:=by unfold takeG;rw[if_neg (by omega),if_neg (by omega)]
  have ep:∀ l,zBp x l=(⟨0,7,true⟩,true):=fun l=>by unfold zBp;rw[if_pos h3]
  rw[dstep_rect hm h3,ep,et]
  simp
 by_cases h5:x.kind=5
 ·have et:takeG x=x.args:=by unfold takeG;rw[if_pos h5]
  have ep:∀ l,zBp x l=(⟨maxD l+1,7,false⟩,true):=fun l=>by unfold zBp;rw[if_neg h3,if_pos h5]
  rw[et] at hk ⊢
  rw[zBa hm h5,if_neg (by omega),ep]
  rfl
 by_cases h4:x.kind=4
 ·have et:takeG x=(opK x.op:Int):=by unfold takeG;rw[if_neg h5,if_pos h4]
  have ep:∀ l,zBp x l=match oGo (lev x.op) 0 0 l with
   | none=>(p3z,false)
   | some d=>(⟨d,lev x.op,false⟩,true):=fun l=>by
   unfold zBp
   rw[if_neg h3,if_neg h5,if_pos h4]
   try(cases oGo (lev x.op) 0 0 l<;>rfl)
  rw[et] at hk ⊢
  rw[dstep_op hm h4,ep]
  by_cases hu:x.op=1∨x.op=2
  ·have e:opK x.op=1:=if_pos hu
   rw[e] at hk ⊢
   rcases List.eq_nil_or_concat ps with rfl|⟨pre,a,rfl⟩
   ·simp at hk
   ·rw[List.concat_eq_append] at *
    have ed:(pre++[a]).drop ((pre++[a]).length-((1:Nat):Int).toNat)=[a]:=by simp
    have etk:(pre++[a]).take ((pre++[a]).length-((1:Nat):Int).toNat)=pre:=by simp
    rw[ed,etk,dOp_one hu,oGo_one _ _ (hbd a (by simp))]
    cases a.m<;>rfl
  ·have e:opK x.op=2:=if_neg hu
   rw[e] at hk ⊢
   obtain⟨pre,a,b,rfl⟩:=two_lastX ps (by omega)
   have ed:(pre++[a,b]).drop ((pre++[a,b]).length-((2:Nat):Int).toNat)=[a,b]:=by simp
   have etk:(pre++[a,b]).take ((pre++[a,b]).length-((2:Nat):Int).toNat)=pre:=by simp
   rw[ed,etk,dOp_two hu,oGo_two _ _ _ (hbd a (by simp))]
   cases a.m<;>cases b.m<;>rfl
 ·have et:takeG x=0:=by unfold takeG;rw[if_neg h5,if_neg h4]
  have ep:∀ l,zBp x l=(⟨0,7,false⟩,true):=fun l=>by unfold zBp;rw[if_neg h3,if_neg h5,if_neg h4]
  rw[dstep_push hm h3 h4 h5,ep,et]
  simp
def pGo:List Nx->List P3->Option (List P3)
 | [],l=>some l
 | x::xs,l=>match zBt l x with
   | none=>none
   | some l'=>pGo xs l'
theorem dGo_pGo:∀ (xs:List Nx) (l:List P3),dGo xs l=match pGo xs l with
  | some [p]=>if p.m then (0,false) else (p.d,true)
  | _=>(0,false)
 | [],[]=>rfl
 | [],[p]=>rfl
 | [],_::_::_=>rfl
 | x::xs,l=>by
   rw[dGo_cons]
   unfold pGo
   cases zBt l x with
   | none=>rfl
   | some l'=>exact dGo_pGo xs l'
end Go.Proofs.YtppghgnhlgoagaaGreatDoor
