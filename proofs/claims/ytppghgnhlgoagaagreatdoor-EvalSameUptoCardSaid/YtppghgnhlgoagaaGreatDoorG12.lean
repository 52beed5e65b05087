/- Parts. -/
import Derived.Test.YtppghgnhlgoagaaGreatDoorG06
import Derived.Test.YtppghgnhlgoagaaGreatDoorG11
set_option linter.all false
set_option maxRecDepth 100000
set_option maxHeartbeats 4000000
namespace Go.Proofs.YtppghgnhlgoagaaGreatDoor
open Go Go.RowKit
open Go.Lib renaming hid->zh
structure Nx where
 kind:Int
 v:V
 row:Int
 col:Int
 top:Int
 left:Int
 bottom:Int
 right:Int
 op:Int
 name:ByteArray
 args:Int
deriving DecidableEq
def Nx.cells (x:Nx):List Value:=[.int .i64 x.kind,.int .i64 x.v.tag,.int .i64 x.v.num,.string x.v.str,.bool x.v.is,.int .i64 x.v.code,.int .i64 x.row,.int .i64 x.col,.int .i64 x.top,.int .i64 x.left,.int .i64 x.bottom,.int .i64 x.right,.int .i64 x.op,.string x.name,.int .i64 x.args]
def Nx.val (x:Nx):Value:=.agg #[.int .i64 x.kind,.int .i64 x.v.tag,.int .i64 x.v.num,.string x.v.str,.bool x.v.is,.int .i64 x.v.code,.int .i64 x.row,.int .i64 x.col,.int .i64 x.top,.int .i64 x.left,.int .i64 x.bottom,.int .i64 x.right,.int .i64 x.op,.string x.name,.int .i64 x.args]
theorem Nx.cells_length (x:Nx):x.cells.length=15:=rfl
def VZ:V:=⟨0,0,⟨#[]⟩,false,0⟩
def nx0 (k:Int):Nx:=⟨k,VZ,0,0,0,0,0,0,0,⟨#[]⟩,0⟩
def eqN (x y:Nx):Bool:=decide (x=y)
theorem eqlN (x y:Nx) (w:World):(binOp .eql 88 x.val y.val).run Tryz.prog w=.ok (.bool (eqN x y)) w:=by
 obtain⟨k,⟨a,b,s,c,d⟩,r,q,t,l,bo,ri,o,nm,ar⟩:=x
 obtain⟨k',⟨a',b',s',c',d'⟩,r',q',t',l',bo',ri',o',nm',ar'⟩:=y
 unfold eqN Nx.val
 rw[run_eql_struct]
 have hs:(s.toList=s'.toList) ↔ s=s':=by
  rw[ByteArray.toList_eq,ByteArray.toList_eq]
  exact⟨fun h=>bytes_inj h,fun h=>by rw[h]⟩
 have hn:(nm.toList=nm'.toList) ↔ nm=nm':=by
  rw[ByteArray.toList_eq,ByteArray.toList_eq]
  exact⟨fun h=>bytes_inj h,fun h=>by rw[h]⟩
 go_simp
 refine dite (k=k') (fun h1=> ?_) (fun h1=>by simp[h1,hs,hn])
 refine dite (a=a') (fun h2=> ?_) (fun h2=>by simp[h2,hs,hn])
 refine dite (b=b') (fun h3=> ?_) (fun h3=>by simp[h3,hs,hn])
 refine dite (s=s') (fun h4=> ?_) (fun h4=>by simp[h4,hs,hn])
 refine dite (c=c') (fun h5=> ?_) (fun h5=>by simp[h5,hs,hn])
 refine dite (d=d') (fun h6=> ?_) (fun h6=>by simp[h6,hs,hn])
 refine dite (r=r') (fun h7=> ?_) (fun h7=>by simp[h7,hs,hn])
 refine dite (q=q') (fun h8=> ?_) (fun h8=>by simp[h8,hs,hn])
 refine dite (t=t') (fun h9=> ?_) (fun h9=>by simp[h9,hs,hn])
 refine dite (l=l') (fun h10=> ?_) (fun h10=>by simp[h10,hs,hn])
 refine dite (bo=bo') (fun h11=> ?_) (fun h11=>by simp[h11,hs,hn])
 refine dite (ri=ri') (fun h12=> ?_) (fun h12=>by simp[h12,hs,hn])
 refine dite (o=o') (fun h13=> ?_) (fun h13=>by simp[h13,hs,hn])
 refine dite (nm=nm') (fun h14=> ?_) (fun h14=>by simp[h14,hs,hn])
 refine dite (ar=ar') (fun h15=> ?_) (fun h15=>by simp[h15,hs,hn])
 simp[h1,h2,h3,h4,h5,h6,h7,h8,h9,h10,h11,h12,h13,h14,h15]
def zBj (x:Nx):Bool :=
 if x.kind=1 then if mayG x.v=false∨x.v.tag=0∨x.v.num<0∨x.v.code=1 then false else eqN { x with v:=VZ } (nx0 1)
 else if x.kind=2 then if zCB x.row x.col then eqN { x with row:=0,col:=0 } (nx0 2) else false
 else if x.kind=3 then if rectB x.top x.left x.bottom x.right then eqN { x with top:=0,left:=0,bottom:=0,right:=0 } (nx0 3) else false
 else if x.kind=4 then if x.op<1∨13<x.op then false else eqN { x with op:=0 } (nx0 4)
 else if x.kind=5 then if namedX x.name=false∨x.args<0∨16<x.args then false else eqN { x with name:=⟨#[]⟩,args:=0 } (nx0 5)
 else false
theorem refs_level0 (k:Int) (w:World):Calls Tryz.prog 51 #[.int .i64 k] w fun e w'=>e=.returned (.int .i64 (lev k))/\w=w':=by
 by_cases h1:1<=k/\k<=13
 ·exact refs_level k h1.1 h1.2 w
 ·have e:lev k=1:=by unfold lev;(repeat' split)<;>omega
  have h2:k<1∨13<k:=by omega
  have k1:(k==1)=false:=by simp;omega
  have k2:(k==2)=false:=by simp;omega
  have k3:(k==3)=false:=by simp;omega
  have k4:(k==4)=false:=by simp;omega
  have k5:(k==5)=false:=by simp;omega
  have k6:(k==6)=false:=by simp;omega
  have k7:(k==7)=false:=by simp;omega
  rw[e]
  clear h1 h2 e
  go_enter Tryz.func51,Tryz.ntmps51
  go_wp2
  go_ret
  exact⟨rfl,rfl⟩
theorem refs_may (x:Nx) (hs:x.name.size<=1000000000000) (w:World):Rt 50 #[x.val] w (.bool (zBj x)):=by
 have hq:=fun (y:Nx) (w:World)=>eqlN y (nx0 x.kind) w
 obtain⟨k,v,r,q,t,l,bo,ri,o,nm,ar⟩:=x
 simp only at hs hq
 unfold zBj
 dsimp only
 unfold Nx.val
 dsimp only
 by_cases h1:k=1
 ·subst h1
  rw[if_pos rfl]
  by_cases hm:mayG v=true
  ·have HM:=zh hm
   by_cases a:v.tag=0
   ·rw[if_pos (.inr (.inl a))]
    have a1:(v.tag==0)=true:=by simp[a]
    clear hq a hm
    go_enter Tryz.func50,Tryz.ntmps50
    go_wp2_with(go_at_call 43;refine(zA8 v _).mono ?_;rw[HM.out];rintro e w1 ⟨rfl,hb⟩;obtain⟨l1,n1,rfl⟩:=zA0 hb;clear hb)
    all_goals go_ret
    all_goals exact⟨rfl,bel⟩
   have a1:(v.tag==0)=false:=by simp[a]
   by_cases b:v.num<0
   ·rw[if_pos (.inr (.inr (.inl b)))]
    clear hq a hm
    go_enter Tryz.func50,Tryz.ntmps50
    go_wp2_with(go_at_call 43;refine(zA8 v _).mono ?_;rw[HM.out];rintro e w1 ⟨rfl,hb⟩;obtain⟨l1,n1,rfl⟩:=zA0 hb;clear hb)
    all_goals go_ret
    all_goals exact⟨rfl,bel⟩
   have b2:0<=v.num:=by omega
   by_cases d:v.code=1
   ·rw[if_pos (.inr (.inr (.inr d)))]
    have d1:(v.code==1)=true:=by simp[d]
    clear hq a d hm
    go_enter Tryz.func50,Tryz.ntmps50
    go_wp2_with(go_at_call 43;refine(zA8 v _).mono ?_;rw[HM.out];rintro e w1 ⟨rfl,hb⟩;obtain⟨l1,n1,rfl⟩:=zA0 hb;clear hb)
    all_goals go_ret
    all_goals exact⟨rfl,bel⟩
   rw[if_neg (by rintro(h|h|h|h)<;>first|(rw[hm] at h;cases h)|contradiction)]
   have d1:(v.code==1)=false:=by simp[d]
   have hq1:=hq ⟨1,VZ,r,q,t,l,bo,ri,o,nm,ar⟩
   unfold Nx.val nx0 VZ at hq1
   dsimp only at hq1
   unfold nx0 VZ
   clear hq
   clear a d hm
   go_enter Tryz.func50,Tryz.ntmps50
   go_wp2_with(go_at_call 43;refine(zA8 v _).mono ?_;rw[HM.out];rintro e w1 ⟨rfl,hb⟩;obtain⟨l1,n1,rfl⟩:=zA0 hb;clear hb)
   all_goals first
    | (exfalso;omega)
    | (go_ret;exact⟨rfl,bel⟩)
  ·have hm:mayG v=false:=by simpa using hm
   rw[if_pos (.inl hm)]
   have HM:=zh hm
   clear hq hm
   go_enter Tryz.func50,Tryz.ntmps50
   go_wp2_with(go_at_call 43;refine(zA8 v _).mono ?_;rw[HM.out];rintro e w1 ⟨rfl,hb⟩;obtain⟨l1,n1,rfl⟩:=zA0 hb;clear hb)
   all_goals go_ret
   all_goals exact⟨rfl,bel⟩
 by_cases h2:k=2
 ·subst h2
  rw[if_neg (by decide),if_pos rfl]
  by_cases hm:zCB r q=true
  ·have HM:=zh hm
   rw[if_pos hm]
   have hq1:=hq ⟨2,v,0,0,t,l,bo,ri,o,nm,ar⟩
   unfold Nx.val nx0 VZ at hq1
   dsimp only at hq1
   unfold nx0 VZ
   clear hq
   clear hm
   go_enter Tryz.func50,Tryz.ntmps50
   go_wp2_with(go_at_call 78;refine(addr_May r q _).mono ?_;rw[HM.out];rintro e w1 ⟨rfl,hb⟩;obtain⟨l1,n1,rfl⟩:=zA0 hb;clear hb)
   all_goals go_ret
   all_goals exact⟨rfl,bel⟩
  ·rw[if_neg hm]
   have hm:zCB r q=false:=by simpa using hm
   have HM:=zh hm
   clear hq hm
   go_enter Tryz.func50,Tryz.ntmps50
   go_wp2_with(go_at_call 78;refine(addr_May r q _).mono ?_;rw[HM.out];rintro e w1 ⟨rfl,hb⟩;obtain⟨l1,n1,rfl⟩:=zA0 hb;clear hb)
   all_goals go_ret
   all_goals exact⟨rfl,bel⟩
 by_cases h3:k=3
 ·subst h3
  rw[if_neg (by decide),if_neg (by decide),if_pos rfl]
  by_cases hm:rectB t l bo ri=true
  ·have HM:=zh hm
   rw[if_pos hm]
   have hq1:=hq ⟨3,v,r,q,0,0,0,0,o,nm,ar⟩
   unfold Nx.val nx0 VZ at hq1
   dsimp only at hq1
   unfold nx0 VZ
   clear hq
   clear hm
   go_enter Tryz.func50,Tryz.ntmps50
   go_wp2_with(go_at_call 71;refine(zAp t l bo ri _).mono ?_;rw[HM.out];rintro e w1 ⟨rfl,hb⟩;obtain⟨l1,n1,rfl⟩:=zA0 hb;clear hb)
   all_goals go_ret
   all_goals exact⟨rfl,bel⟩
  ·rw[if_neg hm]
   have hm:rectB t l bo ri=false:=by simpa using hm
   have HM:=zh hm
   clear hq hm
   go_enter Tryz.func50,Tryz.ntmps50
   go_wp2_with(go_at_call 71;refine(zAp t l bo ri _).mono ?_;rw[HM.out];rintro e w1 ⟨rfl,hb⟩;obtain⟨l1,n1,rfl⟩:=zA0 hb;clear hb)
   all_goals go_ret
   all_goals exact⟨rfl,bel⟩
 by_cases h4:k=4
 ·subst h4
  rw[if_neg (by decide),if_neg (by decide),if_neg (by decide),if_pos rfl]
  have hq1:=hq ⟨4,v,r,q,t,l,bo,ri,0,nm,ar⟩
  unfold Nx.val nx0 VZ at hq1
  dsimp only at hq1
  unfold nx0 VZ
  clear hq
  by_cases a:o<1
  ·rw[if_pos (.inl a)]
   clear hq1
   go_enter Tryz.func50,Tryz.ntmps50
   go_wp2
   all_goals go_ret
   all_goals exact⟨rfl,bel⟩
  by_cases b:13<o
  ·rw[if_pos (.inr b)]
   clear hq1
   go_enter Tryz.func50,Tryz.ntmps50
   go_wp2
   all_goals go_ret
   all_goals exact⟨rfl,bel⟩
  rw[if_neg (by omega)]
  go_enter Tryz.func50,Tryz.ntmps50
  go_wp2
  all_goals go_ret
  all_goals exact⟨rfl,bel⟩
 by_cases h5:k=5
 ·subst h5
  rw[if_neg (by decide),if_neg (by decide),if_neg (by decide),if_neg (by decide),if_pos rfl]
  by_cases hm:namedX nm=true
  ·have HM:=zh hm
   by_cases a:ar<0
   ·rw[if_pos (.inr (.inl a))]
    clear hq hm
    go_enter Tryz.func50,Tryz.ntmps50
    go_wp2_with(go_at_call 79;refine(refs_named nm hs _).mono ?_;rw[HM.out];rintro e w1 ⟨rfl,rfl⟩)
    all_goals go_ret
    all_goals exact⟨rfl,bel⟩
   have a2:0<=ar:=by omega
   by_cases b:16<ar
   ·rw[if_pos (.inr (.inr b))]
    clear hq hm
    go_enter Tryz.func50,Tryz.ntmps50
    go_wp2_with(go_at_call 79;refine(refs_named nm hs _).mono ?_;rw[HM.out];rintro e w1 ⟨rfl,rfl⟩)
    all_goals go_ret
    all_goals exact⟨rfl,bel⟩
   rw[if_neg (by rintro(h|h|h)<;>first|(rw[hm] at h;cases h)|contradiction)]
   have b2:ar<=16:=by omega
   have hq1:=hq ⟨5,v,r,q,t,l,bo,ri,o,⟨#[]⟩,0⟩
   unfold Nx.val nx0 VZ at hq1
   dsimp only at hq1
   unfold nx0 VZ
   clear hq
   clear hm
   go_enter Tryz.func50,Tryz.ntmps50
   go_wp2_with(go_at_call 79;refine(refs_named nm hs _).mono ?_;rw[HM.out];rintro e w1 ⟨rfl,rfl⟩)
   all_goals go_ret
   all_goals exact⟨rfl,bel⟩
  ·have hm:namedX nm=false:=by simpa using hm
   rw[if_pos (.inl hm)]
   have HM:=zh hm
   clear hq hm
   go_enter Tryz.func50,Tryz.ntmps50
   go_wp2_with(go_at_call 79;refine(refs_named nm hs _).mono ?_;rw[HM.out];rintro e w1 ⟨rfl,rfl⟩)
   all_goals go_ret
   all_goals exact⟨rfl,bel⟩
 rw[if_neg h1,if_neg h2,if_neg h3,if_neg h4,if_neg h5]
 have k1:(k==1)=false:=by simp[h1]
 have k2:(k==2)=false:=by simp[h2]
 have k3:(k==3)=false:=by simp[h3]
 have k4:(k==4)=false:=by simp[h4]
 have k5:(k==5)=false:=by simp[h5]
 clear h1 h2 h3 h4 h5 hq
 go_enter Tryz.func50,Tryz.ntmps50
 go_wp2
 all_goals go_ret
 all_goals exact⟨rfl,bel⟩
end Go.Proofs.YtppghgnhlgoagaaGreatDoor
