/- Parts. -/
import Derived.Test.YtppghgnhlgoagaaGreatDoorG07
import Derived.Test.YtppghgnhlgoagaaGreatDoorG08
import Derived.Deep.AppendSrc
set_option linter.all false
set_option maxRecDepth 100000
set_option maxHeartbeats 4000000
namespace Go.Proofs.YtppghgnhlgoagaaGreatDoor
open Go Go.RowKit
def pickG (c n:Int):Int:=(if c<0 then -(c+1) else c) % n
theorem law_pick (c n:Int) (hc:Is64 c) (hn:1<=n/\n<=1000000) (w:World):Calls Tryz.prog 9 #[.int .i64 c,.int .i64 n] w fun e w'=>e=.returned (.int .i64 (pickG c n))/\w=w':=by
 have hn0:(n==0)=false:=by simp;omega
 unfold Is64 at hc
 obtain⟨T,hT⟩:∃ T,pickG c n=T:=⟨_,rfl⟩
 rw[hT]
 unfold pickG at hT
 by_cases h:c<0
 ·rw[if_pos h] at hT
  have hw1:IntKind.i64.wrap (c+1)=c+1:=by rw[IntKind.wrap_i64];omega
  have hw2:IntKind.i64.wrap (-(c+1))= -(c+1):=by rw[IntKind.wrap_i64];omega
  have h1:=Int.emod_nonneg (-(c+1)) (show n≠0 by omega)
  have h2:=Int.emod_lt_of_pos (-(c+1)) (show 0<n by omega)
  have hT2:Int.tmod (-(c+1)) n=T:=by rw[Int.tmod_eq_emod_of_nonneg (by omega)];exact hT
  rw[hT] at h1 h2
  have hw3:IntKind.i64.wrap T=T:=by rw[IntKind.wrap_i64];omega
  clear h1 h2
  go_enter Tryz.func9,Tryz.ntmps9
  go_wp2
  go_ret
  exact⟨rfl,rfl⟩
 ·rw[if_neg h] at hT
  have h1:=Int.emod_nonneg c (show n≠0 by omega)
  have h2:=Int.emod_lt_of_pos c (show 0<n by omega)
  have hT2:Int.tmod c n=T:=by rw[Int.tmod_eq_emod_of_nonneg (by omega)];exact hT
  rw[hT] at h1 h2
  have hw3:IntKind.i64.wrap T=T:=by rw[IntKind.wrap_i64];omega
  clear h1 h2
  go_enter Tryz.func9,Tryz.ntmps9
  go_wp2
  go_ret
  exact⟨rfl,rfl⟩
theorem pick_bd (c n:Int) (hn:1<=n):0<=pickG c n/\pickG c n<n:=by
 unfold pickG
 exact⟨Int.emod_nonneg _ (by omega),Int.emod_lt_of_pos _ (by omega)⟩
theorem law_host (pt:Nat) (cv tx tv:Value) (hn:Bool) (w:World):Rt 10 #[.pointer (some ⟨pt,0,none⟩),.agg #[cv,tx,.bool hn,tv]] w (if hn then .nilIface else .iface 31 (.pointer (some ⟨pt,0,none⟩))):=by
 cases hn
 ·go_enter Tryz.func10,Tryz.ntmps10
  go_wp2
  go_ret
  exact⟨rfl,bel⟩
 ·go_enter Tryz.func10,Tryz.ntmps10
  go_wp2
  go_ret
  exact⟨rfl,bel⟩
section
variable {P:Program} {w:World}
theorem zC2 {ops:Array Oper} {rest:List Oper} {o:Oper} {a:Act} {Q:Exit->Act->World->Prop} (hgd:o.guard=none) (s x:Operand) (t:TypeId)
  (ho:o.op=.call { callee:=.builtin .append,args:=#[s,x],argTypes:=#[t,t] }) (base:Nat) (e:TypeId) (i:TypeInfo) (size:Nat) (ht:P.underlying t=some (.slice e)) (hi:P.info? e=some i)
  (hsize:i.size=size) (v:Value) (n:Nat) (xs:List Value) (hs:a.eval s=v) (hown:w.ownsRow base e size v n xs) (c:Nat) (hx:a.eval x=.slice none 0 c)
  (h:wpList P ops Q rest (a.put o.dst v) w):wpList P ops Q (o::rest) a w:=by
 refine wpList_plain hgd fun K hK=> ?_
 have hr:(Builtin.append_ #[t,t] o.type #[v,.slice none 0 c]).run P w=.ok v w:=by
  rcases hown.2 with ⟨rfl,rfl⟩|⟨g,cap,cur,rfl,hb,hh,hc1,hc2,_⟩
  ·have hS:=Src.ofNil (P:=P) w (size:=i.size) ht c
   simp[Builtin.append_,run_underlying ht,sizeOf,typeInfo,hi,hS.len,hS.cells]
  ·have hS:=Src.ofNil (P:=P) w (size:=i.size) ht c
   have h1:=run_append_room_src (P:=P) w t t o.type e i ht hi g 0 n cap (.slice none 0 c) 0 [] hS (by omega) (fun j hj=>absurd hj (by simp)) (fun j hj=>absurd hj (by simp))
   exact h1
 unfold Oper.wp execOp
 simp only[ho,resolve,invoke,builtin,Sem.run_bind,Sem.run_pure,Result.andThen_ok,List.map_toArray,List.map_cons,List.map_nil,hs,hx,hr]
 exact hK _ _ h
end
end Go.Proofs.YtppghgnhlgoagaaGreatDoor
