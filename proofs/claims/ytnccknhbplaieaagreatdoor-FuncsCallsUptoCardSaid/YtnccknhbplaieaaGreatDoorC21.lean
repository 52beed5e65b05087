/- Parts. -/
import Derived.Test.YtnccknhbplaieaaGreatDoorC12
set_option linter.all false
set_option maxRecDepth 100000
set_option maxHeartbeats 4000000
namespace Go.Proofs.YtnccknhbplaieaaGreatDoor
open Go Go.RowKit
open Go.Lib renaming hid->zh
def kindAt (c:ByteArray) (i:Nat):Nat:=(c.data.toList.getD (min i (c.size-1)) 0).toNat
def kindOk (c:ByteArray) (xs:List Bool) (i:Nat):Bool:=kindAt c i==120 || (xs.getD i false==(kindAt c i==114))
def zAo (c:ByteArray) (xs:List Bool) (n:Nat):Bool:=(List.range n).all (kindOk c xs)
theorem kind_val {c:ByteArray} {xs:List Bool} {k:Nat} {q:Int} {v:Bool} (hq:q=kindAt c k) (hv:v=xs.getD k false):kindOk c xs k=(decide (q=120) || (v==(q==114))):=by
 subst hq hv
 unfold kindOk
 have e1:(kindAt c k==120)=decide ((kindAt c k:Int)=120):=by rw[Bool.eq_iff_iff];simp;omega
 have e2:(kindAt c k==114)=((kindAt c k:Int)==114):=by rw[Bool.eq_iff_iff];simp;omega
 rw[e1,e2]
theorem kind_bad {c:ByteArray} {xs:List Bool} {k n:Nat} {q:Int} {v:Bool} (hq:q=kindAt c k) (hv:v=xs.getD k false) (hk:k<n) (h1: ¬ q=120) (h2:(!v==(q==114))=true):zAo c xs n=false:=by
 have h:kindOk c xs k=false:=by
  rw[kind_val hq hv]
  simp only[h1,decide_false,Bool.false_or]
  simpa using h2
 unfold zAo
 rw[List.all_eq_false]
 exact⟨k,List.mem_range.2 hk,by simp[h]⟩
theorem kind_step {c:ByteArray} {xs:List Bool} {k:Nat} (hno:zAo c xs k=true) (h:kindOk c xs k=true):zAo c xs (k+1)=true:=by
 unfold zAo at *
 rw[List.range_succ,List.all_append,hno]
 simp[h]
theorem agg_loop (c:ByteArray) (x y:Int) (s:ByteArray) (A:Option Addr) (n cp:Nat) (xs:List Bool) (w:World) (B:Nat) (hr:Reads w B 1 A n (xs.map Value.bool)) (hm:n<=9223372036854775807)
  (h:zAV s=some (c,x,y)) (hx:x<=n) (hy:n<=y) (h0:0<n) (hcs:0<c.size) (hcm:c.size<=3) :
  Rt 81 #[.string s,.slice A n cp] w (.bool (zAo c xs n)):=by
 have hlen:xs.length=n:=by have:=hr.1;simpa using this
 obtain⟨b,off,rfl,_,hc⟩:=hr.2 h0
 have hcell:∀ k,k<n->w.cell? ⟨b,off+k,none⟩=some (.bool (xs.getD k false)):=fun k hk=>hc k _ (by simp[List.getD,List.getElem?_eq_getElem (show k<xs.length by omega)])
 have hbw:b<w.heap.size:=World.block_lt_of_cell? w _ (hcell 0 h0)
 have HC:=zh hcell
 have HL:=zh hlen
 clear hc hr hcell hlen
 go_enter Tryz.func81,Tryz.ntmps81
 go_wp2_with fail
 refine(aggs_find_yes s c x y h _).mono ?_
 rintro e w1 ⟨⟨fn,first,cap,rfl,_⟩,hb⟩
 obtain⟨l,k,rfl⟩:=zA0 hb
 clear hb h
 have hbl:b<w.heap.size+l.length:=by omega
 go_wp2
 go_loop [33] (fun t=>∃ k:Nat,k<=n/\t=.int .i64 k/\zAo c xs k=true) (fun t=>n-(intOf t).toNat)
 case atStart=>exact⟨0,Nat.zero_le _,rfl,rfl⟩
 case round =>
  obtain⟨k,hk,rfl,hno⟩:=hrel
  have HK:=zh hno
  clear hno
  by_cases hlt:k<n
  have hcell:=HC.out k hlt
  obtain⟨v,hv⟩:∃ v,v=xs.getD k false:=⟨_,rfl⟩
  rw[<- hv] at hcell
  have HV:=zh hv
  clear hv
  obtain⟨q,hq⟩:∃ q:Int,q=kindAt c k:=⟨_,rfl⟩
  by_cases hmn:c.size-1<k
  have hix:∀ w:World,(Instr.index 9 (.string c) (.int .i64 ((c.size:Int)-1))).run Tryz.prog w=.ok (.int .u8 q) w:=fun w=>by
   rw[idx_string c _ (by omega) (by omega) w,hq]
   unfold kindAt
   rw[Nat.min_eq_right (by omega),show ((c.size:Int)-1).toNat=c.size-1 by omega]
  have hlt2:(c.size:Int)-1<k:=by omega
  rotate_left
  have hix:∀ w:World,(Instr.index 9 (.string c) (.int .i64 (k:Int))).run Tryz.prog w=.ok (.int .u8 q) w:=fun w=>by
   rw[idx_string c _ (by omega) (by omega) w,hq]
   unfold kindAt
   rw[Nat.min_eq_left (by omega),Int.toNat_natCast]
  have hlt2: ¬ (c.size:Int)-1<k:=by omega
  rotate_left
  ·have hd:k=n:=by omega
   subst hd
   go_wp2
   go_ret
   exact⟨by rw[HK.out];rfl,bel⟩
  all_goals
   have HQ:=zh hq
   clear hq
   go_wp2
   ·go_ret
    exact⟨by rw[kind_bad HQ.out HV.out hlt ‹_› ‹_›];rfl,bel⟩
   ·go_round
    case rel=>exact⟨k+1,by omega,by go_num,kind_step HK.out (by rw[kind_val HQ.out HV.out];have h2:(!v==(q==114))=false:= ‹_›;simp at h2;simp[h2])⟩
    case measure=>simp[intOf];omega
   ·go_round
    case rel=>exact⟨k+1,by omega,by go_num,kind_step HK.out (by rw[kind_val HQ.out HV.out];have h2:q=120:= ‹_›;simp[h2])⟩
    case measure=>simp[intOf];omega
def zAy (s:ByteArray) (xs:List Bool):Bool:=match zAV s with
 | some (c,x,y)=>(decide (x<=xs.length)&&decide (xs.length<=y))&&zAo c xs xs.length
 | none=>false
theorem ite_some {α:Type} {p:Prop} [Decidable p] {a r:α} {b:Option α} (h:(if p then some a else b)=some r):a=r∨b=some r:=by
 by_cases hp:p
 ·rw[if_pos hp] at h;exact .inl (by injection h)
 ·rw[if_neg hp] at h;exact .inr h
theorem aggTab_fit {s c:ByteArray} {x y:Int} (h:zAV s=some (c,x,y)):1<=x/\0<c.size/\c.size<=3:=by
 unfold zAV at h
 iterate 18
  rcases ite_some h with e|h
  ·cases e;decide
 cases h
theorem aggs_Takes (s:ByteArray) (A:Option Addr) (n cp:Nat) (xs:List Bool) (w:World) (B:Nat) (hr:Reads w B 1 A n (xs.map Value.bool)) (hm:n<=9223372036854775807) :
  Rt 81 #[.string s,.slice A n cp] w (.bool (zAy s xs)):=by
 have hlen:xs.length=n:=by have:=hr.1;simpa using this
 rcases h:zAV s with _|q
 ·have e:zAy s xs=false:=by simp[zAy,h]
  rw[e]
  clear hr hm hlen
  go_enter Tryz.func81,Tryz.ntmps81
  go_wp2_with fail
  refine(aggs_find_no s h _).mono ?_
  rintro e w1 ⟨hm,hb⟩
  obtain rfl:=hm
  obtain⟨l,n,rfl⟩:=zA0 hb
  clear hb h e
  go_wp2
  go_ret
  exact rb_
 obtain⟨c,x,y⟩:=q
 obtain⟨f1,f2,f3⟩:=aggTab_fit h
 have e:zAy s xs=((decide (x<=n)&&decide (n<=y))&&zAo c xs n):=by simp[zAy,h,hlen]
 rw[e]
 clear hlen e
 by_cases hx:x<=n
 by_cases hy:n<=y
 ·have e:((decide (x<=n)&&decide (n<=y))&&zAo c xs n)=zAo c xs n:=by simp[hx,hy]
  rw[e]
  exact agg_loop c x y s A n cp xs w B hr hm h hx hy (by omega) f2 f3
 have e:((decide (x<=n)&&decide (n<=y))&&zAo c xs n)=false:=by simp[hy]
 rw[e]
 have hd1:decide ((n:Int)<x)=false:=by simpa using hx
 have hd2:decide (y<n)=true:=by simpa using hy
 clear e hr hx hy
 rotate_left
 have e:((decide (x<=n)&&decide (n<=y))&&zAo c xs n)=false:=by simp[hx]
 rw[e]
 have hd1:decide ((n:Int)<x)=true:=by simpa using hx
 clear e hr hx
 all_goals
  go_enter Tryz.func81,Tryz.ntmps81
  go_wp2_with fail
  refine(aggs_find_yes s c x y h _).mono ?_
  rintro e w1 ⟨⟨fn,first,cap,rfl,_⟩,hb⟩
  obtain⟨l,k,rfl⟩:=zA0 hb
  clear hb h
  go_wp2
  go_ret
  exact rb_
end Go.Proofs.YtnccknhbplaieaaGreatDoor
