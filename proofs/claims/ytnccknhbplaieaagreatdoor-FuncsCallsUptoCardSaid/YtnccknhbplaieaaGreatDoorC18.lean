/- Parts. -/
import Derived.Test.YtnccknhbplaieaaGreatDoorC12
import Derived.Test.YtnccknhbplaieaaGreatDoorC16
import Derived.Test.YtnccknhbplaieaaGreatDoorC17
set_option linter.all false
set_option maxRecDepth 100000
set_option maxHeartbeats 4000000
namespace Go.Proofs.YtnccknhbplaieaaGreatDoor
open Go Go.RowKit Go.Proofs.Tryz
open Go.IntKind renaming u64->Q3,wrap_i64->Q4,i64->Q5,wrap_u64->QE
open _root_.Nat renaming mul_le_mul->Q7,div_le_self->QA,div_lt_iff_lt_mul->QB
open _root_.Int renaming tmod_eq_emod_of_nonneg->Q8,mul_tdiv_add_tmod->QC
open _root_.List renaming sum_cons->Q9
open _root_.Bool renaming false_ne_true->QD
theorem nums_Known (s:ByteArray) (w:World):Rt 74 #[.string s] w (.bool (zAd s).isSome):=by
 cases h:zAd s with
 | none =>
   go_enter func74,ntmps74;go_wp2_with fail;refine(nums_find_no s h _).mono ?_;rintro e w1 ⟨hm,hb⟩;obtain rfl:=hm;obtain⟨l,n,rfl⟩:=zA0 hb;clear hb h;go_wp2;all_goals go_ret;all_goals exact rb_
 | some q =>
   obtain⟨x,y⟩:=q;go_enter func74,ntmps74;go_wp2_with fail;refine(nums_find_yes s x y h _).mono ?_;rintro e w1 ⟨⟨fn,first,cap,rfl,_⟩,hb⟩;obtain⟨l,n,rfl⟩:=zA0 hb;clear hb h;go_wp2;all_goals go_ret;all_goals exact rb_
theorem texts_Known (s:ByteArray) (w:World):Rt 77 #[.string s] w (.bool (zAT s).isSome):=by
 cases h:zAT s with
 | none =>
   go_enter func77,ntmps77;go_wp2_with fail;refine(texts_find_no s h _).mono ?_;rintro e w1 ⟨hm,hb⟩;obtain rfl:=hm;obtain⟨l,n,rfl⟩:=zA0 hb;clear hb h;go_wp2;all_goals go_ret;all_goals exact rb_
 | some q =>
   obtain⟨x,y⟩:=q;go_enter func77,ntmps77;go_wp2_with fail;refine(zBu s x y h _).mono ?_;rintro e w1 ⟨⟨fn,first,cap,rfl,_⟩,hb⟩;obtain⟨l,n,rfl⟩:=zA0 hb;clear hb h;go_wp2;all_goals go_ret;all_goals exact rb_
theorem aggs_Known (s:ByteArray) (w:World):Rt 80 #[.string s] w (.bool (zAV s).isSome):=by
 cases h:zAV s with
 | none =>
   go_enter func80,ntmps80;go_wp2_with fail;refine(aggs_find_no s h _).mono ?_;rintro e w1 ⟨hm,hb⟩;obtain rfl:=hm;obtain⟨l,n,rfl⟩:=zA0 hb;clear hb h;go_wp2;all_goals go_ret;all_goals exact rb_
 | some q =>
   obtain⟨c,x,y⟩:=q;go_enter func80,ntmps80;go_wp2_with fail;refine(aggs_find_yes s c x y h _).mono ?_;rintro e w1 ⟨⟨fn,first,cap,rfl,_⟩,hb⟩;obtain⟨l,n,rfl⟩:=zA0 hb;clear hb h;go_wp2;all_goals go_ret;all_goals exact rb_
def between (x y:Int) (n:Nat):Bool:=decide (x<=n)&&decide (n<=y)
def zBB (s:ByteArray) (xs:List Bool):Bool:=match zAd s with
 | some (x,y)=>between x y xs.length&& !zAU xs
 | none=>false
def zAx (s:ByteArray) (xs:List Bool):Bool:=match zAT s with
 | some (c,x)=>between x c.size xs.length&& !zAU xs
 | none=>false
theorem nums_Takes (s:ByteArray) (A:Option Addr) (n c:Nat) (xs:List Bool) (w:World) (B:Nat) (hr:Reads w B 1 A n (xs.map Value.bool)) (hm:n<=9223372036854775807) :
  Rt 75 #[.string s,.slice A n c] w (.bool (zBB s xs)):=by
 have ha:xs.length=n:=by have:=hr.1;simpa using this
 rcases h:zAd s with _|q
 ·have e:zBB s xs=false:=by simp[zBB,h]
  rw[e];clear hr hm ha;go_enter func75,ntmps75;go_wp2_with fail;refine(nums_find_no s h _).mono ?_;rintro e w1 ⟨hm,hb⟩;obtain rfl:=hm;obtain⟨l,n,rfl⟩:=zA0 hb;clear hb h e;go_wp2;all_goals go_ret;all_goals exact rb_
 obtain⟨x,y⟩:=q;have e:zBB s xs=(between x y n&& !zAU xs):=by simp[zBB,h,ha]
 rw[e];clear ha e;by_cases hx:x<=n
 by_cases hy:n<=y
 ·have e:(between x y n&& !zAU xs)= !zAU xs:=by simp[between,hx,hy]
  rw[e];clear e;go_enter func75,ntmps75;go_wp2_with fail;refine(nums_find_yes s x y h _).mono ?_;rintro e w1 ⟨⟨fn,first,cap,rfl,_⟩,hb⟩;obtain⟨l,k,rfl⟩:=zA0 hb;clear hb h;go_wp2_with fail;refine(contains_bools A n c B xs _ (hr.keeps kps) hm).mono ?_;rintro e w1 ⟨rfl,rfl⟩;clear hr;go_wp2;all_goals go_ret;all_goals exact rb_
 have e:(between x y n&& !zAU xs)=false:=by simp[between,hy]
 rotate_left
 have e:(between x y n&& !zAU xs)=false:=by simp[between,hx]
 all_goals
  rw[e];clear e hr;go_enter func75,ntmps75;go_wp2_with fail;refine(nums_find_yes s x y h _).mono ?_;rintro e w1 ⟨⟨fn,first,cap,rfl,_⟩,hb⟩;obtain⟨l,k,rfl⟩:=zA0 hb;clear hb h;go_wp2;all_goals go_ret;all_goals exact rb_
theorem texts_Takes (s:ByteArray) (A:Option Addr) (n c:Nat) (xs:List Bool) (w:World) (B:Nat) (hr:Reads w B 1 A n (xs.map Value.bool)) (hm:n<=9223372036854775807) :
  Rt 78 #[.string s,.slice A n c] w (.bool (zAx s xs)):=by
 have ha:xs.length=n:=by have:=hr.1;simpa using this
 cases h:zAT s with
 | none =>
   have e:zAx s xs=false:=by simp[zAx,h]
   rw[e];clear hr hm ha;go_enter func78,ntmps78;go_wp2_with fail;refine(texts_find_no s h _).mono ?_;rintro e w1 ⟨hm,hb⟩;obtain rfl:=hm;obtain⟨l,n,rfl⟩:=zA0 hb;clear hb h e;go_wp2;all_goals go_ret;all_goals exact rb_
 | some q =>
   obtain⟨y,x⟩:=q;have e:zAx s xs=(between x y.size n&& !zAU xs):=by simp[zAx,h,ha]
   rw[e];clear ha e;by_cases hx:x<=n
   ·by_cases hy:n<=y.size
    ·have e:(between x y.size n&& !zAU xs)= !zAU xs:=by simp[between,hx,hy]
     rw[e];clear e;go_enter func78,ntmps78;go_wp2_with fail;refine(zBu s y x h _).mono ?_;rintro e w1 ⟨⟨fn,first,cap,rfl,_⟩,hb⟩;obtain⟨l,k,rfl⟩:=zA0 hb;clear hb h;go_wp2_with fail;refine(contains_bools A n c B xs _ (hr.keeps kps) hm).mono ?_;rintro e w1 ⟨rfl,rfl⟩;clear hr;go_wp2;all_goals go_ret;all_goals exact rb_
    ·have e:(between x y.size n&& !zAU xs)=false:=by simp[between,hy]
     rw[e];clear e hr;go_enter func78,ntmps78;go_wp2_with fail;refine(zBu s y x h _).mono ?_;rintro e w1 ⟨⟨fn,first,cap,rfl,_⟩,hb⟩;obtain⟨l,k,rfl⟩:=zA0 hb;clear hb h;go_wp2;all_goals go_ret;all_goals exact rb_
   ·have e:(between x y.size n&& !zAU xs)=false:=by simp[between,hx]
    rw[e];have hd:decide (x<= ↑n)=false:=by simpa using hx
    clear e hr hx;go_enter func78,ntmps78;go_wp2_with fail;refine(zBu s y x h _).mono ?_;rintro e w1 ⟨⟨fn,first,cap,rfl,_⟩,hb⟩;obtain⟨l,k,rfl⟩:=zA0 hb;clear hb h;go_wp2;all_goals go_ret;all_goals exact rb_
open Go.Lib renaming hid->zh
theorem nums_sqrt (x:Int) (hx:Is64 x) (g c:Nat) (w:World) (h0:w.cell? ⟨g,0,none⟩=some (.int .i64 x)):Rt 199 #[.slice (some ⟨g,0,none⟩) 1 c] w (vG (numC (sqrtX x))):=by
 have hl:=cltK h0;have HX:=zh hx;clear hx;go_enter func199,ntmps199;go_wp2_with(first|(go_at_call 200;refine mB (dec_Sqrt _ HX.out _) ?_;intro l1 n1)|(go_at_call 187;refine mB (zBm _ _ _) ?_;intro l n))
 all_goals(go_returns;exact rb_)
def numDo (s:ByteArray) (l:List Int):V :=
 if (⟨#[79,68,68]⟩:ByteArray)=s then oddX (l.getD 0 0) else
 if (⟨#[67,76,65,77,80]⟩:ByteArray)=s then clampX (l.getD 0 0) (l.getD 1 0) (l.getD 2 0) else
 if (⟨#[70,65,67,84]⟩:ByteArray)=s then factX (l.getD 0 0) else
 if (⟨#[76,67,77]⟩:ByteArray)=s then lcmX l else
 if (⟨#[71,67,68]⟩:ByteArray)=s then gcdX l else
 if (⟨#[83,81,82,84]⟩:ByteArray)=s then numC (sqrtX (l.getD 0 0)) else
 if (⟨#[80,79,87,69,82]⟩:ByteArray)=s then zB5 powX (l.getD 0 0) (l.getD 1 0) else
 if (⟨#[81,85,79,84]⟩:ByteArray)=s then quotX (l.getD 0 0) (l.getD 1 0) else
 if (⟨#[77,79,68]⟩:ByteArray)=s then numC (modX (l.getD 0 0) (l.getD 1 0)) else
 if (⟨#[67,69,73,76]⟩:ByteArray)=s then numC (ceilX (l.getD 0 0) (l.getD 1 0)) else
 if (⟨#[70,76,79,79,82]⟩:ByteArray)=s then numC (zAn (l.getD 0 0) (l.getD 1 0)) else
 if (⟨#[82,79,85,78,68]⟩:ByteArray)=s then (if l.length=2 then zB5 zBW (l.getD 0 0) (l.getD 1 0) else numC (zBW (l.getD 0 0) 0)) else
 if (⟨#[84,82,85,78,67]⟩:ByteArray)=s then (if l.length=2 then zB5 truncP (l.getD 0 0) (l.getD 1 0) else numC (truncP (l.getD 0 0) 0)) else
 if (⟨#[73,78,84]⟩:ByteArray)=s then numC (floorX (l.getD 0 0)) else
 if (⟨#[83,73,71,78]⟩:ByteArray)=s then signV (l.getD 0 0) else
 if (⟨#[65,66,83]⟩:ByteArray)=s then numG (max (l.getD 0 0) (-(l.getD 0 0))) else errG 8
def DoesN (w:World) (fn:Fn) (first cap:Array Value) (l:List Int) (r:V):Prop :=
 (∃ k,fn=.func k/\first= #[]/\cap= #[]/\(∀ (args:Array Value) (w:World),Sem.run prog (callFunc k args) w=.ok (.enter k args) w)/\∀ W g c,Below w.heap.size w W->AtB W g (I l)->g<W.heap.size->Calls prog k #[.slice (some ⟨g,0,none⟩) l.length c] W fun e w'=>e=.returned (vG r)/\Below W.heap.size W w') ∨
 (∃ k p,fn=.func k/\first= #[]/\cap= #[.pointer (some ⟨p,0,none⟩)]/\(∀ (args:Array Value) (w:World),Sem.run prog (callFunc k args) w=.ok (.enter k args) w)/\∀ W g c,Below w.heap.size w W->AtB W g (I l)->g<W.heap.size->Calls prog k #[.slice (some ⟨g,0,none⟩) l.length c,.pointer (some ⟨p,0,none⟩)] W fun e w'=>e=.returned (vG r)/\Below W.heap.size W w')
theorem cellB_below {w W:World} {p i:Nat} {v:Value} (h:w.cell? ⟨p,i,none⟩=some v) (hB:Below w.heap.size w W):W.cell? ⟨p,i,none⟩=some v:=cell_below h hB
theorem num_do {w:World} {s:ByteArray} {x y:Int} {fn:Fn} {first cap:Array Value} {p1 p2 p3:Nat} (ht:zAd s=some (x,y)) (hf:numFn p1 p2 p3 s=some (.func fn first cap))
  (hk1:w.cell? ⟨p1,0,none⟩=some (.func (.func 190) #[] #[])) (hk2:w.cell? ⟨p2,0,none⟩=some (.func (.func 191) #[] #[])) (hk3:w.cell? ⟨p3,0,none⟩=some (.func (.func 198) #[] #[]))
  (l:List Int) (hb:between x y l.length=true) (h63:∀ a∈l,In63 a):DoesN w fn first cap l (numDo s l):=by
 unfold zAd at ht;unfold numFn at hf;unfold numDo;simp only[between,Bool.and_eq_true,decide_eq_true_eq] at hb;by_cases eODD:(⟨#[79,68,68]⟩:ByteArray)=s
 ·rw[if_pos eODD] at ht hf ⊢;cases ht;cases hf;have hl:l.length=1:=by omega
  match l,hl with
  | [a0],_ =>
    have h0:=h63 a0 (by simp);refine .inl ⟨_,rfl,rfl,rfl,fun _ _=>rfl,fun w g c hB hA hg=> ?_⟩;have q0:=hA 0 _ rfl;exact nums_odd a0 h0.to64 g c w q0
 rw[if_neg eODD] at ht hf ⊢;by_cases eCLAMP:(⟨#[67,76,65,77,80]⟩:ByteArray)=s
 ·rw[if_pos eCLAMP] at ht hf ⊢;cases ht;cases hf;have hl:l.length=3:=by omega
  match l,hl with
  | [a0,a1,a2],_ =>
    have h0:=h63 a0 (by simp);have h1:=h63 a1 (by simp);refine .inl ⟨_,rfl,rfl,rfl,fun _ _=>rfl,fun w g c hB hA hg=> ?_⟩;have q0:=hA 0 _ rfl;have q1:=hA 1 _ rfl;have q2:=hA 2 _ rfl;exact nums_clamp a0 a1 a2 g c w q0 q1 q2
 rw[if_neg eCLAMP] at ht hf ⊢;by_cases eFACT:(⟨#[70,65,67,84]⟩:ByteArray)=s
 ·rw[if_pos eFACT] at ht hf ⊢;cases ht;cases hf;have hl:l.length=1:=by omega
  match l,hl with
  | [a0],_ =>
    have h0:=h63 a0 (by simp);refine .inl ⟨_,rfl,rfl,rfl,fun _ _=>rfl,fun w g c hB hA hg=> ?_⟩;have q0:=hA 0 _ rfl;exact nums_fact a0 h0.to64 g c w q0
 rw[if_neg eFACT] at ht hf ⊢;by_cases eLCM:(⟨#[76,67,77]⟩:ByteArray)=s
 ·rw[if_pos eLCM] at ht hf ⊢;cases ht;cases hf;refine .inl ⟨_,rfl,rfl,rfl,fun _ _=>rfl,fun w g c hB hA hg=> ?_⟩;exact nums_lcmOf l h63 (by omega) g c w hA hg
 rw[if_neg eLCM] at ht hf ⊢;by_cases eGCD:(⟨#[71,67,68]⟩:ByteArray)=s
 ·rw[if_pos eGCD] at ht hf ⊢;cases ht;cases hf;refine .inl ⟨_,rfl,rfl,rfl,fun _ _=>rfl,fun w g c hB hA hg=> ?_⟩;exact nums_gcdOf l h63 (by omega) g c w hA hg
 rw[if_neg eGCD] at ht hf ⊢;by_cases eSQRT:(⟨#[83,81,82,84]⟩:ByteArray)=s
 ·rw[if_pos eSQRT] at ht hf ⊢;cases ht;cases hf;have hl:l.length=1:=by omega
  match l,hl with
  | [a0],_ =>
    have h0:=h63 a0 (by simp);refine .inl ⟨_,rfl,rfl,rfl,fun _ _=>rfl,fun w g c hB hA hg=> ?_⟩;have q0:=hA 0 _ rfl;exact nums_sqrt a0 h0.to64 g c w q0
 rw[if_neg eSQRT] at ht hf ⊢;by_cases ePOWER:(⟨#[80,79,87,69,82]⟩:ByteArray)=s
 ·rw[if_pos ePOWER] at ht hf ⊢;cases ht;cases hf;have hl:l.length=2:=by omega
  match l,hl with
  | [a0,a1],_ =>
    have h0:=h63 a0 (by simp);have h1:=h63 a1 (by simp);refine .inr ⟨_,_,rfl,rfl,rfl,fun _ _=>rfl,fun w g c hB hA hg=> ?_⟩;have q0:=hA 0 _ rfl;have q1:=hA 1 _ rfl;exact places_power2 a0 a1 h0 h1.to64 p3 g c w (cellB_below hk3 hB) q0 q1
 rw[if_neg ePOWER] at ht hf ⊢;by_cases eQUOT:(⟨#[81,85,79,84]⟩:ByteArray)=s
 ·rw[if_pos eQUOT] at ht hf ⊢;cases ht;cases hf;have hl:l.length=2:=by omega
  match l,hl with
  | [a0,a1],_ =>
    have h0:=h63 a0 (by simp);have h1:=h63 a1 (by simp);refine .inl ⟨_,rfl,rfl,rfl,fun _ _=>rfl,fun w g c hB hA hg=> ?_⟩;have q0:=hA 0 _ rfl;have q1:=hA 1 _ rfl;exact nums_quot a0 a1 h0 h1 g c w q0 q1
 rw[if_neg eQUOT] at ht hf ⊢;by_cases eMOD:(⟨#[77,79,68]⟩:ByteArray)=s
 ·rw[if_pos eMOD] at ht hf ⊢;cases ht;cases hf;have hl:l.length=2:=by omega
  match l,hl with
  | [a0,a1],_ =>
    have h0:=h63 a0 (by simp);have h1:=h63 a1 (by simp);refine .inl ⟨_,rfl,rfl,rfl,fun _ _=>rfl,fun w g c hB hA hg=> ?_⟩;have q0:=hA 0 _ rfl;have q1:=hA 1 _ rfl;exact nums_mod a0 a1 h0.to64 h1.to64 g c w q0 q1
 rw[if_neg eMOD] at ht hf ⊢;by_cases eCEIL:(⟨#[67,69,73,76]⟩:ByteArray)=s
 ·rw[if_pos eCEIL] at ht hf ⊢;cases ht;cases hf;have hl:l.length=2:=by omega
  match l,hl with
  | [a0,a1],_ =>
    have h0:=h63 a0 (by simp);have h1:=h63 a1 (by simp);refine .inl ⟨_,rfl,rfl,rfl,fun _ _=>rfl,fun w g c hB hA hg=> ?_⟩;have q0:=hA 0 _ rfl;have q1:=hA 1 _ rfl;exact nums_ceil a0 a1 h0 h1.to64 g c w q0 q1
 rw[if_neg eCEIL] at ht hf ⊢;by_cases eFLOOR:(⟨#[70,76,79,79,82]⟩:ByteArray)=s
 ·rw[if_pos eFLOOR] at ht hf ⊢;cases ht;cases hf;have hl:l.length=2:=by omega
  match l,hl with
  | [a0,a1],_ =>
    have h0:=h63 a0 (by simp);have h1:=h63 a1 (by simp);refine .inl ⟨_,rfl,rfl,rfl,fun _ _=>rfl,fun w g c hB hA hg=> ?_⟩;have q0:=hA 0 _ rfl;have q1:=hA 1 _ rfl;exact nums_floorF a0 a1 h0.to64 h1.to64 g c w q0 q1
 rw[if_neg eFLOOR] at ht hf ⊢;by_cases eROUND:(⟨#[82,79,85,78,68]⟩:ByteArray)=s
 ·rw[if_pos eROUND] at ht hf ⊢;cases ht;cases hf;have hl:l.length=1∨l.length=2:=by omega
  rcases hl with hl|hl
  ·match l,hl with
   | [a0],_ =>
     have h0:=h63 a0 (by simp);refine .inr ⟨_,_,rfl,rfl,rfl,fun _ _=>rfl,fun w g c hB hA hg=> ?_⟩;have q0:=hA 0 _ rfl;exact places_round1 a0 h0 p2 g c w (cellB_below hk2 hB) q0
  ·match l,hl with
   | [a0,a1],_ =>
     have h0:=h63 a0 (by simp);have h1:=h63 a1 (by simp);refine .inr ⟨_,_,rfl,rfl,rfl,fun _ _=>rfl,fun w g c hB hA hg=> ?_⟩;have q0:=hA 0 _ rfl;have q1:=hA 1 _ rfl;exact places_round2 a0 a1 h0 h1.to64 p2 g c w (cellB_below hk2 hB) q0 q1
 rw[if_neg eROUND] at ht hf ⊢;by_cases eTRUNC:(⟨#[84,82,85,78,67]⟩:ByteArray)=s
 ·rw[if_pos eTRUNC] at ht hf ⊢;cases ht;cases hf;have hl:l.length=1∨l.length=2:=by omega
  rcases hl with hl|hl
  ·match l,hl with
   | [a0],_ =>
     have h0:=h63 a0 (by simp);refine .inr ⟨_,_,rfl,rfl,rfl,fun _ _=>rfl,fun w g c hB hA hg=> ?_⟩;have q0:=hA 0 _ rfl;exact places_trunc1 a0 h0 p1 g c w (cellB_below hk1 hB) q0
  ·match l,hl with
   | [a0,a1],_ =>
     have h0:=h63 a0 (by simp);have h1:=h63 a1 (by simp);refine .inr ⟨_,_,rfl,rfl,rfl,fun _ _=>rfl,fun w g c hB hA hg=> ?_⟩;have q0:=hA 0 _ rfl;have q1:=hA 1 _ rfl;exact places_trunc2 a0 a1 h0 h1.to64 p1 g c w (cellB_below hk1 hB) q0 q1
 rw[if_neg eTRUNC] at ht hf ⊢;by_cases eINT:(⟨#[73,78,84]⟩:ByteArray)=s
 ·rw[if_pos eINT] at ht hf ⊢;cases ht;cases hf;have hl:l.length=1:=by omega
  match l,hl with
  | [a0],_ =>
    have h0:=h63 a0 (by simp);refine .inl ⟨_,rfl,rfl,rfl,fun _ _=>rfl,fun w g c hB hA hg=> ?_⟩;have q0:=hA 0 _ rfl;exact nums_int a0 h0.to64 g c w q0
 rw[if_neg eINT] at ht hf ⊢;by_cases eSIGN:(⟨#[83,73,71,78]⟩:ByteArray)=s
 ·rw[if_pos eSIGN] at ht hf ⊢;cases ht;cases hf;have hl:l.length=1:=by omega
  match l,hl with
  | [a0],_ =>
    have h0:=h63 a0 (by simp);refine .inl ⟨_,rfl,rfl,rfl,fun _ _=>rfl,fun w g c hB hA hg=> ?_⟩;have q0:=hA 0 _ rfl;exact nums_sign a0 g c w q0
 rw[if_neg eSIGN] at ht hf ⊢;by_cases eABS:(⟨#[65,66,83]⟩:ByteArray)=s
 ·rw[if_pos eABS] at ht hf ⊢;cases ht;cases hf;have hl:l.length=1:=by omega
  match l,hl with
  | [a0],_ =>
    have h0:=h63 a0 (by simp);refine .inl ⟨_,rfl,rfl,rfl,fun _ _=>rfl,fun w g c hB hA hg=> ?_⟩;have q0:=hA 0 _ rfl;exact nums_abs a0 h0 g c w q0
 rw[if_neg eABS] at ht hf ⊢;cases ht
theorem odd_of {n:Int} {k:Nat} (h:n.natAbs=k):(n % 2 != 0)=(k % 2 != 0):=by
 have e:(n % 2=0) ↔ (k % 2=0):=by omega
 by_cases h2:k % 2=0
 ·rw[show (k % 2 != 0)=false by simp[h2],show (n % 2 != 0)=false by simp[e.2 h2]]
 ·rw[show (k % 2 != 0)=true from bne_iff_ne.2 h2,show (n % 2 != 0)=true from bne_iff_ne.2 fun e2=>h2 (e.1 e2)]
theorem r1_Power (x n:Int) (hx:Is64 x) (w:World):Rt 102 #[.int .i64 x,.int .i64 n] w (.tuple #[.int .i64 (powX x n).1,.int .i64 (powX x n).2]):=by
 by_cases h1:x=minI
 rw[show powX x n=(0,2) from if_pos h1];have k1:decide ((-9223372036854775807:Int)<=x)=false:=decide_eq_false (by unfold minI at h1;omega);clear h1
 rotate_left
 have i1:=in63_of hx h1;have k1:decide ((-9223372036854775807:Int)<=x)=true:=decide_eq_true i1.1;by_cases h2:n< -64∨64<n
 rw[show powX x n=(0,8) by unfold powX;rw[if_neg h1,if_pos h2]];clear h1 i1;rcases h2 with h2|h2
 rotate_left
 have h3: ¬ n< -64:=by omega
 rotate_left
 by_cases h3:n=0
 subst h3;rw[show powX x 0=(10000,0) by unfold powX;rw[if_neg h1,if_neg h2,if_pos rfl]];clear h1 h2 i1
 rotate_left
 by_cases h4:n<0
 by_cases h5:x=0
 subst h5;rw[show powX 0 n=(0,3) by unfold powX;rw[if_neg h1,if_neg h2,if_neg h3,if_pos ⟨rfl,h4⟩]];have h6: ¬ n< -64:=by omega
 have h7: ¬ 64<n:=by omega
 have HZ:=zh (r1_size 0 hx);clear h1 h2 i1
 rotate_left
 ·have h:=power_neg x i1 n (-n).toNat (by omega) (by omega) (by omega) h5 w;rw[powX_quo h1 h4 (by omega) h5,odd_of (show n.natAbs=(-n).toNat by omega),show (1-n).toNat=(-n).toNat+1 by omega];exact h
 ·have h:=power_pos x i1 n n.toNat (by omega) (by omega) (by omega) w;rw[powX_cut h1 (by omega) (by omega),odd_of (show n.natAbs=n.toNat by omega)];exact h
 all_goals
  go_enter func102,ntmps102;go_wp2_with(first|(go_at_call 95;refine(zAL _ _).mono ?_;rintro e w1 ⟨rfl,rfl⟩)|(go_at_call 159;refine(HZ.out _).mono ?_;rintro e w1 ⟨rfl,rfl⟩))
  all_goals(go_returns;exact rb_)
theorem wu_mul {x y z:Nat} (hz:x*y=z) (h:z<18446744073709551616):Q3.wrap ((x:Int)*(y:Int))=(z:Int):=by
 rw[<- Int.natCast_mul,hz,zAH h]
def mulT (m n:Nat):Nat:=m / 10000*(n / 10000)*10000+m / 10000*(n % 10000)+n / 10000*(m % 10000)+(m % 10000*(n % 10000)+5000) / 10000
theorem mulT_eq (m n:Nat):mulT m n=(m*n+5000) / 10000:=by
 unfold mulT;have hm:=Nat.div_add_mod m 10000;have hn:=Nat.div_add_mod n 10000;generalize m / 10000=p at *;generalize n / 10000=q at *;generalize m % 10000=a at *;generalize n % 10000=b at *;subst hm hn;have e:(10000*p+a)*(10000*q+b)+5000=10000*(p*q*10000+p*b+q*a)+(a*b+5000):=by
  simp only[Nat.mul_add,Nat.add_mul,Nat.mul_assoc,Nat.mul_comm,Nat.mul_left_comm];omega
 rw[e,Nat.mul_add_div (by decide)]
theorem mulX_T {a b:Int} (ha:In63 a) (hb:In63 b):mulX a b=signX (mulT a.natAbs b.natAbs) (lowX a != lowX b):=by
 unfold In63 at ha hb;unfold mulX;rw[if_neg (by unfold minI;omega),mulT_eq];generalize a.natAbs*b.natAbs=P;unfold signX upX;by_cases h1:10000<=P / 18446744073709551616
 ·rw[if_pos h1,if_pos (by omega)]
 ·rw[if_neg h1];by_cases h2:5000<=P % 10000
  ·rw[decide_eq_true h2,Bool.true_and];by_cases h3:P / 10000<=9223372036854775807
   ·rw[decide_eq_true h3,if_pos rfl,show (P+5000) / 10000=P / 10000+1 by omega]
   ·rw[decide_eq_false h3,if_neg QD,if_pos (by omega),if_pos (by omega)]
  ·rw[decide_eq_false h2,Bool.false_and,if_neg QD,show (P+5000) / 10000=P / 10000 by omega]
theorem mulT_at {m n p q r t:Nat} (hp:m / 10000=p) (hq:n / 10000=q) (hr:m % 10000=r) (ht:n % 10000=t):mulT m n=p*q*10000+p*t+q*r+(r*t+5000) / 10000:=by
 unfold mulT;rw[hp,hq,hr,ht]
theorem sum_snoc (l:List Nat) (x:Nat):(l++[x]).sum=l.sum+x:=by
 induction l with
 | nil=>simp
 | cons y l ih=>rw[List.cons_append,Q9,Q9,ih];omega
theorem sum_take_le (l:List Nat) (j:Nat):(l.take j).sum<=l.sum:=by
 induction l generalizing j with
 | nil=>simp
 | cons y l ih =>
   cases j with
   | zero=>simp
   | succ j=>have:=ih j;simp only[List.take_succ_cons,Q9];omega
theorem r1_Mul (a b:Int) (ha:Is64 a) (hb:Is64 b) (w:World):Rt 168 #[.int .i64 a,.int .i64 b] w (.tuple #[.int .i64 (mulX a b).1,.int .i64 (mulX a b).2]):=by
 by_cases h1:a=minI
 ·rw[show mulX a b=(0,2) from if_pos (.inl h1)];have k1:decide ((-9223372036854775807:Int)<=a)=false:=decide_eq_false (by unfold minI at h1;omega);clear h1 ha hb;go_enter func168,ntmps168;go_wp2_with(go_at_call 95;refine(zAL _ _).mono ?_;rintro e w1 ⟨rfl,rfl⟩)
  all_goals(go_returns;exact rb_)
 have i1:=in63_of ha h1;have k1:decide ((-9223372036854775807:Int)<=a)=true:=decide_eq_true i1.1;by_cases h2:b=minI
 ·rw[show mulX a b=(0,2) from if_pos (.inr h2)];have k2:decide ((-9223372036854775807:Int)<=b)=false:=decide_eq_false (by unfold minI at h2;omega);clear h1 h2 ha hb i1;go_enter func168,ntmps168;go_wp2_with(go_at_call 95;refine(zAL _ _).mono ?_;rintro e w1 ⟨rfl,rfl⟩)
  all_goals(go_returns;exact rb_)
 have i2:=in63_of hb h2;have k2:decide ((-9223372036854775807:Int)<=b)=true:=decide_eq_true i2.1;rw[mulX_T i1 i2];have m1:a.natAbs<=9223372036854775807:=by unfold In63 at i1;omega
 have m2:b.natAbs<=9223372036854775807:=by unfold In63 at i2;omega
 have hK:=zh (r1_size a ha);have hM:=zh (r1_size b hb);obtain⟨m,hm⟩:=lt_ a.natAbs;obtain⟨n,hn⟩:=lt_ b.natAbs;obtain⟨x,hx⟩:=lt_ (lowX a);obtain⟨y,hy⟩:=lt_ (lowX b);rw[hm] at m1;rw[hn] at m2;rw[hm,hx] at hK;rw[hn,hy] at hM;rw[hm,hn,hx,hy];obtain⟨p,hp⟩:=lt_ (m / 10000);obtain⟨q,hq⟩:=lt_ (n / 10000);obtain⟨r,hr⟩:=lt_ (m % 10000);obtain⟨t,ht⟩:=lt_ (n % 10000);rw[mulT_at hp hq hr ht];have lp:p<=922337203685477:=by omega
 have lq:q<=922337203685477:=by omega
 have lr:r<10000:=by omega
 have lt:t<10000:=by omega
 obtain⟨pq,he⟩:=lt_ (p*q);obtain⟨B1,hf⟩:=lt_ (p*t);obtain⟨B2,hi⟩:=lt_ (q*r);obtain⟨rt,hl⟩:=lt_ (r*t);have l1:B1<=922337203685477*9999:=by rw[<- hf];exact Q7 lp (by omega)
 have l2:B2<=922337203685477*9999:=by rw[<- hi];exact Q7 lq (by omega)
 have l3:rt<=9999*9999:=by rw[<- hl];exact Q7 (by omega) (by omega)
 obtain⟨B3,hC⟩:=lt_ ((rt+5000) / 10000);rw[he,hf,hi,hl,hC];obtain⟨lw,hg⟩:=lt_ (x != y);obtain⟨z,hz⟩:=lt_ (922337203685477 / p);have hI:0<p->(z<q ↔ 922337203685477<pq):=fun h=>by rw[<- hz,<-he,Nat.mul_comm p q];exact QB h
 have lz:z<=922337203685477:=by rw[<- hz];exact QA _ _
 have bz:z<18446744073709551616:=by omega
 have bp:p<18446744073709551616:=by omega
 have bq:q<18446744073709551616:=by omega
 have br:r<18446744073709551616:=by omega
 have bt:t<18446744073709551616:=by omega
 have b1:B1<18446744073709551616:=by omega
 have b2:B2<18446744073709551616:=by omega
 have b3:B3<18446744073709551616:=by omega
 have brt:rt<18446744073709551616:=by omega
 obtain⟨rs,hG⟩:=lt_ (rt+5000);have brs:rs<18446744073709551616:=by omega
 rw[hG] at hC;have u1:(m:Int) / 10000=(p:Int):=by omega
 have u2:(n:Int) / 10000=(q:Int):=by omega
 have u3:(m:Int) % 10000=(r:Int):=by omega
 have u4:(n:Int) % 10000=(t:Int):=by omega
 have u5:(rs:Int) / 10000=(B3:Int):=by omega
 rw[hg];by_cases hA:0<p/\z<q
 ·obtain⟨Hb,hA⟩:=hA;have hO:=(hI Hb).1 hA;have hc:(0:Int)<(p:Int):=by omega
  have hd: ¬ (p:Int)=0:=by omega
  have hw:(z:Int)<(q:Int):=by omega
  rw[show signX (pq*10000+B1+B2+B3) lw=(0,2) from if_pos (by omega)];have v6:(922337203685477:Int).tdiv (p:Int)=(z:Int):=zAt hz;have v7:(922337203685477:Int) / (p:Int)=(z:Int):=by rw[<- hz];rfl
  have w1:=zAH bp;have w2:=zAH bq;have w9:=zAH bz;clear h1 h2 i1 i2 ha hb hm hn hx hy hp hq hr ht he hf hi hl hC hG hz hI lp lq lr lt l1 l2 l3 lz bz bp bq br bt b1 b2 b3 brt brs hO hA hg u3 u4 u5;go_enter func168,ntmps168;go_wp2_with(first|(go_at_call 95;refine(zAL _ _).mono ?_;rintro e w1 ⟨rfl,h⟩;obtain rfl:=h.symm;clear h)|(go_at_call_of 159 (Value.int .i64 a);refine(hK.out _).mono ?_;rintro e w1 ⟨rfl,h⟩;obtain rfl:=h.symm;clear h)|(go_at_call_of 159 (Value.int .i64 b);refine(hM.out _).mono ?_;rintro e w1 ⟨rfl,h⟩;obtain rfl:=h.symm;clear h))
  all_goals(go_returns;exact rb_)
 have hE:pq<=922337203685477:=by
  rcases Nat.eq_zero_or_pos p with h0|h0
  ·rw[<- he,h0,Nat.zero_mul];omega
  ·have:=mt (hI h0).2 (fun e=>hA ⟨h0,e⟩);omega
 obtain⟨B0,hN⟩:=lt_ (pq*10000);have b0:B0<18446744073709551616:=by omega
 have bpq:pq<18446744073709551616:=by omega
 obtain⟨Lw,hL⟩:=lt_ ([B0,B1,B2,B3]);have hu:Lw.sum=B0+B1+B2+B3:=by rw[<- hL];simp only[Q9,List.sum_nil];omega
 rw[hN,<-hu];have hk:Lw.length=4:=by rw[<- hL];rfl
 have hF:∀ v∈Lw,v<18446744073709551616:=by
  rw[<- hL];intro v hv;simp only[List.mem_cons,List.not_mem_nil,or_false] at hv;rcases hv with rfl|rfl|rfl|rfl<;>assumption
 obtain⟨R,hR⟩:=lt_ (signX Lw.sum lw);rw[hR];have HR:=zh hR;have hh:=zh hk;have hW:=zh hF;have HL:=zh hL;have hX:=zh hg;have hJ:=zh (fun (b:World)=>AtB.new (w:=b) (cs:=#[.int .u64 (B0:Int),.int .u64 (B1:Int),.int .u64 (B2:Int),.int .u64 (B3:Int)]) (t:=133) rfl);have Hc:(0:Int)<(p:Int)∨(p:Int)=0:=by omega
 have hw:(0:Int)<(p:Int)->¬ (z:Int)<(q:Int):=fun h e=>hA ⟨by omega,by omega⟩;have hd:(0:Int)<(p:Int)->¬ (p:Int)=0:=fun h=>by omega
 have hQ:=zh (show (p:Int)=0->B0=0/\B1=0 from fun h=>by
  have h0:p=0:=by omega
  rw[h0,Nat.zero_mul] at he hf;omega)
 have v6:(922337203685477:Int).tdiv (p:Int)=(z:Int):=zAt hz;have v7:(922337203685477:Int) / (p:Int)=(z:Int):=by rw[<- hz];rfl
 have w1:=zAH bp;have w2:=zAH bq;have w3:=zAH br;have w4:=zAH bt;have w5:=zAH b3;have w9:=zAH bz;have x1:=wu_mul he bpq;have x2:Q3.wrap ((pq:Int)*10000)=(B0:Int):=wu_mul (y:=10000) hN b0;have x3:=wu_mul hf b1;have x4:=wu_mul hi b2;have x5:=wu_mul hl brt;have x6:Q3.wrap ((rt:Int)+5000)=(rs:Int):=wu_add (y:=5000) hG brs;have LOOP:∀ (wr:World),True:=fun _=>trivial;clear LOOP h1 h2 i1 i2 ha hb hm hn hx hy hp hq hr ht he hf hi hl hC hG hz hI lp lq lr lt l1 l2 l3 lz bz bp bq br bt b1 b2 b3 brt brs hA hg hE hN b0 bpq hL hu hk hF hR;rcases Hc with hc|hc;have hP:0<p:=by clear w1 w2 w3 w4 w5 w9 x1 x2 x3 x4 x5 x6;omega
 have hw:=hw hc;have hd:=hd hc
 rotate_left
 have hpn: ¬ (0:Int)<(p:Int):=by clear w1 w2 w3 w4 w5 w9 x1 x2 x3 x4 x5 x6;omega
 have hP: ¬ 0<p:=by clear w1 w2 w3 w4 w5 w9 x1 x2 x3 x4 x5 x6;omega
 obtain⟨e0,e1⟩:=hQ.out hc;subst e0 e1;clear hw hd v6 v7 hQ;all_goals
  go_enter func168,ntmps168;go_wp2_with(first|(go_at_call 95;refine(zAL _ _).mono ?_;rintro e w1 ⟨rfl,h⟩;obtain rfl:=h.symm;clear h)|(go_at_call_of 159 (Value.int .i64 a);refine(hK.out _).mono ?_;rintro e w1 ⟨rfl,h⟩;obtain rfl:=h.symm;clear h)|(go_at_call_of 159 (Value.int .i64 b);refine(hM.out _).mono ?_;rintro e w1 ⟨rfl,h⟩;obtain rfl:=h.symm;clear h))
  go_loopw [13,14] (fun s t wr=>∃ j S:Nat,j<=4/\t=.int .i64 (j:Int)/\s=.int .u64 (S:Int)/\S<=9223372036854775807/\RowKit.Hid (S=(Lw.take j).sum)/\RowKit.Hid (AtB wr w.heap.size (U Lw))/\w.heap.size<wr.heap.size/\Below w.heap.size w wr) (fun _ t _=>4-(intOf t).toNat)
  case atStart=>exact⟨0,0,by decide,rfl,rfl,by decide,zh rfl,zh (by rw[<- HL.out];exact hJ.out w),by simp,bel⟩
  case round =>
   obtain⟨j,S,hj,rfl,rfl,hS,hs,hV,Hd,hB⟩:=hrel;clear w1 w2 w3 w4 w5 w9 x1 x2 x3 x4 x5 x6;by_cases hF:j<4
   ·obtain⟨v,hv⟩:∃ v,Lw[j]? =some v:=⟨_,List.getElem?_eq_getElem (show j<Lw.length by rw[hh.out];exact hF)⟩
    have c0:=hV.out j (.int .u64 (v:Int)) (by unfold U;rw[List.getElem?_map,hv];rfl);have bv:=hW.out v (List.mem_of_getElem? hv);obtain⟨D,hD⟩:=lt_ (9223372036854775807-S);have hH:(Lw.take (j+1)).sum=S+v:=by rw[take1 hv,sum_snoc,<-hs.out]
    have hE:=sum_take_le Lw (j+1);obtain⟨T,hT⟩:=lt_ (S+v);rw[hT] at hH;have bD:D<18446744073709551616:=by omega
    have wj:Q5.wrap ((j:Int)+1)=((j+1:Nat):Int):=by rw[Q4];omega
    have hY:=zh hH;have HB:=zh hB;by_cases ho:D<v
    ·have Ha:(D:Int)<(v:Int):=by omega
     obtain rfl:R=(0,2):=by
      rw[<- HR.out];exact if_pos (by omega)
     have wD:Q3.wrap (9223372036854775807-(S:Int))=(D:Int):=by clear wj;rw[QE];omega
     clear hv hH hE hT bD hD ho hB bv;go_wp2;all_goals(go_returns;exact⟨rfl,HB.out⟩)
    ·have Ha: ¬ (D:Int)<(v:Int):=by omega
     have hU:T<=9223372036854775807:=by omega
     have wT:Q3.wrap ((S:Int)+(v:Int))=(T:Int):=wu_add hT (by omega);have wD:Q3.wrap (9223372036854775807-(S:Int))=(D:Int):=by clear wj wT;rw[QE];omega
     have hZ:=zh hU;clear hv hH hE hT bD hD ho hB bv hU;go_wp2;clear wT wD wj;exact⟨⟨j+1,T,by omega,rfl,rfl,hZ.out,zh hY.out.symm,hV,Hd,HB.out⟩,by simp[intOf]<;>omega⟩
   ·obtain rfl:j=4:=by omega
    have hT:Lw.sum=S:=by rw[hs.out,List.take_of_length_le (Nat.le_of_eq hh.out)]
    have HG:=zh (fun b=>zBJ S (by omega) b);have hR:=HR.out;rw[hT] at hR;have hg:=hX.out;have HB:=zh hB;clear hT hB;cases x<;>cases y;all_goals subst hg;all_goals obtain rfl:=hR;all_goals go_wp2_with(go_at_call 160;refine(HG.out _ _).mono ?_;rintro e w1 ⟨rfl,rfl⟩)
    all_goals(go_returns;exact⟨rfl,HB.out⟩)
theorem whole_in {x:Int} (hx:In63 x):zAF x=if x.tmod 10000=0 then (x.tdiv 10000,true) else (0,false):=by
 unfold In63 at hx;unfold zAF minI;by_cases h:x.tmod 10000=0
 ·rw[if_neg (by omega),if_pos h]
 ·rw[if_pos (.inr h),if_neg h]
theorem r8_fact (x:Int) (hx:In63 x) (w:World):Rt 99 #[.int .i64 x] w (vG (factX x)):=by
 have hh:Is64 x:=hx.to64;unfold factX;rw[whole_in hx];by_cases hn:x<0
 have hc:((if x.tmod 10000=0 then (x.tdiv 10000,true) else ((0:Int),false)).2=false∨(if x.tmod 10000=0 then (x.tdiv 10000,true) else ((0:Int),false)).1<0):=by
  by_cases h:x.tmod 10000=0
  ·rw[if_pos h];refine .inr ?_;show x.tdiv 10000<0;have:=QC x 10000;omega
  ·rw[if_neg h];exact .inl rfl
 rw[if_pos hc];clear hc hx hh
 rotate_left
 by_cases ht:x.tmod 10000=0
 ·rw[if_pos ht];obtain⟨m,rfl⟩:∃ m:Nat,x=(m:Int):=⟨x.toNat,by omega⟩
  obtain⟨k,hk⟩:=lt_ (m / 10000);have hr:(m:Int).tdiv 10000=(k:Int):=zAt hk;have hk2:(m:Int) / 10000=(k:Int):=by omega
  have hm:m<=9223372036854775807:=by unfold In63 at hx;omega
  have hkl:k<=922337203685477:=by omega
  have HZ:=zh (r8_size (m:Int) hh);rw[Int.natAbs_natCast] at HZ;rw[if_neg (by rw[hr];simp),hr,Int.toNat_natCast];have w0:Q3.wrap (k:Int)=(k:Int):=zAH (by omega);have hB:(m:Int) % 10000=0:=by rw[Q8 (by omega)] at ht;exact ht
  obtain⟨R,hR⟩:=lt_ (wholeX (fac k) false);rw[hR];have HR:=zh hR;have HM:=zh hm;clear hR hx hh hk hm;go_enter func99,ntmps99;go_wp2
  go_loop [4,3] (fun t u=>∃ i:Nat,1<=i/\(i<=k∨i=1)/\t=.int .u64 ((i+1:Nat):Int)/\u=.int .u64 ((fac i:Nat):Int)/\fac i<=922337203685477) (fun t _=>k+1-(intOf t).toNat)
  case atStart=>exact⟨1,by omega,by omega,rfl,rfl,by decide⟩
  case round =>
   obtain⟨i,hi,hg,rfl,rfl,hf⟩:=hrel;have hs:=fac_small hf;by_cases hlt:i+1<=k
   ·have hd:((i+1:Nat):Int)<=(k:Int):=by omega
    have hm:fac i*(i+1)=fac (i+1):=rfl;obtain⟨f,hb⟩:=lt_ (fac i);obtain⟨f2,ha⟩:=lt_ (fac (i+1));obtain⟨q,hq⟩:=lt_ (i+1);obtain⟨z,hz⟩:=lt_ (922337203685477 / q);rw[hb,ha] at hm;rw[hb] at hf ⊢;rw[hq] at hm hd ⊢;have hj:z<f ↔ 922337203685477<f2:=by rw[<- hz,<-hm];exact QB (by omega)
    have hp:f2<=922337203685477*18:=by rw[<- hm];exact Q7 hf (by omega)
    have hzl:z<=922337203685477:=by rw[<- hz];exact QA _ _
    have hA: ¬ (q:Int)=0:=by omega
    have hy:q<=18:=by omega
    have wz:(922337203685477:Int).tdiv (q:Int)=(z:Int):=zAt hz;have wz2:(922337203685477:Int) / (q:Int)=(z:Int):=by rw[<- hz];rfl
    have w1:Q3.wrap (z:Int)=(z:Int):=zAH (by omega);have w2:Q3.wrap ((q:Int)+1)=((q+1:Nat):Int):=zAH (x:=q+1) (by omega);have HF:=zh ha;have HQ:=zh hq;have HT:=zh hlt;have HI:=zh hi;by_cases ho:z<f
    ·have hw:(z:Int)<(f:Int):=by omega
     have he:R=errG 2:=by
      rw[<- HR.out];have h5:f2<=fac k:=by rw[<- ha];exact fac_mono hlt
      have h6:=hj.1 ho;unfold wholeX;rw[if_pos (by omega)]
     subst he;clear HR hm hb ha hq hp hf hs hi hg hlt ho hz hj;go_wp2_with(first|(go_at_call 93;refine(HZ.out _).mono ?_;rintro e w1 ⟨rfl,rfl⟩)|(go_at_call 22;refine mB (zA6 _ _) ?_;intro l m))
     all_goals(go_returns;exact rb_)
    ·have hw: ¬ (z:Int)<(f:Int):=by omega
     have hu:f2<=922337203685477:=by have:=mt hj.2 ho;omega
     have w3:Q3.wrap ((f:Int)*(q:Int))=(f2:Int):=wu_mul hm (by omega);have hv:=zh hu;clear hm hb ha hq hp hf hs hi hg hlt ho hz hj hu;go_wp2_with(go_at_call 93;refine(HZ.out _).mono ?_;rintro e w1 ⟨rfl,rfl⟩)
     go_round;case rel=>exact⟨i+1,by omega,.inl HT.out,by first|(rw[HQ.out];done)|(rw[HQ.out];rfl)|(rw[HQ.out];go_num),by rw[HF.out],by rw[HF.out];exact hv.out⟩
     case measure=>have hq':=HQ.out;have ht':=HT.out;simp[intOf];omega
   ·have hd: ¬ ((i+1:Nat):Int)<=(k:Int):=by omega
    have he:R=wholeX (fac i) false:=by
     rw[<- HR.out];rcases hg with h|h
     ·have:i=k:=by omega
      rw[this]
     ·have:k=0∨k=1:=by omega
      rcases this with e|e<;>rw[e,h]<;>rfl
    have hl:=zh he;have HW:=zh (r8_whole (fac i) (by omega) false);obtain⟨f,hb⟩:=lt_ (fac i);rw[hb] at HW hl ⊢;clear HR he hb hf hs hi hg hlt;go_wp2_with(first|(go_at_call 93;refine(HZ.out _).mono ?_;rintro e w1 ⟨rfl,rfl⟩)|(go_at_call 94;refine mB (HW.out _) ?_;intro l m))
    all_goals(go_returns;exact⟨by rw[hl.out],bel⟩)
 rw[if_neg ht,if_pos (.inl rfl)];have hB: ¬ x % 10000=0:=by rw[<- Q8 (by omega)];exact ht
 have hx0:(0:Int)<=x:=by omega
 have hxm:x<=9223372036854775807:=hx.2;clear hx hh;all_goals
  go_enter func99,ntmps99;go_wp2_with(go_at_call 22;refine mB (zA6 _ _) ?_;intro l m)
  all_goals(go_returns;exact rb_)
theorem r8_ABS (x:Int) (hx:In63 x) (w:World):Rt 40 #[.string ⟨#[65,66,83]⟩,.int .i64 x] w (vG (numG (x.natAbs:Nat))):=by
 have HN:=zh (zAw (x.natAbs:Int) (by unfold In63 at hx;unfold Is64;omega));by_cases hn:x<0
 have e:((x.natAbs:Nat):Int)= -x:=by omega
 have w1:Q5.wrap (-x)= -x:=by unfold In63 at hx;rw[Q4];omega
 have w2:wrap64 (-x)= -x:=by unfold In63 at hx;unfold wrap64;omega
 rotate_left
 have e:((x.natAbs:Nat):Int)=x:=by omega
 all_goals
  rw[e] at HN ⊢;clear hx e;go_enter func40,ntmps40;go_wp2_with(go_at_call 39;refine mB (HN.out _) ?_;intro l m)
  all_goals(go_returns;exact rb_)
theorem r8_SIGN (x:Int) (w:World):Rt 40 #[.string ⟨#[83,73,71,78]⟩,.int .i64 x] w (vG (signV x)):=by
 unfold signV;by_cases h1:0<x
 rw[if_pos h1];have HN:=zh (zAw 10000 (by unfold Is64;decide))
 rotate_left
 rw[if_neg h1];by_cases h2:x<0
 rw[if_pos h2];have HN:=zh (zAw (-10000) (by unfold Is64;decide))
 rotate_left
 rw[if_neg h2];have HN:=zh (zAw 0 (by unfold Is64;decide));all_goals
  go_enter func40,ntmps40;go_wp2_with(go_at_call 39;refine mB (HN.out _) ?_;intro l m)
  all_goals(go_returns;exact rb_)
theorem r8_INT (x:Int) (hx:In63 x) (w:World):Rt 40 #[.string ⟨#[73,78,84]⟩,.int .i64 x] w (vG (numC (floorX x))):=by
 have hb:Is64 x:=hx.to64;have HF:=zh (r1_Floor x hb);have ha:=zh (r8_told (floorX x).1 (floorX x).2 (show Is64 (floorX x).1 by unfold floorX;split<;>first|exact⟨by simp,by simp⟩|exact subX_64 _ _));obtain⟨R,hR⟩:=lt_ (floorX x);rw[hR] at HF ha ⊢;clear hx hb hR;go_enter func40,ntmps40;go_wp2_with(first|(go_at_call 97;refine(HF.out _).mono ?_;rintro e w1 ⟨rfl,rfl⟩)|(go_at_call 96;refine mB (ha.out _) ?_;intro l m))
 all_goals(go_returns;exact rb_)
theorem sqrt_64 (x:Int) (hx:In63 x):Is64 (sqrtX x).1:=by
 unfold sqrtX;split
 ·exact⟨by simp,by simp⟩
 ·split
  ·exact⟨by simp,by simp⟩
  ·have h:=sq_lt (x.toNat*40000) 41 (Nat.le_refl _);unfold Is64;dsimp only[vG];omega
theorem r8_SQRT (x:Int) (hx:In63 x) (w:World):Rt 40 #[.string ⟨#[83,81,82,84]⟩,.int .i64 x] w (vG (numC (sqrtX x))):=by
 have hb:Is64 x:=hx.to64;have HF:=zh (r1_Sqrt x hb);have ha:=zh (r8_told (sqrtX x).1 (sqrtX x).2 (sqrt_64 x hx));obtain⟨R,hR⟩:=lt_ (sqrtX x);rw[hR] at HF ha ⊢;clear hx hb hR;go_enter func40,ntmps40;go_wp2_with(first|(go_at_call 98;refine mB (HF.out _) ?_;intro l m)|(go_at_call 96;refine mB (ha.out _) ?_;intro l m))
 all_goals(go_returns;exact rb_)
theorem r8_FACT (x:Int) (hx:In63 x) (w:World):Rt 40 #[.string ⟨#[70,65,67,84]⟩,.int .i64 x] w (vG (factX x)):=by
 have HF:=zh (r8_fact x hx);obtain⟨R,hR⟩:=lt_ (factX x);rw[hR] at HF ⊢;clear hx hR;go_enter func40,ntmps40;go_wp2_with(go_at_call 99;refine mB (HF.out _) ?_;intro l m)
 all_goals(go_returns;exact rb_)
theorem r8_ODD (x:Int) (hx:In63 x) (w:World):Rt 40 #[.string ⟨#[79,68,68]⟩,.int .i64 x] w (vG (oddX x)):=by
 unfold oddX;rw[whole_in hx];have ht:Is64 (x.tmod 10000):=mod_word hx.to64 (by unfold Is64;decide) (by decide);have hd:=QC x 10000;obtain⟨t,et⟩:=lt_ (x.tmod 10000);obtain⟨q,eq⟩:=lt_ (x.tdiv 10000);rw[et,eq] at hd;rw[et] at ht;rw[et,eq];have ha:t.natAbs<10000:=by rw[<- et,Int.natAbs_tmod];exact Nat.mod_lt _ (by decide)
 have hq: -922337203685478<=q/\q<=922337203685478:=by unfold In63 at hx;omega
 have hw:wrap64 t=t:=by unfold wrap64;omega
 have hw1:Q5.wrap t=t:=by rw[Q4];omega
 clear hd hx ha ht;by_cases h0:t=0
 ·rw[if_pos h0];show Calls _ _ _ _ fun e w'=>e=.returned (vG (if true=true then zAa (q % 2==1) else errG 8))/\_;rw[if_pos rfl];have hw2:wrap64 q=q:=by unfold wrap64;omega
  have hw3:Q5.wrap q=q:=by rw[Q4];omega
  have hm:(q.tmod 2 != 0)=(q % 2==1):=by
   rcases Int.emod_two_eq q with h|h
   ·have:q.tmod 2=0:=Int.tmod_eq_zero_of_dvd (Int.dvd_of_emod_eq_zero h);rw[this,h];rfl
   ·have: ¬ q.tmod 2=0:=fun e=>by have:=Int.dvd_of_tmod_eq_zero e;omega
    rw[h];simpa using this
  obtain⟨b,hb⟩:=lt_ (q % 2==1);rw[hb] at hm ⊢;obtain⟨r,hr⟩:=lt_ (q.tmod 2);have hrl:wrap64 r=r:=by
   have:r.natAbs<2:=by rw[<- hr,Int.natAbs_tmod];exact Nat.mod_lt _ (by decide)
   unfold wrap64;omega
  rw[hr] at hm;clear hb hq;go_enter func40,ntmps40;go_wp2_with(go_at_call 50;refine mB (r2_Truth _ _) ?_;intro l m)
  all_goals(go_returns;exact⟨by first|rfl|(rw[<- hm];rfl),bel⟩)
 ·rw[if_neg h0];show Calls _ _ _ _ fun e w'=>e=.returned (vG (if false=true then zAa (0 % 2==1) else errG 8))/\_;rw[if_neg (by decide)];go_enter func40,ntmps40;go_wp2_with(go_at_call 22;refine mB (zA6 _ _) ?_;intro l m)
  all_goals(go_returns;exact rb_)
theorem whole_parts {y:Int} (hy:In63 y):∃ q t:Int,y.tdiv 10000=q/\y.tmod 10000=t/\wrap64 t=t/\wrap64 q=q/\Is64 q/\zAF y=if t=0 then (q,true) else (0,false):=by
 refine⟨_,_,rfl,rfl,?_,?_,?_,whole_in hy⟩
 ·have h:=mod_word hy.to64 (show Is64 10000 by unfold Is64;decide) (by decide);unfold Is64 at h;unfold wrap64;omega
 ·have h:(y.tdiv 10000).natAbs=y.natAbs / 10000:=Int.natAbs_tdiv y 10000;unfold In63 at hy;unfold wrap64;omega
 ·have h:(y.tdiv 10000).natAbs=y.natAbs / 10000:=Int.natAbs_tdiv y 10000;unfold In63 at hy;unfold Is64;omega
theorem round_64 (x p:Int) (hx:Is64 x):Is64 (zBW x p).1:=by
 unfold zBW;split
 ·exact⟨by simp,by simp⟩
 ·split
  ·exact hx
  ·split
   ·exact⟨by simp,by simp⟩
   ·unfold roundN signX Is64
    repeat' split
    all_goals simp only;all_goals omega
theorem power_64 (x p:Int):Is64 (powX x p).1:=by
 unfold powX powE signX Is64
 repeat' split
 all_goals simp only;all_goals omega
theorem r8_ROUND (x y:Int) (hx:In63 x) (hy:In63 y) (w:World):Rt 41 #[.string ⟨#[82,79,85,78,68]⟩,.int .i64 x,.int .i64 y] w (vG (zB5 zBW x y)):=by
 obtain⟨q,t,hq,ht,wt,wq,ha,hw⟩:=whole_parts hy;unfold zB5;rw[hw];by_cases h0:t=0
 ·rw[if_pos h0];have HF:=zh (r1_Round x q hx.to64 ha);have hb:=zh (r8_told (zBW x q).1 (zBW x q).2 (round_64 x q hx.to64));show Calls _ _ _ _ fun e w'=>e=.returned (vG (numC (zBW x q)))/\_;obtain⟨R,hR⟩:=lt_ (zBW x q);rw[hR] at HF hb ⊢;clear hx hy hw hR ha;go_enter func41,ntmps41;go_wp2_with(first|(go_at_call 101;refine(HF.out _).mono ?_;rintro e w1 ⟨rfl,h⟩;obtain rfl:=h.symm;clear h)|(go_at_call 96;refine mB (hb.out _) ?_;intro l2 m2))
  all_goals(go_returns;exact rb_)
 ·rw[if_neg h0];show Calls _ _ _ _ fun e w'=>e=.returned (vG (errG 8))/\_;clear hx hy hw ha;go_enter func41,ntmps41;go_wp2_with(go_at_call 22;refine mB (zA6 _ _) ?_;intro l m)
  all_goals(go_returns;exact rb_)
theorem r8_POWER (x y:Int) (hx:In63 x) (hy:In63 y) (w:World):Rt 41 #[.string ⟨#[80,79,87,69,82]⟩,.int .i64 x,.int .i64 y] w (vG (zB5 powX x y)):=by
 obtain⟨q,t,hq,ht,wt,wq,hb,hw⟩:=whole_parts hy;unfold zB5;rw[hw];by_cases h0:t=0
 ·rw[if_pos h0];have HF:=zh (r1_Power x q hx.to64);have ha:=zh (r8_told (powX x q).1 (powX x q).2 (power_64 x q));show Calls _ _ _ _ fun e w'=>e=.returned (vG (numC (powX x q)))/\_;obtain⟨R,hR⟩:=lt_ (powX x q);rw[hR] at HF ha ⊢;clear hx hy hw hR hb;go_enter func41,ntmps41;go_wp2_with(first|(go_at_call 102;refine mB (HF.out _) ?_;intro l1 m1)|(go_at_call 96;refine mB (ha.out _) ?_;intro l2 m2))
  all_goals(go_returns;exact rb_)
 ·rw[if_neg h0];show Calls _ _ _ _ fun e w'=>e=.returned (vG (errG 8))/\_;clear hx hy hw hb;go_enter func41,ntmps41;go_wp2_with(go_at_call 22;refine mB (zA6 _ _) ?_;intro l m)
  all_goals(go_returns;exact rb_)
theorem r8_TRUNC (x y:Int) (hx:In63 x) (hy:In63 y) (w:World):Rt 41 #[.string ⟨#[84,82,85,78,67]⟩,.int .i64 x,.int .i64 y] w (vG (zB5 truncP x y)):=by
 obtain⟨q,t,hq,ht,wt,wq,ha,hw⟩:=whole_parts hy;unfold zB5;rw[hw];by_cases h0:t=0
 ·rw[if_pos h0];have HF:=zh (r8_trunc x q hx);have e:numC (truncP x q)=numG (truncX x q):=if_neg (fun h=>h rfl);show Calls _ _ _ _ fun e w'=>e=.returned (vG (numC (truncP x q)))/\_;rw[e];obtain⟨R,hR⟩:=lt_ (numG (truncX x q));rw[hR] at HF ⊢;clear hx hy hw hR ha e;go_enter func41,ntmps41;go_wp2_with(go_at_call 100;refine mB (HF.out _) ?_;intro l1 m1)
  all_goals(go_returns;exact rb_)
 ·rw[if_neg h0];show Calls _ _ _ _ fun e w'=>e=.returned (vG (errG 8))/\_;clear hx hy hw ha;go_enter func41,ntmps41;go_wp2_with(go_at_call 22;refine mB (zA6 _ _) ?_;intro l m)
  all_goals(go_returns;exact rb_)
theorem floor2_64 (x s:Int):Is64 (zAn x s).1:=(floor2_63 x s).to64
theorem r8_FLOOR (x y:Int) (hx:In63 x) (hy:In63 y) (w:World):Rt 41 #[.string ⟨#[70,76,79,79,82]⟩,.int .i64 x,.int .i64 y] w (vG (numC (zAn x y))):=by
 have HF:=zh (r8_floor x y hx.to64 hy.to64 (by unfold In63 at hx;unfold minI;omega) (by unfold In63 at hy;unfold minI;omega));have ha:=zh (r8_told (zAn x y).1 (zAn x y).2 (floor2_64 x y));obtain⟨R,hR⟩:=lt_ (zAn x y);rw[hR] at HF ha ⊢;clear hx hy hR;go_enter func41,ntmps41;go_wp2_with(first|(go_at_call 103;refine(HF.out _).mono ?_;rintro e w1 ⟨rfl,h⟩;obtain rfl:=h.symm;clear h)|(go_at_call 96;refine mB (ha.out _) ?_;intro l2 m2))
 all_goals(go_returns;exact rb_)
theorem r8_CEIL (x y:Int) (hx:In63 x) (hy:In63 y) (w:World):Rt 41 #[.string ⟨#[67,69,73,76]⟩,.int .i64 x,.int .i64 y] w (vG (numC (ceilX x y))):=by
 have HF:=zh (r8_floor (-x) y (by unfold In63 at hx;unfold Is64;omega) hy.to64 (by unfold In63 at hx;unfold minI;omega) (by unfold In63 at hy;unfold minI;omega));have hf:=floor2_63 (-x) y;unfold ceilX;obtain⟨⟨r,k⟩,hR⟩:∃ R,zAn (-x) y=R:=⟨_,rfl⟩
 rw[hR] at HF hf ⊢;have ha:=zh (r8_told (-r) k (by unfold In63 at hf;unfold Is64;dsimp only[vG] at hf;omega));have w1:Q5.wrap (-x)= -x:=by unfold In63 at hx;rw[Q4];omega
 have w2:wrap64 (-x)= -x:=by unfold In63 at hx;unfold wrap64;omega
 have w3:Q5.wrap (-r)= -r:=by unfold In63 at hf;dsimp only[vG] at hf;rw[Q4];omega
 have w4:wrap64 (-r)= -r:=by unfold In63 at hf;dsimp only[vG] at hf;unfold wrap64;omega
 clear hx hy hR hf;go_enter func41,ntmps41;go_wp2_with(first|(go_at_call 103;refine(HF.out _).mono ?_;rintro e w1 ⟨rfl,h⟩;obtain rfl:=h.symm;clear h)|(go_at_call 96;refine mB (ha.out _) ?_;intro l2 m2))
 all_goals(go_returns;exact rb_)
theorem r8_MOD (x y:Int) (hx:In63 x) (hy:In63 y) (w:World):Rt 41 #[.string ⟨#[77,79,68]⟩,.int .i64 x,.int .i64 y] w (vG (numC (modX x y))):=by
 have HF:=zh (r1_Mod x y hx.to64 hy.to64);have ha:=zh (r8_told (modX x y).1 (modX x y).2 (modX_64 x y hx.to64 hy.to64));obtain⟨R,hR⟩:=lt_ (modX x y);rw[hR] at HF ha ⊢;clear hx hy hR;go_enter func41,ntmps41;go_wp2_with(first|(go_at_call 104;refine(HF.out _).mono ?_;rintro e w1 ⟨rfl,h⟩;obtain rfl:=h.symm;clear h)|(go_at_call 96;refine mB (ha.out _) ?_;intro l2 m2))
 all_goals(go_returns;exact rb_)
theorem r8_QUOT (x y:Int) (hx:In63 x) (hy:In63 y) (w:World):Rt 41 #[.string ⟨#[81,85,79,84]⟩,.int .i64 x,.int .i64 y] w (vG (quotX x y)):=by
 unfold quotX;by_cases h0:y=0
 ·rw[if_pos h0];subst h0;clear hx hy;go_enter func41,ntmps41;go_wp2_with(go_at_call 22;refine mB (zA6 _ _) ?_;intro l m)
  all_goals(go_returns;exact rb_)
 ·rw[if_neg h0];have HX:=zh (r8_size x hx.to64);have HY:=zh (r8_size y hy.to64);obtain⟨m,hm⟩:=lt_ x.natAbs;obtain⟨n,hn⟩:=lt_ y.natAbs;have hc:m<18446744073709551616:=by unfold In63 at hx;omega
  have hd: ¬ (n:Int)=0:=by omega
  rw[hm] at HX ⊢;rw[hn] at HY ⊢;obtain⟨q,hq⟩:=lt_ (m / n);have hb:q<18446744073709551616:=by rw[<- hq];exact Nat.lt_of_le_of_lt (QA _ _) hc
  rw[hq];obtain⟨lw,ha⟩:=lt_ (decide (decide (x<0)≠decide (y<0)));rw[ha];have HW:=zh (r8_whole q hb lw);have d1:(m:Int).tdiv (n:Int)=(q:Int):=zAt hq;have d2:(m:Int) / (n:Int)=(q:Int):=by rw[<- hq];rfl
  have wq:=zAH hb;clear hm hn hc hq hb hx hy;by_cases hx0:x<0<;>by_cases hy0:y<0
  ·obtain rfl:lw=false:=by rw[<- ha,decide_eq_true hx0,decide_eq_true hy0];decide
   have q1:decide (x<0)=true:=decide_eq_true hx0;have q2:decide (y<0)=true:=decide_eq_true hy0;clear ha;go_enter func41,ntmps41;go_wp2_with(first|(go_at_call_of 93 (Value.int .i64 x);refine(HX.out _).mono ?_;rintro e w1 ⟨rfl,h⟩;obtain rfl:=h.symm;clear h)|(go_at_call_of 93 (Value.int .i64 y);refine(HY.out _).mono ?_;rintro e w1 ⟨rfl,h⟩;obtain rfl:=h.symm;clear h)|(go_at_call 94;refine mB (HW.out _) ?_;intro l1 m1))
   all_goals(go_returns;exact rb_)
  ·obtain rfl:lw=true:=by rw[<- ha,decide_eq_true hx0,decide_eq_false hy0];decide
   have q1:decide (x<0)=true:=decide_eq_true hx0;have q2:decide (y<0)=false:=decide_eq_false hy0;clear ha;go_enter func41,ntmps41;go_wp2_with(first|(go_at_call_of 93 (Value.int .i64 x);refine(HX.out _).mono ?_;rintro e w1 ⟨rfl,h⟩;obtain rfl:=h.symm;clear h)|(go_at_call_of 93 (Value.int .i64 y);refine(HY.out _).mono ?_;rintro e w1 ⟨rfl,h⟩;obtain rfl:=h.symm;clear h)|(go_at_call 94;refine mB (HW.out _) ?_;intro l1 m1))
   all_goals(go_returns;exact rb_)
  ·obtain rfl:lw=true:=by rw[<- ha,decide_eq_false hx0,decide_eq_true hy0];decide
   have q1:decide (x<0)=false:=decide_eq_false hx0;have q2:decide (y<0)=true:=decide_eq_true hy0;clear ha;go_enter func41,ntmps41;go_wp2_with(first|(go_at_call_of 93 (Value.int .i64 x);refine(HX.out _).mono ?_;rintro e w1 ⟨rfl,h⟩;obtain rfl:=h.symm;clear h)|(go_at_call_of 93 (Value.int .i64 y);refine(HY.out _).mono ?_;rintro e w1 ⟨rfl,h⟩;obtain rfl:=h.symm;clear h)|(go_at_call 94;refine mB (HW.out _) ?_;intro l1 m1))
   all_goals(go_returns;exact rb_)
  ·obtain rfl:lw=false:=by rw[<- ha,decide_eq_false hx0,decide_eq_false hy0];decide
   have q1:decide (x<0)=false:=decide_eq_false hx0;have q2:decide (y<0)=false:=decide_eq_false hy0;clear ha;go_enter func41,ntmps41;go_wp2_with(first|(go_at_call_of 93 (Value.int .i64 x);refine(HX.out _).mono ?_;rintro e w1 ⟨rfl,h⟩;obtain rfl:=h.symm;clear h)|(go_at_call_of 93 (Value.int .i64 y);refine(HY.out _).mono ?_;rintro e w1 ⟨rfl,h⟩;obtain rfl:=h.symm;clear h)|(go_at_call 94;refine mB (HW.out _) ?_;intro l1 m1))
   all_goals(go_returns;exact rb_)
end Go.Proofs.YtnccknhbplaieaaGreatDoor
