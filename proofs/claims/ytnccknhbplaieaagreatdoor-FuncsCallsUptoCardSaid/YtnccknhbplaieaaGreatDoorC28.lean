/- Parts. -/
import Derived.Test.YtnccknhbplaieaaGreatDoorC26
import Derived.Test.YtnccknhbplaieaaGreatDoorC19
import Derived.Lib.IndexLaws
set_option linter.all false
set_option maxRecDepth 100000
set_option maxHeartbeats 4000000
namespace Go.Proofs.YtnccknhbplaieaaGreatDoor
open Go Go.RowKit Go.Proofs.Tryz
open _root_.List renaming length_append->Q3,length_cons->Q5,length_drop->Q7,getElem?_eq_some_iff->QB,getElem?_eq_getElem->QC,length_pos_iff->QE,eq_nil_of_length_eq_zero->QG,append_assoc->QH,mem_cons_of_mem->QI,cons_append->QK,drop_eq_getElem_cons->QL,append_nil->QM,mem_cons_self->QN,all_cons->QP,take_succ_cons->QQ,drop_drop->QR,drop_of_length_le->QT,take_of_length_le->QU,length_take->QZ,filter_cons->Qa,length->Qb
open _root_.UInt8 renaming ofNat->Q4
open Go.IntKind renaming wrap_i64->Q8,u64->Q9,i64->QA,wrap_u64->QF
open _root_.Nat renaming le_refl->QD,zero_le->QV,lt_of_lt_of_le->QW,eq_zero_or_pos->QX
open _root_.Bool renaming and_eq_true->QJ
open Go.World renaming block_lt_of_cell?->QO
open _root_.Int renaming tdiv_eq_ediv_of_nonneg->QS,toNat_natCast->QY
def zBF (s:ByteArray) (text:Nat) (ss:List ByteArray) (ns:List Int):V :=
 if (⟨#[78,85,77]⟩:ByteArray)=s then numTX (ss.getD 0 ⟨#[]⟩) else
 if (⟨#[82,69,86]⟩:ByteArray)=s then toldX text (revX (ss.getD 0 ⟨#[]⟩)) else
 if (⟨#[69,88,65,67,84]⟩:ByteArray)=s then exactX (ss.getD 0 ⟨#[]⟩) (ss.getD 1 ⟨#[]⟩) else
 if (⟨#[67,72,65,82]⟩:ByteArray)=s then charX text (ns.getD 0 0) else
 if (⟨#[79,82,68]⟩:ByteArray)=s then ordX (ss.getD 0 ⟨#[]⟩) else
 if (⟨#[67,79,78,67,65,84]⟩:ByteArray)=s then zBO text ss [] else
 if (⟨#[83,85,66,83,84]⟩:ByteArray)=s then substX text (ss.getD 0 ⟨#[]⟩) (ss.getD 1 ⟨#[]⟩) (ss.getD 2 ⟨#[]⟩) else
 if (⟨#[70,73,78,68]⟩:ByteArray)=s then placeX (ss.getD 0 ⟨#[]⟩) (ss.getD 1 ⟨#[]⟩) (ns.getD 0 1) else
 if (⟨#[82,69,80,84]⟩:ByteArray)=s then reptX text (ss.getD 0 ⟨#[]⟩) (ns.getD 0 0) else
 if (⟨#[84,82,73,77]⟩:ByteArray)=s then toldX text (trimX (ss.getD 0 ⟨#[]⟩)) else
 if (⟨#[76,79,87,69,82]⟩:ByteArray)=s then toldX text (eachX 65 97 (ss.getD 0 ⟨#[]⟩)) else
 if (⟨#[85,80,80,69,82]⟩:ByteArray)=s then toldX text (eachX 97 65 (ss.getD 0 ⟨#[]⟩)) else
 if (⟨#[77,73,68]⟩:ByteArray)=s then midX text (ss.getD 0 ⟨#[]⟩) (ns.getD 0 0) (ns.getD 1 0) else
 if (⟨#[82,73,71,72,84]⟩:ByteArray)=s then rightX text (ss.getD 0 ⟨#[]⟩) (ns.getD 0 1) else
 if (⟨#[76,69,70,84]⟩:ByteArray)=s then leftX text (ss.getD 0 ⟨#[]⟩) (ns.getD 0 1) else
 if (⟨#[76,69,78]⟩:ByteArray)=s then wholeT (ss.getD 0 ⟨#[]⟩).size else
 errG 8
def cntK (c:ByteArray) (n:Nat) (isS:Bool):Nat:=((c.data.toList.take n).filter fun b=>(b==115)==isS).length
def StrRow (W:World) (v:Value) (ss:List ByteArray):Prop:=∃ A c,v=.slice A ss.length c/\(0<ss.length->∃ g,A=some ⟨g,0,none⟩/\g<W.heap.size/\∀ j s,ss[j]? =some s->W.cell? ⟨g,j,none⟩=some (.string s))
def IntRow (W:World) (v:Value) (ns:List Int):Prop:=∃ A c,v=.slice A ns.length c/\(0<ns.length->∃ g,A=some ⟨g,0,none⟩/\g<W.heap.size/\∀ j n,ns[j]? =some n->W.cell? ⟨g,j,none⟩=some (.int .i64 n))
theorem StrRow.below {W W':World} {v:Value} {ss:List ByteArray} (h:StrRow W v ss) (hb:Below W.heap.size W W'):StrRow W' v ss:=by
 obtain⟨A,c,rfl,hc⟩:=h;refine⟨A,c,rfl,fun h0=> ?_⟩;obtain⟨g,rfl,hg,hx⟩:=hc h0;exact⟨g,rfl,QW hg hb.size,fun j s hj=>(hb.cell (p:=⟨g,j,none⟩) hg).trans (hx j s hj)⟩
theorem IntRow.below {W W':World} {v:Value} {ns:List Int} (h:IntRow W v ns) (hb:Below W.heap.size W W'):IntRow W' v ns:=by
 obtain⟨A,c,rfl,hc⟩:=h;refine⟨A,c,rfl,fun h0=> ?_⟩;obtain⟨g,rfl,hg,hx⟩:=hc h0;exact⟨g,rfl,QW hg hb.size,fun j s hj=>(hb.cell (p:=⟨g,j,none⟩) hg).trans (hx j s hj)⟩
def DoesT (w:World) (fn:Fn) (first cap:Array Value) (text:Nat) (ss:List ByteArray) (ns:List Int) (r:V):Prop :=
 (∃ k,fn=.func k/\first= #[]/\cap= #[]/\(∀ (args:Array Value) (w:World),Sem.run prog (callFunc k args) w=.ok (.enter k args) w) /\
  ∀ W sv nv,Below w.heap.size w W->MaxL W->StrRow W sv ss->IntRow W nv ns->Calls prog k #[.agg #[sv,nv,.int .i64 text]] W fun e w'=>e=.returned (vG r)/\Below W.heap.size W w') ∨
 (∃ k p,fn=.func k/\first= #[]/\cap= #[.pointer (some ⟨p,0,none⟩)]/\(∀ (args:Array Value) (w:World),Sem.run prog (callFunc k args) w=.ok (.enter k args) w) /\
  ∀ W sv nv,Below w.heap.size w W->MaxL W->StrRow W sv ss->IntRow W nv ns->Calls prog k #[.agg #[sv,nv,.int .i64 text],.pointer (some ⟨p,0,none⟩)] W fun e w'=>e=.returned (vG r)/\Below W.heap.size W w')
theorem cntK_all (c:ByteArray) (n:Nat):cntK c n true<=n:=by
 unfold cntK;exact Nat.le_trans (List.length_filter_le _ _) (by rw[QZ];omega)
theorem text_do {w:World} {s c:ByteArray} {x:Int} {fn:Fn} {first cap:Array Value} {p q:Nat} (ht:zAT s=some (c,x)) (hf:textFn p q s=some (.func fn first cap)) (hk:TextCells p q w)
  (text:Nat) (htx:text<=1024) (ss:List ByteArray) (ns:List Int) (n:Nat) (hb:between x c.size n=true) (hss:ss.length=cntK c n true) (hns:ns.length=cntK c n false) (hsz:∀ t∈ss,t.size<=1048576) (h64:∀ a∈ns,Is64 a):DoesT w fn first cap text ss ns (zBF s text ss ns):=by
 obtain⟨hj,hl,hm,hn⟩:=hk;unfold zAT at ht;unfold textFn at hf;unfold zBF;simp only[between,QJ,decide_eq_true_eq] at hb;by_cases eNUM:(⟨#[78,85,77]⟩:ByteArray)=s
 ·rw[if_pos eNUM] at ht hf ⊢;cases ht;cases hf;have hd:((⟨#[115]⟩:ByteArray).size:Int)=1:=rfl;obtain rfl:n=1:=by omega
  have hc:ss.length=1:=hss.trans (by decide);have ha:ns.length=0:=hns.trans (by decide)
  match ss,ns,hc,ha,hsz,h64 with
  | [t0],[],_,_,hsz,h64 =>
    have z0:=hsz t0 (by simp);clear hsz h64;refine .inl ⟨_,rfl,rfl,rfl,fun _ _=>rfl,fun W sv nv hBW hMW hS hN=> ?_⟩;obtain⟨A,cA,rfl,hA⟩:=hS;obtain⟨g,rfl,hg,hx⟩:=hA (by simp);have q0:=hx 0 _ rfl;exact texts_num g cA 1 (by decide) t0 z0 nv text W hMW q0
 rw[if_neg eNUM] at ht hf ⊢;by_cases eREV:(⟨#[82,69,86]⟩:ByteArray)=s
 ·rw[if_pos eREV] at ht hf ⊢;cases ht;cases hf;have hd:((⟨#[115]⟩:ByteArray).size:Int)=1:=rfl;obtain rfl:n=1:=by omega
  have hc:ss.length=1:=hss.trans (by decide);have ha:ns.length=0:=hns.trans (by decide)
  match ss,ns,hc,ha,hsz,h64 with
  | [t0],[],_,_,hsz,h64 =>
    have z0:=hsz t0 (by simp);clear hsz h64;refine .inr ⟨_,_,rfl,rfl,rfl,fun _ _=>rfl,fun W sv nv hBW hMW hS hN=> ?_⟩;obtain⟨A,cA,rfl,hA⟩:=hS;obtain⟨g,rfl,hg,hx⟩:=hA (by simp);have q0:=hx 0 _ rfl;exact texts_text _ (fun _ _=>rfl) _ g cA 1 (by decide) nv text t0 _ W (cell_below hn hBW) q0 (fun W2 hW2=>texts_rev t0 (by omega) W2)
 rw[if_neg eREV] at ht hf ⊢;by_cases eEXACT:(⟨#[69,88,65,67,84]⟩:ByteArray)=s
 ·rw[if_pos eEXACT] at ht hf ⊢;cases ht;cases hf;have hd:((⟨#[115,115]⟩:ByteArray).size:Int)=2:=rfl;obtain rfl:n=2:=by omega
  have hc:ss.length=2:=hss.trans (by decide);have ha:ns.length=0:=hns.trans (by decide)
  match ss,ns,hc,ha,hsz,h64 with
  | [t0,t1],[],_,_,hsz,h64 =>
    have z0:=hsz t0 (by simp);have z1:=hsz t1 (by simp);clear hsz h64;refine .inl ⟨_,rfl,rfl,rfl,fun _ _=>rfl,fun W sv nv hBW hMW hS hN=> ?_⟩;obtain⟨A,cA,rfl,hA⟩:=hS;obtain⟨g,rfl,hg,hx⟩:=hA (by simp);have q0:=hx 0 _ rfl;have q1:=hx 1 _ rfl;exact texts_exact g cA nv text t0 t1 W q0 q1
 rw[if_neg eEXACT] at ht hf ⊢;by_cases eCHAR:(⟨#[67,72,65,82]⟩:ByteArray)=s
 ·rw[if_pos eCHAR] at ht hf ⊢;cases ht;cases hf;have hd:((⟨#[110]⟩:ByteArray).size:Int)=1:=rfl;obtain rfl:n=1:=by omega
  have hc:ss.length=0:=hss.trans (by decide);have ha:ns.length=1:=hns.trans (by decide)
  match ss,ns,hc,ha,hsz,h64 with
  | [],[a0],_,_,hsz,h64 =>
    have i0:=h64 a0 (by simp);clear hsz h64;refine .inl ⟨_,rfl,rfl,rfl,fun _ _=>rfl,fun W sv nv hBW hMW hS hN=> ?_⟩;obtain⟨B,cB,rfl,he⟩:=hN;obtain⟨gn,rfl,hh,hy⟩:=he (by simp);have r0:=hy 0 _ rfl;exact texts_char gn cB 1 (by decide) a0 i0 sv text W r0
 rw[if_neg eCHAR] at ht hf ⊢;by_cases eORD:(⟨#[79,82,68]⟩:ByteArray)=s
 ·rw[if_pos eORD] at ht hf ⊢;cases ht;cases hf;have hd:((⟨#[115]⟩:ByteArray).size:Int)=1:=rfl;obtain rfl:n=1:=by omega
  have hc:ss.length=1:=hss.trans (by decide);have ha:ns.length=0:=hns.trans (by decide)
  match ss,ns,hc,ha,hsz,h64 with
  | [t0],[],_,_,hsz,h64 =>
    have z0:=hsz t0 (by simp);clear hsz h64;refine .inl ⟨_,rfl,rfl,rfl,fun _ _=>rfl,fun W sv nv hBW hMW hS hN=> ?_⟩;obtain⟨A,cA,rfl,hA⟩:=hS;obtain⟨g,rfl,hg,hx⟩:=hA (by simp);have q0:=hx 0 _ rfl;exact texts_ord g cA 1 (by decide) nv text t0 W q0
 rw[if_neg eORD] at ht hf ⊢;by_cases eCONCAT:(⟨#[67,79,78,67,65,84]⟩:ByteArray)=s
 ·rw[if_pos eCONCAT] at ht hf ⊢;cases ht;cases hf;have hn1:1<=n:=by omega
  obtain⟨m,rfl⟩:∃ m,n=m+1:=⟨n-1,by omega⟩
  have hi:0<ss.length:=by
   rw[hss];unfold cntK;simp[QQ]
  have hle:ss.length<=16:=by
   have:=cntK_all ⟨#[115,115,115,115,115,115,115,115,115,115,115,115,115,115,115,115]⟩ (m+1);have h16:((⟨#[115,115,115,115,115,115,115,115,115,115,115,115,115,115,115,115]⟩:ByteArray).size:Int)=16:=rfl;omega
  refine .inl ⟨_,rfl,rfl,rfl,fun _ _=>rfl,fun W sv nv hBW hMW hS hN=> ?_⟩;obtain⟨A,cA,rfl,hA⟩:=hS;obtain⟨g,rfl,hg,hx⟩:=hA hi;exact texts_concat g cA ss (by omega) nv text (by omega) W hg hx
 rw[if_neg eCONCAT] at ht hf ⊢;by_cases eSUBST:(⟨#[83,85,66,83,84]⟩:ByteArray)=s
 ·rw[if_pos eSUBST] at ht hf ⊢;cases ht;cases hf;have hd:((⟨#[115,115,115]⟩:ByteArray).size:Int)=3:=rfl;obtain rfl:n=3:=by omega
  have hc:ss.length=3:=hss.trans (by decide);have ha:ns.length=0:=hns.trans (by decide)
  match ss,ns,hc,ha,hsz,h64 with
  | [t0,t1,t2],[],_,_,hsz,h64 =>
    have z0:=hsz t0 (by simp);have z1:=hsz t1 (by simp);have z2:=hsz t2 (by simp);clear hsz h64;refine .inl ⟨_,rfl,rfl,rfl,fun _ _=>rfl,fun W sv nv hBW hMW hS hN=> ?_⟩;obtain⟨A,cA,rfl,hA⟩:=hS;obtain⟨g,rfl,hg,hx⟩:=hA (by simp);have q0:=hx 0 _ rfl;have q1:=hx 1 _ rfl;have q2:=hx 2 _ rfl;exact texts_subst g cA t0 t1 t2 z0 z2 nv text (by omega) W hMW q0 q1 q2
 rw[if_neg eSUBST] at ht hf ⊢;by_cases eFIND:(⟨#[70,73,78,68]⟩:ByteArray)=s
 ·rw[if_pos eFIND] at ht hf ⊢;cases ht;cases hf;have hd:((⟨#[115,115,110]⟩:ByteArray).size:Int)=3:=rfl;obtain rfl|rfl:n=2∨n=3:=by omega
  ·have hc:ss.length=2:=hss.trans (by decide);have ha:ns.length=0:=hns.trans (by decide)
   match ss,ns,hc,ha,hsz,h64 with
   | [t0,t1],[],_,_,hsz,h64 =>
     have z0:=hsz t0 (by simp);have z1:=hsz t1 (by simp);clear hsz h64;refine .inl ⟨_,rfl,rfl,rfl,fun _ _=>rfl,fun W sv nv hBW hMW hS hN=> ?_⟩;obtain⟨A,cA,rfl,hA⟩:=hS;obtain⟨g,rfl,hg,hx⟩:=hA (by simp);have q0:=hx 0 _ rfl;have q1:=hx 1 _ rfl;obtain⟨B,cB,rfl,_⟩:=hN;exact texts_place0 g cA cB B t0 t1 z1 text W hMW q0 q1
  ·have hc:ss.length=2:=hss.trans (by decide);have ha:ns.length=1:=hns.trans (by decide)
   match ss,ns,hc,ha,hsz,h64 with
   | [t0,t1],[a0],_,_,hsz,h64 =>
     have z0:=hsz t0 (by simp);have z1:=hsz t1 (by simp);have i0:=h64 a0 (by simp);clear hsz h64;refine .inl ⟨_,rfl,rfl,rfl,fun _ _=>rfl,fun W sv nv hBW hMW hS hN=> ?_⟩;obtain⟨A,cA,rfl,hA⟩:=hS;obtain⟨g,rfl,hg,hx⟩:=hA (by simp);have q0:=hx 0 _ rfl;have q1:=hx 1 _ rfl;obtain⟨B,cB,rfl,he⟩:=hN;obtain⟨gn,rfl,hh,hy⟩:=he (by simp);have r0:=hy 0 _ rfl;exact texts_place1 g cA cB gn a0 i0 t0 t1 z1 text W hMW q0 q1 r0
 rw[if_neg eFIND] at ht hf ⊢;by_cases eREPT:(⟨#[82,69,80,84]⟩:ByteArray)=s
 ·rw[if_pos eREPT] at ht hf ⊢;cases ht;cases hf;have hd:((⟨#[115,110]⟩:ByteArray).size:Int)=2:=rfl;obtain rfl:n=2:=by omega
  have hc:ss.length=1:=hss.trans (by decide);have ha:ns.length=1:=hns.trans (by decide)
  match ss,ns,hc,ha,hsz,h64 with
  | [t0],[a0],_,_,hsz,h64 =>
    have z0:=hsz t0 (by simp);have i0:=h64 a0 (by simp);clear hsz h64;refine .inl ⟨_,rfl,rfl,rfl,fun _ _=>rfl,fun W sv nv hBW hMW hS hN=> ?_⟩;obtain⟨A,cA,rfl,hA⟩:=hS;obtain⟨g,rfl,hg,hx⟩:=hA (by simp);have q0:=hx 0 _ rfl;obtain⟨B,cB,rfl,he⟩:=hN;obtain⟨gn,rfl,hh,hy⟩:=he (by simp);have r0:=hy 0 _ rfl;exact texts_rept g cA gn cB 1 1 (by decide) (by decide) t0 a0 i0 z0 text (by omega) W q0 r0
 rw[if_neg eREPT] at ht hf ⊢;by_cases eTRIM:(⟨#[84,82,73,77]⟩:ByteArray)=s
 ·rw[if_pos eTRIM] at ht hf ⊢;cases ht;cases hf;have hd:((⟨#[115]⟩:ByteArray).size:Int)=1:=rfl;obtain rfl:n=1:=by omega
  have hc:ss.length=1:=hss.trans (by decide);have ha:ns.length=0:=hns.trans (by decide)
  match ss,ns,hc,ha,hsz,h64 with
  | [t0],[],_,_,hsz,h64 =>
    have z0:=hsz t0 (by simp);clear hsz h64;refine .inr ⟨_,_,rfl,rfl,rfl,fun _ _=>rfl,fun W sv nv hBW hMW hS hN=> ?_⟩;obtain⟨A,cA,rfl,hA⟩:=hS;obtain⟨g,rfl,hg,hx⟩:=hA (by simp);have q0:=hx 0 _ rfl;exact texts_text _ (fun _ _=>rfl) _ g cA 1 (by decide) nv text t0 _ W (cell_below hm hBW) q0 (fun W2 hW2=>texts_trim t0 z0 W2 (hMW.below hW2))
 rw[if_neg eTRIM] at ht hf ⊢;by_cases eLOWER:(⟨#[76,79,87,69,82]⟩:ByteArray)=s
 ·rw[if_pos eLOWER] at ht hf ⊢;cases ht;cases hf;have hd:((⟨#[115]⟩:ByteArray).size:Int)=1:=rfl;obtain rfl:n=1:=by omega
  have hc:ss.length=1:=hss.trans (by decide);have ha:ns.length=0:=hns.trans (by decide)
  match ss,ns,hc,ha,hsz,h64 with
  | [t0],[],_,_,hsz,h64 =>
    have z0:=hsz t0 (by simp);clear hsz h64;refine .inr ⟨_,_,rfl,rfl,rfl,fun _ _=>rfl,fun W sv nv hBW hMW hS hN=> ?_⟩;obtain⟨A,cA,rfl,hA⟩:=hS;obtain⟨g,rfl,hg,hx⟩:=hA (by simp);have q0:=hx 0 _ rfl;exact texts_text _ (fun _ _=>rfl) _ g cA 1 (by decide) nv text t0 _ W (cell_below hl hBW) q0 (fun W2 hW2=>texts_lower t0 (by omega) W2)
 rw[if_neg eLOWER] at ht hf ⊢;by_cases eUPPER:(⟨#[85,80,80,69,82]⟩:ByteArray)=s
 ·rw[if_pos eUPPER] at ht hf ⊢;cases ht;cases hf;have hd:((⟨#[115]⟩:ByteArray).size:Int)=1:=rfl;obtain rfl:n=1:=by omega
  have hc:ss.length=1:=hss.trans (by decide);have ha:ns.length=0:=hns.trans (by decide)
  match ss,ns,hc,ha,hsz,h64 with
  | [t0],[],_,_,hsz,h64 =>
    have z0:=hsz t0 (by simp);clear hsz h64;refine .inr ⟨_,_,rfl,rfl,rfl,fun _ _=>rfl,fun W sv nv hBW hMW hS hN=> ?_⟩;obtain⟨A,cA,rfl,hA⟩:=hS;obtain⟨g,rfl,hg,hx⟩:=hA (by simp);have q0:=hx 0 _ rfl;exact texts_text _ (fun _ _=>rfl) _ g cA 1 (by decide) nv text t0 _ W (cell_below hj hBW) q0 (fun W2 hW2=>texts_upper t0 (by omega) W2)
 rw[if_neg eUPPER] at ht hf ⊢;by_cases eMID:(⟨#[77,73,68]⟩:ByteArray)=s
 ·rw[if_pos eMID] at ht hf ⊢;cases ht;cases hf;have hd:((⟨#[115,110,110]⟩:ByteArray).size:Int)=3:=rfl;obtain rfl:n=3:=by omega
  have hc:ss.length=1:=hss.trans (by decide);have ha:ns.length=2:=hns.trans (by decide)
  match ss,ns,hc,ha,hsz,h64 with
  | [t0],[a0,a1],_,_,hsz,h64 =>
    have z0:=hsz t0 (by simp);have i0:=h64 a0 (by simp);have i1:=h64 a1 (by simp);clear hsz h64;refine .inl ⟨_,rfl,rfl,rfl,fun _ _=>rfl,fun W sv nv hBW hMW hS hN=> ?_⟩;obtain⟨A,cA,rfl,hA⟩:=hS;obtain⟨g,rfl,hg,hx⟩:=hA (by simp);have q0:=hx 0 _ rfl;obtain⟨B,cB,rfl,he⟩:=hN;obtain⟨gn,rfl,hh,hy⟩:=he (by simp);have r0:=hy 0 _ rfl;have r1:=hy 1 _ rfl;exact texts_mid g cA gn cB 1 (by decide) a0 a1 text i0 t0 (by omega) W q0 r0 r1
 rw[if_neg eMID] at ht hf ⊢;by_cases eRIGHT:(⟨#[82,73,71,72,84]⟩:ByteArray)=s
 ·rw[if_pos eRIGHT] at ht hf ⊢;cases ht;cases hf;have hd:((⟨#[115,110]⟩:ByteArray).size:Int)=2:=rfl;obtain rfl|rfl:n=1∨n=2:=by omega
  ·have hc:ss.length=1:=hss.trans (by decide);have ha:ns.length=0:=hns.trans (by decide)
   match ss,ns,hc,ha,hsz,h64 with
   | [t0],[],_,_,hsz,h64 =>
     have z0:=hsz t0 (by simp);clear hsz h64;refine .inl ⟨_,rfl,rfl,rfl,fun _ _=>rfl,fun W sv nv hBW hMW hS hN=> ?_⟩;obtain⟨A,cA,rfl,hA⟩:=hS;obtain⟨g,rfl,hg,hx⟩:=hA (by simp);have q0:=hx 0 _ rfl;obtain⟨B,cB,rfl,_⟩:=hN;exact texts_right g cA 1 (by decide) _ text 1 ⟨by decide,by decide⟩ t0 (by omega) W q0 (fun W2 hW2=>texts_count0 _ B cB text W2)
  ·have hc:ss.length=1:=hss.trans (by decide);have ha:ns.length=1:=hns.trans (by decide)
   match ss,ns,hc,ha,hsz,h64 with
   | [t0],[a0],_,_,hsz,h64 =>
     have z0:=hsz t0 (by simp);have i0:=h64 a0 (by simp);clear hsz h64;refine .inl ⟨_,rfl,rfl,rfl,fun _ _=>rfl,fun W sv nv hBW hMW hS hN=> ?_⟩;obtain⟨A,cA,rfl,hA⟩:=hS;obtain⟨g,rfl,hg,hx⟩:=hA (by simp);have q0:=hx 0 _ rfl;obtain⟨B,cB,rfl,he⟩:=hN;obtain⟨gn,rfl,hh,hy⟩:=he (by simp);have r0:=hy 0 _ rfl;exact texts_right g cA 1 (by decide) _ text a0 i0 t0 (by omega) W q0 (fun W2 hW2=>texts_count1 _ gn cB a0 text W2 ((hW2.cell (p:=⟨gn,0,none⟩) hh).trans r0))
 rw[if_neg eRIGHT] at ht hf ⊢;by_cases eLEFT:(⟨#[76,69,70,84]⟩:ByteArray)=s
 ·rw[if_pos eLEFT] at ht hf ⊢;cases ht;cases hf;have hd:((⟨#[115,110]⟩:ByteArray).size:Int)=2:=rfl;obtain rfl|rfl:n=1∨n=2:=by omega
  ·have hc:ss.length=1:=hss.trans (by decide);have ha:ns.length=0:=hns.trans (by decide)
   match ss,ns,hc,ha,hsz,h64 with
   | [t0],[],_,_,hsz,h64 =>
     have z0:=hsz t0 (by simp);clear hsz h64;refine .inl ⟨_,rfl,rfl,rfl,fun _ _=>rfl,fun W sv nv hBW hMW hS hN=> ?_⟩;obtain⟨A,cA,rfl,hA⟩:=hS;obtain⟨g,rfl,hg,hx⟩:=hA (by simp);have q0:=hx 0 _ rfl;obtain⟨B,cB,rfl,_⟩:=hN;exact texts_left g cA 1 (by decide) _ text 1 ⟨by decide,by decide⟩ t0 (by omega) W q0 (fun W2 hW2=>texts_count0 _ B cB text W2)
  ·have hc:ss.length=1:=hss.trans (by decide);have ha:ns.length=1:=hns.trans (by decide)
   match ss,ns,hc,ha,hsz,h64 with
   | [t0],[a0],_,_,hsz,h64 =>
     have z0:=hsz t0 (by simp);have i0:=h64 a0 (by simp);clear hsz h64;refine .inl ⟨_,rfl,rfl,rfl,fun _ _=>rfl,fun W sv nv hBW hMW hS hN=> ?_⟩;obtain⟨A,cA,rfl,hA⟩:=hS;obtain⟨g,rfl,hg,hx⟩:=hA (by simp);have q0:=hx 0 _ rfl;obtain⟨B,cB,rfl,he⟩:=hN;obtain⟨gn,rfl,hh,hy⟩:=he (by simp);have r0:=hy 0 _ rfl;exact texts_left g cA 1 (by decide) _ text a0 i0 t0 (by omega) W q0 (fun W2 hW2=>texts_count1 _ gn cB a0 text W2 ((hW2.cell (p:=⟨gn,0,none⟩) hh).trans r0))
 rw[if_neg eLEFT] at ht hf ⊢;by_cases eLEN:(⟨#[76,69,78]⟩:ByteArray)=s
 ·rw[if_pos eLEN] at ht hf ⊢;cases ht;cases hf;have hd:((⟨#[115]⟩:ByteArray).size:Int)=1:=rfl;obtain rfl:n=1:=by omega
  have hc:ss.length=1:=hss.trans (by decide);have ha:ns.length=0:=hns.trans (by decide)
  match ss,ns,hc,ha,hsz,h64 with
  | [t0],[],_,_,hsz,h64 =>
    have z0:=hsz t0 (by simp);clear hsz h64;refine .inl ⟨_,rfl,rfl,rfl,fun _ _=>rfl,fun W sv nv hBW hMW hS hN=> ?_⟩;obtain⟨A,cA,rfl,hA⟩:=hS;obtain⟨g,rfl,hg,hx⟩:=hA (by simp);have q0:=hx 0 _ rfl;exact texts_len g cA 1 (by decide) nv text t0 (by omega) W q0
 rw[if_neg eLEN] at ht hf ⊢;cases ht
theorem printS_le (x:Int) (h:Is64 x):(printS x).size<=100:=by
 unfold printS;by_cases h1:x=minI
 ·rw[if_pos h1]
  decide
 ·rw[if_neg h1];have hh:(headS x).size<=30:=by
   have h2:=numS_le (x.natAbs / 10000) (by unfold Is64 at h;omega);unfold headS;split
   ·rw[ByteArray.size_append];have:(⟨#[45]⟩:ByteArray).size=1:=rfl;omega
   ·omega
  split
  ·omega
  ·have h2:=fracS_le (x.natAbs % 10000) (by omega);rw[ByteArray.size_append,ByteArray.size_append];have:(⟨#[46]⟩:ByteArray).size=1:=rfl;omega
theorem asTxt_size (v:V) (h:Is64 v.num) (hs:v.str.size<=1048576):(zAZ v).1.size<=1048576:=by
 unfold zAZ;have h0:(⟨#[]⟩:ByteArray).size=0:=rfl;have h4:(⟨#[84,82,85,69]⟩:ByteArray).size=4:=rfl;have h5:(⟨#[70,65,76,83,69]⟩:ByteArray).size=5:=rfl;have hp:=printS_le v.num h
 repeat' split
 all_goals simp only;all_goals(try split);all_goals omega
theorem whole_is64 (x:Int) (h:In63 x):Is64 (zAF x).1:=by
 unfold In63 at h;unfold zAF;split
 ·exact⟨by decide,by decide⟩
 ·have h1:x.tdiv 10000=x / 10000∨x.tdiv 10000= -((-x) / 10000):=by
   rcases Int.le_total 0 x with h0|h0
   ·exact .inl (QS h0)
   ·right
    rw[show x= -(-x) by omega,Int.neg_tdiv,QS (show 0<= -x by omega)];simp
  unfold Is64;dsimp only;rcases h1 with h1|h1<;>rw[h1]<;>omega
def textsGo (s:ByteArray) (text:Nat) (c:ByteArray):List V->Nat->List ByteArray->List Int->V
 | [],_,ss,ns=>zBF s text ss ns
 | v::r,j,ss,ns =>
   if (c.data.toList.getD j 0).toNat=115 then textsGo s text c r (j+1) (ss++[(zAZ v).1]) ns
   else if (zA5 v).2≠0 then errG (zA5 v).2
   else if (zAF (zA5 v).1).2=false then errG 8
   else textsGo s text c r (j+1) ss (ns++[(zAF (zA5 v).1).1])
def textsVals (s:ByteArray) (text:Nat) (vs:List V):V:=match vs.find? isF with
 | some v=>v
 | none=>match zAT s with
   | none=>errG 8
   | some (c,_)=>textsGo s text c vs 0 [] []
def zBY (s:ByteArray) (al:List Arg) (ok:Nat->Bool) (tx:Int):V :=
 if tx<0∨1024<tx then errG 8
 else if (List.range al.length).all ok then if zAx s (al.map Arg.many) then textsVals s tx.toNat (al.map Arg.val) else errG 8 else errG 8
theorem drop_at {α:Type} {l:List α} {j:Nat} {a:α} (h:l[j]? =some a):l.drop j=a::l.drop (j+1):=by
 obtain⟨hj,rfl⟩:=QB.1 h;exact QL hj
theorem cntK_succ (c:ByteArray) (j:Nat) (b:Bool) (hj:j<c.size):cntK c (j+1) b=cntK c j b+(if ((c.data.toList.getD j 0)==115)==b then 1 else 0):=by
 have ha:j<c.data.toList.length:=by rw[Array.length_toList];exact hj
 unfold cntK;rw[List.take_succ_eq_append_getElem ha,List.filter_append,Q3,List.getD,QC ha]
 congr 1
 simp only[Option.getD_some,Qa,List.filter_nil];split<;>simp_all
theorem textTab_bounds {s c:ByteArray} {x:Int} (h:zAT s=some (c,x)):1<=x/\c.size<=16:=by
 unfold zAT at h;by_cases eNUM:(⟨#[78,85,77]⟩:ByteArray)=s
 rw[if_pos eNUM] at h
 rotate_left
 rw[if_neg eNUM] at h;by_cases eREV:(⟨#[82,69,86]⟩:ByteArray)=s
 rw[if_pos eREV] at h
 rotate_left
 rw[if_neg eREV] at h;by_cases eEXACT:(⟨#[69,88,65,67,84]⟩:ByteArray)=s
 rw[if_pos eEXACT] at h
 rotate_left
 rw[if_neg eEXACT] at h;by_cases eCHAR:(⟨#[67,72,65,82]⟩:ByteArray)=s
 rw[if_pos eCHAR] at h
 rotate_left
 rw[if_neg eCHAR] at h;by_cases eORD:(⟨#[79,82,68]⟩:ByteArray)=s
 rw[if_pos eORD] at h
 rotate_left
 rw[if_neg eORD] at h;by_cases eCONCAT:(⟨#[67,79,78,67,65,84]⟩:ByteArray)=s
 rw[if_pos eCONCAT] at h
 rotate_left
 rw[if_neg eCONCAT] at h;by_cases eSUBST:(⟨#[83,85,66,83,84]⟩:ByteArray)=s
 rw[if_pos eSUBST] at h
 rotate_left
 rw[if_neg eSUBST] at h;by_cases eFIND:(⟨#[70,73,78,68]⟩:ByteArray)=s
 rw[if_pos eFIND] at h
 rotate_left
 rw[if_neg eFIND] at h;by_cases eREPT:(⟨#[82,69,80,84]⟩:ByteArray)=s
 rw[if_pos eREPT] at h
 rotate_left
 rw[if_neg eREPT] at h;by_cases eTRIM:(⟨#[84,82,73,77]⟩:ByteArray)=s
 rw[if_pos eTRIM] at h
 rotate_left
 rw[if_neg eTRIM] at h;by_cases eLOWER:(⟨#[76,79,87,69,82]⟩:ByteArray)=s
 rw[if_pos eLOWER] at h
 rotate_left
 rw[if_neg eLOWER] at h;by_cases eUPPER:(⟨#[85,80,80,69,82]⟩:ByteArray)=s
 rw[if_pos eUPPER] at h
 rotate_left
 rw[if_neg eUPPER] at h;by_cases eMID:(⟨#[77,73,68]⟩:ByteArray)=s
 rw[if_pos eMID] at h
 rotate_left
 rw[if_neg eMID] at h;by_cases eRIGHT:(⟨#[82,73,71,72,84]⟩:ByteArray)=s
 rw[if_pos eRIGHT] at h
 rotate_left
 rw[if_neg eRIGHT] at h;by_cases eLEFT:(⟨#[76,69,70,84]⟩:ByteArray)=s
 rw[if_pos eLEFT] at h
 rotate_left
 rw[if_neg eLEFT] at h;by_cases eLEN:(⟨#[76,69,78]⟩:ByteArray)=s
 rw[if_pos eLEN] at h
 rotate_left
 ·rw[if_neg eLEN] at h;cases h
 all_goals
  cases h;exact⟨by decide,by decide⟩
theorem takesT_len {s:ByteArray} {xs:List Bool} (h:zAx s xs=true):∃ c x,zAT s=some (c,x)/\between x c.size xs.length=true/\1<=xs.length/\xs.length<=16/\xs.length<=c.size:=by
 unfold zAx at h;cases e:zAT s with
 | none=>rw[e] at h;cases h
 | some p =>
   obtain⟨c,x⟩:=p;rw[e] at h;simp only[QJ] at h;have h1:=h.1;obtain⟨b1,b2⟩:=textTab_bounds e;simp only[between,QJ,decide_eq_true_eq] at h1;exact⟨c,x,rfl,h.1,by omega,by omega,by omega⟩
structure GivRel (Wb wr:World) (text:Int) (ss:List ByteArray) (ns:List Int) (sv nv:Value):Prop where
 bel:Below Wb.heap.size Wb wr
 box:wr.heap[Wb.heap.size]? =some (.cells #[sv,nv,.int .i64 text] 178 (0,0))
 os:wr.ownsRow Wb.heap.size 9 1 sv ss.length (ss.map Value.string)
 on:wr.ownsRow Wb.heap.size 3 1 nv ns.length (ns.map fun n=>Value.int .i64 n)
theorem GivRel.lt {Wb wr:World} {text:Int} {ss:List ByteArray} {ns:List Int} {sv nv:Value} (h:GivRel Wb wr text ss ns sv nv):Wb.heap.size<wr.heap.size:=(Array.getElem?_eq_some_iff.1 h.box).1
theorem GivRel.below {Wb wr w2:World} {text:Int} {ss:List ByteArray} {ns:List Int} {sv nv:Value} (h:GivRel Wb wr text ss ns sv nv) (hb:Below wr.heap.size wr w2):GivRel Wb w2 text ss ns sv nv :=
 ⟨h.bel.trans (hb.mono h.bel.size),(hb.block _ h.lt).trans h.box,own_below h.os hb,own_below h.on hb⟩
theorem GivRel.cell {Wb wr:World} {text:Int} {ss:List ByteArray} {ns:List Int} {sv nv:Value} (h:GivRel Wb wr text ss ns sv nv) :
  wr.cell? ⟨Wb.heap.size,0,none⟩=some sv/\wr.cell? ⟨Wb.heap.size,1,none⟩=some nv/\wr.cell? ⟨Wb.heap.size,2,none⟩=some (.int .i64 text)/\∀ i,wr.frozen? ⟨Wb.heap.size,i,none⟩=false:=by
 refine⟨?_,?_,?_,fun i=> ?_⟩
 ·rw[Lib.cell_of_heap h.box];rfl
 ·rw[Lib.cell_of_heap h.box];rfl
 ·rw[Lib.cell_of_heap h.box];rfl
 ·exact Lib.frozen_of_heap h.box i
theorem own_ne {w:World} {base e n b T:Nat} {v:Value} {xs:List Value} {cs:Array Value} {fr:Nat×Nat} (h:w.ownsRow base e 1 v n xs) (hb:w.heap[b]? =some (.cells cs T fr)) (hT:T≠e):v.ownBlock≠some b:=Lib.ownBlock_ne h hb hT
theorem grown_set1 (w:World) (b:Nat) (v:Value):w.grownBy (w.setCell ⟨b,1,none⟩ v) (some b) :=
 ⟨rfl,rfl,rfl,by simp,fun k _ hk=>heap_setCell_other w ⟨b,1,none⟩ k v (fun e=>hk (by simp[e]))⟩
theorem GivRel.boxS {Wb wr w1 w2:World} {text:Int} {ss:List ByteArray} {ns:List Int} {sv nv:Value} (h:GivRel Wb wr text ss ns sv nv) (hb:Below wr.heap.size wr w1) (hg:w1.grownBy w2 sv.ownBlock) :
  w2.heap[Wb.heap.size]? =some (.cells #[sv,nv,.int .i64 text] 178 (0,0)):=by
 have k:=h.below hb;have n1:=own_ne k.os k.box (by decide);exact(hg.block _ k.lt (fun e=>n1 e.symm)).trans k.box
theorem GivRel.boxN {Wb wr w1 w2:World} {text:Int} {ss:List ByteArray} {ns:List Int} {sv nv:Value} (h:GivRel Wb wr text ss ns sv nv) (hb:Below wr.heap.size wr w1) (hg:w1.grownBy w2 nv.ownBlock) :
  w2.heap[Wb.heap.size]? =some (.cells #[sv,nv,.int .i64 text] 178 (0,0)):=by
 have k:=h.below hb;have n1:=own_ne k.on k.box (by decide);exact(hg.block _ k.lt (fun e=>n1 e.symm)).trans k.box
theorem GivRel.addS {Wb wr w1 w2:World} {text:Int} {ss:List ByteArray} {ns:List Int} {sv nv sv':Value} {t:ByteArray} (h:GivRel Wb wr text ss ns sv nv) (hb:Below wr.heap.size wr w1)
  (ho:w2.ownsRow Wb.heap.size 9 1 sv' (ss.length+1) (ss.map Value.string++[.string t])) (hg:w1.grownBy w2 sv.ownBlock):GivRel Wb (w2.setCell ⟨Wb.heap.size,0,none⟩ sv') text (ss++[t]) ns sv' nv:=by
 have k:=h.below hb;have n1:=own_ne k.os k.box (by decide);have n2:=own_ne k.on k.box (by decide);have b2:w2.heap[Wb.heap.size]? =some (.cells #[sv,nv,.int .i64 text] 178 (0,0)):=(hg.block _ k.lt (fun e=>n1 e.symm)).trans k.box;have o2:w2.ownsRow Wb.heap.size 3 1 nv ns.length (ns.map fun n=>Value.int .i64 n):=k.on.kept hg (by
  rcases k.os.2 with ⟨h1,_⟩|⟨g,cap,cur,h1,_,hc,_⟩
  ·rcases k.on.2 with ⟨h2,_⟩|⟨g2,cap2,cur2,h2,_,ha,_⟩
   ·exact .inl (by rw[h2];rfl)
   ·exact .inr (by rw[h1,h2];simp[Value.ownBlock])
  ·rcases k.on.2 with ⟨h2,_⟩|⟨g2,cap2,cur2,h2,_,ha,_⟩
   ·exact .inl (by rw[h2];rfl)
   ·refine .inr ?_;rw[h1,h2];simp only[Value.ownBlock];intro e;injection e with e;subst e;rw[hc] at ha;injection ha with ha;injection ha with _ hh _;exact absurd hh (by decide))
 have n3:=own_ne ho b2 (by decide);have n4:=own_ne o2 b2 (by decide);refine⟨(k.bel.grown hg k.bel.size (own_block_ge k.os)).setCell (p:=⟨Wb.heap.size,0,none⟩) (QD _) sv',?_,?_,?_⟩
 ·obtain⟨hd,hk⟩:=Array.getElem?_eq_some_iff.1 b2;show (w2.heap.modify Wb.heap.size _)[Wb.heap.size]? =_;rw[Array.getElem?_eq_getElem (by rw[Array.size_modify];exact hd),Array.getElem_modify_self,hk]
  rfl
 ·have:=ho.kept (grownBy_setCell' w2 Wb.heap.size sv') (.inr n3)
  simpa using this
 ·exact o2.kept (grownBy_setCell' w2 Wb.heap.size sv') (.inr n4)
theorem GivRel.addN {Wb wr w1 w2:World} {text:Int} {ss:List ByteArray} {ns:List Int} {sv nv nv':Value} {t:Int} (h:GivRel Wb wr text ss ns sv nv) (hb:Below wr.heap.size wr w1)
  (ho:w2.ownsRow Wb.heap.size 3 1 nv' (ns.length+1) ((ns.map fun n=>Value.int .i64 n)++[.int .i64 t])) (hg:w1.grownBy w2 nv.ownBlock):GivRel Wb (w2.setCell ⟨Wb.heap.size,1,none⟩ nv') text ss (ns++[t]) sv nv':=by
 have k:=h.below hb;have n1:=own_ne k.on k.box (by decide);have b2:w2.heap[Wb.heap.size]? =some (.cells #[sv,nv,.int .i64 text] 178 (0,0)):=(hg.block _ k.lt (fun e=>n1 e.symm)).trans k.box;have o2:w2.ownsRow Wb.heap.size 9 1 sv ss.length (ss.map Value.string):=k.os.kept hg (by
  rcases k.on.2 with ⟨h1,_⟩|⟨g,cap,cur,h1,_,hc,_⟩
  ·rcases k.os.2 with ⟨h2,_⟩|⟨g2,cap2,cur2,h2,_,ha,_⟩
   ·exact .inl (by rw[h2];rfl)
   ·exact .inr (by rw[h1,h2];simp[Value.ownBlock])
  ·rcases k.os.2 with ⟨h2,_⟩|⟨g2,cap2,cur2,h2,_,ha,_⟩
   ·exact .inl (by rw[h2];rfl)
   ·refine .inr ?_;rw[h1,h2];simp only[Value.ownBlock];intro e;injection e with e;subst e;rw[hc] at ha;injection ha with ha;injection ha with _ hh _;exact absurd hh (by decide))
 have n3:=own_ne ho b2 (by decide);have n4:=own_ne o2 b2 (by decide);refine⟨(k.bel.grown hg k.bel.size (own_block_ge k.on)).setCell (p:=⟨Wb.heap.size,1,none⟩) (QD _) nv',?_,?_,?_⟩
 ·obtain⟨hd,hk⟩:=Array.getElem?_eq_some_iff.1 b2;show (w2.heap.modify Wb.heap.size _)[Wb.heap.size]? =_;rw[Array.getElem?_eq_getElem (by rw[Array.size_modify];exact hd),Array.getElem_modify_self,hk]
  rfl
 ·exact o2.kept (grown_set1 w2 _ _) (.inr n4)
 ·have:=ho.kept (grown_set1 w2 Wb.heap.size nv') (.inr n3)
  simpa using this
theorem strRow_of {w:World} {base:Nat} {v:Value} {ss:List ByteArray} (h:w.ownsRow base 9 1 v ss.length (ss.map Value.string)):StrRow w v ss:=by
 obtain⟨A,c,rfl⟩:=zAB h;refine⟨A,c,rfl,fun h0=> ?_⟩;obtain⟨g,c',e,_,hg,hx⟩:=zAR h h0;cases e;exact⟨g,rfl,hg,fun j s hj=>hx j _ (by simp[hj])⟩
theorem intRow_of {w:World} {base:Nat} {v:Value} {ns:List Int} (h:w.ownsRow base 3 1 v ns.length (ns.map fun n=>Value.int .i64 n)):IntRow w v ns:=by
 obtain⟨A,c,rfl⟩:=zAB h;refine⟨A,c,rfl,fun h0=> ?_⟩;obtain⟨g,c',e,_,hg,hx⟩:=zAR h h0;cases e;exact⟨g,rfl,hg,fun j s hj=>hx j _ (by simp[hj])⟩
open Go.Lib renaming hid->zh
theorem wr64 {n:Int} (h0: -9223372036854775808<=n) (h1:n<=9223372036854775807):wrap64 n=n:=by unfold wrap64;omega
def fitG (S:Int):V:=if S< -9223372036854775808∨9223372036854775807<S then errG 2 else numG S
def rowsG (a:Arg):Int:=a.bottom-a.top+1
def colsG (a:Arg):Int:=a.right-a.left+1
def zA4 (a:Arg):Prop:=(-100000<=a.top/\a.top<=100000)/\(-100000<=a.left/\a.left<=100000)/\(-100000<=a.bottom/\a.bottom<=100000)/\(-100000<=a.right/\a.right<=100000)
def alikeG (a b:Arg):Bool:=(rowsG a==rowsG b)&&(colsG a==colsG b)
def intG (v:V):Int×Int:=if (zA5 v).2≠0 then (0,(zA5 v).2) else if (zAF (zA5 v).1).2=false then (0,8) else ((zAF (zA5 v).1).1,0)
def prodGo:Int->List Int->V
 | p,[]=>numG p
 | p,x::l=>if (mulX p x).2≠0 then errG (mulX p x).2 else prodGo (mulX p x).1 l
theorem mul64 (p x:Int):Is64 (mulX p x).1:=by
 unfold Is64 mulX signX
 repeat' split
 all_goals simp only;all_goals omega
theorem aggs_fit (S:Int) (w:World):Rt 231 #[.agg #[.int .i64 (S / 18446744073709551616),.int .u64 (S % 18446744073709551616)]] w (vG (fitG S)):=by
 by_cases h:S< -9223372036854775808∨9223372036854775807<S
 ·have hq:(S / 18446744073709551616 != wrap64 (S % 18446744073709551616) / 9223372036854775808)=true:=by
   simp only[bne_iff_ne,ne_eq];unfold wrap64;omega
  unfold fitG;rw[if_pos h];clear h;go_enter func231,ntmps231;go_wp2_with(go_at_call 13;refine mB (zA3 _ _) ?_;intro l3 q3)
  all_goals(go_returns;exact rb_)
 ·have hq:(S / 18446744073709551616 != wrap64 (S % 18446744073709551616) / 9223372036854775808)=false:=by
   rw[bne_eq_false_iff_eq];unfold wrap64;omega
  have hw:wrap64 (S % 18446744073709551616)=S:=by unfold wrap64;omega
  unfold fitG;rw[if_neg h];rw[hw] at hq;clear h;go_enter func231,ntmps231;go_wp2_with(go_at_call 140;refine mB (zB2 _ _) ?_;intro l3 q3)
  all_goals(go_returns;exact rb_)
theorem aggs_whole (n:Int) (h0: -900000000000000<=n) (h1:n<=900000000000000) (w:World):Rt 251 #[.int .i64 n] w (vG (numG (n*10000))):=by
 have hw:wrap64 (n*10000)=n*10000:=wr64 (by omega) (by omega);clear h0 h1;go_enter func251,ntmps251;go_wp2_with(go_at_call 140;refine mB (zB2 _ _) ?_;intro l3 q3)
 all_goals(go_returns;exact rb_)
theorem aggs_rows (a:Arg) (h:zA4 a) (w:World):Rt 252 #[a.agg] w (.int .i64 (rowsG a)):=by
 unfold zA4 at h;have e1:wrap64 (a.bottom-a.top)=a.bottom-a.top:=wr64 (by omega) (by omega);have e2:wrap64 (a.bottom-a.top+1)=a.bottom-a.top+1:=wr64 (by omega) (by omega);clear h;unfold Arg.agg;go_enter func252,ntmps252;go_wp2;all_goals(go_returns;exact⟨congrArg (fun z=>Ending.returned (Value.int .i64 z)) (show wrap64 (a.bottom-a.top+1)=rowsG a by rw[e2];rfl),bel⟩)
theorem aggs_cols (a:Arg) (h:zA4 a) (w:World):Rt 254 #[a.agg] w (.int .i64 (colsG a)):=by
 unfold zA4 at h;have e1:wrap64 (a.right-a.left)=a.right-a.left:=wr64 (by omega) (by omega);have e2:wrap64 (a.right-a.left+1)=a.right-a.left+1:=wr64 (by omega) (by omega);clear h;unfold Arg.agg;go_enter func254,ntmps254;go_wp2;all_goals(go_returns;exact⟨congrArg (fun z=>Ending.returned (Value.int .i64 z)) (show wrap64 (a.right-a.left+1)=colsG a by rw[e2];rfl),bel⟩)
theorem aggs_isN (v:V) (w:World):Rt 240 #[(vG v)] w (.bool (v.tag==1)):=by
 go_enter func240,ntmps240;go_wp2;all_goals(go_returns;exact rb_)
theorem aggs_isA (v:V) (w:World):Rt 241 #[(vG v)] w (.bool (v.tag != 0)):=by
 go_enter func241,ntmps241;go_wp2;all_goals(go_returns;exact rb_)
theorem aggs_integer (v:V) (h:Is64 v.num) (w:World):Rt 310 #[(vG v)] w (.tuple #[.int .i64 (intG v).1,.int .i64 (intG v).2]):=by
 have ha:=zh (asNum_63 v h);obtain⟨x0,hc⟩:=lt_ ((zA5 v).1);obtain⟨cd,hd⟩:=lt_ ((zA5 v).2);have hg:=zh (fun W=>(show Rt 148 #[(vG v)] W (.tuple #[.int .i64 x0,.int .i64 cd]) by have:=zBX v W;rw[hc,hd] at this;exact this));unfold intG;rw[hc,hd];rw[hc] at ha;clear hc hd h;by_cases hc0:cd=0
 ·subst hc0;rw[if_neg (by simp)];obtain⟨y0,hf⟩:=lt_ ((zAF x0).1);obtain⟨k0,he⟩:=lt_ ((zAF x0).2);rw[hf,he];have hh:=zh (fun W=>(show Calls prog 152 #[.int .i64 x0] W fun e w'=>e=.returned (.tuple #[.int .i64 y0,.bool k0])/\W=w' by have:=zB0 x0 (by have:=ha.out;unfold In63 at this;omega) (by have:=ha.out;unfold In63 at this;omega) W;rw[hf,he] at this;exact this));clear hf he;cases k0;all_goals go_enter func310,ntmps310;all_goals go_wp2_with(first|(go_at_call 148;refine mB (hg.out _) ?_;intro l2 q2)|(go_at_call 152;refine(hh.out _).mono ?_;rintro e w4 ⟨rfl,hb⟩;subst hb))
  all_goals(go_returns;exact rb_)
 ·rw[if_pos hc0];have hi:(cd != 0)=true:=by simpa using hc0
  clear hc0;go_enter func310,ntmps310;go_wp2_with(go_at_call 148;refine mB (hg.out _) ?_;intro l2 q2)
  all_goals(go_returns;exact rb_)
theorem aggs_alike (a b:Arg) (ha:zA4 a) (hb:zA4 b) (w:World):Rt 308 #[a.agg,b.agg] w (.bool (alikeG a b)):=by
 have hi:=zh (aggs_rows a ha);have hj:=zh (aggs_rows b hb);have hg:=zh (aggs_cols a ha);have hh:=zh (aggs_cols b hb);unfold alikeG;obtain⟨ra,he⟩:=lt_ (rowsG a);obtain⟨rb,hf⟩:=lt_ (rowsG b);obtain⟨ca,hc⟩:=lt_ (colsG a);obtain⟨cb,hd⟩:=lt_ (colsG b);rw[he] at hi;rw[hf] at hj;rw[hc] at hg;rw[hd] at hh;rw[he,hf,hc,hd];clear he hf hc hd ha hb;unfold Arg.agg at *;cases hz:(ra==rb);all_goals go_enter func308,ntmps308;all_goals go_wp2;all_goals(refine qmI ?_;(repeat(go_big_quiet_step (first|(go_at_call 252;first|with_reducible exact Calls.zA1 (hi.out _)|with_reducible exact Calls.zA1 (hj.out _))|(go_at_call 254;first|with_reducible exact Calls.zA1 (hg.out _)|with_reducible exact Calls.zA1 (hh.out _)))));refine qmE ?_;intro lq nq);all_goals go_wp2;all_goals(go_returns;exact⟨by simp,bel⟩)
theorem aggs_prod (l:List Int) (A:Option Addr) (n c B:Nat) (w:World) (hr:Reads w B 1 A n (I l)) (hm:n<=1000000000000) (h64:∀ x∈l,Is64 x) :
  Rt 233 #[.slice A n c] w (vG (prodGo 10000 l)):=by
 have ht:l.length=n:=by have:=hr.1;simp[I] at this;omega
 obtain⟨R,hR⟩:=lt_ (prodGo 10000 l);rw[hR];have ho:=zh hR;have HR:=zh hr;have hk:=zh h64;clear hr h64 hR;go_enter func233,ntmps233;go_wp2
 go_loopw [10,3] (fun t v wr=>∃ j:Nat,∃ p:Int,j<=n/\t=.int .i64 j/\v=.int .i64 p/\Is64 p/\prodGo p (l.drop j)=R/\Below (w.alloc zeroV).heap.size (w.alloc zeroV) wr) (fun t _ _=>n-(intOf t).toNat)
 case atStart=>exact⟨0,10000,QV _,rfl,rfl,⟨by decide,by decide⟩,ho.out,Below.refl _ _⟩
 case round =>
  obtain⟨j,p,hj,rfl,rfl,hp,ha,hB⟩:=hrel;have hg:Below w.heap.size w wr:=(show Below w.heap.size w (w.alloc zeroV) from bel).trans (hB.mono (by simp));have HB:=zh hB;have hl:=zh hg;have HP:=zh hp;clear hB hg hp;by_cases hlt:j<n
  ·obtain⟨x,hx⟩:∃ x,l[j]? =some x:=⟨_,QC (show j<l.length by omega)⟩
   obtain⟨bk,off,rfl,_,hc⟩:=HR.out.2 (by omega);have h1:=hc j (.int .i64 x) (by simp[I,hx]);have c0:wr.cell? ⟨bk,off+j,none⟩=some (.int .i64 x):=(hl.out.cell (p:=⟨bk,_,none⟩) (QO w _ h1)).trans h1;have hh:=QO wr _ c0;have hb:=hk.out x (List.mem_of_getElem? hx);have HM:=zh (fun W=>dec_Mul p x HP.out hb W);have hf:=zh (mul64 p x);rw[drop_at hx] at ha;unfold prodGo at ha;obtain⟨q,hq⟩:=lt_ ((mulX p x).1);obtain⟨cd,hi⟩:=lt_ ((mulX p x).2);rw[hq,hi] at HM ha;rw[hq] at hf;have H1:=zh h1;clear hq hi hx hc h1 hb;by_cases hc0:cd=0
   ·subst hc0;rw[if_neg (by simp)] at ha;have hn:=zh ha;clear ha;go_wp2_with(go_at_call 301;refine mB (HM.out _) ?_;intro l2 q2)
    go_roundw;case rel=>exact⟨j+1,q,by omega,by go_num,rfl,hf.out,hn.out,HB.out.trans ((show Below wr.heap.size wr _ from bel).mono HB.out.size)⟩
    case measure=>simp[intOf];omega
   ·rw[if_pos hc0] at ha;have hs:(cd != 0)=true:=by simpa using hc0
    have hd:=zh ha.symm;obtain⟨l0,q0,he⟩:=zA0 HB.out;subst he;clear ha hc0 c0 hh;unfold zeroV at *;have c0:=H1.out;have hh:=QO w _ c0;go_wp2_with(first|(go_at_call 301;refine mB (HM.out _) ?_;intro l2 q2)|(go_at_call 13;refine mB (zA3 _ _) ?_;intro l3 q3))
    all_goals(go_returns;exact⟨by rw[hd.out],bel⟩)
  ·obtain rfl:j=n:=by omega
   rw[QT (by omega)] at ha;have hd:=zh (show R=numG p from ha.symm);obtain⟨l0,q0,he⟩:=zA0 HB.out;subst he;clear ha;unfold zeroV at *;go_wp2_with(go_at_call 140;refine mB (zB2 _ _) ?_;intro l3 q3)
   all_goals(go_returns;exact⟨by rw[hd.out],bel⟩)
def ren_B:Go.Shelf.Ren:=⟨fun _=>303,fun _=>133,fun k=>k⟩
theorem lays_B:Go.Proofs.Lays7.n26 prog ren_B:= {
 mixed:=by kernel_rfl
 f26:=by kernel_rfl
 t22:=by kernel_rfl
 a22:=fun w=>by kernel_rfl
 z22:=fun w=>by kernel_rfl
 v22:=fun w=>by kernel_rfl
 i22:=by kernel_rfl }
theorem run_Sub64 (y:Nat) (w:World):(callFunc 303 #[.int .u64 0,.int .u64 y,.int .u64 0]).run prog w =
  .ok (.value (.tuple #[.int .u64 (((0+18446744073709551616-y-0) % 18446744073709551616:Nat):Int),.int .u64 ((if 0<y+0 then 1 else 0:Nat):Int)])) w :=
 Any7.bits_Sub64 lays_B 0 y 0 (by decide) w
theorem div64_any (hi lo y:Nat) (h:hi<y) (hl:lo<18446744073709551616) (hy:y<18446744073709551616) (w:World):Rt 304 #[.int .u64 hi,.int .u64 lo,.int .u64 y] w (.tuple #[.int .u64 (((hi*18446744073709551616+lo) / y:Nat):Int),.int .u64 (((hi*18446744073709551616+lo) % y:Nat):Int)]):=by
 by_cases h0:hi=0
 ·subst h0;simp only[Nat.zero_mul,Nat.zero_add];exact div64_zero lo y h hl hy w
 ·exact bits_Div64 hi lo y (by omega) h hl hy w
theorem neg_words {M y hi lo:Nat} {H:Int} (h0:0<M) (hH:H= -(M:Int) / 18446744073709551616) (hy:(y:Int)= -(M:Int) % 18446744073709551616) (hhi:M / 18446744073709551616=hi) (hlo:M % 18446744073709551616=lo) :
  H<0/\(0+18446744073709551616-y-0) % 18446744073709551616=lo/\(0<y-> -H-1=hi)/\(y=0-> -H=hi):=by
 refine⟨by omega,by omega,fun h=>by omega,fun h=>by omega⟩
theorem pos_words {M y hi lo:Nat} {H:Int} (hH:H=(M:Int) / 18446744073709551616) (hy:(y:Int)=(M:Int) % 18446744073709551616) (hhi:M / 18446744073709551616=hi) (hlo:M % 18446744073709551616=lo) :
  H=hi/\y=lo:=by
 omega
theorem wu64 {n:Int} (h0:0<=n) (h1:n<=18446744073709551615):Q9.wrap n=n:=by
 show n % 18446744073709551616=n;omega
theorem wrn (q:Nat) (h:q<=9223372036854775807):wrap64 (-(q:Int))= -(q:Int):=by unfold wrap64;omega
theorem wrn1 (q:Nat) (h:q+1<=9223372036854775807):wrap64 (-((q:Int)+1))= -((q:Int)+1):=by unfold wrap64;omega
theorem wrq (q:Nat) (h:q<=9223372036854775807):wrap64 (q:Int)=(q:Int):=by unfold wrap64;omega
theorem wrq1 (q:Nat) (h:q+1<=9223372036854775807):wrap64 ((q:Int)+1)=(q:Int)+1:=by unfold wrap64;omega
theorem wuq1 (q:Nat) (h:q+1<=9223372036854775807):Q9.wrap ((q:Int)+1)=(q:Int)+1:=wu64 (by omega) (by omega)
def meanN (m n:Nat):Nat:=if n-m % n<=m % n then m / n+1 else m / n
def meanG (l:List Int):Int:=if l.sum<0 then -(meanN l.sum.natAbs l.length:Int) else meanN l.sum.natAbs l.length
theorem sum_le (l:List Int) (h:∀ x∈l,In63 x):l.sum.natAbs<=l.length*9223372036854775807:=by
 induction l with
 | nil=>simp
 | cons x l ih =>
   have h1:=ih (fun y hy=>h y (QI _ hy));have h2:=h x (by simp);unfold In63 at h2;rw[List.sum_cons,Q5];omega
structure MeanF (M n:Nat) (hi lo q r:Nat):Prop where
 hhi:M / 18446744073709551616=hi
 hlo:M % 18446744073709551616=lo
 lt:hi<n
 ll:lo<18446744073709551616
 hq:(hi*18446744073709551616+lo) / n=q
 hr:(hi*18446744073709551616+lo) % n=r
 rn:r<n
 ql:q<=9223372036854775807
 up:n-r<=r->q+1<=9223372036854775807
 mn:meanN M n=if n-r<=r then q+1 else q
theorem mean_facts {M n:Nat} (hn:0<n) (hM:M<=n*9223372036854775807):∃ hi lo q r,MeanF M n hi lo q r:=by
 have e:M / 18446744073709551616*18446744073709551616+M % 18446744073709551616=M:=by omega
 have hq:M / n<=9223372036854775807:=Nat.div_le_of_le_mul hM;have hr:=Nat.mod_lt M hn;have hd:=Nat.div_add_mod M n;refine⟨_,_,_,_,rfl,rfl,?_,Nat.mod_lt _ (by decide),rfl,rfl,?_,?_,?_,?_⟩
 ·have h1:M / 18446744073709551616<=n / 2:=by omega
  omega
 ·rw[e];exact hr
 ·rw[e];exact hq
 ·rw[e];intro hh;rcases Nat.lt_or_ge (M / n) 9223372036854775807 with h|h
  ·exact h
  ·have h2:M / n=9223372036854775807:=by omega
   rw[h2] at hd;omega
 ·rw[e];rfl
theorem aggs_mean (l:List Int) (A:Option Addr) (n c B:Nat) (w:World) (hr:Reads w B 1 A n (I l)) (hn:0<n) (hm:n<=1000000000000) (h63:∀ x∈l,In63 x) :
  Rt 237 #[.slice A n c] w (.int .i64 (meanG l)):=by
 have ha:l.length=n:=by have:=hr.1;simp[I] at this;omega
 have hM:=sum_le l h63;rw[ha] at hM;obtain⟨hi,lo,q,r,F⟩:=mean_facts hn hM;have HS:=zh (fun W (hb:Below B w W)=>aggs_sum l A n c B W (hr.below hb) hm (fun x hx=>by have:=h63 x hx;unfold In63 at this;unfold Is64;omega));unfold meanG;rw[ha];obtain⟨S,hS⟩:=lt_ l.sum;rw[hS] at HS F ⊢;rw[F.mn];have HD:=zh (fun W=>(show Rt 304 #[.int .u64 hi,.int .u64 lo,.int .u64 n] W (.tuple #[.int .u64 (q:Int),.int .u64 (r:Int)]) by have:=div64_any hi lo n F.lt F.ll (by omega) W;rw[F.hq,F.hr] at this;exact this));have hhi:=F.hhi;have hlo:=F.hlo;have hp:=F.lt;have ho:=F.ll;have hs:=F.rn;have hh:=F.ql;have hf:=F.up;have k1:Q9.wrap (hi:Int)=hi:=wu64 (by omega) (by omega);have k2:Q9.wrap (n:Int)=n:=wu64 (by omega) (by omega);have k3:Q9.wrap ((n:Int)-(r:Int))=(n:Int)-(r:Int):=wu64 (by omega) (by omega);clear hr h63 hM F ha hS;obtain⟨H,hH⟩:∃ H,H=S / 18446744073709551616:=⟨_,rfl⟩
 obtain⟨y,hy⟩:∃ y:Nat,(y:Int)=S % 18446744073709551616:=⟨(S % 18446744073709551616).toNat,by omega⟩
 rw[<- hH,<-hy] at HS;by_cases hneg:S<0
 rw[if_pos hneg];obtain⟨M,hc⟩:=lt_ S.natAbs;have hd:S= -(M:Int):=by omega
 have hk:0<M:=by omega
 rw[hc] at hhi hlo;rw[hd] at hH hy;obtain⟨w1,he,w3,w4⟩:=neg_words hk hH hy hhi hlo;clear hc hd hk hH hy hhi hlo hneg;obtain⟨bo,hg⟩:=lt_ (if 0<y+0 then 1 else 0:Nat);have hA:=fun W=>run_Sub64 y W;rw[hg,he] at hA;have hj:(decide (H<0))=true:=by simpa using w1
 have hl:(bo:Int)=0/\ -H=hi∨(bo:Int)=1/\ -H-1=hi:=by
  rcases QX y with h|h
  ·left;subst h;exact⟨by rw[<- hg];rfl,w4 rfl⟩
  ·right;exact⟨by rw[<- hg,if_pos (by omega)];rfl,w3 h⟩
 clear w3 w4 hg he w1;have e1:wrap64 (-H)= -H:=wr64 (by omega) (by omega);have e0:wrap64 (bo:Int)=bo:=wr64 (by omega) (by omega);have e3: -H-(bo:Int)=(hi:Int):=by omega
 have e2:wrap64 (-H-(bo:Int))=(hi:Int):=by rw[e3];exact wr64 (by omega) (by omega)
 clear hl e3
 rotate_left
 rw[if_neg hneg];obtain⟨M,hc⟩:=lt_ S.natAbs;have hd:S=(M:Int):=by omega
 rw[hc] at hhi hlo;rw[hd] at hH hy;obtain⟨w1,w2⟩:=pos_words hH hy hhi hlo;clear hc hd hH hy hhi hlo hneg;subst w2;subst w1;have hj:(decide ((hi:Int)<0))=false:=by simp
 all_goals
  by_cases hup:n-r<=r
  have h5:(decide ((n:Int)-(r:Int)<=(r:Int)))=true:=decide_eq_true (by omega);have h6:=hf hup;obtain⟨Q,hQ⟩:∃ Q:Int,Q=(q:Int)+1:=⟨_,rfl⟩
  have k4:Q9.wrap ((q:Int)+1)=Q:=by rw[hQ];exact wuq1 q h6
  have k5:wrap64 Q=Q:=by rw[hQ];exact wrq1 q h6
  have k6:wrap64 (-Q)= -Q:=by rw[hQ];exact wrn1 q h6
  rw[if_pos hup];rw[show (((q+1:Nat):Int))=Q from hQ.symm];clear hQ h6
  rotate_left
  have h5:(decide ((n:Int)-(r:Int)<=(r:Int)))=false:=decide_eq_false (by omega);have k5:wrap64 (q:Int)=(q:Int):=wrq q hh;have k6:wrap64 (-(q:Int))= -(q:Int):=wrn q hh;rw[if_neg hup];all_goals
   clear hup hf hp ho hs hh hn;go_enter func237,ntmps237;go_wp2_with(first|(go_at_call 232;refine mB (HS.out _ bel) ?_;intro l2 q2)|(go_at_call 304;refine mB (HD.out _) ?_;intro l2 q2))
   all_goals(go_returns;exact⟨(by first|rfl|exact congrArg (fun z=>Ending.returned (Value.int .i64 z)) k6|exact congrArg (fun z=>Ending.returned (Value.int .i64 z)) k5),bel⟩)
def catL (ss:List ByteArray):List UInt8:=ss.flatMap fun s=>s.data.toList
theorem concat_told (text:Nat):∀ (ss:List ByteArray) (acc:List UInt8),zBO text ss acc=toldX text ⟨(acc++catL ss).toArray⟩
 | [],acc=>by rw[zBO,catL,List.flatMap_nil,QM]
 | s::r,acc=>by
   have hs:s.data.toList.length=s.size:=zAe s;have e:acc++catL (s::r)=acc++s.data.toList++catL r:=by simp[catL]
   rw[zBO,e];split
   ·rename_i h;unfold toldX;rw[size_mk,if_pos (by rw[Q3,Q3,hs];omega)]
   ·exact concat_told text r _
theorem rept_told (text:Nat) (s:ByteArray) (n:Nat):reptX text s n=toldX text (repL s n):=by
 unfold reptX;rw[if_neg (by omega)];by_cases h0:s.data.toList=[]∨(n:Int)=0
 ·rw[if_pos h0]
  congr 1
  unfold repL;rcases h0 with h0|h0
  ·rw[h0,Lib.repeatL_nil]
  ·rw[show n=0 by omega];rfl
 ·rw[if_neg h0,QY];have hs:s.data.toList.length=s.size:=zAe s;have hp:0<s.size:=by
   rcases QX s.size with h|h
   ·exact absurd (.inl (QG (by omega))) h0
   ·exact h
  split
  ·rename_i h;unfold toldX repL;have h2:text / s.size<n:=by omega
   rw[Nat.div_lt_iff_lt_mul hp] at h2;rw[size_mk,Lib.repeatL_length,hs,if_pos (by omega)]
  ·rfl
theorem drop_data (t:ByteArray) (k:Nat):(t.extract k t.size).data.toList=t.data.toList.drop k:=by
 rw[Lib.extract_data,QU];rw[Q7,zAe];exact QD _
theorem noOcc_drop {t s:List UInt8} {a i:Nat} (h:∀ j,a<=j->j<i->Lib.occAt t s j=false):Lib.NoOcc (t.drop a) s (i-a):=by
 intro j hj;have:=h (a+j) (by omega) (by omega);unfold Lib.occAt at this ⊢;rw[QR];exact this
theorem place_hit {s t:ByteArray} {n:Int} {a i:Nat} (hn:n=(a:Int)+1) (ha:a<=i) (hi:i<=t.size) (h:∀ j,a<=j->j<i->Lib.occAt t.data.toList s.data.toList j=false) (ho:Lib.occAt t.data.toList s.data.toList i=true):placeX s t n=wholeT ((i+1:Nat):Int):=by
 have hz:(n-1).toNat=a:=by omega
 have hx:Lib.index (t.data.toList.drop a) s.data.toList=((i-a:Nat):Int):=by
  refine Lib.index_hit (noOcc_drop h) (by rw[Q7,zAe];omega) ?_;unfold Lib.occAt at ho ⊢;rw[QR,show a+(i-a)=i by omega];exact ho
 unfold placeX;rw[if_neg (by omega),if_neg (by omega),hz,drop_data,hx,if_neg (by omega)]
 congr 1
 omega
theorem place_past {s t:ByteArray} {n:Int} {a:Nat} (hn:n=(a:Int)+1) (ha:t.size<a):placeX s t n=errG 6:=by
 unfold placeX;rw[if_neg (by omega),if_pos (by omega)]
theorem place_miss {s t:ByteArray} {n:Int} {a:Nat} (hn:n=(a:Int)+1) (h:∀ j,a<=j->j<t.size+1->Lib.occAt t.data.toList s.data.toList j=false):placeX s t n=errG 6:=by
 by_cases ha:t.size<a
 ·exact place_past hn ha
 ·have hz:(n-1).toNat=a:=by omega
  have hx:Lib.index (t.data.toList.drop a) s.data.toList= -1:=by
   refine Lib.index_none fun j hj=> ?_;rw[Q7,zAe] at hj;exact noOcc_drop h j (by omega)
  unfold placeX;rw[if_neg (by omega),if_neg (by omega),hz,drop_data,hx,if_pos (by decide)]
def fullS (t u:List UInt8):Nat->List UInt8->List UInt8
 | 0,l=>l
 | _+1,[]=>[]
 | f+1,c::r=>if t.isPrefixOf (c::r) then u++fullS t u f ((c::r).drop t.length) else c::fullS t u f r
theorem full_fuel {t u:List UInt8} (ht:t≠[]):∀ (f g:Nat) (l:List UInt8),l.length<=f->l.length<=g->fullS t u f l=fullS t u g l
 | 0,0,l,_,_=>rfl
 | 0,g+1,l,h,_=>by
   have:l=[]:=QG (by omega);subst this;rfl
 | f+1,0,l,_,h=>by
   have:l=[]:=QG (by omega);subst this;rfl
 | f+1,g+1,[],_,_=>rfl
 | f+1,g+1,c::r,h1,h2=>by
   have hp:0<t.length:=QE.2 ht;rw[Q5] at h1 h2;rw[fullS,fullS,full_fuel ht f g _ (by rw[Q7,Q5];omega) (by rw[Q7,Q5];omega),full_fuel ht f g r (by omega) (by omega)]
def fullX (t u l:List UInt8):List UInt8:=fullS t u l.length l
theorem full_hit {t u l:List UInt8} (ht:t≠[]) (hl:l≠[]) (h:t.isPrefixOf l=true):fullX t u l=u++fullX t u (l.drop t.length):=by
 cases l with
 | nil=>exact absurd rfl hl
 | cons c r =>
   unfold fullX;have hp:0<t.length:=QE.2 ht;rw[Q5,fullS,if_pos h,full_fuel ht r.length _ _ (by rw[Q7,Q5];omega) (QD _)]
theorem full_miss {t u:List UInt8} {c:UInt8} {r:List UInt8} (h:t.isPrefixOf (c::r)=false):fullX t u (c::r)=c::fullX t u r:=by
 unfold fullX;rw[Q5,fullS,if_neg (by rw[h];decide)]
theorem full_skip {t u:List UInt8} :∀ (i:Nat) (l:List UInt8),i<=l.length->(∀ j,j<i->Lib.occAt l t j=false)->fullX t u l=l.take i++fullX t u (l.drop i)
 | 0,l,_,_=>rfl
 | i+1,[],h,_=>absurd h (by simp)
 | i+1,c::r,h,hn=>by
   have h0:t.isPrefixOf (c::r)=false:=hn 0 (by omega);rw[full_miss h0,QQ,List.drop_succ_cons,QK,full_skip i r (by simpa using h) (fun j hj=>hn (j+1) (by omega))]
theorem told_long {text:Nat} {l:List UInt8} (h:text<l.length):toldX text ⟨l.toArray⟩=errG 7:=by
 unfold toldX;rw[size_mk,if_pos (by omega)]
theorem subst_told {text:Nat} {t u:List UInt8} (ht:t≠[]):∀ (f:Nat) (l acc:List UInt8),l.length<f->substGo text t u f l acc=toldX text ⟨(acc++fullX t u l).toArray⟩
 | 0,l,acc,h=>absurd h (Nat.not_lt_zero _)
 | f+1,l,acc,h=>by
   have hp:0<t.length:=QE.2 ht;rw[substGo];rcases Lib.index_spec l t with ⟨h1,h2⟩|⟨i,h1,h2,h3,h4⟩
   ·have hc:Lib.cut l t=(l,[],false):=by unfold Lib.cut;rw[h1,if_neg (by decide)]
    have hf:fullX t u l=l:=by
     rw[full_skip l.length l (QD _) (fun j hj=>h2 j (by omega)),List.take_length,List.drop_length];show l++[]=l;exact QM l
    rw[hc,hf];dsimp only;rw[if_pos rfl];split
    ·rw[told_long (by rw[Q3];assumption)]
    ·rfl
   ·have hr:=Lib.index_room l t (by omega);have hc:Lib.cut l t=(l.take i,l.drop (i+t.length),true):=by unfold Lib.cut;rw[h1,if_pos (by omega)];rfl
    have ha:l.drop i≠[]:=fun e=>by
     have:=congrArg Qb e;rw[Q7,List.length_nil] at this;omega
    have hf:fullX t u l=l.take i++(u++fullX t u (l.drop (i+t.length))):=by
     rw[full_skip i l h2 h4,full_hit ht ha h3,QR]
    rw[hc,hf];dsimp only;rw[if_neg (show ¬ true=false by decide),subst_told ht f _ _ (by rw[Q7];omega)];simp only[QH];split
    ·rw[told_long (by simp only[Q3] at *;omega)]
    ·split
     ·rw[told_long (by simp only[Q3] at *;omega)]
     ·rfl
def tr0:Bool->List UInt8->List UInt8
 | _,[]=>[]
 | false,c::r=>if c=32 then tr0 false r else c::tr0 true r
 | true,c::r=>if c=32 then (if tr0 false r=[] then [] else 32::tr0 false r) else c::tr0 true r
theorem tr_none:∀ {l:List UInt8} (b:Bool),(∀ x∈l,¬ x=32)->tr0 b l=l
 | [],b,_=>by cases b<;>rfl
 | c::r,b,h=>by
   have hc:=h c QN;have ih:=tr_none true fun x hx=>h x (QI _ hx);cases b<;>rw[tr0,if_neg hc,ih]
theorem tr_skip:∀ {a:List UInt8} (r:List UInt8),(∀ x∈a,¬ x=32)->tr0 true (a++r)=a++tr0 true r
 | [],r,_=>rfl
 | c::a,r,h=>by
   rw[QK,tr0,if_neg (h c QN),tr_skip r fun x hx=>h x (QI _ hx),QK]
theorem tr_head {a:List UInt8} (ha:a≠[]) (r:List UInt8) (h:∀ x∈a,¬ x=32):tr0 false (a++r)=a++tr0 true r:=by
 cases a with
 | nil=>exact absurd rfl ha
 | cons c a=>rw[QK,tr0,if_neg (h c QN),tr_skip r fun x hx=>h x (QI _ hx),QK]
theorem tr_space:∀ {l:List UInt8},(tr0 false l=[] ↔ l.all (· ==32)=true)
 | []=>by simp[tr0]
 | c::r=>by
   by_cases hc:c=32
   ·rw[tr0,if_pos hc,tr_space,QP];simp[hc]
   ·rw[tr0,if_neg hc,QP];simp[hc]
theorem index_sp:∀ l:List UInt8,(Lib.index l [32]= -1/\∀ x∈l,¬ x=32)∨∃ i:Nat,Lib.index l [32]=i/\l[i]? =some 32/\∀ x∈l.take i,¬ x=32
 | []=>.inl ⟨rfl,fun x hx=>by cases hx⟩
 | c::l=>by
   by_cases hc:c=32
   ·subst hc;exact .inr ⟨0,rfl,rfl,fun x hx=>by cases hx⟩
   ·have hp:([32]:List UInt8).isPrefixOf (c::l)=false:=by
     simp only[List.isPrefixOf,Bool.and_true,beq_eq_false_iff_ne,ne_eq];exact fun e=>hc e.symm
    rcases index_sp l with ⟨h1,h2⟩|⟨i,h1,h2,h3⟩
    ·refine .inl ⟨?_,fun x hx=> ?_⟩
     ·rw[Lib.index,hp,h1];rfl
     ·rcases List.mem_cons.1 hx with rfl|hx
      ·exact hc
      ·exact h2 x hx
    ·refine .inr ⟨i+1,?_,by rw[List.getElem?_cons_succ];exact h2,fun x hx=> ?_⟩
     ·rw[Lib.index,hp,h1,if_neg (by decide),if_neg (by simp)];rfl
     ·rw[QQ] at hx;rcases List.mem_cons.1 hx with rfl|hx
      ·exact hc
      ·exact h3 x hx
def words (f:Nat) (l:List UInt8):List (List UInt8):=(splitGo f l).filter fun x=> !x.isEmpty
theorem words_ne {f:Nat} {l x:List UInt8} (h:x∈words f l):x≠[]:=by
 unfold words at h;have:=(List.mem_filter.1 h).2;intro e;subst e;simp at this
theorem join_ne {ws:List (List UInt8)} (h:∀ x∈ws,x≠[]):Lib.join ws [32]=[] ↔ ws=[]:=by
 cases ws with
 | nil=>simp[Lib.join_nil]
 | cons x r =>
   have hx:=h x QN;rw[Lib.join_cons];constructor
   ·intro e;exact absurd (List.append_eq_nil_iff.1 e).1 hx
   ·intro e;cases e
theorem join_two (x:List UInt8) (ws:List (List UInt8)) (h:ws≠[]):Lib.join (x::ws) [32]=x++32::Lib.join ws [32]:=by
 cases ws with
 | nil=>exact absurd rfl h
 | cons y r =>
   unfold Lib.join List.intercalate;simp
theorem words_join:∀ (f:Nat) (l:List UInt8),l.length<f->Lib.join (words f l) [32]=tr0 false l
 | 0,l,h=>absurd h (Nat.not_lt_zero _)
 | f+1,l,h=>by
   rcases index_sp l with ⟨h1,h2⟩|⟨i,h1,h2,h3⟩
   ·rw[tr_none false h2];unfold words;rw[splitGo,h1,if_pos (by decide)];cases l with
    | nil=>rfl
    | cons c r=>exact Lib.join_one _ _
   ·have hi:i<l.length:=(QB.1 h2).1;have ih:=words_join f (l.drop (i+1)) (by rw[Q7];omega);have hl:l=l.take i++32::l.drop (i+1):=by
     conv=>lhs;rw[<- List.take_append_drop i l]
     congr 1
     rw[QL hi]
     congr 1
     exact(QB.1 h2).2
    have hw:words (f+1) l=(if (l.take i).isEmpty then [] else [l.take i])++words f (l.drop (i+1)):=by
     unfold words;rw[splitGo,h1,if_neg (by omega),QY,Qa];cases (l.take i).isEmpty<;>simp
    have hc:= @words_ne f (l.drop (i+1))
    conv=>rhs;rw[hl]
    rw[hw];obtain⟨a,ha⟩:=lt_ (l.take i);obtain⟨b,hb⟩:=lt_ (l.drop (i+1));rw[ha] at h3;rw[hb] at ih hc;rw[ha,hb];by_cases hae:a=[]
    ·subst hae;show Lib.join ([]++words f b) [32]=tr0 false (32::b);rw[List.nil_append,ih,tr0,if_pos rfl]
    ·rw[tr_head hae _ h3,tr0,if_pos rfl,if_neg (by simpa using hae)];by_cases hwe:words f b=[]
     ·have:tr0 false b=[]:=by rw[<- ih,hwe];rfl
      rw[if_pos this,hwe,QM,QM];exact Lib.join_one _ _
     ·have: ¬ tr0 false b=[]:=by rw[<- ih];exact fun e=>hwe ((join_ne fun x hx=>hc hx).1 e)
      rw[if_neg this,<-ih];exact join_two a _ hwe
theorem trim_tr (s:ByteArray):trimX s=⟨(tr0 false s.data.toList).toArray⟩:=by
 unfold trimX;rw[<- words_join (s.data.toList.length+1) _ (Nat.lt_succ_self _)]
 congr 3
 unfold wordsOf splitX words;rw[List.filter_map,List.map_map];have e1:((fun x:ByteArray=>x.data.toList) ∘ fun x:List UInt8=>(⟨x.toArray⟩:ByteArray))=id:=by funext x;rfl
 rw[e1,List.map_id]
 congr 1
 funext x
 simp only[Function.comp];rw[ByteArray.toList_eq]
def trGo (acc:List UInt8) (c:UInt8) (r:List UInt8):List UInt8:=if ¬ c=32∨((c::r).any (· != 32)=true/\acc≠[]/\¬ acc.getLastD 32=32) then acc++[c] else acc
def trIn (acc:List UInt8):Bool:= !acc.isEmpty&&(acc.getLastD 32 != 32)
theorem trIn_snoc (acc:List UInt8) (c:UInt8):trIn (acc++[c])=(c != 32):=by
 unfold trIn;simp
theorem tr_step (acc:List UInt8) (c:UInt8) (r:List UInt8):trGo acc c r++tr0 (trIn (trGo acc c r)) r=acc++tr0 (trIn acc) (c::r):=by
 have hb:((c::r).any (· != 32)=true) ↔ ¬ ((c::r).all (· ==32)=true):=by
  rw[List.any_eq_true,List.all_eq_true];constructor
  ·rintro⟨x,hx,h⟩ h2;have:=h2 x hx
   simp_all
  ·intro h;simp only[Classical.not_forall] at h;obtain⟨x,hx,h⟩:=h;exact⟨x,hx,by simp_all⟩
 unfold trGo;by_cases hc:c=32
 ·subst hc;by_cases hi:trIn acc=true
  ·have he:acc≠[]/\¬ acc.getLastD 32=32:=by unfold trIn at hi;simpa using hi
   rw[hi];by_cases hs:tr0 false r=[]
   ·have ha:(32::r).all (· ==32)=true:=by rw[QP,tr_space.1 hs];rfl
    rw[if_neg (fun h=>h.elim (fun h=>h rfl) fun h=>hb.1 h.1 ha),hi,tr0,if_pos rfl,if_pos hs];have:r.all (· ==32)=true:=tr_space.1 hs
    congr 1
    clear hb ha hs;cases r with
    | nil=>rfl
    | cons d r =>
      rw[QP,QJ] at this;have hd:d=32:=by simpa using this.1
      rw[tr0,if_pos hd,if_pos (tr_space.2 this.2)]
   ·have ha: ¬ (32::r).all (· ==32)=true:=by
     rw[QP];intro h;rw[QJ] at h;exact hs (tr_space.2 h.2)
    rw[if_pos (.inr ⟨hb.2 ha,he⟩),trIn_snoc,tr0,if_pos rfl,if_neg hs];simp
  ·have he: ¬ (acc≠[]/\¬ acc.getLastD 32=32):=by unfold trIn at hi;simpa using hi
   have hf:trIn acc=false:=by simpa using hi
   rw[if_neg (fun h=>h.elim (fun h=>h rfl) fun h=>he h.2),hf,tr0,if_pos rfl]
 ·rw[if_pos (.inl hc),trIn_snoc];have h1:(c != 32)=true:=by simpa using hc
  rw[h1];cases trIn acc;all_goals rw[tr0,if_neg hc];all_goals simp
theorem zBe (s:ByteArray) (text:Int) (w:World):Rt 45 #[.string s,.int .i64 text] w (vG (toldX text s)):=by
 unfold toldX;by_cases h:text<s.size
 ·rw[if_pos h];go_enter func45,ntmps45;go_wp2_with(go_at_call 22;refine mB (zA6 _ _) ?_;intro l n)
  all_goals(go_returns;exact rb_)
 ·rw[if_neg h];go_enter func45,ntmps45;go_wp2_with(go_at_call 106;refine mB (r2_Txt _ _) ?_;intro l n)
  all_goals(go_returns;exact rb_)
theorem wrap_64 (x:Int):Is64 (QA.wrap x):=by
 rw[Q8];unfold Is64;omega
theorem r9_whole (n:Int) (w:World):Rt 109 #[.int .i64 n] w (vG (wholeT n)):=by
 have HN:=zh (zAw (QA.wrap (n*10000)) (wrap_64 _));unfold wholeT;obtain⟨z,hz⟩:=lt_ (QA.wrap (n*10000));rw[hz] at HN ⊢;go_enter func109,ntmps109;go_wp2_with(go_at_call 39;refine mB (HN.out _) ?_;intro l m)
 all_goals(go_returns;exact rb_)
theorem stands_eq (s t:ByteArray) (i:Nat) (h:i+t.size<=s.size):((s.extract i (i+t.size)).toList==t.toList)=Lib.occAt s.data.toList t.data.toList i:=by
 rw[Lib.occAt_iff_take _ _ _ (by rw[zAe,zAe];exact h),Lib.extract_toList,Lib.toList_data,zAe]
 congr 2
 omega
theorem stands_not (s t:ByteArray) (i:Nat) (hi:i<=s.size) (h: ¬ i+t.size<=s.size):Lib.occAt s.data.toList t.data.toList i=false:=by
 cases ho:Lib.occAt s.data.toList t.data.toList i with
 | false=>rfl
 | true =>
   exfalso;rcases Lib.occAt_room ho with h1|h1
   ·rw[zAe,zAe] at h1;exact h h1
   ·have:=zAe t;rw[h1] at this;simp at this;omega
theorem r9_stands (s t:ByteArray) (i:Nat) (hi:i<=s.size) (hs:s.size<=1000000000000) (ht:t.size<=1000000000000) (w:World):Calls prog 108 #[.string s,.int .i64 (i:Int),.string t] w fun e w'=>e=.returned (.bool (Lib.occAt s.data.toList t.data.toList i))/\w'=w:=by
 by_cases h:i+t.size<=s.size
 ·have hq:=stands_eq s t i h;obtain⟨R,hR⟩:=lt_ (Lib.occAt s.data.toList t.data.toList i);rw[hR] at hq ⊢;obtain⟨m,hm⟩:=lt_ (i+t.size);rw[hm] at hq h;have w1:QA.wrap ((i:Int)+(t.size:Int))=(m:Int):=by rw[Q8];omega
  have hI:(m:Int)<=(s.size:Int):=by omega
  have him:(i:Int)<=(m:Int):=by omega
  have hiN:i<=m:=by omega
  clear hm hR;go_enter func108,ntmps108;go_wp2;all_goals go_ret;all_goals exact⟨by first|rfl|rw[<- hq]|simp[hq],rfl⟩
 ·rw[stands_not s t i hi h];obtain⟨m,hm⟩:=lt_ (i+t.size);rw[hm] at h;have w1:QA.wrap ((i:Int)+(t.size:Int))=(m:Int):=by rw[Q8];omega
  have hI: ¬ (m:Int)<=(s.size:Int):=by omega
  clear hm;go_enter func108,ntmps108;go_wp2;all_goals go_ret;all_goals exact⟨rfl,rfl⟩
abbrev bs (l:List UInt8):ByteArray:=⟨l.toArray⟩
theorem zBa (s:ByteArray):bs s.data.toList=s:=by cases s;simp
theorem bs_add (a b:List UInt8):bs a++bs b=bs (a++b):=by
 apply ByteArray.ext;simp[ByteArray.data_append]
theorem bs_at (l:List UInt8) {i:Nat} {c:UInt8} (h:l[i]? =some c):(bs l).extract i (i+1)=bs [c]:=by
 apply ByteArray.ext;simp only[ByteArray.data_extract,List.extract_toArray,List.extract_eq_take_drop];obtain⟨hi,rfl⟩:=QB.1 h;rw[show i+1-i=1 by omega,QL hi]
 rfl
theorem zAu (l:List UInt8):(bs l).size=l.length:=List.size_toArray
theorem r9_turned (s:ByteArray) (hs:s.size<=1000000000000) (w:World):Calls prog 112 #[.string s] w fun e w'=>e=.returned (.string (revX s))/\w'=w:=by
 obtain⟨l,rfl⟩:∃ l,s=bs l:=⟨s.data.toList,(zBa s).symm⟩
 rw[zAu] at hs;show Calls _ _ _ _ fun e w'=>e=.returned (.string (bs l.reverse))/\w'=w;obtain⟨n,hn⟩:=lt_ l.length;rw[hn] at hs;have HN:=zh hn;have hz:(bs l).size=n:=by rw[zAu,hn]
 have HZ:=zh hz;obtain⟨b,hb⟩:=lt_ (bs l);rw[hb] at hz HZ ⊢;have HB:=zh hb;clear hn hb;go_enter func112,ntmps112;go_wp2
 go_loop [3,4] (fun v t=>∃ i:Nat,i<=n/\t=.int .i64 (i:Int)/\v=.string (bs (l.take i).reverse)) (fun _ t=>n-(intOf t).toNat)
 case atStart=>exact⟨0,QV _,rfl,rfl⟩
 case round =>
  obtain⟨i,hi,rfl,rfl⟩:=hrel;by_cases hlt:i<n
  ·obtain⟨c,hc⟩:∃ c,l[i]? =some c:=⟨_,QC (show i<l.length by rw[HN.out];exact hlt)⟩
   have hx:b.extract i (i+1)=bs [c]:=by rw[<- HB.out];exact bs_at l hc
   have hq:bs (l.take (i+1)).reverse=bs [c]++bs (l.take i).reverse:=by rw[zAJ hc,List.reverse_append,bs_add];rfl
   have ha:(i:Int)<(n:Int):=by omega
   have wi:QA.wrap ((i:Int)+1)=((i+1:Nat):Int):=by rw[Q8];omega
   have sz1:(bs [c]).size=1:=rfl;have sz2:(bs (l.take i).reverse).size<=1000000000000:=by rw[zAu,List.length_reverse,QZ];omega
   obtain⟨v,hv⟩:=lt_ (bs (l.take i).reverse);obtain⟨u,hu⟩:=lt_ (bs [c]);rw[hv] at hq sz2 ⊢;rw[hu] at hq hx sz1;have HQ:=zh hq;clear hc hq hv hu;go_wp2;go_round;case rel=>exact⟨i+1,by omega,rfl,by rw[HQ.out]⟩
   case measure=>simp[intOf];omega
  ·obtain rfl:i=n:=by omega
   have ha: ¬ (i:Int)<(i:Int):=by omega
   rw[QU (Nat.le_of_eq HN.out)];go_wp2;all_goals go_ret;all_goals exact⟨rfl,rfl⟩
theorem conv_one {W:World} {b:Nat} {m:Nat} (hm:m<256) (h:W.cell? ⟨b,0,none⟩=some (.int .u8 (m:Int))):(convert 98 9 (.slice (some ⟨b,0,none⟩) 1 1)).run prog W=.ok (.string (bs [Q4 m])) W:=by
 refine run_convert_bytes_back W _ _ 5 ⟨b,0,none⟩ 1 [Q4 m] underlying98 underlying5 underlying9 (fun j hj=> ?_);have ha:j=0:=by simpa using hj
 subst ha;have e:(⟨b,0,none⟩:Addr).add 0=⟨b,0,none⟩:=by unfold Addr.add;split<;>simp_all
 rw[e,h];show some (Value.int .u8 (m:Int))=some (Value.int .u8 (((Q4 m).toNat:Nat):Int));rw[UInt8.toNat_ofNat_of_lt' hm]
theorem w8_small {m:Nat} (h:m<256):IntKind.u8.wrap (m:Int)=(m:Int):=by rw[IntKind.wrap_u8];omega
theorem r1_decimal (n:Nat) (hn:n<18446744073709551616) (w:World):Rt 165 #[.int .u64 (n:Int)] w (.string (bs (Lib.decDigits n))):=by
 induction n using Nat.strongRecOn generalizing w with
 | ind n ih =>
   by_cases h10:n<10
   ·rw[dec_step,if_pos h10];obtain⟨d,hd⟩:=lt_ (48+n);have hI:(n:Int)<10:=by omega
    have hb:d<256:=by omega
    have hc:=fun (W:World) (b:Nat)=> @conv_one W b d hb;rw[hd];have bd:d<18446744073709551616:=by omega
    have w1:Q9.wrap (48+(n:Int))=(d:Int):=by rw[QF];omega
    have w2:=w8_small hb;clear ih hn hd bd;go_enter func165,ntmps165;go_wp2;all_goals go_ret;all_goals exact rb_
   ·rw[dec_step,if_neg h10];have IH:=zh (fun w=>ih (n / 10) (by omega) (by omega) w);obtain⟨q,hq⟩:=lt_ (n / 10);obtain⟨r,hr⟩:=lt_ (n % 10);obtain⟨d,hd⟩:=lt_ (48+r);rw[hq] at IH;have hI: ¬ (n:Int)<10:=by omega
    have hb:d<256:=by omega
    have hc:=fun (W:World) (b:Nat)=> @conv_one W b d hb;rw[hq,hr,hd];have bq:q<18446744073709551616:=by omega
    have br:r<18446744073709551616:=by omega
    have d1:(n:Int) / 10=(q:Int):=by omega
    have d2:(n:Int) % 10=(r:Int):=by omega
    have d3:(n:Int).tdiv 10=(q:Int):=zAt hq;have d4:(n:Int).tmod 10=(r:Int):=tmod_nat hr;have hl:(bs (Lib.decDigits q)).size<=20:=numS_le q bq;have he:(bs [Q4 d]).size=1:=rfl;have ha:bs (Lib.decDigits q++[Q4 d])=bs (Lib.decDigits q)++bs [Q4 d]:=(bs_add _ _).symm;rw[ha];obtain⟨u,hu⟩:=lt_ (bs (Lib.decDigits q));obtain⟨v,hv⟩:=lt_ (bs [Q4 d]);rw[hu] at IH hl;rw[hv] at he hc;rw[hu,hv];have w1:Q9.wrap (48+(r:Int))=(d:Int):=by rw[QF];omega
    have w2:=w8_small hb;have w3:=zAH bq;have w4:=zAH br;clear ih hn hd bq br hq hr ha hu hv h10;go_enter func165,ntmps165;go_wp2;go_region_with (first|(go_at_call 165;refine mB (IH.out _) ?_;intro l1 q1))
    all_goals go_wp2;all_goals go_ret;all_goals exact rb_
def FracAt (T acc:List UInt8) (r:Nat):Prop:=∃ f,acc++fracD f r=T/\r<10000/\f<=4/\r % 10 ^ (4-f)=0
theorem frac_step {T acc:List UInt8} {r:Nat} (h:FracAt T acc r) (h0: ¬ r=0):FracAt T (acc++[Q4 (48+r / 1000)]) (r % 1000*10):=by
 obtain⟨f,h1,h2,h3,h4⟩:=h;cases f with
 | zero =>
   exfalso;simp only[Nat.sub_zero] at h4;omega
 | succ f =>
   refine⟨f,?_,by omega,by omega,?_⟩
   ·rw[<- h1,fracD,if_neg h0,QH]
    rfl
   ·have hf:f=0∨f=1∨f=2∨f=3:=by omega
    rcases hf with rfl|rfl|rfl|rfl<;>simp at h4 ⊢ <;>omega
theorem frac_done {T acc:List UInt8} {r:Nat} (h:FracAt T acc r) (h0:r=0):acc=T:=by
 obtain⟨f,h1,_⟩:=h;subst h0;rw[<- h1];cases f<;>simp[fracD]
theorem frac_start {acc:List UInt8} {r:Nat} (h:r<10000):FracAt (acc++fracD 4 r) acc r:=⟨4,rfl,h,QD _,by simp;omega⟩
theorem fracD_le (f r:Nat):(fracD f r).length<=f:=by
 induction f generalizing r with
 | zero=>simp[fracD]
 | succ f ih =>
   unfold fracD;split
   ·simp
   ·have:=ih (r % 1000*10);simp only[Q5];omega
theorem r1_Print (x:Int) (hx:Is64 x) (w:World):Rt 105 #[.int .i64 x] w (.string (printS x)):=by
 by_cases h1:x=minI
 ·rw[show printS x=⟨#[]⟩ from if_pos h1];have k1:decide ((-9223372036854775807:Int)<=x)=false:=decide_eq_false (by unfold minI at h1;omega);clear h1 hx;go_enter func105,ntmps105;go_wp2_with(go_at_call 95;refine(zAL _ _).mono ?_;rintro e w1 ⟨rfl,h⟩;obtain rfl:=h.symm;clear h)
  all_goals go_ret;all_goals exact rb_
 ·have i1:=in63_of hx h1;have k1:decide ((-9223372036854775807:Int)<=x)=true:=decide_eq_true i1.1;have HZ:=zh (r1_size x hx);have hb:x.natAbs<18446744073709551616:=by unfold In63 at i1;omega
  have es:printS x=if x.natAbs % 10000=0 then headS x else headS x++((⟨#[46]⟩:ByteArray)++fracS (x.natAbs % 10000)):=if_neg h1;have eh:headS x=if lowX x then (⟨#[45]⟩:ByteArray)++bs (Lib.decDigits (x.natAbs / 10000)) else bs (Lib.decDigits (x.natAbs / 10000)):=by
   unfold headS lowX;by_cases h:x<0
   ·rw[if_pos h,if_pos (by simpa using h)];rfl
   ·rw[if_neg h,if_neg (by simpa using h)];rfl
  obtain⟨n,hn⟩:=lt_ x.natAbs;obtain⟨low,he⟩:=lt_ (lowX x);rw[hn,he] at HZ;rw[hn] at es hb;rw[hn,he] at eh;obtain⟨q,hq⟩:=lt_ (n / 10000);obtain⟨r,hr⟩:=lt_ (n % 10000);rw[hq] at eh;rw[hr] at es;have bq:q<18446744073709551616:=by omega
  have br:r<10000:=by omega
  have HD:=zh (fun w=>r1_decimal q bq w);have hl:(bs (Lib.decDigits q)).size<=20:=numS_le q bq;have d1:(n:Int) / 10000=(q:Int):=by omega
  have d2:(n:Int) % 10000=(r:Int):=by omega
  have d3:(n:Int).tdiv 10000=(q:Int):=zAt hq;have d4:(n:Int).tmod 10000=(r:Int):=tmod_nat hr;obtain⟨H,hH⟩:∃ H,headS x=bs H/\H.length<=21:=by
   rw[zAu] at hl;cases low
   ·exact⟨_,by rw[eh,if_neg (by decide)],by omega⟩
   ·exact⟨45::Lib.decDigits q,by rw[eh,if_pos rfl];exact bs_add [45] _,by rw[Q5];omega⟩
  obtain⟨hH,hC⟩:=hH;rw[hH] at eh es;have HE:=zh eh.symm;have w1:=zAH bq;have w2:Q9.wrap (r:Int)=(r:Int):=zAH (by omega);obtain⟨u,hu⟩:=lt_ (bs (Lib.decDigits q));rw[hu] at HD hl HE;by_cases h0:r=0
  ·rw[if_pos h0] at es;rw[es];have hh:(r:Int)=0:=by omega
   subst h0;clear es eh hH hC hu hq hr hn he hb bq br i1 hx h1 hh;cases low;all_goals go_enter func105,ntmps105;all_goals go_wp2_with(first|(go_at_call 95;refine(zAL _ _).mono ?_;rintro e w1 ⟨rfl,h⟩;obtain rfl:=h.symm;clear h)|(go_at_call 159;refine(HZ.out _).mono ?_;rintro e w1 ⟨rfl,h⟩;obtain rfl:=h.symm;clear h)|(go_at_call 165;refine mB (HD.out _) ?_;intro l1 q1))
   all_goals go_ret;all_goals exact⟨by rw[<- HE.out];rfl,bel⟩
  ·rw[if_neg h0] at es;have hh: ¬ (r:Int)=0:=by omega
   have hT:bs H++((⟨#[46]⟩:ByteArray)++fracS r)=bs (H++[46]++fracD 4 r):=by
    rw[<- zBa (fracS r),frac_of r br];show bs H++(bs [46]++bs (fracD 4 r))=_;rw[bs_add,bs_add,QH]
   rw[es,hT];have HS:=zh (frac_start (acc:=H++[46]) br);obtain⟨T,hp⟩:=lt_ (H++[46]++fracD 4 r);rw[hp] at HS ⊢;have hy:=zh (show T.length<=30 by have:=fracD_le 4 r;rw[<- hp,Q3,Q3];simp;omega);have HB:=zh (show bs (H++[46])=bs H++bs [46] from (bs_add _ _).symm);clear es eh hH hu hq hr hn he hb bq i1 hx h1 hT hp;cases low;all_goals go_enter func105,ntmps105;all_goals go_wp2_with(first|(go_at_call 95;refine(zAL _ _).mono ?_;rintro e w1 ⟨rfl,h⟩;obtain rfl:=h.symm;clear h)|(go_at_call 159;refine(HZ.out _).mono ?_;rintro e w1 ⟨rfl,h⟩;obtain rfl:=h.symm;clear h)|(go_at_call 165;refine mB (HD.out _) ?_;intro l1 q1))
   ·go_loopw [5,6] (fun v t wr=>∃ (acc:List UInt8) (r:Nat),v=.string (bs acc)/\t=.int .u64 (r:Int)/\r<10000/\acc.length<=30/\RowKit.Hid (FracAt T acc r)/\Below w.heap.size w wr) (fun v _ _=>40-(strLen v))
    case atStart=>exact⟨H++[46],r,by rw[HB.out,<-HE.out];rfl,rfl,br,by rw[Q3];simp;omega,HS,zAf (QD _)⟩
    case round =>
     obtain⟨acc,r,rfl,rfl,br,hi,hF,hB⟩:=hrel;have hD:=hB.size;clear w2 d2 d4 hh;by_cases h0:r=0
     ·rw[frac_done hF.out h0];subst h0;go_wp2;all_goals go_ret;all_goals exact⟨rfl,hB⟩
     ·have hg:=frac_step hF.out h0;obtain⟨a,ha⟩:=lt_ (r / 1000);obtain⟨b,hb⟩:=lt_ (r % 1000);obtain⟨d,hd⟩:=lt_ (48+a);rw[ha,hb,hd] at hg;have hh:(0:Int)<(r:Int):=by omega
      have hA:0<r:=by omega
      have hj:d<256:=by omega
      have hs:=fun (W:World) (b:Nat)=> @conv_one W b d hj;have e1:(r:Int) / 1000=(a:Int):=by omega
      have e2:(r:Int) % 1000=(b:Int):=by omega
      have e3:(r:Int).tdiv 1000=(a:Int):=zAt ha;have e4:(r:Int).tmod 1000=(b:Int):=tmod_nat hb;have ht:(bs [Q4 d]).size=1:=rfl;have hw:(bs acc).size<=30:=by rw[zAu];exact hi
      have HQ:=zh (show bs (acc++[Q4 d])=bs acc++bs [Q4 d] from (bs_add _ _).symm);have HA:=zh (show (acc++[Q4 d]).length<=30 by
       obtain⟨f,hf,_⟩:=hg;have h9:=congrArg Qb hf;rw[Q3] at h9;have:=hy.out;omega)
      have hm:=zh hg;have hc:(acc++[Q4 d]).length=acc.length+1:=by simp
      have hk:=zh hc;obtain⟨v,hv⟩:=lt_ (bs [Q4 d]);obtain⟨z,hz⟩:=lt_ (bs acc);have ho:=zh (show z.size=acc.length by rw[<- hz,zAu]);rw[hv] at ht hs HQ;rw[hz] at HQ hw ⊢;have ba:a<18446744073709551616:=by omega
      have bb:b<18446744073709551616:=by omega
      have bc:b*10<10000:=by omega
      have BC:=zh bc;have w3:Q9.wrap (48+(a:Int))=(d:Int):=by rw[QF];omega
      have w4:Q9.wrap ((b:Int)*10)=((b*10:Nat):Int):=by clear w3;rw[QF];omega
      have w5:=w8_small hj;have w6:=zAH ba;have w7:=zAH bb;clear hg ha hb hd ba bb hv hz bc hi hc hF;go_wp2;exact⟨⟨acc++[Q4 d],b*10,by rw[HQ.out],rfl,BC.out,HA.out,hm,bel⟩,by show 40-(z++v).size<40-z.size;have h1:=ho.out;have h2:=hk.out;have h3:=HA.out;rw[ByteArray.size_append];omega⟩
   ·go_loopw [5,6] (fun v t wr=>∃ (acc:List UInt8) (r:Nat),v=.string (bs acc)/\t=.int .u64 (r:Int)/\r<10000/\acc.length<=30/\RowKit.Hid (FracAt T acc r)/\Below w.heap.size w wr) (fun v _ _=>40-(strLen v))
    case atStart=>exact⟨H++[46],r,by rw[HB.out,<-HE.out];rfl,rfl,br,by rw[Q3];simp;omega,HS,zAf (QD _)⟩
    case round =>
     obtain⟨acc,r,rfl,rfl,br,hi,hF,hB⟩:=hrel;have hD:=hB.size;clear w2 d2 d4 hh;by_cases h0:r=0
     ·rw[frac_done hF.out h0];subst h0;go_wp2;all_goals go_ret;all_goals exact⟨rfl,hB⟩
     ·have hg:=frac_step hF.out h0;obtain⟨a,ha⟩:=lt_ (r / 1000);obtain⟨b,hb⟩:=lt_ (r % 1000);obtain⟨d,hd⟩:=lt_ (48+a);rw[ha,hb,hd] at hg;have hh:(0:Int)<(r:Int):=by omega
      have hA:0<r:=by omega
      have hj:d<256:=by omega
      have hs:=fun (W:World) (b:Nat)=> @conv_one W b d hj;have e1:(r:Int) / 1000=(a:Int):=by omega
      have e2:(r:Int) % 1000=(b:Int):=by omega
      have e3:(r:Int).tdiv 1000=(a:Int):=zAt ha;have e4:(r:Int).tmod 1000=(b:Int):=tmod_nat hb;have ht:(bs [Q4 d]).size=1:=rfl;have hw:(bs acc).size<=30:=by rw[zAu];exact hi
      have HQ:=zh (show bs (acc++[Q4 d])=bs acc++bs [Q4 d] from (bs_add _ _).symm);have HA:=zh (show (acc++[Q4 d]).length<=30 by
       obtain⟨f,hf,_⟩:=hg;have h9:=congrArg Qb hf;rw[Q3] at h9;have:=hy.out;omega)
      have hm:=zh hg;have hc:(acc++[Q4 d]).length=acc.length+1:=by simp
      have hk:=zh hc;obtain⟨v,hv⟩:=lt_ (bs [Q4 d]);obtain⟨z,hz⟩:=lt_ (bs acc);have ho:=zh (show z.size=acc.length by rw[<- hz,zAu]);rw[hv] at ht hs HQ;rw[hz] at HQ hw ⊢;have ba:a<18446744073709551616:=by omega
      have bb:b<18446744073709551616:=by omega
      have bc:b*10<10000:=by omega
      have BC:=zh bc;have w3:Q9.wrap (48+(a:Int))=(d:Int):=by rw[QF];omega
      have w4:Q9.wrap ((b:Int)*10)=((b*10:Nat):Int):=by clear w3;rw[QF];omega
      have w5:=w8_small hj;have w6:=zAH ba;have w7:=zAH bb;clear hg ha hb hd ba bb hv hz bc hi hc hF;go_wp2;exact⟨⟨acc++[Q4 d],b*10,by rw[HQ.out],rfl,BC.out,HA.out,hm,bel⟩,by show 40-(z++v).size<40-z.size;have h1:=ho.out;have h2:=hk.out;have h3:=HA.out;rw[ByteArray.size_append];omega⟩
theorem r2_AsText (v:V) (h:Is64 v.num) (w:World):Rt 44 #[(vG v)] w (.tuple #[.string (zAZ v).1,.int .i64 (zAZ v).2]):=by
 have HF:=zh (r2_fault v h.1);have HP:=zh (r1_Print v.num h);unfold zAZ;clear h;by_cases hm:mayG v=true
 rw[if_neg (by rw[hm];decide)];rw[hm,if_pos rfl] at HF;by_cases h4:v.tag=4
 rw[if_pos h4];have hc:=may_fault hm h4;rw[h4] at HF;clear hm
 rotate_left
 rw[if_neg h4];have hc:=may_code hm h4;rw[hc] at HF;by_cases h1:v.tag=1
 rw[if_pos h1];rw[h1] at HF;clear hm
 rotate_left
 rw[if_neg h1];have k1:(v.tag==1)=false:=by simpa using h1
 by_cases h3:v.tag=3
 ·rw[if_pos h3];obtain⟨is,ha⟩:=lt_ v.is;rw[h3,ha] at HF;clear hm;rw[ha];cases is;all_goals go_enter func44,ntmps44;all_goals go_wp2_with(go_at_call 91;refine mB (HF.out _) ?_;intro l1 n1)
  all_goals(go_returns;exact rb_)
 rw[if_neg h3];have k3:(v.tag==3)=false:=by simpa using h3
 clear hm
 rotate_left
 have hb:mayG v=false:=by simpa using hm
 rw[if_pos hb];rw[if_neg hm] at HF;clear hm hb;all_goals
  go_enter func44,ntmps44;go_wp2_with(first|(go_at_call 91;refine mB (HF.out _) ?_;intro l1 n1)|(go_at_call 105;refine mB (HP.out _) ?_;intro l2 n2))
  all_goals(go_returns;exact rb_)
theorem bs_told {text:Nat} {l:List UInt8} (h:text<l.length):toldX text (bs l)=errG 7:=told_long h
theorem r9_rept (s:ByteArray) (hs:s.size<=1048576) (n text:Nat) (ht:text<=1024) (hn:n<=9223372036854775807) (w:World):Rt 107 #[.string s,.int .i64 (n:Int),.int .i64 (text:Int)] w (vG (reptX text s n)):=by
 rw[rept_told];obtain⟨l,rfl⟩:∃ l,s=bs l:=⟨s.data.toList,(zBa s).symm⟩
 rw[zAu] at hs;show Calls _ _ _ _ fun e w'=>e=.returned (vG (toldX text (bs (Lib.repeatL l n))))/\_;by_cases h0:l=[]
 ·subst h0;rw[Lib.repeatL_nil];have HT:=zh (zBe (bs []) text);have he:(bs []).toList=[]:=by rw[ByteArray.toList_eq]
  obtain⟨u,hu⟩:=lt_ (toldX text (bs []));rw[hu] at HT ⊢;obtain⟨b,hb⟩:=lt_ (bs []);have hl:b=⟨#[]⟩:=hb.symm;subst hl;clear hu hb;go_enter func107,ntmps107;go_wp2_with(go_at_call 45;refine mB (HT.out _) ?_;intro l m)
  all_goals(go_returns;exact rb_)
 ·have hp:0<l.length:=QE.2 h0;obtain⟨p,ha⟩:=lt_ l.length;rw[ha] at hs hp;have hc:=zh ha;have hz:(bs l).size=p:=by rw[zAu,ha]
  have hw:(bs l).toList=[] ↔ False:=by rw[ByteArray.toList_eq];simpa using h0
  have hd:(bs l).toList.isEmpty=false:=by rw[ByteArray.toList_eq];simpa using h0
  have hf:((bs l).toList==[])=false:=by rw[ByteArray.toList_eq];simpa using h0
  obtain⟨R,hR⟩:=lt_ (toldX text (bs (Lib.repeatL l n)));rw[hR];have HR:=zh hR;obtain⟨b,hb⟩:=lt_ (bs l);rw[hb] at hz hw hd hf ⊢;have HB:=zh hb;clear hR ha hb;go_enter func107,ntmps107;go_wp2
  go_loop [7,8] (fun v t=>∃ i:Nat,i<=n/\t=.int .i64 (i:Int)/\v=.string (bs (Lib.repeatL l i))/\i*p<=text+p) (fun _ t=>n-(intOf t).toNat)
  case atStart=>exact⟨0,QV _,rfl,rfl,by omega⟩
  case round =>
   obtain⟨i,hi,rfl,rfl,hr⟩:=hrel;have hg:(bs (Lib.repeatL l i)).size=i*p:=by rw[zAu,Lib.repeatL_length,hc.out]
   obtain⟨m,hm⟩:=lt_ (i*p);rw[hm] at hg hr;by_cases hgo:i<n/\m<=text
   ·obtain⟨h1,h2⟩:=hgo;have hq:bs (Lib.repeatL l (i+1))=bs (Lib.repeatL l i)++b:=by
     rw[<- HB.out,bs_add,Lib.repeatL_add,Lib.repeatL_one]
    have hj:(i:Int)<(n:Int):=by omega
    have hk:(m:Int)<=(text:Int):=by omega
    have wi:QA.wrap ((i:Int)+1)=((i+1:Nat):Int):=by rw[Q8];omega
    have HQ:=zh hq;have HM:=zh (show (i+1)*p<=text+p by rw[Nat.succ_mul,hm];omega);obtain⟨v,hv⟩:=lt_ (bs (Lib.repeatL l i));rw[hv] at hg HQ ⊢;clear hq hm hv;go_wp2;go_round;case rel=>exact⟨i+1,by omega,rfl,by rw[HQ.out],HM.out⟩
    case measure=>simp[intOf];omega
   have e:R=toldX text (bs (Lib.repeatL l i)):=by
    rw[<- HR.out];by_cases h1:i<n
    ·have h3:text<m:=by omega
     rw[bs_told (by rw[Lib.repeatL_length,hc.out];have:=Nat.mul_le_mul_right p (Nat.le_of_lt h1);omega),bs_told (by rw[Lib.repeatL_length,hc.out,hm];exact h3)]
    ·rw[show i=n by omega]
   have hh:=zh e;have HT:=zh (zBe (bs (Lib.repeatL l i)) text);obtain⟨v,hv⟩:=lt_ (bs (Lib.repeatL l i));rw[hv] at hg HT hh ⊢;have ho: ¬ ((i:Int)<(n:Int)/\(m:Int)<=(text:Int)):=by omega
   clear HR e hm hv;by_cases h1:i<n
   have hj:(i:Int)<(n:Int):=by omega
   have hk: ¬ (m:Int)<=(text:Int):=by omega
   rotate_left
   have hj: ¬ (i:Int)<(n:Int):=by omega
   all_goals
    clear ho hgo;go_wp2_with(go_at_call 45;refine mB (HT.out _) ?_;intro l m)
    all_goals(go_returns;exact⟨by rw[hh.out],bel⟩)
theorem r9_find (t s:ByteArray) (hs:s.size<=1000000000000) (ht:t.size<=1000000000000) (n:Int) (hn:Is64 n) (w:World):Rt 47 #[.string t,.string s,.int .i64 n] w (vG (placeX t s n)):=by
 unfold Is64 at hn;by_cases h1:n<1
 ·rw[show placeX t s n=errG 8 from if_pos h1];clear hn;go_enter func47,ntmps47;go_wp2_with(go_at_call 22;refine mB (zA6 _ _) ?_;intro l m)
  all_goals(go_returns;exact rb_)
 ·obtain⟨a,ha⟩:∃ a:Nat,n=(a:Int)+1:=⟨(n-1).toNat,by omega⟩
  have HH:=zh (fun i h1 h2 h3 h4=> @place_hit t s n a i ha h1 h2 h3 h4);have HM:=zh (fun h=> @place_miss t s n a ha h);have he:=zh (fun (i:Nat) (hi:i<=s.size)=>r9_stands s t i hi hs ht);have hj:s.size<=1000000000000:=hs;obtain⟨z,hz⟩:=lt_ s.size;rw[hz] at hj HH HM he;have w1:QA.wrap (n-1)=(a:Int):=by rw[Q8];omega
  have HA:=zh ha;obtain⟨R,hR⟩:=lt_ (placeX t s n);rw[hR];have hd:=zh hR;clear ha hs ht hR;go_enter func47,ntmps47;go_wp2
  go_loop [7] (fun v=>∃ i:Nat,a<=i/\(i<=z+1∨i=a)/\v=.int .i64 (i:Int)/\RowKit.Hid (∀ j,a<=j->j<i->Lib.occAt s.data.toList t.data.toList j=false)) (fun v=>z+1-(intOf v).toNat)
  case atStart=>exact⟨a,QD _,.inr rfl,rfl,zh (fun j h1 h2=>by omega)⟩
  case round =>
   obtain⟨i,hg,hiz,rfl,hb⟩:=hrel;by_cases hlt:i<=z
   ·have hh:(i:Int)<=(z:Int):=by omega
    have HS:=zh (he.out i hlt);have wi:QA.wrap ((i:Int)+1)=((i+1:Nat):Int):=by rw[Q8];omega
    cases ho:Lib.occAt s.data.toList t.data.toList i with
    | true =>
      have hc:=zh (show R=wholeT ((i+1:Nat):Int) from hd.out.symm.trans (HH.out i hg hlt hb.out ho));rw[ho] at HS;have HW:=zh (r9_whole ((i+1:Nat):Int));obtain⟨q,hq⟩:=lt_ (i+1);rw[hq] at hc HW wi;clear ho hb hq;go_wp2_with(first|(go_at_call 108;refine(HS.out _).mono ?_;rintro e w1 ⟨rfl,rfl⟩)|(go_at_call 109;refine mB (HW.out _) ?_;intro l m))
      all_goals(go_returns;exact⟨by rw[hc.out],bel⟩)
    | false =>
      rw[ho] at HS;have hf:=zh (show ∀ j,a<=j->j<i+1->Lib.occAt s.data.toList t.data.toList j=false from fun j h1 h2=>by
       rcases Nat.lt_or_ge j i with h|h
       ·exact hb.out j h1 h
       ·rw[show j=i by omega];exact ho)
      clear ho hb;go_wp2_with(go_at_call 108;refine(HS.out _).mono ?_;rintro e w1 ⟨rfl,rfl⟩)
      go_round;case rel=>exact⟨i+1,by omega,.inl (by omega),rfl,hf⟩
      case measure=>simp[intOf];omega
   ·have hh: ¬ (i:Int)<=(z:Int):=by omega
    have hc:=zh (show R=errG 6 from hd.out.symm.trans (HM.out fun j h1 h2=>hb.out j h1 (by omega)));clear hb;go_wp2_with(go_at_call 22;refine mB (zA6 _ _) ?_;intro l m)
    all_goals(go_returns;exact⟨by rw[hc.out],bel⟩)
theorem r9_subst (s t u:ByteArray) (hs:s.size<=1048576) (ht:t.size<=1048576) (hu:u.size<=1048576) (text:Nat) (htx:text<=1024) (w:World):Rt 48 #[.string s,.string t,.string u,.int .i64 (text:Int)] w (vG (substX text s t u)):=by
 unfold substX;by_cases h0:t.data.toList=[]
 ·rw[if_pos h0];have he:t.toList=[]:=by rw[ByteArray.toList_eq];exact h0
  clear hs ht hu;go_enter func48,ntmps48;go_wp2_with(go_at_call 22;refine mB (zA6 _ _) ?_;intro l m)
  all_goals(go_returns;exact rb_)
 ·rw[if_neg h0,subst_told h0 _ _ _ (by rw[zAe];omega),List.nil_append];have hI:t.toList.isEmpty=false:=by rw[ByteArray.toList_eq];simpa using h0
  have hJ:(t.toList==[])=false:=by rw[ByteArray.toList_eq];simpa using h0
  have hK:0<t.size:=by rw[<- zAe];exact QE.2 h0
  have hr:=zh (fun (i:Nat) (hi:i<=s.size)=>r9_stands s t i hi (by omega) (by omega));have hw:=zh h0;obtain⟨l,hl⟩:=lt_ s.data.toList;obtain⟨tl,hg⟩:=lt_ t.data.toList;obtain⟨ul,hy⟩:=lt_ u.data.toList;rw[hl,hg] at hr;rw[hg] at hw;rw[hl,hg,hy];obtain⟨z,hz⟩:=lt_ s.size;obtain⟨p,hp⟩:=lt_ t.size;rw[hz] at hs hr;rw[hp] at ht hK;have hq:=zh (show l.length=z by rw[<- hl,zAe,hz]);have hB:=zh (show tl.length=p by rw[<- hg,zAe,hp]);have hF:=zh (show s=bs l by rw[<- hl,zBa]);have hC:=zh (show u=bs ul by rw[<- hy,zBa]);obtain⟨R,hR⟩:=lt_ (toldX text (bs (fullX tl ul l)));rw[hR];have HR:=zh hR;clear hl hg hy h0 hR;go_enter func48,ntmps48;go_wp2
  go_loop [9,10] (fun v x=>∃ (i:Nat) (acc:List UInt8),i<=z/\x=.int .i64 (i:Int)/\v=.string (bs acc)/\acc.length<=text+1048577/\RowKit.Hid (acc++fullX tl ul (l.drop i)=fullX tl ul l)) (fun _ x=>z-(intOf x).toNat)
  case atStart=>exact⟨0,[],QV _,rfl,rfl,by simp,zh rfl⟩
  case round =>
   obtain⟨i,acc,hi,rfl,rfl,hH,hf⟩:=hrel;have hh:(bs acc).size=acc.length:=zAu acc;obtain⟨m,hm⟩:=lt_ acc.length;rw[hm] at hh hH;by_cases hgo:i<z/\m<=text
   ·obtain⟨h1,h2⟩:=hgo;have hD:(i:Int)<(z:Int):=by omega
    have hG:(m:Int)<=(text:Int):=by omega
    have HS:=zh (hr.out i (by omega));obtain⟨c,hc⟩:∃ c,l[i]? =some c:=⟨_,QC (show i<l.length by rw[hq.out];exact h1)⟩
    have hd:l.drop i=c::l.drop (i+1):=drop_at hc;have wi:QA.wrap ((i:Int)+1)=((i+1:Nat):Int):=by rw[Q8];omega
    cases ho:Lib.occAt l tl i with
    | true =>
      have ha:i+p<=z:=by
       rcases Lib.occAt_room ho with h|h
       ·rw[hB.out,hq.out] at h;exact h
       ·exact absurd h hw.out
      have hb:(acc++ul)++fullX tl ul (l.drop (i+p))=fullX tl ul l:=by
       rw[<- hf.out,full_hit hw.out (by rw[hd];simp) ho,QR,hB.out,QH]
      obtain⟨k,hk⟩:=lt_ (i+p);rw[hk] at hb ha;have wk:QA.wrap ((i:Int)+(p:Int))=(k:Int):=by rw[Q8];omega
      have hn:=zh hb;have HQ:=zh (show bs (acc++ul)=bs acc++u by rw[hC.out,bs_add]);have hj:=zh (show (acc++ul).length<=text+1048577 by rw[Q3,hm];have:=zAu ul;rw[<- hC.out] at this;omega);rw[ho] at HS;have hki:i<k:=by omega
      obtain⟨v,hv⟩:=lt_ (bs acc);rw[hv] at hh HQ ⊢;clear ho hf hd hc hb hm hk hv;go_wp2_with(go_at_call 108;refine(HS.out _).mono ?_;rintro e w1 ⟨rfl,rfl⟩)
      go_round;case rel=>exact⟨k,acc++ul,ha,rfl,by rw[HQ.out],hj.out,hn⟩
      case measure=>simp[intOf];omega
    | false =>
      have hb:(acc++[c])++fullX tl ul (l.drop (i+1))=fullX tl ul l:=by
       rw[<- hf.out,hd,full_miss (by rw[<- hd];exact ho),QH]
       rfl
      have hx:s.extract i (i+1)=bs [c]:=by rw[hF.out];exact bs_at l hc
      have hn:=zh hb;have HQ:=zh (show bs (acc++[c])=bs acc++bs [c] by rw[bs_add]);have hj:=zh (show (acc++[c]).length<=text+1048577 by rw[Q3,hm];simp;omega);have hL:(bs [c]).size=1:=rfl;rw[ho] at HS;obtain⟨v,hv⟩:=lt_ (bs acc);obtain⟨cb,hE⟩:=lt_ (bs [c]);rw[hv] at hh HQ ⊢;rw[hE] at hx hL HQ;clear ho hf hd hc hb hm hv hE;go_wp2_with(go_at_call 108;refine(HS.out _).mono ?_;rintro e w1 ⟨rfl,rfl⟩)
      go_round;case rel=>exact⟨i+1,acc++[c],by omega,rfl,by rw[HQ.out],hj.out,hn⟩
      case measure=>simp[intOf];omega
   have e:R=toldX text (bs acc):=by
    rw[<- HR.out,<-hf.out];by_cases h1:i<z
    ·rw[bs_told (by rw[Q3];omega),bs_told (by omega)]
    ·rw[QT (by rw[hq.out];omega)];show toldX text (bs (acc++[]))=_;rw[QM]
   have hA:=zh e;have HT:=zh (zBe (bs acc) text);obtain⟨v,hv⟩:=lt_ (bs acc);rw[hv] at hh HT hA ⊢;clear HR e hm hv hf;by_cases h1:i<z
   have hD:(i:Int)<(z:Int):=by omega
   have hG: ¬ (m:Int)<=(text:Int):=by omega
   rotate_left
   have hD: ¬ (i:Int)<(z:Int):=by omega
   all_goals
    clear hgo;go_wp2_with(go_at_call 45;refine mB (HT.out _) ?_;intro l m)
    all_goals(go_returns;exact⟨by rw[hA.out],bel⟩)
end Go.Proofs.YtnccknhbplaieaaGreatDoor
