/- Parts. -/
import Derived.Test.YtnccknhbplaieaaGreatDoorRows
import Derived.Test.YtnccknhbplaieaaGreatDoorC49
set_option linter.all false
set_option maxRecDepth 100000
set_option maxHeartbeats 4000000
namespace Go.Proofs.YtnccknhbplaieaaGreatDoor
open Go.RowKit Go.WideShapes Go.ChangeShapes Go.ChangeAt
theorem own_knob:ownKnob Tryz.prog.godebug=none:=by kernel_rfl
theorem laid_out:laidOutB Tryz.prog=true:=by kernel_rfl
section
variable {H:Type} {enc:TypeId×Value->H} {P:Program}
theorem post_of_below {f:Func} {s:ChangeSpec} {apart fresh handsOn again:Bool} {W W':World} {args:Array Value} {v:Value} {ds gs:List (DataW H)} {before pa pv:List MemPlace}
  (hW:DataW.Whole enc P f.params.toList s.vars apart W args.toList ds gs before)
  (hres:∀ (b:Nat) (sp:Nat->Bool) (hd:Bool),DataW.TrodAll enc P W' b sp hd f.resultTypes.toList (v.resultList f.resultTypes.size) (s.fn H (ds++gs)).results [])
  (hargs:∀ sp:Nat->Bool,(∀ p∈before,sp p.block=true)->DataW.TrodAll enc P W' 0 sp true f.params.toList args.toList (s.fn H (ds++gs)).args pa)
  (hvars:∀ sp:Nat->Bool,(∀ p∈before,sp p.block=true)->DataW.TrodVars enc P W' sp s.vars (s.fn H (ds++gs)).vars pv)
  (hps:before=pa++pv) (hb:Below W.heap.size W W')
  (hok:∀ (j:Nat) (t:TypeId) (r:Value),f.resultTypes[j]? =some t->(v.resultList f.resultTypes.size)[j]? =some r->Value.okWide P W' .any 0 t r) :
  s.post enc P f apart fresh handsOn again W args v W':=by
 have hf:∀ p∈before,p.block<W.heap.size:=fun p hp=>hW.lt p hp;have hc:∀ p∈before,(fun b=>decide (b<W.heap.size)) p.block=true:=fun p hp=>by simpa using hf p hp
 refine⟨ds,gs,before,[],pa,pv,hW,hres _ _ _,hargs _ hc,hvars _ hc,World.keptBut_mono (fun p hp=>⟨hp,?_⟩) (hb.frame (· ∈before)),fun _=> ?_⟩
 ·rw[hps,List.mem_append] at hp;exact Or.inr hp
 ·obtain⟨_,_,_,_,_,hz,hn⟩:=hW;refine⟨hok,_,_,([]++pa)++pv,⟨[]++pa,pv,trodAll_append (hargs _ (fun _ _=>rfl)) (hres _ _ _),hvars _ (fun _ _=>rfl),rfl,?_,?_⟩,?_⟩
  ·intro b off hp;have he:MemPlace.cell b off∈before:=by rw[hps];simpa using hp
   rw[hb.frozen (hf _ he)];exact hz b off he
  ·intro ha;have:=hn ha;rw[hps] at this
   simpa using this
  ·intro p hp _;rw[hps]
   simpa using hp
theorem trod_kept {t:TypeId} (hl:laidOutB P=true) (hr:P.readableRec t=true) (hrow:t<P.types.size) {W W':World} {v:Value} {d:DataW H} {ps:List MemPlace}
  (h:DataW.Trod enc P W 0 (fun _=>true) true t v d ps) (hb:Below W.heap.size W W') (hlt:∀ x∈ps,x.block<W.heap.size) (sp:Nat->Bool) (hsp:∀ p∈ps,sp p.block=true) :
  DataW.Trod enc P W' 0 sp true t v d ps :=
 WideElems.Trod_stays hl hr hrow h (fun x hx=>hb.same (hlt x hx)) hsp
end
end Go.Proofs.YtnccknhbplaieaaGreatDoor
namespace Go.Proofs.YtnccknhbplaieaaGreatDoor
open Go.ChangeShapes Go.WideShapes Go.ChangeAt Go.RowKit
def datW {H:Type} (v:V):DataW H:=.agg [.lit (.int .i64 v.tag),.lit (.int .i64 v.num),.lit (.string v.str.data.toList),.lit (.bool v.is),.lit (.int .i64 v.code)]
theorem wf_W {n:Int} (h:(Lit.int .i64 n).wf=true):Is64 n:=by
 simp only[Lit.wf,Bool.and_eq_true,decide_eq_true_eq] at h;exact⟨h.1,h.2⟩
theorem open_valW {H:Type} {enc:TypeId×Value->H} {w:World} {base:Nat} {spare:Nat->Bool} {held:Bool} {n:Nat} {cs:List Value} {y:DataW H×List MemPlace}
  (h:DataW.trod enc Tryz.prog w base spare held n 29 cs=some y):∃ v:V,cs=v.cells/\Is64 v.num/\y=(datW v,[]):=by
 obtain⟨xs,m,-,hx,hl,ha,hg⟩:=DataW.trod_struct Tryz.underlying29 h;have hc:Tryz.prog.cellsOf 29=5:=by kernel_rfl
 have h1:Tryz.prog.cellsOf 26=1:=by kernel_rfl
 have h2:Tryz.prog.cellsOf 2=1:=by kernel_rfl
 have h3:Tryz.prog.cellsOf 9=1:=by kernel_rfl
 have h4:Tryz.prog.cellsOf 4=1:=by kernel_rfl
 have h5:Tryz.prog.cellsOf 27=1:=by kernel_rfl
 rw[hc] at hl
 match cs,hl,xs,ha with
 | [c0,c1,c2,c3,c4],_,[x0,x1,x2,x3,x4],_ =>
   have g0:=hg 0 _ rfl;have g1:=hg 1 _ rfl;have g2:=hg 2 _ rfl;have g3:=hg 3 _ rfl;have g4:=hg 4 _ rfl;simp only[h1,h2,h3,h4,h5,List.drop,List.take,List.getElem?_cons_zero,List.getElem?_cons_succ] at g0 g1 g2 g3 g4;obtain⟨n0,e0,z0,-⟩:=DataW.trod_int Tryz.underlying26 g0;obtain⟨n1,e1,z1,hw⟩:=DataW.trod_int Tryz.underlying2 g1;obtain⟨s,e2,z2,-⟩:=DataW.trod_string Tryz.underlying9 g2;obtain⟨b,e3,z3⟩:=DataW.trod_bool Tryz.underlying4 g3;obtain⟨n4,e4,z4,-⟩:=DataW.trod_int Tryz.underlying27 g4;cases e0;cases e1;cases e2;cases e3;cases e4;subst z0;subst z1;subst z2;subst z3;subst z4;exact⟨⟨n0,n1,s,b,n4⟩,rfl,wf_W hw,hx⟩
theorem pow10_laid {l:List (String×DataW Unit)} {W:World} (hl:(l.filter fun x=>x.2.handleName?.isNone).filter (fun x=>x.1== "internal/strconv.uint64pow10")=[("internal/strconv.uint64pow10",Lib.tabData .u64 Lib.pow10Tab)]) (h:laidMetH Tryz.prog l W):Pow10 W:=by
 have h2:=laidMet.filter (fun x=>x.1== "internal/strconv.uint64pow10") (laidMetH_iff.1 h).1
 rw[hl] at h2;exact Lib.tabIs_of_head (g:=3) (e:=133) (by kernel_rfl) (by kernel_rfl) Tryz.underlying328 Tryz.underlying133 (by kernel_rfl) (by kernel_rfl) h2
theorem bulk_one {H:Type} (d:DataW H):1<=Rows.uptoBulk d:=by
 cases d with
 | lit l=>cases l<;>simp[Rows.uptoBulk]
 | nil=>simp[Rows.uptoBulk]
 | ptr d=>simp[Rows.uptoBulk]
 | slice elems spare=>simp[Rows.uptoBulk]
 | agg parts=>simp[Rows.uptoBulk]
 | iface t d=>simp[Rows.uptoBulk]
 | map entries=>simp[Rows.uptoBulk]
 | held h=>simp[Rows.uptoBulk]
theorem bulk_part {H:Type} {d:DataW H} {l:List (DataW H)} (h:d∈l):Rows.uptoBulk d<=Rows.uptoBulkAll l:=by
 induction l with
 | nil=>cases h
 | cons x r ih =>
   simp only[Rows.uptoBulkAll];cases List.mem_cons.1 h with
   | inl e=>subst e;omega
   | inr e=>have:=ih e;omega
theorem bulk_length {H:Type} (l:List (DataW H)):l.length<=Rows.uptoBulkAll l:=by
 induction l with
 | nil=>simp[Rows.uptoBulkAll]
 | cons x r ih=>have:=bulk_one x;simp only[Rows.uptoBulkAll,List.length_cons];omega
theorem open_row {α H:Type} [Inhabited α] {enc:TypeId×Value->H} {W:World} {spare:Nat->Bool} {held:Bool} {P:Program} (cells:α->List Value) (k:Nat) (h0:0<k) (hk:∀ x,(cells x).length=k) (Q:α->DataW H->Prop) {t e:TypeId} (ht:P.underlying t=some (.slice e)) (hc:P.cellsOf e=k)
  (hel:∀ n cs y,DataW.trod enc P W 0 spare held n e cs=some y->∃ x,cs=cells x/\Q x y.1) {fuel:Nat} {cs:List Value} {y:DataW H×List MemPlace} (h:DataW.trod enc P W 0 spare held fuel t cs=some y) :
  ∃ (A:Option Addr) (n c:Nat) (xs:List α),cs=[.slice A n c]/\n<=c/\xs.length=n/\Reads W W.heap.size k A n (flatC cells xs)/\(∀ x∈xs,∃ d,Q x d/\Rows.uptoBulk d<=Rows.uptoBulk y.1)/\n<=Rows.uptoBulk y.1:=by
 rcases Go.Deep.open_slice ht h with ⟨rfl,rfl⟩|⟨a,len,cap,m,n,D,Pl,rfl,-,hl,-,hm,rfl,hx⟩
 ·exact⟨none,0,0,[],rfl,Nat.le_refl _,rfl,⟨by simp[flatC],fun h=>by omega⟩,fun x hx=>by simp at hx,Nat.zero_le _⟩
 have hlm:len<=m:=by rw[hm];split<;>omega
 rw[hc] at hx;obtain⟨E,hE⟩:=Go.Deep.choose_lt (α:=α) (p:=fun i x=>W.cells? 0 (a.add (i*k)) k=some (cells x)/\Q x (D i)) (n:=len) (fun i hi=>by
  obtain⟨cs',h1,h2⟩:=hx i (by omega);obtain⟨x,rfl,hq⟩:=hel n cs' (D i,Pl i) h2;exact⟨x,h1,hq⟩)
 have he:∀ i,i<len->Rows.uptoBulk (D i)<=Rows.uptoBulk (DataW.slice ((List.range len).map D) ((List.range (m-len)).map fun j=>D (len+j))):=fun i hi=>by
  have h1:=bulk_part (d:=D i) (l:=(List.range len).map D) (List.mem_map.2 ⟨i,List.mem_range.2 hi,rfl⟩);simp only[Rows.uptoBulk];omega
 have hd:len<=Rows.uptoBulk (DataW.slice ((List.range len).map D) ((List.range (m-len)).map fun j=>D (len+j))):=by
  have h1:=bulk_length ((List.range len).map D);rw[List.length_map,List.length_range] at h1;simp only[Rows.uptoBulk];omega
 refine⟨some a,len,cap,(List.range len).map E,rfl,hl,by simp,⟨?_,fun hn=> ?_⟩,fun x hx=> ?_,hd⟩
 ·have:∀ l:List α,(flatC cells l).length=l.length*k:=fun l=>by
   induction l with
   | nil=>simp[flatC]
   | cons x l ih =>
     show (cells x++flatC cells l).length=_;rw[List.length_append,hk,ih,List.length_cons,Nat.succ_mul];omega
  rw[this];simp
 ·have g0:=hE 0 hn;obtain⟨_,_,ha⟩:=World.cells?_some g0.1;have c0:=ha 0 h0;have hg:(cells (E 0))[0]? =some ((cells (E 0))[0]'(by rw[hk];exact h0)):=List.getElem?_eq_getElem _;rw[hg] at c0;have e0:(a.add (0*k)).add 0=a:=by rw[Nat.zero_mul];rfl
  rw[e0] at c0;have hs:=World.cell?_spot c0;obtain⟨b,off,spot⟩:=a;simp only at hs;subst hs;refine⟨b,off,rfl,World.block_lt_of_cell? W _ c0,fun idx u hu=> ?_⟩;have hi:idx<len*k:=by
   have h1:=(List.getElem?_eq_some_iff.1 hu).1;have h2:∀ l:List α,(flatC cells l).length=l.length*k:=fun l=>by
    induction l with
    | nil=>simp[flatC]
    | cons x l ih =>
      show (cells x++flatC cells l).length=_;rw[List.length_append,hk,ih,List.length_cons,Nat.succ_mul];omega
   rw[h2] at h1
   simpa using h1
  have hj:idx / k<len:=Nat.div_lt_of_lt_mul (by rw[Nat.mul_comm];exact hi);have hr:idx % k<k:=Nat.mod_lt _ h0;have hx:((List.range len).map E)[idx / k]? =some (E (idx / k)):=by rw[List.getElem?_map,List.getElem?_range hj];rfl
  have hf:(cells (E (idx / k)))[idx % k]? =some ((cells (E (idx / k)))[idx % k]'(by rw[hk];exact hr)):=List.getElem?_eq_getElem _;have h3:=flatC_at cells k hk _ (idx / k) (E (idx / k)) hx (idx % k) _ hf;have e1:idx / k*k+idx % k=idx:=by rw[Nat.mul_comm];exact Nat.div_add_mod idx k
  rw[e1,hu] at h3;obtain⟨_,_,hb⟩:=World.cells?_some (hE (idx / k) hj).1;have h4:=hb (idx % k) hr;rw[hf,<-h3,Go.Deep.add_add,e1,add_plain] at h4;exact h4
 ·obtain⟨i,hi,rfl⟩:=List.mem_map.1 hx;have hi:=List.mem_range.1 hi;exact⟨D i,(hE i hi).2,he i hi⟩
instance:Inhabited En:=⟨⟨0,0,⟨0,0,⟨#[]⟩,false,0⟩⟩⟩
theorem open_ent {H:Type} {enc:TypeId×Value->H} {W:World} {spare:Nat->Bool} {held:Bool} (n:Nat) (cs:List Value) (y:DataW H×List MemPlace)
  (h:DataW.trod enc Tryz.prog W 0 spare held n 76 cs=some y):∃ e:En,cs=e.cells/\Is64 e.v.num/\e.v.str.size<=Rows.uptoBulk y.1:=by
 obtain⟨xs,m,-,hx,hl,hb,hg⟩:=DataW.trod_struct Tryz.underlying76 h;have hc:Tryz.prog.cellsOf 76=7:=by kernel_rfl
 have h1:Tryz.prog.cellsOf 74=2:=by kernel_rfl
 have h2:Tryz.prog.cellsOf 29=5:=by kernel_rfl
 have h3:Tryz.prog.cellsOf 3=1:=by kernel_rfl
 rw[hc] at hl
 match cs,hl,xs,hb with
 | [c0,c1,c2,c3,c4,c5,c6],_,[x0,x1],_ =>
   have g0:=hg 0 _ rfl;have g1:=hg 1 _ rfl;simp only[h1,h2,List.drop,List.take,List.getElem?_cons_zero,List.getElem?_cons_succ] at g0 g1;obtain⟨ys,m2,-,hy,hl2,ha,hd⟩:=DataW.trod_struct Tryz.underlying74 g0
   match ys,ha with
   | [y0,y1],_ =>
     have k0:=hd 0 _ rfl;have k1:=hd 1 _ rfl;simp only[h3,List.drop,List.take,List.getElem?_cons_zero,List.getElem?_cons_succ] at k0 k1;obtain⟨r,e0,z0,-⟩:=DataW.trod_int Tryz.underlying3 k0;obtain⟨c,e1,z1,-⟩:=DataW.trod_int Tryz.underlying3 k1;obtain⟨v,e2,i2,z2⟩:=open_valW g1;cases e0;cases e1;simp only[V.cells,List.cons.injEq,and_true] at e2;obtain⟨rfl,rfl,rfl,rfl,rfl⟩:=e2;subst z2;refine⟨⟨r,c,v⟩,rfl,i2,?_⟩;rw[hx];simp[Rows.uptoBulk,Rows.uptoBulkAll,datW];omega
theorem open_arg {H:Type} {enc:TypeId×Value->H} {W:World} {spare:Nat->Bool} {held:Bool} (n:Nat) (cs:List Value) (y:DataW H×List MemPlace)
  (h:DataW.trod enc Tryz.prog W 0 spare held n 51 cs=some y):∃ p:Arg×List En,cs=p.1.cells/\zAW W p.1 p.2/\Is64 p.1.val.num/\(∀ e∈p.2,Is64 e.v.num)/\p.1.val.str.size<=Rows.uptoBulk y.1/\(∀ e∈p.2,e.v.str.size<=Rows.uptoBulk y.1)/\p.1.n<=Rows.uptoBulk y.1:=by
 obtain⟨xs,m,-,hx,hl,hd,hg⟩:=DataW.trod_struct Tryz.underlying51 h;have hc:Tryz.prog.cellsOf 51=11:=by kernel_rfl
 have h0:Tryz.prog.cellsOf 4=1:=by kernel_rfl
 have h1:Tryz.prog.cellsOf 48=4:=by kernel_rfl
 have h2:Tryz.prog.cellsOf 29=5:=by kernel_rfl
 have h3:Tryz.prog.cellsOf 3=1:=by kernel_rfl
 have h4:Tryz.prog.cellsOf 49=1:=by kernel_rfl
 rw[hc] at hl
 match cs,hl,xs,hd with
 | [c0,c1,c2,c3,c4,c5,c6,c7,c8,c9,c10],_,[x0,x1,x2,x3],_ =>
   have g0:=hg 0 _ rfl;have g1:=hg 1 _ rfl;have g2:=hg 2 _ rfl;have g3:=hg 3 _ rfl;simp only[h0,h1,h2,h4,List.drop,List.take,List.getElem?_cons_zero,List.getElem?_cons_succ] at g0 g1 g2 g3;obtain⟨b,e0,z0⟩:=DataW.trod_bool Tryz.underlying4 g0;obtain⟨v,e1,i1,z1⟩:=open_valW g1;obtain⟨ys,m2,-,hy,hl2,ha,hb⟩:=DataW.trod_struct Tryz.underlying48 g2;obtain⟨A,k,c,es,e3,hkc,hf,hR,hQ,hk⟩:=open_row En.cells 7 (by decide) (fun _=>rfl) (fun e d=>Is64 e.v.num/\e.v.str.size<=Rows.uptoBulk d) Tryz.underlying49 (by kernel_rfl) open_ent g3
   match ys,ha with
   | [y0,y1,y2,y3],_ =>
     have k0:=hb 0 _ rfl;have k1:=hb 1 _ rfl;have k2:=hb 2 _ rfl;have k3:=hb 3 _ rfl;simp only[h3,List.drop,List.take,List.getElem?_cons_zero,List.getElem?_cons_succ] at k0 k1 k2 k3;obtain⟨r0,f0,w0,-⟩:=DataW.trod_int Tryz.underlying3 k0;obtain⟨r1,f1,w1,-⟩:=DataW.trod_int Tryz.underlying3 k1;obtain⟨r2,f2,w2,-⟩:=DataW.trod_int Tryz.underlying3 k2;obtain⟨r3,f3,w3,-⟩:=DataW.trod_int Tryz.underlying3 k3;cases e0;cases f0;cases f1;cases f2;cases f3;cases e3;simp only[V.cells,List.cons.injEq,and_true] at e1;obtain⟨rfl,rfl,rfl,rfl,rfl⟩:=e1;subst z1;have hb3:Rows.uptoBulk x3.1<=Rows.uptoBulk y.1:=by
      rw[hx];simp[Rows.uptoBulk,Rows.uptoBulkAll];omega
     refine⟨(⟨b,v,r0,r1,r2,r3,A,k,c⟩,es),rfl,⟨hf,hR⟩,i1,fun e he=> ?_,?_,fun e he=> ?_,by simp only;omega⟩
     ·obtain⟨d,h,-⟩:=hQ e he;exact h.1
     ·rw[hx];simp[Rows.uptoBulk,Rows.uptoBulkAll,datW];omega
     ·obtain⟨d,h,h'⟩:=hQ e he;have:=h.2;omega
instance:Inhabited (Arg×List En):=⟨p0A⟩
theorem flat_args (pl:List (Arg×List En)):flatC (fun p:Arg×List En=>p.1.cells) pl=zAY (pl.map Prod.fst):=by
 induction pl with
 | nil=>rfl
 | cons p pl ih =>
   rw[List.map_cons,zBq,<-ih]
   rfl
theorem open_args {H:Type} {enc:TypeId×Value->H} {W:World} {v:Value} {d:DataW H} {ps:List MemPlace} {r:Reach} {b0:Nat} (hv:Value.okWide Tryz.prog W r b0 22 v) (h:DataW.Trod enc Tryz.prog W 0 (fun _=>true) true 22 v d ps) (hb:Rows.uptoBulk d<=1048576) (hp:Pow10 W) (hM:MaxL W) :
  ∃ (A:Option Addr) (n c:Nat) (pl:List (Arg×List En)),v=.slice A n c/\LawIn W pl A n c:=by
 obtain⟨A,n,c,rfl⟩:=okWide_slice Tryz.underlying22 hv;obtain⟨fuel,hf⟩:=h;obtain⟨A',n',c',pl,e,hc,ha,hR,hQ,hn⟩:=open_row (fun p:Arg×List En=>p.1.cells) 11 (by decide) (fun _=>rfl) (fun p d=>zAW W p.1 p.2/\Is64 p.1.val.num/\(∀ e∈p.2,Is64 e.v.num)/\p.1.val.str.size<=Rows.uptoBulk d/\(∀ e∈p.2,e.v.str.size<=Rows.uptoBulk d)/\p.1.n<=Rows.uptoBulk d) Tryz.underlying22 (by kernel_rfl) open_arg hf;have e1:Value.slice A n c=.slice A' n' c':=by simpa [Value.cells] using e
 cases e1;simp only at hn hQ;rw[flat_args] at hR;refine⟨A,n,c,pl,rfl,hR,fun p hp=> ?_,by omega,hc,fun p hp=> ?_,fun p hp=> ?_,fun p hp=> ?_,hp,hM⟩
 ·obtain⟨d,hq,-⟩:=hQ p hp;exact hq.1
 ·obtain⟨d,hq,-⟩:=hQ p hp;exact⟨hq.2.1,hq.2.2.1⟩
 ·obtain⟨d,hq,hd⟩:=hQ p hp;exact⟨by have:=hq.2.2.2.1;omega,fun e he=>by have:=hq.2.2.2.2.1 e he;omega⟩
 ·obtain⟨d,hq,hd⟩:=hQ p hp;have:=hq.2.2.2.2.2;omega
end Go.Proofs.YtnccknhbplaieaaGreatDoor
