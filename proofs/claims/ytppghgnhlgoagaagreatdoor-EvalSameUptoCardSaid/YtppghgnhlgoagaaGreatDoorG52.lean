/- Parts. -/
import Derived.Test.YtppghgnhlgoagaaGreatDoorRows
import Derived.Test.YtppghgnhlgoagaaGreatDoorG48
set_option linter.all false
set_option maxRecDepth 100000
set_option maxHeartbeats 4000000
namespace Go.Proofs.YtppghgnhlgoagaaGreatDoor
open Go.RowKit Go.WideShapes Go.ChangeShapes Go.ChangeAt
theorem own_knob:ownKnob Tryz.prog.godebug=none:=by kernel_rfl
theorem laid_out:laidOutB Tryz.prog=true:=by kernel_rfl
section
variable {H:Type} {enc:TypeId×Value->H} {P:Program}
theorem post_of_below {f:Func} {s:ChangeSpec} {apart fresh handsOn again:Bool} {W W':World} {args:Array Value} {v:Value} {ds gs:List (DataW H)} {before pa pv:List MemPlace}
  (hW:DataW.Whole enc P f.params.toList s.vars apart W args.toList ds gs before)
  (hres:∀ (b:Nat) (sp:Nat->Bool) (hd:Bool),DataW.TrodAll enc P W' b sp hd f.resultTypes.toList (v.resultList f.resultTypes.size) (s.fn H (ds++gs)).results [])
  (hargs:∀ sp:Nat->Bool,(∀ p∈before,sp p.block=true)->DataW.TrodAll enc P W' 0 sp true f.params.toList args.toList (s.fn H (ds++gs)).args pa)
  (hvars:∀ sp:Nat->Bool,(∀ p∈before,sp p.block=true)->DataW.TrodVars enc P W' sp s.vars (s.fn H (ds++gs)).vars pv)
  (hps:before=pa++pv) (hb:Below W.heap.size W W')
  (hok:∀ (j:Nat) (t:TypeId) (r:Value),f.resultTypes[j]? =some t->(v.resultList f.resultTypes.size)[j]? =some r->Value.okWide P W' .any 0 t r) :
  s.post enc P f apart fresh handsOn again W args v W':=by
 have hlt:∀ p∈before,p.block<W.heap.size:=fun p hp=>hW.lt p hp
 have hold:∀ p∈before,(fun b=>decide (b<W.heap.size)) p.block=true:=fun p hp=>by simpa using hlt p hp
 refine⟨ds,gs,before,[],pa,pv,hW,hres _ _ _,hargs _ hold,hvars _ hold,World.keptBut_mono (fun p hp=>⟨hp,?_⟩) (hb.frame (· ∈before)),fun _=> ?_⟩
 ·rw[hps,List.mem_append] at hp
  exact Or.inr hp
 ·obtain⟨_,_,_,_,_,hz,hn⟩:=hW
  refine⟨hok,_,_,([]++pa)++pv,⟨[]++pa,pv,trodAll_append (hargs _ (fun _ _=>rfl)) (hres _ _ _),hvars _ (fun _ _=>rfl),rfl,?_,?_⟩,?_⟩
  ·intro b off hp
   have hin:MemPlace.cell b off∈before:=by rw[hps];simpa using hp
   rw[hb.frozen (hlt _ hin)]
   exact hz b off hin
  ·intro ha
   have:=hn ha
   rw[hps] at this
   simpa using this
  ·intro p hp _
   rw[hps]
   simpa using hp
theorem trod_kept {t:TypeId} (hl:laidOutB P=true) (hr:P.readableRec t=true) (hrow:t<P.types.size) {W W':World} {v:Value} {d:DataW H} {ps:List MemPlace}
  (h:DataW.Trod enc P W 0 (fun _=>true) true t v d ps) (hb:Below W.heap.size W W') (hlt:∀ x∈ps,x.block<W.heap.size) (sp:Nat->Bool) (hsp:∀ p∈ps,sp p.block=true) :
  DataW.Trod enc P W' 0 sp true t v d ps :=
 WideElems.Trod_stays hl hr hrow h (fun x hx=>hb.same (hlt x hx)) hsp
end
end Go.Proofs.YtppghgnhlgoagaaGreatDoor
namespace Go.Proofs.YtppghgnhlgoagaaGreatDoor
open Go.ChangeShapes Go.WideShapes Go.ChangeAt Go.RowKit
def datW {H:Type} (v:V):DataW H:=.agg [.lit (.int .i64 v.tag),.lit (.int .i64 v.num),.lit (.string v.str.data.toList),.lit (.bool v.is),.lit (.int .i64 v.code)]
theorem wf_W {n:Int} (h:(Lit.int .i64 n).wf=true):Is64 n:=by
 simp only[Lit.wf,Bool.and_eq_true,decide_eq_true_eq] at h
 exact⟨h.1,h.2⟩
theorem open_valW {H:Type} {enc:TypeId×Value->H} {w:World} {base:Nat} {spare:Nat->Bool} {held:Bool} {n:Nat} {cs:List Value} {y:DataW H×List MemPlace}
  (h:DataW.trod enc Tryz.prog w base spare held n 44 cs=some y):∃ v:V,cs=v.cells/\Is64 v.num/\y=(datW v,[]):=by
 obtain⟨xs,m,-,hx,hl,hlen,hg⟩:=DataW.trod_struct Tryz.underlying44 h
 have hc:Tryz.prog.cellsOf 44=5:=by kernel_rfl
 have h1:Tryz.prog.cellsOf 41=1:=by kernel_rfl
 have h2:Tryz.prog.cellsOf 2=1:=by kernel_rfl
 have h3:Tryz.prog.cellsOf 9=1:=by kernel_rfl
 have h4:Tryz.prog.cellsOf 4=1:=by kernel_rfl
 have h5:Tryz.prog.cellsOf 42=1:=by kernel_rfl
 rw[hc] at hl
 match cs,hl,xs,hlen with
 | [c0,c1,c2,c3,c4],_,[x0,x1,x2,x3,x4],_ =>
   have g0:=hg 0 _ rfl
   have g1:=hg 1 _ rfl
   have g2:=hg 2 _ rfl
   have g3:=hg 3 _ rfl
   have g4:=hg 4 _ rfl
   simp only[h1,h2,h3,h4,h5,List.drop,List.take,List.getElem?_cons_zero,List.getElem?_cons_succ] at g0 g1 g2 g3 g4
   obtain⟨n0,e0,z0,-⟩:=DataW.trod_int Tryz.underlying41 g0
   obtain⟨n1,e1,z1,hw⟩:=DataW.trod_int Tryz.underlying2 g1
   obtain⟨s,e2,z2,-⟩:=DataW.trod_string Tryz.underlying9 g2
   obtain⟨b,e3,z3⟩:=DataW.trod_bool Tryz.underlying4 g3
   obtain⟨n4,e4,z4,-⟩:=DataW.trod_int Tryz.underlying42 g4
   cases e0;cases e1;cases e2;cases e3;cases e4
   subst z0;subst z1;subst z2;subst z3;subst z4
   exact⟨⟨n0,n1,s,b,n4⟩,rfl,wf_W hw,hx⟩
theorem pow10_laid {l:List (String×DataW Unit)} {W:World} (hl:(l.filter fun x=>x.2.handleName?.isNone).filter (fun x=>x.1== "internal/strconv.uint64pow10")=[("internal/strconv.uint64pow10",Lib.tabData .u64 Lib.pow10Tab)]) (h:laidMetH Tryz.prog l W):zBs W:=by
 have h2:=laidMet.filter (fun x=>x.1== "internal/strconv.uint64pow10") (laidMetH_iff.1 h).1
 rw[hl] at h2
 exact Lib.tabIs_of_head (g:=3) (e:=146) (by kernel_rfl) (by kernel_rfl) Tryz.underlying253 Tryz.underlying146 (by kernel_rfl) (by kernel_rfl) h2
theorem bulk_one {H:Type} (d:DataW H):1<=Rows.uptoBulk d:=by
 cases d with
 | lit l=>cases l<;>simp[Rows.uptoBulk]
 | nil=>simp[Rows.uptoBulk]
 | ptr d=>simp[Rows.uptoBulk]
 | slice elems spare=>simp[Rows.uptoBulk]
 | agg parts=>simp[Rows.uptoBulk]
 | iface t d=>simp[Rows.uptoBulk]
 | map entries=>simp[Rows.uptoBulk]
 | held h=>simp[Rows.uptoBulk]
theorem bulk_part {H:Type} {d:DataW H} {l:List (DataW H)} (h:d∈l):Rows.uptoBulk d<=Rows.uptoBulkAll l:=by
 induction l with
 | nil=>cases h
 | cons x r ih =>
   simp only[Rows.uptoBulkAll]
   cases List.mem_cons.1 h with
   | inl e=>subst e;omega
   | inr e=>have:=ih e;omega
theorem bulk_length {H:Type} (l:List (DataW H)):l.length<=Rows.uptoBulkAll l:=by
 induction l with
 | nil=>simp[Rows.uptoBulkAll]
 | cons x r ih=>have:=bulk_one x;simp only[Rows.uptoBulkAll,List.length_cons];omega
theorem open_row {α H:Type} [Inhabited α] {enc:TypeId×Value->H} {W:World} {spare:Nat->Bool} {held:Bool} {P:Program} (cells:α->List Value) (k:Nat) (h0:0<k) (hk:∀ x,(cells x).length=k) (Q:α->DataW H->Prop) {t e:TypeId} (ht:P.underlying t=some (.slice e)) (hc:P.cellsOf e=k)
  (hel:∀ n cs y,DataW.trod enc P W 0 spare held n e cs=some y->∃ x,cs=cells x/\Q x y.1) {fuel:Nat} {cs:List Value} {y:DataW H×List MemPlace} (h:DataW.trod enc P W 0 spare held fuel t cs=some y) :
  ∃ (A:Option Addr) (n c:Nat) (xs:List α),cs=[.slice A n c]/\n<=c/\xs.length=n/\Reads W W.heap.size k A n (zBi cells xs)/\(∀ x∈xs,∃ d,Q x d/\Rows.uptoBulk d<=Rows.uptoBulk y.1)/\n<=Rows.uptoBulk y.1:=by
 rcases Go.Deep.open_slice ht h with ⟨rfl,rfl⟩|⟨a,len,cap,m,n,D,Pl,rfl,-,hl,-,hm,rfl,hx⟩
 ·exact⟨none,0,0,[],rfl,Nat.le_refl _,rfl,⟨by simp[zBi],fun h=>by omega⟩,fun x hx=>by simp at hx,Nat.zero_le _⟩
 have hlm:len<=m:=by rw[hm];split<;>omega
 rw[hc] at hx
 obtain⟨E,hE⟩:=Go.Deep.choose_lt (α:=α) (p:=fun i x=>W.cells? 0 (a.add (i*k)) k=some (cells x)/\Q x (D i)) (n:=len) (fun i hi=>by
  obtain⟨cs',h1,h2⟩:=hx i (by omega)
  obtain⟨x,rfl,hq⟩:=hel n cs' (D i,Pl i) h2
  exact⟨x,h1,hq⟩)
 have hmem:∀ i,i<len->Rows.uptoBulk (D i)<=Rows.uptoBulk (DataW.slice ((List.range len).map D) ((List.range (m-len)).map fun j=>D (len+j))):=fun i hi=>by
  have h1:=bulk_part (d:=D i) (l:=(List.range len).map D) (List.mem_map.2 ⟨i,List.mem_range.2 hi,rfl⟩)
  simp only[Rows.uptoBulk]
  omega
 have hlen:len<=Rows.uptoBulk (DataW.slice ((List.range len).map D) ((List.range (m-len)).map fun j=>D (len+j))):=by
  have h1:=bulk_length ((List.range len).map D)
  rw[List.length_map,List.length_range] at h1
  simp only[Rows.uptoBulk]
  omega
 refine⟨some a,len,cap,(List.range len).map E,rfl,hl,by simp,⟨?_,fun hn=> ?_⟩,fun x hx=> ?_,hlen⟩
 ·have:∀ l:List α,(zBi cells l).length=l.length*k:=fun l=>by
   induction l with
   | nil=>simp[zBi]
   | cons x l ih =>
     show (cells x++zBi cells l).length=_
     rw[List.length_append,hk,ih,List.length_cons,Nat.succ_mul]
     omega
  rw[this]
  simp
 ·have g0:=hE 0 hn
  obtain⟨_,_,hcell0⟩:=World.cells?_some g0.1
  have c0:=hcell0 0 h0
  have hs0:(cells (E 0))[0]? =some ((cells (E 0))[0]'(by rw[hk];exact h0)):=List.getElem?_eq_getElem _
  rw[hs0] at c0
  have e0:(a.add (0*k)).add 0=a:=by rw[Nat.zero_mul];rfl
  rw[e0] at c0
  have hs:=World.cell?_spot c0
  obtain⟨b,off,spot⟩:=a
  simp only at hs
  subst hs
  refine⟨b,off,rfl,World.block_lt_of_cell? W _ c0,fun idx u hu=> ?_⟩
  have hi:idx<len*k:=by
   have h1:=(List.getElem?_eq_some_iff.1 hu).1
   have h2:∀ l:List α,(zBi cells l).length=l.length*k:=fun l=>by
    induction l with
    | nil=>simp[zBi]
    | cons x l ih =>
      show (cells x++zBi cells l).length=_
      rw[List.length_append,hk,ih,List.length_cons,Nat.succ_mul]
      omega
   rw[h2] at h1
   simpa using h1
  have hj:idx / k<len:=Nat.div_lt_of_lt_mul (by rw[Nat.mul_comm];exact hi)
  have hr:idx % k<k:=Nat.mod_lt _ h0
  have hx:((List.range len).map E)[idx / k]? =some (E (idx / k)):=by rw[List.getElem?_map,List.getElem?_range hj];rfl
  have hu2:(cells (E (idx / k)))[idx % k]? =some ((cells (E (idx / k)))[idx % k]'(by rw[hk];exact hr)):=List.getElem?_eq_getElem _
  have h3:=zA9 cells k hk _ (idx / k) (E (idx / k)) hx (idx % k) _ hu2
  have e1:idx / k*k+idx % k=idx:=by rw[Nat.mul_comm];exact Nat.div_add_mod idx k
  rw[e1,hu] at h3
  obtain⟨_,_,hcell⟩:=World.cells?_some (hE (idx / k) hj).1
  have h4:=hcell (idx % k) hr
  rw[hu2,<-h3,Go.Deep.add_add,e1,add_plain] at h4
  exact h4
 ·obtain⟨i,hi,rfl⟩:=List.mem_map.1 hx
  have hi:=List.mem_range.1 hi
  exact⟨D i,(hE i hi).2,hmem i hi⟩
instance:Inhabited En:=⟨⟨0,0,⟨0,0,⟨#[]⟩,false,0⟩⟩⟩
theorem open_ent {H:Type} {enc:TypeId×Value->H} {W:World} {spare:Nat->Bool} {held:Bool} (n:Nat) (cs:List Value) (y:DataW H×List MemPlace)
  (h:DataW.trod enc Tryz.prog W 0 spare held n 57 cs=some y):∃ e:En,cs=e.cells/\Is64 e.v.num/\e.v.str.size<=Rows.uptoBulk y.1:=by
 obtain⟨xs,m,-,hx,hl,hlen,hg⟩:=DataW.trod_struct Tryz.underlying57 h
 have hc:Tryz.prog.cellsOf 57=7:=by kernel_rfl
 have h1:Tryz.prog.cellsOf 55=2:=by kernel_rfl
 have h2:Tryz.prog.cellsOf 44=5:=by kernel_rfl
 have h3:Tryz.prog.cellsOf 3=1:=by kernel_rfl
 rw[hc] at hl
 match cs,hl,xs,hlen with
 | [c0,c1,c2,c3,c4,c5,c6],_,[x0,x1],_ =>
   have g0:=hg 0 _ rfl
   have g1:=hg 1 _ rfl
   simp only[h1,h2,List.drop,List.take,List.getElem?_cons_zero,List.getElem?_cons_succ] at g0 g1
   obtain⟨ys,m2,-,hy,hl2,hlen2,hg2⟩:=DataW.trod_struct Tryz.underlying55 g0
   match ys,hlen2 with
   | [y0,y1],_ =>
     have k0:=hg2 0 _ rfl
     have k1:=hg2 1 _ rfl
     simp only[h3,List.drop,List.take,List.getElem?_cons_zero,List.getElem?_cons_succ] at k0 k1
     obtain⟨r,e0,z0,-⟩:=DataW.trod_int Tryz.underlying3 k0
     obtain⟨c,e1,z1,-⟩:=DataW.trod_int Tryz.underlying3 k1
     obtain⟨v,e2,i2,z2⟩:=open_valW g1
     cases e0;cases e1
     simp only[V.cells,List.cons.injEq,and_true] at e2
     obtain⟨rfl,rfl,rfl,rfl,rfl⟩:=e2
     subst z2
     refine⟨⟨r,c,v⟩,rfl,i2,?_⟩
     rw[hx]
     simp[Rows.uptoBulk,Rows.uptoBulkAll,datW]
     omega
instance:Inhabited Td:=⟨⟨0,⟨0,0,⟨#[]⟩,false,0⟩⟩⟩
instance:Inhabited Nx:=⟨nx0 0⟩
theorem open_told {H:Type} {enc:TypeId×Value->H} {W:World} {spare:Nat->Bool} {held:Bool} (n:Nat) (cs:List Value) (y:DataW H×List MemPlace)
  (h:DataW.trod enc Tryz.prog W 0 spare held n 378 cs=some y):∃ e:Td,cs=e.cells/\Is64 e.v.num:=by
 obtain⟨xs,m,-,hx,hl,hlen,hg⟩:=DataW.trod_struct Tryz.underlying378 h
 have hc:Tryz.prog.cellsOf 378=6:=by kernel_rfl
 have h1:Tryz.prog.cellsOf 2=1:=by kernel_rfl
 have h2:Tryz.prog.cellsOf 44=5:=by kernel_rfl
 rw[hc] at hl
 match cs,hl,xs,hlen with
 | [c0,c1,c2,c3,c4,c5],_,[x0,x1],_ =>
   have g0:=hg 0 _ rfl
   have g1:=hg 1 _ rfl
   simp only[h1,h2,List.drop,List.take,List.getElem?_cons_zero,List.getElem?_cons_succ] at g0 g1
   obtain⟨k,e0,z0,-⟩:=DataW.trod_int Tryz.underlying2 g0
   obtain⟨v,e1,i1,z1⟩:=open_valW g1
   cases e0
   simp only[V.cells,List.cons.injEq,and_true] at e1
   obtain⟨rfl,rfl,rfl,rfl,rfl⟩:=e1
   exact⟨⟨k,v⟩,rfl,i1⟩
theorem open_node {H:Type} {enc:TypeId×Value->H} {W:World} {spare:Nat->Bool} {held:Bool} (n:Nat) (cs:List Value) (y:DataW H×List MemPlace)
  (h:DataW.trod enc Tryz.prog W 0 spare held n 88 cs=some y):∃ x:Nx,cs=x.cells/\Is64 x.v.num/\x.name.size<=Rows.uptoBulk y.1:=by
 obtain⟨xs,m,-,hx,hl,hlen,hg⟩:=DataW.trod_struct Tryz.underlying88 h
 have hc:Tryz.prog.cellsOf 88=15:=by kernel_rfl
 have h0:Tryz.prog.cellsOf 3=1:=by kernel_rfl
 have h1:Tryz.prog.cellsOf 44=5:=by kernel_rfl
 have h2:Tryz.prog.cellsOf 55=2:=by kernel_rfl
 have h3:Tryz.prog.cellsOf 86=4:=by kernel_rfl
 have h4:Tryz.prog.cellsOf 9=1:=by kernel_rfl
 rw[hc] at hl
 match cs,hl,xs,hlen with
 | [c0,c1,c2,c3,c4,c5,c6,c7,c8,c9,c10,c11,c12,c13,c14],_,[x0,x1,x2,x3,x4,x5,x6],_ =>
   have g0:=hg 0 _ rfl
   have g1:=hg 1 _ rfl
   have g2:=hg 2 _ rfl
   have g3:=hg 3 _ rfl
   have g4:=hg 4 _ rfl
   have g5:=hg 5 _ rfl
   have g6:=hg 6 _ rfl
   simp only[h0,h1,h2,h3,h4,List.drop,List.take,List.getElem?_cons_zero,List.getElem?_cons_succ] at g0 g1 g2 g3 g4 g5 g6
   obtain⟨k,e0,z0,-⟩:=DataW.trod_int Tryz.underlying3 g0
   obtain⟨v,e1,i1,z1⟩:=open_valW g1
   obtain⟨ys,m2,-,hy,hl2,hlen2,hg2⟩:=DataW.trod_struct Tryz.underlying55 g2
   obtain⟨zs,m3,-,hz,hl3,hlen3,hg3⟩:=DataW.trod_struct Tryz.underlying86 g3
   obtain⟨op,e4,z4,-⟩:=DataW.trod_int Tryz.underlying3 g4
   obtain⟨s,e5,z5,-⟩:=DataW.trod_string Tryz.underlying9 g5
   obtain⟨ar,e6,z6,-⟩:=DataW.trod_int Tryz.underlying3 g6
   match ys,hlen2,zs,hlen3 with
   | [y0,y1],_,[r0,r1,r2,r3],_ =>
     have k0:=hg2 0 _ rfl
     have k1:=hg2 1 _ rfl
     have j0:=hg3 0 _ rfl
     have j1:=hg3 1 _ rfl
     have j2:=hg3 2 _ rfl
     have j3:=hg3 3 _ rfl
     simp only[h0,List.drop,List.take,List.getElem?_cons_zero,List.getElem?_cons_succ] at k0 k1 j0 j1 j2 j3
     obtain⟨a0,f0,w0,-⟩:=DataW.trod_int Tryz.underlying3 k0
     obtain⟨a1,f1,w1,-⟩:=DataW.trod_int Tryz.underlying3 k1
     obtain⟨b0,p0,q0,-⟩:=DataW.trod_int Tryz.underlying3 j0
     obtain⟨b1,p1,q1,-⟩:=DataW.trod_int Tryz.underlying3 j1
     obtain⟨b2,p2,q2,-⟩:=DataW.trod_int Tryz.underlying3 j2
     obtain⟨b3,p3,q3,-⟩:=DataW.trod_int Tryz.underlying3 j3
     cases e0;cases e4;cases e5;cases e6;cases f0;cases f1;cases p0;cases p1;cases p2;cases p3
     simp only[V.cells,List.cons.injEq,and_true] at e1
     obtain⟨rfl,rfl,rfl,rfl,rfl⟩:=e1
     subst z1;subst z5
     refine⟨⟨k,v,a0,a1,b0,b1,b2,b3,op,s,ar⟩,rfl,i1,?_⟩
     rw[hx]
     simp[Rows.uptoBulk,Rows.uptoBulkAll]
     omega
theorem open_formula {H:Type} {enc:TypeId×Value->H} {W:World} {v:Value} {d:DataW H} {ps:List MemPlace} {r:Reach} {b0:Nat} (hv:Value.okWide Tryz.prog W r b0 24 v) (h:DataW.Trod enc Tryz.prog W 0 (fun _=>true) true 24 v d ps) :
  ∃ (A:Option Addr) (n c:Nat) (xs:List Nx),v=.agg #[.slice A n c]/\Reads W W.heap.size 15 A n (zBi Nx.cells xs)/\n<=Rows.uptoBulk d/\∀ x∈xs,Is64 x.v.num/\x.name.size<=Rows.uptoBulk d:=by
 obtain⟨⟨cs⟩,rfl,-⟩:=okWide_struct Tryz.underlying24 hv
 obtain⟨fuel,hf⟩:=h
 obtain⟨xs,m,-,hx,hl,hlen,hg⟩:=DataW.trod_struct Tryz.underlying24 hf
 have hc:Tryz.prog.cellsOf 24=1:=by kernel_rfl
 have h1:Tryz.prog.cellsOf 22=1:=by kernel_rfl
 rw[hc] at hl
 simp only[Value.cells] at hl hg
 match cs,hl,xs,hlen with
 | [c0],_,[x0],_ =>
   have g0:=hg 0 _ rfl
   simp only[h1,List.drop,List.take,List.getElem?_cons_zero] at g0
   obtain⟨A,n,c,ys,e,hnc,hel,hR,hQ,hn⟩:=open_row Nx.cells 15 (by decide) (fun _=>rfl) (fun (x:Nx) d=>Is64 x.v.num/\x.name.size<=Rows.uptoBulk d) Tryz.underlying22 (by kernel_rfl) open_node g0
   cases e
   have hb:Rows.uptoBulk x0.1<=Rows.uptoBulk d:=by
    have h2:d=_:=congrArg Prod.fst hx
    rw[h2]
    simp[Rows.uptoBulk,Rows.uptoBulkAll]
   refine⟨A,n,c,ys,rfl,hR,by omega,fun x hx=> ?_⟩
   obtain⟨d',hq,hd⟩:=hQ x hx
   exact⟨hq.1,by have:=hq.2;omega⟩
theorem open_world {H:Type} {enc:TypeId×Value->H} {W:World} {v:Value} {d:DataW H} {ps:List MemPlace} {r:Reach} {b0:Nat} (hv:Value.okWide Tryz.prog W r b0 30 v) (h:DataW.Trod enc Tryz.prog W 0 (fun _=>true) true 30 v d ps) :
  ∃ (Ac:Option Addr) (nc cc:Nat) (es:List En) (tx:Int) (hn:Bool) (ta:Option Addr) (tc:Nat) (told:List Td),v=.agg #[.slice Ac nc cc,.int .i64 tx,.bool hn,.slice ta told.length tc]/\Reads W W.heap.size 7 Ac nc (zBi En.cells es)/\nc<=Rows.uptoBulk d/\(∀ e∈es,Is64 e.v.num/\e.v.str.size<=Rows.uptoBulk d)/\Is64 tx /\
    Reads W W.heap.size 6 ta told.length (zBi Td.cells told)/\told.length<=Rows.uptoBulk d/\∀ e∈told,Is64 e.v.num:=by
 obtain⟨⟨cs⟩,rfl,-⟩:=okWide_struct Tryz.underlying30 hv
 obtain⟨fuel,hf⟩:=h
 obtain⟨xs,m,-,hx,hl,hlen,hg⟩:=DataW.trod_struct Tryz.underlying30 hf
 have hc:Tryz.prog.cellsOf 30=4:=by kernel_rfl
 have h1:Tryz.prog.cellsOf 25=1:=by kernel_rfl
 have h2:Tryz.prog.cellsOf 3=1:=by kernel_rfl
 have h3:Tryz.prog.cellsOf 28=2:=by kernel_rfl
 have h4:Tryz.prog.cellsOf 4=1:=by kernel_rfl
 have h5:Tryz.prog.cellsOf 26=1:=by kernel_rfl
 rw[hc] at hl
 simp only[Value.cells] at hl hg
 match cs,hl,xs,hlen with
 | [c0,c1,c2,c3],_,[x0,x1,x2],_ =>
   have g0:=hg 0 _ rfl
   have g1:=hg 1 _ rfl
   have g2:=hg 2 _ rfl
   simp only[h1,h2,h3,List.drop,List.take,List.getElem?_cons_zero,List.getElem?_cons_succ] at g0 g1 g2
   obtain⟨Ac,nc,cc,es,e0,-,-,hR,hQ,hn⟩:=open_row En.cells 7 (by decide) (fun _=>rfl) (fun (e:En) d=>Is64 e.v.num/\e.v.str.size<=Rows.uptoBulk d) Tryz.underlying25 (by kernel_rfl) open_ent g0
   obtain⟨tx,e1,z1,htx⟩:=DataW.trod_int Tryz.underlying3 g1
   obtain⟨ys,m2,-,hy,hl2,hlen2,hg2⟩:=DataW.trod_struct Tryz.underlying28 g2
   match ys,hlen2 with
   | [y0,y1],_ =>
     have k0:=hg2 0 _ rfl
     have k1:=hg2 1 _ rfl
     simp only[h4,h5,List.drop,List.take,List.getElem?_cons_zero,List.getElem?_cons_succ] at k0 k1
     obtain⟨b,e2,z2⟩:=DataW.trod_bool Tryz.underlying4 k0
     obtain⟨ta,nt,tc,told,e3,-,hel,hT,hTQ,hnt⟩:=open_row Td.cells 6 (by decide) (fun _=>rfl) (fun (e:Td) _=>Is64 e.v.num) Tryz.underlying26 (by kernel_rfl) open_told k1
     cases e0;cases e1;cases e2;cases e3
     subst hel
     have hd:d=_:=congrArg Prod.fst hx
     have hb0:Rows.uptoBulk x0.1<=Rows.uptoBulk d:=by
      rw[hd]
      simp[Rows.uptoBulk,Rows.uptoBulkAll]
      omega
     have hb1:Rows.uptoBulk y1.1<=Rows.uptoBulk d:=by
      have hy2:x2.1=_:=congrArg Prod.fst hy
      have h6:Rows.uptoBulk x2.1<=Rows.uptoBulk d:=by
       rw[hd]
       simp[Rows.uptoBulk,Rows.uptoBulkAll]
       omega
      have h7:Rows.uptoBulk y1.1<=Rows.uptoBulk x2.1:=by
       rw[hy2]
       simp[Rows.uptoBulk,Rows.uptoBulkAll]
       omega
      omega
     refine⟨Ac,nc,cc,es,tx,b,ta,tc,told,rfl,hR,by omega,fun e he=> ?_,wf_W htx,hT,by omega,fun e he=> ?_⟩
     ·obtain⟨d',hq,hd'⟩:=hQ e he
      exact⟨hq.1,by have:=hq.2;omega⟩
     ·obtain⟨d',hq,-⟩:=hTQ e he
      exact hq
theorem open_entries {H:Type} {enc:TypeId×Value->H} {W:World} {v:Value} {d:DataW H} {ps:List MemPlace} {r:Reach} {b0:Nat} (hv:Value.okWide Tryz.prog W r b0 25 v) (h:DataW.Trod enc Tryz.prog W 0 (fun _=>true) true 25 v d ps) :
  ∃ (A:Option Addr) (n c:Nat) (es:List En),v=.slice A n c/\Reads W W.heap.size 7 A n (zBi En.cells es)/\n<=Rows.uptoBulk d/\∀ e∈es,Is64 e.v.num/\e.v.str.size<=Rows.uptoBulk d:=by
 obtain⟨A,n,c,rfl⟩:=okWide_slice Tryz.underlying25 hv
 obtain⟨fuel,hf⟩:=h
 obtain⟨A',n',c',es,e,-,-,hR,hQ,hn⟩:=open_row En.cells 7 (by decide) (fun _=>rfl) (fun (e:En) d=>Is64 e.v.num/\e.v.str.size<=Rows.uptoBulk d) Tryz.underlying25 (by kernel_rfl) open_ent hf
 have e1:Value.slice A n c=.slice A' n' c':=by simpa [Value.cells] using e
 cases e1
 exact⟨A,n,c,es,rfl,hR,hn,fun e he=>by
  obtain⟨d',hq,hd'⟩:=hQ e he
  exact⟨hq.1,Nat.le_trans hq.2 hd'⟩⟩
end Go.Proofs.YtppghgnhlgoagaaGreatDoor
