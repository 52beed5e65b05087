/-
  The law EvalSame: for every formula, world and other cells (of bulk at most 1048576) it returns true: what cells have to which the formula does not refer changes nothing of its value, nor of what is asked; all read behind the call as they read before. Condition: the row's own bound of bulk.
-/
import Derived.Test.YtppghgnhlgoagaaGreatDoorCards
import Derived.Test.YtppghgnhlgoagaaGreatDoorTie
import Derived.Test.YtppghgnhlgoagaaGreatDoorG51
import Derived.Test.YtppghgnhlgoagaaGreatDoorG52
import Derived.Test.YtppghgnhlgoagaaGreatDoorG53
import Derived.Shelf.Vars
set_option linter.all false
set_option maxRecDepth 100000
set_option maxHeartbeats 4000000
namespace Go.Proofs.YtppghgnhlgoagaaGreatDoor.fnSame
open Go.ChangeShapes Go.WideShapes Go.ChangeAt Go.RowKit Go.Joins Go.Deep
theorem laid_tab:(Rows.evalSameUptoRow.laid.filter fun x=>x.2.handleName?.isNone).filter (fun x=>x.1== "internal/strconv.uint64pow10")=[("internal/strconv.uint64pow10",Lib.tabData .u64 Lib.pow10Tab)]:=by kernel_rfl
theorem maxL_of {W:World} (h:W.ShapedOpen Tryz.prog):MaxL W:=by
 obtain⟨m,hm⟩:=cell_of_shapedOpen_int (g:=2) (k:=.i64) (t:=3) (zero:=#[.int .i64 0]) h (of_decide_eq_true (by kernel_rfl)) (by kernel_rfl) rfl (by kernel_rfl) (by kernel_rfl) Tryz.underlying3
 exact⟨m,hm⟩
theorem contract (H:Type) (enc:TypeId×Value->H) (W:World) (base:Nat) (args:Array Value) (ds gs:List (DataW H)) (before:List MemPlace)
  (hval:∀ (j:Nat) t v,Tryz.f5.params[j]? =some t->args[j]? =some v->Value.okWide Tryz.prog W .any base t v)
  (hW:DataW.Whole enc Tryz.prog Tryz.f5.params.toList Rows.evalSameSpec.vars false W args.toList ds gs before) (hb:Rows.uptoSmall H (ds++gs)=true) (hL:laidMetH Tryz.prog Rows.evalSameUptoRow.laid W) (hS:W.ShapedOpen Tryz.prog) :
  Calls Tryz.prog 5 args W fun e W'=>∃ v,e=.returned v/\Rows.evalSameSpec.post enc Tryz.prog Tryz.f5 false true false false W args v W':=by
 have hW':=hW
 have hlt0:∀ x∈before,x.block<W.heap.size:=fun x hx=>hW'.lt x hx
 obtain⟨p,q,hA0,hV,rfl,hfz,hnd⟩:=hW
 have hA:DataW.TrodAll enc Tryz.prog W 0 (fun _=>true) true Tryz.f5.params.toList args.toList ds p:=hA0
 rw[Tryz.params5] at hA hval
 obtain⟨v0,vs0,d0,ds0,p0,q0,hargs,rfl,rfl,h0,r0⟩:=trodAll_cons hA
 obtain⟨v1,vs1,d1,ds1,p1,q1,rfl,rfl,rfl,h1,r1⟩:=trodAll_cons r0
 obtain⟨v2,vs2,d2,ds2,p2,q2,rfl,rfl,rfl,h2,r2⟩:=trodAll_cons r1
 obtain⟨rfl,rfl,rfl⟩:=trodAll_nil r2
 obtain rfl:args= #[v0,v1,v2]:=by cases args;simp_all
 obtain⟨rfl,rfl⟩:=trodVars_none hV
 have hb1:Rows.uptoBulk d0+Rows.uptoBulk d1+Rows.uptoBulk d2<=1048576:=by
  have h:=of_decide_eq_true hb
  simp only[List.cons_append,List.nil_append,Rows.uptoBulkAll] at h
  omega
 obtain⟨Af,nf,cf,xs,rfl,hf,hnf,hfx⟩:=open_formula (hval 0 24 v0 rfl rfl) h0
 obtain⟨Ac,nc,cc,es,tx,hn,ta,tc,told,rfl,he,hnc,hex,htx,ht,hnt,htd⟩:=open_world (hval 1 30 v1 rfl rfl) h1
 obtain⟨Ao,no,co,other,rfl,ho,hno,hox⟩:=open_entries (hval 2 25 v2 rfl rfl) h2
 have hR:LawIn12 W xs Af nf es Ac nc told ta tx:=⟨hf,by omega,fun x hx=>by have:=(hfx x hx).2;omega,fun x hx=>(hfx x hx).1,he,by omega,fun e he=>(hex e he).1,fun e he=>by have:=(hex e he).2;omega,ht,by omega,htd,htx,pow10_laid laid_tab hL,maxL_of hS⟩
 clear hA0
 simp only[List.append_nil,List.nil_append] at hW' hlt0
 refine(evalSame hR cf cc tc co hn ho (by omega) (fun e he=>(hox e he).1) (fun e he=>by have:=(hox e he).2;omega)).mono fun e W' ⟨he,hg⟩=> ?_
 subst he
 exact⟨_,rfl,post_of_below (pa:=p0++(p1++p2)) (pv:=[]) hW' (fun _ _ _=>trodAll_cons_mk (shut_bool Tryz.underlying4 _) trodAll_mk0)
  (fun sp hsp=>by have h:=trodAll_cons_mk (trod_kept laid_out (by kernel_rfl) (of_decide_eq_true (by kernel_rfl)) h0 hg (fun x hx=>hlt0 x (List.mem_append_left _ hx)) sp (fun x hx=>hsp x (List.mem_append_left _ hx))) (trodAll_cons_mk (trod_kept laid_out (by kernel_rfl) (of_decide_eq_true (by kernel_rfl)) h1 hg (fun x hx=>hlt0 x (List.mem_append_right _ (List.mem_append_left _ hx))) sp (fun x hx=>hsp x (List.mem_append_right _ (List.mem_append_left _ hx)))) (trodAll_cons_mk (trod_kept laid_out (by kernel_rfl) (of_decide_eq_true (by kernel_rfl)) h2 hg (fun x hx=>hlt0 x (List.mem_append_right _ (List.mem_append_right _ hx))) sp (fun x hx=>hsp x (List.mem_append_right _ (List.mem_append_right _ hx)))) trodAll_mk0));simp only[List.nil_append,List.append_nil] at h;exact h)
  (fun _ _=>rfl) (by simp) hg (ok_one (by kernel_rfl) rfl (okWide_bool_mk Tryz.underlying4 _))⟩
theorem lifted (os:Os) (started:os.Started) (H:Type) (enc:TypeId×Value->H) (F:Stop.Interp) :
  ReturnsInHanded {} Tryz.checked os 5 .any ((Rows.OpenSpec.upto Rows.evalSameSpec).preRow enc Tryz.prog Tryz.f5 Rows.evalSameUptoRow.domain false Rows.evalSameUptoRow.laid) (((Rows.OpenSpec.upto Rows.evalSameSpec).at F).post enc Tryz.prog Tryz.f5 false true false false):=by
 obtain⟨places,hx⟩:∃ places,DataW.whole enc Tryz.prog ((World.laidAll Tryz.prog os Rows.evalSameUptoRow.laid).forCall (fun _ _=>0) ⟨#[],#[.agg #[.slice none 0 0],.agg #[.slice none 0 0,.int .i64 0,.bool false,.slice none 0 0],.slice none 0 0],[]⟩).memory Tryz.f5.params.toList Rows.evalSameSpec.vars false #[Value.agg #[.slice none 0 0],.agg #[.slice none 0 0,.int .i64 0,.bool false,.slice none 0 0],.slice none 0 0].toList 8=some ([.agg [.nil],.agg [.nil,.lit (.int .i64 0),.agg [.lit (.bool false),.nil]],.nil],[],places):=⟨[],by kernel_rfl⟩
 refine returnsInHanded_of_row (C:=Tryz.checked) (s:=Rows.OpenSpec.upto Rows.evalSameSpec) own_knob started (by kernel_rfl) Tryz.func5
  (witness_row_atRef (enc:=enc) (C:=Tryz.checked) false (World.laidAll Tryz.prog os Rows.evalSameUptoRow.laid) #[.agg #[.slice none 0 0],.agg #[.slice none 0 0,.int .i64 0,.bool false,.slice none 0 0],.slice none 0 0] (World.laidAll_os _ _ _) (by kernel_rfl) (by kernel_rfl) (by kernel_rfl)
   (OpenSpec.preRow_of_cond 8 hx (by kernel_rfl) (fun k hk=>by cases hk;kernel_rfl) (by kernel_rfl) (laidMet_laidAll _ (by kernel_rfl) (by kernel_rfl)))) ?_
 intro W base args ds gs before hval hW _ hcond _ hL hS _
 exact contract H enc W base args ds gs before hval hW (hcond _ rfl) hL hS
theorem said:Rows.EvalSameUptoSaid :=
 OpenClaim.holds_of_cond 5 Tryz.f5 rfl rfl rfl rfl rfl rfl rfl ⟨rfl,rfl,rfl,rfl,rfl⟩ rfl rfl rfl rfl rfl (by kernel_rfl) Tryz.func5 factsEvalSame.closed
  (of_decide_eq_true (by kernel_rfl)) (by unfold Func.isWrapper;first|(rw[if_pos (by decide +kernel)];kernel_rfl)|(rw[if_neg (by decide +kernel)];exact⟨rfl,rfl⟩))
  (fun os started H enc _ F=>by rw[OpenClaim.pre_eq_preRow];exact lifted os started H enc F)
theorem plain (f:FuncId) (fn:Func) (hf:Tryz.pinned.checked.prog.funcNamed "oriel/oriellaw12.EvalSame" =some f) (hfn:Tryz.pinned.checked.prog.funcs[f]? =some fn) :
  true=Tryz.pinned.checked.prog.looks []/\∀ (j:Nat) t,fn.params[j]? =some t->Tryz.pinned.checked.prog.wantsStandIn t=false:=by
 obtain rfl:f=5:=Option.some.inj ((show Tryz.prog.funcNamed "oriel/oriellaw12.EvalSame" =some 5 by kernel_rfl).symm.trans hf) |>.symm
 obtain rfl:fn=Tryz.f5:=(Option.some.inj (Tryz.func5.symm.trans hfn)).symm
 refine⟨by kernel_rfl,fun j t ht=> ?_⟩
 rw[Tryz.params5] at ht
 have hm:t∈[24,30,25]:=by simpa using Array.mem_of_getElem? ht
 have hall:([24,30,25].all fun u=> !Tryz.prog.wantsStandIn u)=true:=by kernel_rfl
 exact(show Tryz.prog.wantsStandIn t=false by simpa using List.all_eq_true.1 hall t hm)
theorem card:Rows.EvalSameUptoCardSaid :=
 Claim7.holds_tied_plain_at .later [] _ _ _ _ said (fun _ h=>by cases h) (by kernel_rfl) (fun _ h=>by cases h) evalSameUpto_row_tie rfl ⟨rfl,rfl⟩ (by kernel_rfl) rfl plain (by kernel_rfl)
end Go.Proofs.YtppghgnhlgoagaaGreatDoor.fnSame
