/-
  The law FuncsCalls: for every name, arguments and bound of texts (of bulk at most 1048576) it returns true: the table answers as the document says; all read behind the call as they read before. Condition: the row's own bound of bulk.
-/
import Derived.Test.YtnccknhbplaieaaGreatDoorCards
import Derived.Test.YtnccknhbplaieaaGreatDoorTie
import Derived.Test.YtnccknhbplaieaaGreatDoorC50
import Derived.Test.YtnccknhbplaieaaGreatDoorC51
import Derived.Test.YtnccknhbplaieaaGreatDoorC52
import Derived.Test.YtnccknhbplaieaaGreatDoorC53
import Derived.Shelf.Vars
set_option linter.all false
set_option maxRecDepth 100000
set_option maxHeartbeats 4000000
namespace Go.Proofs.YtnccknhbplaieaaGreatDoor.fnCalls
open Go.ChangeShapes Go.WideShapes Go.ChangeAt Go.RowKit Go.Joins Go.Deep
theorem laid_tab:(Rows.funcsCallsUptoRow.laid.filter fun x=>x.2.handleName?.isNone).filter (fun x=>x.1== "internal/strconv.uint64pow10")=[("internal/strconv.uint64pow10",Lib.tabData .u64 Lib.pow10Tab)]:=by kernel_rfl
theorem maxL_of {W:World} (h:W.ShapedOpen Tryz.prog):MaxL W:=by
 obtain⟨m,hm⟩:=cell_of_shapedOpen_int (g:=2) (k:=.i64) (t:=3) (zero:=#[.int .i64 0]) h (of_decide_eq_true (by kernel_rfl)) (by kernel_rfl) rfl (by kernel_rfl) (by kernel_rfl) Tryz.underlying3;exact⟨m,hm⟩
theorem contract (H:Type) (enc:TypeId×Value->H) (W:World) (base:Nat) (args:Array Value) (ds gs:List (DataW H)) (before:List MemPlace)
  (hval:∀ (j:Nat) t v,Tryz.f3.params[j]? =some t->args[j]? =some v->Value.okWide Tryz.prog W .any base t v)
  (hW:DataW.Whole enc Tryz.prog Tryz.f3.params.toList Rows.funcsCallsSpec.vars false W args.toList ds gs before) (hb:Rows.uptoSmall H (ds++gs)=true) (hL:laidMetH Tryz.prog Rows.funcsCallsUptoRow.laid W) (hS:W.ShapedOpen Tryz.prog) :
  Calls Tryz.prog 3 args W fun e W'=>∃ v,e=.returned v/\Rows.funcsCallsSpec.post enc Tryz.prog Tryz.f3 false true false false W args v W':=by
 have hc:=hW;have ha:∀ x∈before,x.block<W.heap.size:=fun x hx=>hc.lt x hx;obtain⟨p,q,hd,hV,rfl,hfz,hnd⟩:=hW;have hA:DataW.TrodAll enc Tryz.prog W 0 (fun _=>true) true Tryz.f3.params.toList args.toList ds p:=hd;rw[Tryz.params3] at hA hval;obtain⟨v0,vs0,d0,ds0,p0,q0,hf,rfl,rfl,h0,r0⟩:=trodAll_cons hA;obtain⟨v1,vs1,d1,ds1,p1,q1,rfl,rfl,rfl,h1,r1⟩:=trodAll_cons r0;obtain⟨v2,vs2,d2,ds2,p2,q2,rfl,rfl,rfl,h2,r2⟩:=trodAll_cons r1;obtain⟨rfl,rfl,rfl⟩:=trodAll_nil r2;obtain rfl:args= #[v0,v1,v2]:=by cases args;simp_all
 obtain⟨rfl,rfl⟩:=trodVars_none hV;have hh:Rows.uptoBulk d1<=1048576:=by
  have h:=of_decide_eq_true hb;simp only[List.cons_append,List.nil_append,Rows.uptoBulkAll] at h;omega
 obtain⟨s,rfl,rfl,rfl,hs⟩:=Go.ChangeMaps.open_string Tryz.underlying9 (hval 0 9 v0 rfl rfl) h0;obtain⟨A,n,c,pl,rfl,hR⟩:=open_args (hval 1 22 v1 rfl rfl) h1 hh (pow10_laid laid_tab hL) (maxL_of hS);obtain⟨tx,rfl,rfl,rfl,hi⟩:=open_int Tryz.underlying3 (hval 2 3 v2 rfl rfl) h2;clear hd;simp only[List.append_nil,List.nil_append] at hc ha;refine(funcsCalls hR s tx).mono fun e W' ⟨he,hg⟩=> ?_;subst he;exact⟨_,rfl,post_of_below (pa:=p1) (pv:=[]) hc (fun _ _ _=>trodAll_cons_mk (shut_bool Tryz.underlying4 _) trodAll_mk0)
  (fun sp hsp=>by have h:=trodAll_cons_mk (Go.ChangeMaps.shut_string (enc:=enc) (base:=0) (sp:=sp) Tryz.underlying9 hs) (trodAll_cons_mk (trod_kept laid_out (by kernel_rfl) (of_decide_eq_true (by kernel_rfl)) h1 hg ha sp hsp) (trodAll_cons_mk (Go.ChangeShapes.shut_int (enc:=enc) (base:=0) (spare:=sp) Tryz.underlying3 hi) trodAll_mk0));simp only[List.nil_append,List.append_nil] at h;exact h)
  (fun _ _=>rfl) (by simp) hg (ok_one (by kernel_rfl) rfl (okWide_bool_mk Tryz.underlying4 _))⟩
theorem lifted (os:Os) (started:os.Started) (H:Type) (enc:TypeId×Value->H) (F:Stop.Interp) :
  ReturnsInHanded {} Tryz.checked os 3 .any ((Rows.OpenSpec.upto Rows.funcsCallsSpec).preRow enc Tryz.prog Tryz.f3 Rows.funcsCallsUptoRow.domain false Rows.funcsCallsUptoRow.laid) (((Rows.OpenSpec.upto Rows.funcsCallsSpec).at F).post enc Tryz.prog Tryz.f3 false true false false):=by
 obtain⟨places,hx⟩:∃ places,DataW.whole enc Tryz.prog ((World.laidAll Tryz.prog os Rows.funcsCallsUptoRow.laid).forCall (fun _ _=>0) ⟨#[],#[.string ⟨#[]⟩,.slice none 0 0,.int .i64 0],[]⟩).memory Tryz.f3.params.toList Rows.funcsCallsSpec.vars false #[Value.string ⟨#[]⟩,.slice none 0 0,.int .i64 0].toList 8=some ([.lit (.string []),.nil,.lit (.int .i64 0)],[],places):=⟨[],by kernel_rfl⟩
 refine returnsInHanded_of_row (C:=Tryz.checked) (s:=Rows.OpenSpec.upto Rows.funcsCallsSpec) own_knob started (by kernel_rfl) Tryz.func3
  (witness_row_atRef (enc:=enc) (C:=Tryz.checked) false (World.laidAll Tryz.prog os Rows.funcsCallsUptoRow.laid) #[.string ⟨#[]⟩,.slice none 0 0,.int .i64 0] (World.laidAll_os _ _ _) (by kernel_rfl) (by kernel_rfl) (by kernel_rfl)
   (OpenSpec.preRow_of_cond 8 hx (by kernel_rfl) (fun k hk=>by cases hk;kernel_rfl) (by kernel_rfl) (laidMet_laidAll _ (by kernel_rfl) (by kernel_rfl)))) ?_
 intro W base args ds gs before hb hW _ ha _ hL hS _;exact contract H enc W base args ds gs before hb hW (ha _ rfl) hL hS
theorem said:Rows.FuncsCallsUptoSaid :=
 OpenClaim.holds_of_cond 3 Tryz.f3 rfl rfl rfl rfl rfl rfl rfl ⟨rfl,rfl,rfl,rfl,rfl⟩ rfl rfl rfl rfl rfl (by kernel_rfl) Tryz.func3 factsFuncsCalls.closed
  (of_decide_eq_true (by kernel_rfl)) (by unfold Func.isWrapper;first|(rw[if_pos (by decide +kernel)];kernel_rfl)|(rw[if_neg (by decide +kernel)];exact⟨rfl,rfl⟩))
  (fun os started H enc _ F=>by rw[OpenClaim.pre_eq_preRow];exact lifted os started H enc F)
theorem plain (f:FuncId) (fn:Func) (hf:Tryz.pinned.checked.prog.funcNamed "oriel/oriellaw11.FuncsCalls" =some f) (hfn:Tryz.pinned.checked.prog.funcs[f]? =some fn) :
  true=Tryz.pinned.checked.prog.looks []/\∀ (j:Nat) t,fn.params[j]? =some t->Tryz.pinned.checked.prog.wantsStandIn t=false:=by
 obtain rfl:f=3:=Option.some.inj ((show Tryz.prog.funcNamed "oriel/oriellaw11.FuncsCalls" =some 3 by kernel_rfl).symm.trans hf) |>.symm
 obtain rfl:fn=Tryz.f3:=(Option.some.inj (Tryz.func3.symm.trans hfn)).symm;refine⟨by kernel_rfl,fun j t ht=> ?_⟩;rw[Tryz.params3] at ht;have hm:t∈[9,22,3]:=by simpa using Array.mem_of_getElem? ht
 have ha:([9,22,3].all fun u=> !Tryz.prog.wantsStandIn u)=true:=by kernel_rfl
 exact(show Tryz.prog.wantsStandIn t=false by simpa using List.all_eq_true.1 ha t hm)
theorem card:Rows.FuncsCallsUptoCardSaid :=
 Claim7.holds_tied_plain_at .later [] _ _ _ _ said (fun _ h=>by cases h) (by kernel_rfl) (fun _ h=>by cases h) funcsCallsUpto_row_tie rfl ⟨rfl,rfl⟩ (by kernel_rfl) rfl plain goes
end Go.Proofs.YtnccknhbplaieaaGreatDoor.fnCalls
