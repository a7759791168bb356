/- TopNeverOther: whatever all shelves have, and however they lie: a chunk that is told by its name is the one that was put, or an error is told, for every key, noise, data and store (for more than 600 bytes, and for shelves of more than 20 objects, 200 fates, 2000 bytes of an object or 200 of a name, the statement asks the document's example alone). The tables of the packages hash, strconv and math/bits, and strconv's two errors, hold what the program's text lays (the row lists them, the card ties them). No condition of ours. -/
import Derived.Test.YtdjholkjkbihmaaGreatDoorCards
import Derived.Test.YtdjholkjkbihmaaGreatDoorTie
import Derived.ProofKit
import Derived.Deep.DeepHandedRow
import Derived.Carry
import Derived.Test.YtdjholkjkbihmaaGreatDoorF28
import Derived.Test.YtdjholkjkbihmaaGreatDoorF29
import Derived.Test.YtdjholkjkbihmaaGreatDoorF30
namespace Go.Proofs.YtdjholkjkbihmaaGreatDoor
open Go.RowKit
set_option maxRecDepth 100000
set_option maxHeartbeats 4000000
section
open Go.ChangeShapes Go.WideShapes Go.ChangeAt Go.RowKit
open Go.ChangeMaps (open_string shut_string)
theorem own_knob :ownKnob Tryz.prog.godebug=none:=by kernel_rfl
theorem laid_out :laidOutB Tryz.prog=true:=by kernel_rfl
theorem list_of (s:ByteArray)(h:s.size<=maxLen):∃ l:List UInt8,s=⟨l.toArray⟩/\l.length<=maxLen:=by
 refine⟨s.data.toList,?_,?_⟩
 ·cases s;simp
 ·have e:s.data.toList.length=s.size:=by rw[Array.length_toList];rfl
  omega
theorem gPow :Tryz.prog.globalNamed "internal/strconv.uint64pow10" = some 3:=by kernel_rfl
theorem gPowT :(Tryz.prog.globals[3]?).map (·.type)=some 404:=by kernel_rfl
theorem row_star : "*" ++ "errors.errorString" = "*errors.errorString":=by decide
theorem row_err (u:TypeId)(h:Tryz.prog.typeName? 3 u=some "*errors.errorString"):u = 412 :=
 typeName_ptr_named (nm:= "errors.errorString") (by rw[row_star];kernel_rfl) (by kernel_rfl) (by decide) u (by rw[row_star];exact h)
def laidIn (cs:Array Value):Obj->Obj
 | .cells _ t frozen=>.cells cs t frozen
 | o=>o
abbrev rangeS :ByteArray:={ data:=#[118,97,108,117,101,32,111,117,116,32,111,102,32,114,97,110,103,101] }
abbrev syntaxS :ByteArray:={ data:=#[105,110,118,97,108,105,100,32,115,121,110,116,97,120] }
noncomputable def low :Nat:=(World.holding Tryz.prog default ⟨#[],#[],[]⟩).heap.size
noncomputable def hashWorld (os:Os):World :=
 let w:=World.holding Tryz.prog os ⟨#[.cells #[.string rangeS] 414,.cells #[.string syntaxS] 414],#[],[]⟩
 { w with heap:=((((((w.heap.modify 0 (laidIn (cells eightV))).modify 1 (laidIn sigCells)).modify 6 (laidIn #[.int .u8 0,.int .u8 1,.int .u8 28,.int .u8 2,.int .u8 29,.int .u8 14,.int .u8 24,.int .u8 3,.int .u8 30,.int .u8 22,.int .u8 20,.int .u8 15,.int .u8 25,.int .u8 17,.int .u8 4,.int .u8 8,.int .u8 31,.int .u8 27,.int .u8 13,.int .u8 23,.int .u8 21,.int .u8 19,.int .u8 16,.int .u8 7,.int .u8 26,.int .u8 12,.int .u8 18,.int .u8 6,.int .u8 11,.int .u8 5,.int .u8 10,.int .u8 9])).modify 7 (laidIn #[.int .u8 0,.int .u8 1,.int .u8 56,.int .u8 2,.int .u8 57,.int .u8 49,.int .u8 28,.int .u8 3,.int .u8 61,.int .u8 58,.int .u8 42,.int .u8 50,.int .u8 38,.int .u8 29,.int .u8 17,.int .u8 4,.int .u8 62,.int .u8 47,.int .u8 59,.int .u8 36,.int .u8 45,.int .u8 43,.int .u8 51,.int .u8 22,.int .u8 53,.int .u8 39,.int .u8 33,.int .u8 30,.int .u8 24,.int .u8 18,.int .u8 12,.int .u8 5,.int .u8 63,.int .u8 55,.int .u8 48,.int .u8 27,.int .u8 60,.int .u8 41,.int .u8 37,.int .u8 16,.int .u8 46,.int .u8 35,.int .u8 44,.int .u8 21,.int .u8 52,.int .u8 32,.int .u8 23,.int .u8 11,.int .u8 54,.int .u8 26,.int .u8 40,.int .u8 15,.int .u8 34,.int .u8 20,.int .u8 31,.int .u8 10,.int .u8 25,.int .u8 14,.int .u8 19,.int .u8 9,.int .u8 13,.int .u8 8,.int .u8 7,.int .u8 6])).modify 3 (laidIn #[.int .u64 1,.int .u64 10,.int .u64 100,.int .u64 1000,.int .u64 10000,.int .u64 100000,.int .u64 1000000,.int .u64 10000000,.int .u64 100000000,.int .u64 1000000000,.int .u64 10000000000,.int .u64 100000000000,.int .u64 1000000000000,.int .u64 10000000000000,.int .u64 100000000000000,.int .u64 1000000000000000,.int .u64 10000000000000000,.int .u64 100000000000000000,.int .u64 1000000000000000000,.int .u64 10000000000000000000])).modify 5 (laidIn #[.iface 412 (pt low)])).modify 4 (laidIn #[.iface 412 (px (low+1) 0)]) }
theorem glob_top {W:World}(hL:laidMet Tryz.prog [("math/bits.deBruijn32tab",Rows.laid_math_bits_deBruijn32tab),("math/bits.deBruijn64tab",Rows.laid_math_bits_deBruijn64tab),("hibernacle/hash.eight",Rows.laid_hibernacle_hash_eight),("hibernacle/hash.rows",Rows.laid_hibernacle_hash_rows),("internal/strconv.uint64pow10",Rows.laid_internal_strconv_uint64pow10),("strconv.ErrRange",Rows.laid_strconv_ErrRange),("strconv.ErrSyntax",Rows.laid_strconv_ErrSyntax)] W):HG W/\GL W:=by
 have h2:=hL.tail.tail
 have h4:=h2.tail.tail
 obtain⟨a1,s1,hv1,_⟩:=laid_sentinel h4.tail (g:=5) (ti:=144) (by kernel_rfl) (by kernel_rfl) Tryz.underlying144 row_err Tryz.underlying412 Tryz.underlying414 rfl rfl Tryz.underlying9 (by kernel_rfl) (by kernel_rfl)
 obtain⟨a2,s2,hv2,_⟩:=laid_sentinel h4.tail.tail (g:=4) (ti:=144) (by kernel_rfl) (by kernel_rfl) Tryz.underlying144 row_err Tryz.underlying412 Tryz.underlying414 rfl rfl Tryz.underlying9 (by kernel_rfl) (by kernel_rfl)
 exact⟨⟨eight_cells h2,rows_cells h2.tail⟩,Lib.tabIs_of_head gPow gPowT Tryz.underlying404 Tryz.underlying63 (by kernel_rfl) (by kernel_rfl) h4,⟨_,_,hv2⟩,⟨_,_,hv1⟩⟩
theorem never_any (k no dt:List UInt8)(u0 v0 u1 v1 u2 v2 u3 v3 u4 v4:Value)(Z:Nat->Shf)(left:Int)(W:World)(hG:HG W/\GL W)(hk:k.length=32)(hn:no.length=64)(_:dt.length<=maxLen)(hW:StoW W u0 v0 u1 v1 u2 v2 u3 v3 u4 v4 Z)(hl0:-9223372036854775808<=left)(hl1:left<=9223372036854775807):RV 3 #[.agg (cells8 k),.agg (cells8 no),sv dt,.agg #[u0,v0,u1,v1,u2,v2,u3,v3,u4,v4,i6 left]] W (.bool true) :=
 neverS hG.1 (envE hG.1 hG.2) hk hn hW ⟨hl0,hl1⟩
theorem topNeverOther_contract (H:Type)(enc:TypeId×Value->H)(W:World)(base:Nat)(args:Array Value)(ds gs:List (DataW H))(before:List MemPlace)
  (hval:∀ (j:Nat) t v,Tryz.f3.params[j]?=some t->args[j]?=some v->Value.okWide Tryz.prog W .any base t v)
  (hW:DataW.Whole enc Tryz.prog Tryz.f3.params.toList Rows.topNeverOtherSpec.vars false W args.toList ds gs before) (hL:laidMetH Tryz.prog Rows.topNeverOtherRow.laid W) :
  Calls Tryz.prog 3 args W fun e W'=>∃ v,e = .returned v/\Rows.topNeverOtherSpec.post enc Tryz.prog Tryz.f3 false true false false W args v W':=by
 have hG:=glob_top hL
 have hW':=hW
 obtain⟨p,q,hA0,hV,rfl,hfz,hnd⟩:=hW
 have hA:DataW.TrodAll enc Tryz.prog W 0 (fun _=>true) true Tryz.f3.params.toList args.toList ds p:=hA0
 rw[Tryz.params3] at hA hval
 obtain⟨v0,v1,v2,v3,d0,d1,d2,d3,p0,p1,p2,p3,rfl,rfl,rfl,h0,h1,h2,h3⟩:=trodAll_four hA
 obtain⟨rfl,rfl⟩:=trodVars_none hV
 obtain⟨k0,hk0,rfl⟩:=open_byteArr Tryz.underlying23 Tryz.underlying5 co8 (by kernel_rfl) (hval 0 23 v0 rfl rfl) h0
 obtain⟨k1,hk1,rfl⟩:=open_byteArr Tryz.underlying24 Tryz.underlying5 co8 (by kernel_rfl) (hval 1 24 v1 rfl rfl) h1
 obtain⟨s2,rfl,hds2,hps2,hs2⟩:=open_string Tryz.underlying9 (hval 2 9 v2 rfl rfl) h2
 obtain⟨l2,rfl,hl2⟩:=list_of s2 hs2
 obtain⟨u0,w0,u1,w1,u2,w2,u3,w3,u4,w4,Z,left,rfl,hW4,hl0,hl1⟩:=open_store (hval 3 31 v3 rfl rfl) h3
 refine(never_any k0 k1 l2 u0 w0 u1 w1 u2 w2 u3 w3 u4 w4 Z left W hG hk0 hk1 hl2 hW4 hl0 hl1).mono fun e W' ⟨he,hb⟩=>?_
 exact⟨_,he,law_post laid_out (by kernel_rfl) rfl hW' hb (T:=4) rfl Tryz.underlying4 rfl rfl rfl⟩
theorem topNeverOther_laid (os:Os):laidMet Tryz.prog Rows.topNeverOtherRow.laid ((hashWorld os).forCall (fun _ _=>0) ⟨#[],#[.agg (cells8 (List.replicate 32 0)),.agg (cells8 (List.replicate 64 0)),.string .empty,.agg #[nv,nv,nv,nv,nv,nv,nv,nv,nv,nv,i6 0]],[]⟩).memory :=
 laidMet_of_run' 8 (by kernel_rfl) (by kernel_rfl)
theorem topNeverOther_reads (os:Os){H:Type}(enc:TypeId×Value->H):∃ places,DataW.whole enc Tryz.prog ((hashWorld os).forCall (fun _ _=>0) ⟨#[],#[.agg (cells8 (List.replicate 32 0)),.agg (cells8 (List.replicate 64 0)),.string .empty,.agg #[nv,nv,nv,nv,nv,nv,nv,nv,nv,nv,i6 0]],[]⟩).memory Tryz.f3.params.toList Rows.topNeverOtherSpec.vars false #[.agg (cells8 (List.replicate 32 0)),.agg (cells8 (List.replicate 64 0)),.string .empty,.agg #[nv,nv,nv,nv,nv,nv,nv,nv,nv,nv,i6 0]].toList 8=some ([.agg ((List.replicate 32 (0:UInt8)).map fun b=>.lit (.int .u8 (b.toNat:Int))),.agg ((List.replicate 64 (0:UInt8)).map fun b=>.lit (.int .u8 (b.toNat:Int))),.lit (.string []),.agg [.agg [.agg [.nil,.nil],.agg [.nil,.nil],.agg [.nil,.nil],.agg [.nil,.nil],.agg [.nil,.nil]],.lit (.int .i64 0)]],[],places) :=
 ⟨[],by kernel_rfl⟩
theorem topNeverOther_lifted (os:Os)(started:os.Started)(H:Type)(enc:TypeId×Value->H)(F:Stop.Interp) :
  ReturnsInHanded {} Tryz.checked os 3 .any ((OpenSpec.ofChange Rows.topNeverOtherSpec).preRow enc Tryz.prog Tryz.f3 Rows.topNeverOtherRow.domain false Rows.topNeverOtherRow.laid) (((OpenSpec.ofChange Rows.topNeverOtherSpec).at F).post enc Tryz.prog Tryz.f3 false true false false):=by
 obtain⟨places,hx⟩:=topNeverOther_reads os enc
 refine returnsInHanded_of_row (C:=Tryz.checked) (s:=OpenSpec.ofChange Rows.topNeverOtherSpec) own_knob started (by kernel_rfl) Tryz.func3
  (witness_row_at (enc:=enc) (C:=Tryz.checked) false (hashWorld os) #[.agg (cells8 (List.replicate 32 0)),.agg (cells8 (List.replicate 64 0)),.string .empty,.agg #[nv,nv,nv,nv,nv,nv,nv,nv,nv,nv,i6 0]] rfl (by kernel_rfl) (by kernel_rfl) (by kernel_rfl)
   (OpenSpec.preRow_of_cond 8 hx (by kernel_rfl) (fun k hk=>by cases hk) (by kernel_rfl) (topNeverOther_laid os))) ?_
 intro W base args ds gs before hval hW _ _ _ hL _ _
 exact topNeverOther_contract H enc W base args ds gs before hval hW hL
theorem topNeverOther_said :Rows.TopNeverOtherSaid :=
 OpenClaim.holds_of_cond 3 Tryz.f3 rfl rfl rfl rfl rfl rfl rfl ⟨rfl,rfl,rfl,rfl,rfl⟩ rfl rfl rfl rfl rfl (by kernel_rfl) Tryz.func3 jfAll
  (of_decide_eq_true (by kernel_rfl)) (by unfold Func.isWrapper;first | (rw[if_pos (by decide +kernel)];kernel_rfl) | (rw[if_neg (by decide +kernel)];exact⟨rfl,rfl⟩))
  (fun os started H enc _ F=>by rw[OpenClaim.pre_eq_preRow];exact topNeverOther_lifted os started H enc F)
theorem topNeverOther_plain (f:FuncId)(fn:Func)(hf:Tryz.pinned.checked.prog.funcNamed "hibernacle/hibernacletop.TopNeverOther" = some f)(hfn:Tryz.pinned.checked.prog.funcs[f]?=some fn) :
  true=Tryz.pinned.checked.prog.looks [] ∧ ∀ (j:Nat) t,fn.params[j]?=some t->Tryz.pinned.checked.prog.wantsStandIn t=false:=by
 obtain rfl:f = 3:=Option.some.inj ((show Tryz.prog.funcNamed "hibernacle/hibernacletop.TopNeverOther" = some 3 by kernel_rfl).symm.trans hf) |>.symm
 obtain rfl:fn=Tryz.f3:=(Option.some.inj (Tryz.func3.symm.trans hfn)).symm
 refine⟨by kernel_rfl,fun j t ht=>?_⟩
 rw[Tryz.params3] at ht
 have hm:=Array.mem_of_getElem? ht
 simp only[List.mem_toArray,List.mem_cons,List.not_mem_nil,or_false] at hm
 rcases hm with rfl | rfl | rfl | rfl <;> (show Tryz.prog.wantsStandIn _=false;kernel_rfl)
theorem topNeverOther_card :Rows.TopNeverOtherCardSaid :=
 Claim7.holds_tied_plain_at .later [] _ _ _ _ topNeverOther_said (fun _ h=>by cases h) (by kernel_rfl) (fun _ h=>by cases h) topNeverOther_row_tie rfl ⟨rfl,rfl⟩ (by kernel_rfl) rfl topNeverOther_plain (by kernel_rfl)
#print axioms topNeverOther_card
end
end Go.Proofs.YtdjholkjkbihmaaGreatDoor
