/- Laws and walks of TopNeverOther. -/
import Derived.ProofKit
import Derived.Maps.OwnSet
import Derived.DeepKeys4
import Derived.WideKeyPair
import Derived.Test.YtdjholkjkbihmaaGreatDoorF15
import Derived.Test.YtdjholkjkbihmaaGreatDoorF18
import Derived.Test.YtdjholkjkbihmaaGreatDoorF22
namespace Go.Proofs.YtdjholkjkbihmaaGreatDoor
open Go.RowKit
set_option maxRecDepth 100000
set_option maxHeartbeats 4000000
abbrev checkT :List UInt8:=[99,104,101,99,107]
abbrev namesT :List UInt8:=[110,97,109,101,115]
abbrev boxesT :List UInt8:=[98,111,120,101,115]
theorem kcheckOf {k:List UInt8}{w:World}(hG:HG w)(hk:k.length=32):RV 81 #[.agg (cells8 k)] w (.agg (cells8 (keyedS k checkT))):=by
 refine enter Tryz.func81 ?_
 have hk2:(cells8 k).size=32:=by rw[cells8_size,hk]
 have hcK:=hkeyAt (s:=checkT) hG hk (by decide)
 have lK:(keyedS k checkT).length=32:=keyedS_len _ _
 generalize keyedS k checkT=K at *
 have lKs:(cells8 K).size=32:=by rw[cells8_size,lK]
 refine rg (ba (fun g0=>?_))
 refine aa Tryz.zeroValue65 (fun g1=>kM 0 (cells8 (List.replicate 32 0)) ?_)
 refine en (rg (p1 (.lw (hn:=by rw[cells8_size];exact hk)) (bs #[.string ⟨#[99,104,101,99,107]⟩] (fun g2=>?_))))
 refine cl (fun _ _ h=>hcK _ _ h.m.below (blkSl (m:=1) (k:=1) (h.m.at 0 rfl) rfl)) (sw 1 (h1:=cells8_one _) (hV:=by rw[cells8_size];exact lK) (hW:=by rw[cells8_size];first | rfl | assumption) ?_)
 exact en (rt qv)
theorem kid {k:List UInt8}{u:Value}{w:World}(hG:HG w)(hk:k.length=32)(hU:Sl w u 32 1 (dgC k)):RV 11 #[.agg #[u]] w (.agg (cells8 (keyedS k namesT))):=by
 refine enter Tryz.func11 ?_
 have hou:=hU.one
 have hcK:=hkeyAt (s:=namesT) hG hk (by decide)
 have lK:(keyedS k namesT).length=32:=keyedS_len _ _
 generalize keyedS k namesT=K at *
 have lKs:(cells8 K).size=32:=by rw[cells8_size,lK]
 refine rg (ba (fun g0=>?_))
 refine aa Tryz.zeroValue23 (fun g1=>kM 0 (cells8 (List.replicate 32 0)) ?_)
 refine en ?_
 refine se (rg (p2 .fa .ld (pp (PR.lr) (p1 .eqi (en (cf (hb:=rfl) (sk (nN (rg (p2 .fa .ld (pp (PR.ix (i:=0)) (pp (PR.lq (o:=0*32) (cs:=dgC k) (ys:=k.map cb) (fun j u hj=>by rw[Nat.zero_mul,Nat.zero_add,dgC_of hk];exact hj) (hz:=by rw[List.length_map,hk];rfl)) (bs #[.string ⟨#[110,97,109,101,115]⟩] (fun g2=>?_))))))))))))))
 refine cl (fun _ _ h=>hcK _ _ h.m.below (blkSl (m:=1) (k:=1) (h.m.at 0 rfl) rfl)) (sw 1 (h1:=cells8_one _) (hV:=by rw[cells8_size];exact lK) (hW:=by rw[cells8_size];first | rfl | assumption) ?_)
 exact en (rt qv)
theorem kbox {k:List UInt8}{u:Value}{w:World}(hG:HG w)(hk:k.length=32)(hU:Sl w u 32 1 (dgC k)):RV 88 #[.agg #[u],i6 0] w (.tuple #[.agg (cells8 (keyedS k boxesT)),i6 0]):=by
 refine enter Tryz.func88 ?_
 have hou:=hU.one
 have hcK:=hkeyAt (s:=boxesT) hG hk (by decide)
 have lK:(keyedS k boxesT).length=32:=keyedS_len _ _
 generalize keyedS k boxesT=K at *
 have lKs:(cells8 K).size=32:=by rw[cells8_size,lK]
 refine rg (ba (fun g0=>?_))
 refine aa Tryz.zeroValue23 (fun g1=>kM 0 (cells8 (List.replicate 32 0)) ?_)
 refine p1 .as (en (se (rg (p3 .mv .lss .mv (gDo ?_)))))
 refine p1 .mv (gDo ?_)
 refine p1 .fa (gDo ?_)
 refine p1 .ld (gDo ?_)
 refine pp (PR.lr) (gDo ?_)
 refine p1 .geq (pp (PR.por (b:=false) (b2:=false)) (en (cf (hb:=rfl) (sk (nN (rg (p3 .fa .ld .mv (pp (PR.ix (i:=0)) (pp (PR.lq (o:=0*32) (cs:=dgC k) (ys:=k.map cb) (fun j u hj=>by rw[Nat.zero_mul,Nat.zero_add,dgC_of hk];exact hj) (hz:=by rw[List.length_map,hk];rfl)) (bs #[.string ⟨#[98,111,120,101,115]⟩] (fun g2=>?_)))))))))))
 refine cl (fun _ _ h=>hcK _ _ h.m.below (blkSl (m:=1) (k:=1) (h.m.at 0 rfl) rfl)) (sw 1 (h1:=cells8_one _) (hV:=by rw[cells8_size];exact lK) (hW:=by rw[cells8_size];first | rfl | assumption) ?_)
 exact p1 .as (en (rt qv))
theorem PR.neB {G:Kn}{x y:Operand}{c d:Bool}{t t2:TypeId}(hx:EV G x (.bool c):=by exact ev)(hy:EV G y (.bool d):=by exact ev)(hu:und t=some .bool:=by rfl):PR Tryz.prog G (.binOp .neq t x y t2) (.bool (c != d)):=fun a w _ ho hg=>run_bin ho (hx a w hg) (hy a w hg) (guard_bool _ _ _) (by simp[binOp,go_sem,run_equal_bool w t c d (und_ok hu)];cases c <;> cases d <;> rfl)
theorem ep1_32 {C:List UInt8}(hC:C.length=32):(ep1 C).toArray[32]?=some (.string ⟨#[]⟩):=by simp[ep1,hC]
theorem kmayBe {C:List UInt8}{v:Value}{w:World}(hC:C.length=32)(hV:Sl w v 33 1 (ep1 C)):RV 187 #[.agg #[v]] w (.bool true):=by
 refine enter Tryz.func187 ?_
 have hov:=hV.one
 refine rg (ba (fun g0=>?_))
 refine p1 .as (en (se (rg (p2 .fa .ld (pp (PR.lr) (p2 .lss .mv (gDo ?_)))))))
 refine p1 .fa (gDo ?_)
 refine p1 .ld (gDo ?_)
 refine pp (PR.lr) (gDo ?_)
 refine p1 .gtr ?_
 refine pp (PR.por (b:=false) (b2:=false)) (en (cf (hb:=rfl) (sk (nN (se (rg (p2 .fa .ld (pp (PR.lr) (p1 .mv (en (bl (lr 2 (un ?_)))))))))))))
 refine r1 .lss (se (ct (sk (nN (se (bl (rg (p1 .mv (pp (PR.ix (i:=0)) (pp (PR.lq (o:=0*33) (cs:=ep1 C) (ys:=ep1 C) (fun j u hj=>by rw[Nat.zero_mul,Nat.zero_add];exact hj) (hz:=by rw[ep1_len hC];rfl)) (aa Tryz.zeroValue106 (fun g1=>p1 .as (sw 0 (h1:=allA (List.all_eq_true.2 (ep1_one C))) (hV:=ep1_len hC) ?_)))))))))))))
 refine en (rg (p3 .mv .eqi .fa (pp (PR.lc (ep1_32 hC)) (pp (PR.eqs (s:=[]) (s2:=[])) (pp (PR.neB (c:=true) (d:=true)) (en (cf (hb:=rfl) (sk ?_))))))))
 exact bN (nN (rg0 (pp (PR.ad 1) (p1 .mv (en0 (nN (un (r1 .lss (se (cf (xt (nX (nX (bH (nN (r1 .as (rt (q1 rfl))))))))))))))))))
theorem PR.bE {G:Kn}{x:Operand}{g:Nat}{t:TypeId}{C:List UInt8}(hC:C.length=32)(hx:EV G x (.slice (some ⟨g,0,none⟩) 32 32):=by exact ev)(hm:MB G g t (ep1 C).toArray:=by exact mb):PR Tryz.prog G (.convert 75 9 x) (sv C):=fun a w op ho hg=>by
 have h1:=run_strOf (w:=w) (g:=g) (off:=0) (cap:=32) hC (fun q hq=>by
  rw[(hm a w hg).cell,Nat.zero_add,List.getElem?_toArray]
  unfold ep1
  rw[List.getElem?_append_left (by simpa using hq),List.getElem?_map,List.getElem?_eq_getElem hq]
  simp[bt,hq,cb])
 unfold execOp
 simp only[ho,hx a w hg,Sem.run_bind,h1,Result.andThen_ok,Sem.run_pure]
theorem two_tx {a b:ByteArray}:∀ u ∈ [Value.string a,Value.string b],u.oneCell'=true:=fun u hu=>by
 rcases List.mem_cons.1 hu with rfl | hu
 ·rfl
 ·rw[List.mem_singleton.1 hu];rfl
theorem kbytes1 {C:List UInt8}{v:Value}{w:World}(hC:C.length=32)(hV:Sl w v 33 1 (ep1 C)):RV 128 #[.agg #[v]] w (.tuple #[sv (rowS [C,[]]),i6 0]):=by
 refine enter Tryz.func128 ?_
 have hov:=hV.one
 refine rg (ba (fun g0=>?_))
 refine p2 .as .as (en ?_)
 refine se (rg (p1 .lw (cl (fun _ _ h=>kmayBe hC (hV.below h.m.below)) (p1 .not (en (cf (hb:=rfl) (sk (nN (rg (p2 .fa .ld (pp (PR.lr) (pp (PR.ml 2) (mk0 (p:=2) (c:=2) (fun v0=>?_))))))))))))))
 refine p1 .as (en (se (rg (p2 .fa .ld (pp (PR.lr) (p1 .mv (en (bl ?_))))))))
 refine lr 2 (un (r1 .lss (se (ct (sk (nN (se (bl (rg (pp (PR.ix (i:=0)) (pp (PR.lq (o:=0*33) (cs:=ep1 C) (ys:=ep1 C) (fun j u hj=>by rw[Nat.zero_mul,Nat.zero_add];exact hj) (hz:=by rw[ep1_len hC];rfl)) (aa Tryz.zeroValue106 (fun g1=>sw 0 (h1:=allA (List.all_eq_true.2 (ep1_one C))) (hV:=ep1_len hC) ?_)))))))))))))
 refine en (dtk 7 [_,_,_,_,_,_,.tel [9] (.row 9 1 2 [sv C,.string ⟨#[]⟩] fun v=>.ret v)] [22,28] (fun Bs=>ha (oP (PR.mv (EV.hh rfl rfl (by kernel_rfl) (by kernel_rfl)))) (ha (oP (PR.fa ez)) (ha (oP (PR.sA ed)) (ha (oP (PR.bE hC ed (mk' 0))) (ha (oP (PR.fa ez)) (ha (oP (PR.lc (ep1_32 hC) ed (mk' 0))) (ha (oS (List.toArray [sv C,.string ⟨#[]⟩]) (fun _ _ h=>h.size) (.cons ed (.cons ed .nil))) trivial))))))) (fun u2=>?_))
 refine apR 1 0 (fun v2=>?_) (h1:=two_tx)
 refine os 1 (fun o2 _=>?_)
 refine p1 .as (en0 (bN (nN (rg0 (pp (PR.ad 1) (p1 .mv ?_))))))
 exact en0 (nN (un (r1 .lss (se (cf (xt (nX (nX (bH (nN (rg (p1 .mv (cl (fun _ _ h=>nrowK (l:=[C,[]]) (h.s 1) (by simp;omega) (by simp)) (p2 .as .as (en (rt qv))))))))))))))))
theorem kfb {w0:World}{M0:MT}{R0:List Rw}{ad:Option Addr}{nn cc:Nat}:RM 185 #[.slice ad nn cc] w0 M0 R0 (A:=Nat) (fun _=>True) (fun q=>.func (.func 237) #[] #[pt q]) (fun q=>(q,isB 34 #[.slice ad nn cc])::M0) (fun _=>R0):=by
 refine enterM Tryz.func185 ?_
 refine rg (b1 (fun g0=>?_))
 exact p1 .as (en (rg (pp PR.mk (p1 .as (en (rt (kL [(2,.func (.func 237) #[] #[pt g0])] (rm g0 trivial su))))))))
theorem kfb1 {w0:World}{l gB:Nat}{M:MT}{R:List Rw}{v:Value}{C:List UInt8}{b:Bool}{A:Type}{I:A->Prop}{MM:A->MT}{RR:A->List Rw}(hC:C.length=32)(hV:Sl w0 v 33 1 (ep1 C))(hy:RY l [i6 0,.agg (ep1 C).toArray] w0 ((gB,isB 34 #[v])::M) R I (fun _=>b) MM RR)(w:World)(hw:MR w0 ((gB,isB 34 #[v])::M) R w):Calls Tryz.prog 237 #[.func (.yield l) #[] #[],pt gB] w fun e w'=>(∃ u,e = .returned u) ∧ ∃ x,I x/\MR w0 (MM x) (RR x) w':=by
 revert w hw
 refine enterM Tryz.func237 ?_
 refine rg (p1 .ld (pp (PR.lr) ?_))
 refine pp (PR.sb 0) (p1 .as (en (bl (lr 2 (un (se (r2 .mv .geq (ct (sk (nN (se (bl (rgY ?_)))))))))))))
 refine yP [_,_,_,_,_,_] [_,_] ?_
 refine p4 .mv .mv .ld .mv (pp (PR.ix (i:=0)) (pp (PR.lq (o:=0*33) (cs:=ep1 C) (ys:=ep1 C) (fun j u hj=>by rw[Nat.zero_mul,Nat.zero_add];exact hj) (hz:=by rw[ep1_len hC];rfl)) (en0 (yk hy (fun q2 hq2=>?_)))))
 refine yE ?_
 refine p1 .not (en (cs (fun hbb=>?_) (fun hbb=>?_)))
 ·obtain rfl:b=false:=by simpa using hbb
  exact rt (bR (nR (nR (bR (e0 (fun u w h=>⟨⟨u,rfl⟩,q2,hq2,h⟩))))))
 ·obtain rfl:b=true:=by simpa using hbb
  exact sk (bN (nN (rg0 (p1 .mv (pp (PR.sb (-1)) (p1 .as (en0 (nN (un (se (r2 .mv .geq (cf (xt (nX (nX (bH (e0N (fun u w h=>⟨⟨u,rfl⟩,q2,hq2,h⟩))))))))))))))))))
theorem SlSl {w:World}{v:Value}{m n:Nat}{cs:List Value}(h:Sl w v m n cs):∃ ad n c,v = .slice ad n c:=by
 obtain⟨ad,c,h⟩:=h.len
 exact⟨ad,n,c,h⟩
theorem kchk {k:List UInt8}{v u:Value}{w:World}(hG:HG w)(hk:k.length=32)(hV:Sl w v 33 1 (ep1 (keyedS k checkT)))(hU:Sl w u 32 1 (dgC k)):RV 127 #[.agg #[v],.agg #[u]] w (i6 0):=by
 obtain⟨va,vn,vc,rfl⟩:=SlSl hV
 refine enterR Tryz.func127 ?_
 have hou:=hU.one
 have hcO:∀ w2,Below w.heap.size w w2->RV 81 #[.agg (cells8 k)] w2 (.agg (cells8 (keyedS k checkT))):=fun w2 hb=>kcheckOf (hG.below hb) hk
 have lK:(keyedS k checkT).length=32:=keyedS_len _ _
 generalize keyedS k checkT=K at *
 refine rg (ba (fun g0=>?_))
 refine ba (fun g1=>?_)
 refine a1 Tryz.zeroValue52 (fun g2=>?_)
 refine en (se (rg (p2 .fa .ld (pp (PR.lr) (p2 .eqi .mv (gDo ?_))))))
 refine p1 .fa (gDo ?_)
 refine p1 .ld (gDo ?_)
 refine pp (PR.lr) (gDo ?_)
 refine p1 .fa (gDo ?_)
 refine p1 .ld (gDo ?_)
 refine pp (PR.lr) (gDo ?_)
 refine p1 .nei (pp (PR.por (b:=false) (b2:=false)) (en (cf (hb:=rfl) (sk (nN (se (rg (p2 .fa .ld (cm (kfb) (fun q _=>?_))))))))))
 refine en (bl (rf [(q,isB 34 #[.slice va vn vc])] [(g2,isB 52 #[i6 0]),(g1,isB 39 #[u]),(g0,isB 36 #[.slice va vn vc])] (Y:=Unit) (fun _=>True) (fun _=>[(g2,isB 52 #[i6 0]),(g1,isB 39 #[u]),(g0,isB 36 #[.slice va vn vc])]) (fun _=>[]) (hc:=fun l dd rc hr0 hp0 hY w hw=>kfb1 (M:=Lp l rc::Df dd :: [(g2,isB 52 #[i6 0]),(g1,isB 39 #[u]),(g0,isB 36 #[.slice va vn vc])]) (R:=[]) (b:=true) (A:=Unit) (I:=fun _=>True) (MM:=fun _=>Lp l rc::Df dd :: [(g2,isB 52 #[i6 0]),(g1,isB 39 #[u]),(g0,isB 36 #[.slice va vn vc])]) (RR:=fun _=>[]) lK hV (fun w2 hw2=>hY _ _ _ _ _ 1 rfl ?_ w2 hw2) w hw) (h:=fun dd y hJ=>?_)))
 ·skip
  refine wRi ?_
  refine rgI ?_
  refine p1 .as (en (rgI0 ?_))
  refine aa Tryz.zeroValue106 (fun g3=>sw 0 (h1:=allA (List.all_eq_true.2 (ep1_one K))) (hV:=ep1_len lK) ?_)
  refine en0 (nN (bgI 2 rfl hr0 ?_))
  refine blI ?_
  refine rgI ?_
  refine p3 .fa .ld .mv (pp (PR.ix (i:=0)) (pp (PR.lq (o:=0*32) (cs:=dgC k) (ys:=k.map cb) (fun j u hj=>by rw[Nat.zero_mul,Nat.zero_add,dgC_of hk];exact hj) (hz:=by rw[List.length_map,hk];rfl)) (cl (fun _ _ h=>hcO _ h.m.below) (pp (PR.bd (ep1 K).toArray (.cons ev .nil) (built_ep1 lK)) (aa Tryz.zeroValue106 (fun g4=>sw 0 (h1:=allA (List.all_eq_true.2 (ep1_one K))) (hV:=ep1_len lK) ?_))))))
  refine en (seI ?_)
  refine rgI ?_
  refine p2 .mv .gtr (en (cfI (hb:=rfl) ?_))
  refine skI ?_
  refine nN (rgI ?_)
  refine pp (PR.lw (hn:=ep1_len lK)) (pp (PR.lw (hn:=ep1_len lK)) (pp (PR.neE lK) (en (cfI (hb:=rfl) ?_))))
  refine skI ?_
  exact bN (roI 3 rfl hr0 hp0 (fun w h=>⟨(),trivial,rfl,h.sub (List.Sublist.trans (List.sublist_cons_self _ _) (List.Sublist.trans (List.sublist_cons_self _ _) (List.sublist_cons_self _ _))) (.refl _)⟩))
 ·skip
  refine bN (nN (rg (s1 1 (cs:=#[i6 0]) ?_)))
  exact en (rt (mo 0 (qv)))
section
section
variable {D:List Deferred}{nt:Nat}{w0:World}{L:LT}{M:MT}{R:List Rw}{x:Operand}{ops:Array Oper}{rest:List Oper}{Q:Exit->Act->World->Prop}{cc:Code}{tyo:TypeId}{ps:String}{af:Array Edge}{d l:Nat}{ro:Option Nat}
abbrev Lx (n l:Nat)(rc:Loop):Nat×(Obj->Prop):=(l,isO (.loop (leftR rc (.exit n))))
theorem rfX2 (n:Nat){p q gf:Nat}{g:Operand}{assign body:Code}{lb:List Value}{Y:Type}(Ma Mb:MT)(J:Y->Prop)(MM:Y->MT)(RR:Y->List Rw)(hM:M=Ma++Mb:=by rfl)
  (hc:∀ l d (rc:Loop),rc.state = .ready->rc.pending=none->(∀ (M':MT) (R':List Rw) (u v:Value) (Rr:Bool->World->Prop) (k:Nat),M'[k]?=some (Lp l rc)->KX [] nt w0 ((q,v)::(p,u)::L) M' R' (wR l assign body Rr)->∀ w,MR w0 M' R' w->YieldW Tryz.prog l #[u,v] w Rr) →
   ∀ w,MR w0 (Ma++Lp l rc::Df d::Mb) R w->Calls Tryz.prog gf (.func (.yield l) #[] #[]::lb).toArray w fun e w'=>(∃ u,e = .returned u) ∧ ∃ y,J y/\MR w0 (Lx n l rc::Df d::MM y) (RR y) w')
  (h:∀ d y,J y->KX [mark d] nt w0 L (Df d::MM y) (RR y) (Q (.exit n)))
  (hg:EV (St [] nt w0 L M R) g (.func (.func gf) #[] lb.toArray):=by exact ev) (hp:Nat.blt p nt=true:=by rfl) (hq:Nat.blt q nt=true:=by rfl)
  (eg:(match Tryz.prog.funcs[gf]? with | some fn=>!(fn.name == "runtime.NumGoroutine")&&fn.body.isSome | none=>false)=true:=by kernel_rfl):KX [] nt w0 L M R ((Code.rangeFunc g #[p,q] assign body).wp Tryz.prog Q):=fun a w hs=>by
 subst hM
 refine wkRange (gf:=gf) (lb:=lb.toArray) (hg a w hs) (fun args w2=>?_) hs.m fun rc d l W hrc hd hl hb hMW=>?_
 ·cases hf:Tryz.prog.funcs[gf]? with
  | none=>rw[hf] at eg;cases eg
  | some fn=>
   rw[hf] at eg
   simp only[Bool.and_eq_true,Bool.not_eq_true'] at eg
   exact enters_f hf eg.1 (by cases h:fn.body <;> simp_all) args w2
 ·have h0:MR w0 (Lp l rc::Df d::(Ma++Mb)) R W:=⟨hMW,fun x hx=>by
   have h1:=(hs.r x hx).grow hb
   exact⟨h1.owns,fun y hy=>by
    rcases List.mem_cons.1 hy with rfl | hy
    ·exact fun hg=>absurd (own_lt_size (hs.r x hx).owns hg) (Nat.not_lt.2 hl)
    ·rcases List.mem_cons.1 hy with rfl | hy
     ·exact fun hg=>absurd (own_lt_size (hs.r x hx).owns hg) (Nat.not_lt.2 hd)
     ·exact h1.far y hy⟩,hs.nd⟩
  have h1:MR w0 (Ma++Lp l rc::Df d::Mb) R W:=h0.perm (by
   refine List.perm_middle.trans (.cons _ ?_)
   exact List.perm_middle)
  have h2:=hc l d rc hrc.state hrc.pending (fun M' R' u v Rr k hk hw w2 hm=>yieldW2 hrc (hm.m.obj k hk) hs.f (Nat.le_of_ble_eq_true hp) (Nat.le_of_ble_eq_true hq) fun b hF=>hw b w2 ⟨hF,hm.m,hm.r,hm.nd⟩) W h1
  rw[show(#[.func (.yield l) #[] #[]]++lb.toArray:Array Value)=(.func (.yield l) #[] #[]::lb).toArray by simp]
  refine h2.mono ?_
  rintro e W2 ⟨h2,y,hJ,h3⟩
  refine⟨h2,leftR rc (.exit n),h3.m.obj 0 rfl,by simp[leftR],?_⟩
  have h4:=(h3.put (i:=0) rfl (.loop { leftR rc (.exit n) with state:=.exhausted })).sub (List.sublist_cons_self _ _) (List.Sublist.refl _)
  exact xt (h d y hJ) _ _ ⟨frMark hs.f,h4.m,h4.r,h4.nd⟩
theorem rxI {n:Nat}{Rr:Bool->World->Prop}{rc:Loop}(k:Nat)(e:M[k]?=some (l,isO (.loop (busyR rc))))(h:∀ w,MR w0 (M.set k (l,isO (.loop (leftR rc (.exit n))))) R w->Rr false w):KX D nt w0 L M R (rbF l Rr (.exit n)):=fun a w hs=>
 ⟨_,_,run_endRound (P:=Tryz.prog) (some (.exit n)) (hs.m.obj k e),false,rfl,h _ (hs.mr.put e _)⟩
theorem mZ (n:Nat)(cs:Array Value){y:Operand}{t e:TypeId}(h:∀ g,KX D nt w0 ((d,.slice (some ⟨g,0,none⟩) n n)::L) ((g,isB e cs)::M) R (wpList Tryz.prog ops Q rest))(hx:EV (St D nt w0 L M R) x (i6 (n:Int)):=by exact ev)(hy:EV (St D nt w0 L M R) y (i6 (n:Int)):=by exact ev)(hr:∀ w,(Instr.makeSlice t (i6 (n:Int)) (i6 (n:Int))).run Tryz.prog w = .ok (.slice (some ⟨w.heap.size,0,none⟩) n n) (w.alloc (.cells cs e)):=by intro _;kernel_rfl)(hb:Nat.blt d nt=true:=by rfl):KX D nt w0 L M R (wpList Tryz.prog ops Q (⟨some d,.makeSlice t x y,tyo,ps,af,none⟩::rest)):=fun a w hs=>
 sq hs.f (wantedS rfl) (v:=.slice (some ⟨w.heap.size,0,none⟩) n n) (w2:=w.alloc (.cells cs e)) (by
  unfold execOp
  simp only[hx a w hs,hy a w hs,hr w,Sem.run_bind,Result.andThen_ok,Sem.run_pure]) rfl (Nat.le_of_ble_eq_true hb) fun a2 hF=>h w.heap.size a2 _ (hs.new (S:=isB e cs) hb ((Below.refl _ _).alloc (Nat.le_refl _) _) (Nat.le_refl _) ⟨_,Blk.new _ _ _,rfl⟩ hF)
end
end
theorem cln_Share {n:Nat}{xs:List Value}{v:Value}{w:World}(hV:Sl w v 33 n xs)(h1:∀ u∈xs,u.oneCell'=true)(hn:n<2^36):RT 30 #[v] w (.row 71 33 n xs fun v=>.ret v):=cln hV h1 Tryz.func30
theorem ep1_take {C:List UInt8}(hC:C.length=32):((ep1 C).toArray.toList.drop 0).take (C.map cb).length=C.map cb:=take_len (l:=C.map cb) (by simp)
theorem kopen {k:List UInt8}{s3:List Value}{v u:Value}{w:World}(hG:HG w)(hk:k.length=32)(h1s:∀ u∈s3,u.oneCell'=true)(hj:∀ w2 u,Below w.heap.size w w2->Sl w2 u 33 3 s3->RV 72 #[u] w2 (.tuple #[.agg (cells8 k),i6 0]))(hV:Sl w v 33 1 (ep1 (keyedS k checkT)))(hU:Sl w u 33 3 s3):RT 136 #[.agg #[v],u] w (.row 23 32 1 (dgC k) fun a=>.ret (.tuple #[.agg #[a],i6 0])):=by
 obtain⟨va,vn,vc,rfl⟩:=SlSl hV
 refine enterR Tryz.func136 ?_
 have hk2:(cells8 k).size=32:=by rw[cells8_size,hk]
 have hou:=hU.one
 have hcO:∀ w2,Below w.heap.size w w2->RV 81 #[.agg (cells8 k)] w2 (.agg (cells8 (keyedS k checkT))):=fun w2 hb=>kcheckOf (hG.below hb) hk
 have lK:(keyedS k checkT).length=32:=keyedS_len _ _
 generalize keyedS k checkT=K at *
 refine rg (ba (fun g0=>?_))
 refine aa Tryz.zeroValue39 (fun g1=>a1 Tryz.zeroValue52 (fun g2=>?_))
 refine en (se (rg (p2 .fa .ld (pp (PR.lr) (p1 .eqi (en (cf (hb:=rfl) (sk (nN (rg (p1 .mv (ce (fun _ _ h=>cln_Share (hU.below h.m.below) h1s (by decide)) (fun vs=>?_)))))))))))))
 refine os 0 (fun ovs cvs=>?_)
 refine cl (fun _ _ h=>hj _ _ h.m.below (h.s 0)) (p3 .mv .ext .ext (aa Tryz.zeroValue23 (fun g3=>kM 0 (cells8 (List.replicate 32 0)) ?_)))
 refine sw 0 (h1:=cells8_one _) (hV:=by rw[cells8_size];exact hk) (hW:=by rw[cells8_size];first | rfl | assumption) ?_
 refine p1 .as (en (se (r2 .mv .nei (cf (hb:=rfl) (sk (nN (rg (p2 .fa .ld (pp (PR.lr) (mZ 1 (cells8 (List.replicate 32 0)) (e:=23) (fun gk=>?_)))))))))))
 refine a1 Tryz.zeroValue37 (fun g4=>?_)
 refine s1 0 (cs:=#[.slice (some ⟨gk,0,none⟩) 1 1]) ?_
 refine en (se (rg (p2 .fa .ld (cm (kfb) (fun q _=>?_)))))
 refine en (bl (rfX2 0 [(q,isB 34 #[.slice va vn vc])] [(g4,isB 37 #[.slice (some ⟨gk,0,none⟩) 1 1]),(gk,isB 23 (cells8 (List.replicate 32 0))),(g3,isB 23 (cells8 k)),(g2,isB 52 #[i6 0]),(g1,isB 39 #[nv]),(g0,isB 36 #[.slice va vn vc])] (Y:=Unit) (fun _=>True) (fun _=>[(g4,isB 37 #[.slice (some ⟨gk,0,none⟩) 1 1]),(gk,isB 23 (cells8 k)),(g3,isB 23 (cells8 k)),(g2,isB 52 #[i6 0]),(g1,isB 39 #[nv]),(g0,isB 36 #[.slice va vn vc])]) (fun _=>[⟨vs,71,33,3,s3⟩]) (hc:=fun l dd rc hr0 hp0 hY w hw=>kfb1 (M:=Lp l rc::Df dd :: [(g4,isB 37 #[.slice (some ⟨gk,0,none⟩) 1 1]),(gk,isB 23 (cells8 (List.replicate 32 0))),(g3,isB 23 (cells8 k)),(g2,isB 52 #[i6 0]),(g1,isB 39 #[nv]),(g0,isB 36 #[.slice va vn vc])]) (R:=[⟨vs,71,33,3,s3⟩]) (b:=false) (A:=Unit) (I:=fun _=>True) (MM:=fun _=>Lx 0 l rc::Df dd :: [(g4,isB 37 #[.slice (some ⟨gk,0,none⟩) 1 1]),(gk,isB 23 (cells8 k)),(g3,isB 23 (cells8 k)),(g2,isB 52 #[i6 0]),(g1,isB 39 #[nv]),(g0,isB 36 #[.slice va vn vc])]) (RR:=fun _=>[⟨vs,71,33,3,s3⟩]) lK hV (fun w2 hw2=>hY _ _ _ _ _ 1 rfl ?_ w2 hw2) w hw) (h:=fun dd y hJ=>?_)))
 ·skip
  refine wRi ?_
  refine rgI ?_
  refine p1 .as (en (rgI0 ?_))
  refine aa Tryz.zeroValue106 (fun g5=>sw 0 (h1:=allA (List.all_eq_true.2 (ep1_one K))) (hV:=ep1_len lK) ?_)
  refine en0 (nN (bgI 2 rfl hr0 ?_))
  refine blI ?_
  refine seI ?_
  refine drI [_,_,_,_,_] [] [] [] [41] trivial (fun Bs=>⟨kv (oP (PR.lw ez (mk' 6) (hn:=hk2))),kv (oC (fun _ _ h=>hcO _ h.low) (.cons ed .nil)),kv (oP (PR.fa ez)),kv (oP (PR.ls (K.map cb) ed (mk' 0) (hy:=ep1_take lK) (hz:=by rw[List.length_map,lK];rfl))),kv (oP (PR.neD lK ed ed)),trivial⟩) ?_
  refine cfI (hb:=rfl) ?_
  refine skI ?_
  refine nN (rgI ?_)
  refine p3 .ld .mv (.lw (hn:=by rw[cells8_size];exact hk)) (pp (PR.ib (m:=32) 0) (sw 5 (h1:=cells8_one _) (hV:=by rw[cells8_size];exact hk) (hW:=by rw[cells8_size];first | rfl | assumption) ?_))
  refine en (seI ?_)
  refine rgI ?_
  refine p2 .mv .eqi (en (ctI (hb:=rfl) ?_))
  refine xtI (nX (bX ?_))
  exact rxI 2 rfl (fun w h=>⟨(),trivial,rfl,h.sub (List.Sublist.trans (List.sublist_cons_self _ _) (List.sublist_cons_self _ _)) (.refl _)⟩)
 ·skip
  refine bH (nN ?_)
  refine rg (p1 .ld (pp (PR.bd #[.slice (some ⟨gk,0,none⟩) 1 1]) (sw 5 ?_)))
  refine s1 4 (cs:=#[i6 0]) ?_
  refine en (rt (rb (n:=1) (m:=32) (cap:=1) 2 (dgC k) ?_ (hx:=by rw[dgC_of hk];exact List.take_of_length_le (by simp[cells8,hk])) (h1:=by decide) (h2:=by decide) (h3:=hk2)))
  exact mo 0 (et [0])
def alike :List UInt8->List UInt8->Nat->Nat
 | a::x,b::y,m+1=>if a=b then alike x y m+1 else 0
 | _,_,_=>0
theorem alike_le :∀ (x y:List UInt8) (m:Nat),alike x y m<=m/\alike x y m<=x.length/\alike x y m<=y.length
 | [],_,_=>by simp[alike]
 | _::_,[],_=>by simp[alike]
 | _::_,_::_,0=>by simp[alike]
 | a::x,b::y,m+1=>by
  have h:=alike_le x y m
  unfold alike
  split <;> simp only[List.length_cons] <;> omega
theorem alike_get :∀ (x y:List UInt8) (m i:Nat),i<alike x y m->x[i]?=y[i]?
 | [],_,_,_,h=>by simp[alike] at h
 | _::_,[],_,_,h=>by simp[alike] at h
 | _::_,_::_,0,_,h=>by simp[alike] at h
 | a::x,b::y,m+1,i,h=>by
  unfold alike at h
  split at h
  ·rename_i e
   subst e
   cases i with
   | zero=>rfl
   | succ i=>simpa using alike_get x y m i (by omega)
  ·omega
theorem alike_eq :∀ (n:Nat) (x y:List UInt8) (m:Nat),n<=m->n<=x.length->n<=y.length->(∀ i,i<n->x[i]?=y[i]?)->(n=m\/n=x.length\/n=y.length\/x[n]?≠y[n]?)->alike x y m=n
 | 0,[],_,_,_,_,_,_,_=>by simp[alike]
 | 0,_::_,[],_,_,_,_,_,_=>by simp[alike]
 | 0,_::_,_::_,0,_,_,_,_,_=>by simp[alike]
 | 0,a::x,b::y,m+1,_,_,_,_,h=>by
  simp at h
  simp[alike,h]
 | n+1,[],_,_,_,h,_,_,_=>by simp at h
 | n+1,_::_,[],_,_,_,h,_,_=>by simp at h
 | n+1,_::_,_::_,0,h,_,_,_,_=>by omega
 | n+1,a::x,b::y,m+1,h1,h2,h3,h4,h5=>by
  have e:a=b:=by simpa using h4 0 (by omega)
  subst e
  unfold alike
  rw[if_pos rfl,alike_eq n x y m (by omega) (by simpa using h2) (by simpa using h3) (fun i hi=>by simpa using h4 (i+1) (by omega)) (by simpa using h5)]
theorem alike_ge {x y:List UInt8}{m n:Nat}(h1:n<=m)(h2:n<=x.length)(h3:n<=y.length)(h4:∀ i,i<n->x[i]?=y[i]?):n<=alike x y m:=by
 rcases Nat.lt_or_ge (alike x y m) n with h | h
 ·exfalso
  have hl:=alike_le x y m
  have:alike x y m=m\/alike x y m=x.length\/alike x y m=y.length\/x[alike x y m]?≠y[alike x y m]?:=by
   clear h1 h2 h3 h4 h hl
   induction x generalizing y m with
   | nil=>simp[alike]
   | cons a x ih=>
    cases y with
    | nil=>simp[alike]
    | cons b y=>
     cases m with
     | zero=>simp[alike]
     | succ m=>
      by_cases e:a=b
      ·subst e
       have:=ih (y:=y) (m:=m)
       simp[alike] at this ⊢
       omega
      ·simp[alike,e]
  rcases this with h5 | h5 | h5 | h5
  ·omega
  ·omega
  ·omega
  ·exact h5 (h4 _ h)
 ·exact h
def sameS (s:List UInt8)(at' far:Nat):Nat:=alike (s.drop at') (s.drop (at'-far)) 131
def mostS (s:List UInt8)(at':Nat):Nat:=min 131 (s.length-at')
theorem sameS_le (s:List UInt8)(at' far:Nat):sameS s at' far<=mostS s at':=by
 have h:=alike_le (s.drop at') (s.drop (at'-far)) 131
 unfold sameS mostS
 rw[List.length_drop] at h
 omega
theorem sameS_get {s:List UInt8}{at' far i:Nat}(h:i<sameS s at' far):s[at'+i]?=s[at'-far+i]?:=by
 have:=alike_get _ _ _ _ h
 rwa[List.getElem?_drop,List.getElem?_drop] at this
theorem sameS_eq {s:List UInt8}{at' far n:Nat}(h1:n<=mostS s at')(h4:∀ i,i<n->s[at'+i]?=s[at'-far+i]?)(h5:n=mostS s at'\/s[at'+n]?≠s[at'-far+n]?):sameS s at' far=n:=by
 unfold mostS at h1 h5
 unfold sameS
 refine alike_eq n _ _ _ (by omega) (by rw[List.length_drop];omega) (by rw[List.length_drop];omega) (fun i hi=>by rw[List.getElem?_drop,List.getElem?_drop];exact h4 i hi) ?_
 rw[List.getElem?_drop,List.getElem?_drop,List.length_drop]
 rcases h5 with h5 | h5
 ·omega
 ·exact .inr (.inr (.inr h5))
theorem sameS_ge {s:List UInt8}{at' far n:Nat}(h1:n<=mostS s at')(h4:∀ i,i<n->s[at'+i]?=s[at'-far+i]?):n<=sameS s at' far:=by
 unfold mostS at h1
 unfold sameS
 exact alike_ge (by omega) (by rw[List.length_drop];omega) (by rw[List.length_drop];omega) (fun i hi=>by rw[List.getElem?_drop,List.getElem?_drop];exact h4 i hi)
def bestTo (s:List UInt8)(at':Nat):Nat->Nat×Nat
 | 0=>(0,0)
 | k+1=>if(bestTo s at' k).1<sameS s at' (k+1) then(sameS s at' (k+1),k+1) else bestTo s at' k
def bestS (s:List UInt8)(at':Nat):Nat×Nat:=bestTo s at' (min at' 65535)
def best4 (s:List UInt8)(at':Nat):Nat->Nat×Nat
 | 0=>(0,0)
 | k+1=>if(best4 s at' k).1<sameS s at' (k+1)/\4<=sameS s at' (k+1) then(sameS s at' (k+1),k+1) else best4 s at' k
theorem best4_eq (s:List UInt8)(at':Nat):∀ k,best4 s at' k=if 4<=(bestTo s at' k).1 then bestTo s at' k else(0,0)
 | 0=>by simp[best4,bestTo]
 | k+1=>by
  have ih:=best4_eq s at' k
  unfold best4 bestTo
  rw[ih]
  by_cases h1:4<=(bestTo s at' k).1
  ·rw[if_pos h1]
   by_cases h2:(bestTo s at' k).1<sameS s at' (k+1)
   ·rw[if_pos h2,if_pos ⟨h2,by omega⟩,if_pos (by simp only;omega)]
   ·rw[if_neg h2,if_neg (fun h=>h2 h.1),if_pos h1]
  ·rw[if_neg h1]
   by_cases h2:4<=sameS s at' (k+1)
   ·rw[if_pos ⟨by simp only;omega,h2⟩,if_pos (show(bestTo s at' k).1<sameS s at' (k+1) by omega),if_pos h2]
   ·rw[if_neg (fun h=>h2 h.2)]
    split <;> rfl
theorem best4_le (s:List UInt8)(at':Nat):∀ k,(best4 s at' k).1<=mostS s at'
 | 0=>by simp[best4]
 | k+1=>by
  have:=best4_le s at' k
  have h:=sameS_le s at' (k+1)
  unfold best4
  split
  ·exact h
  ·exact this
theorem best4_skip (s:List UInt8)(at' k:Nat):∀ d,(∀ j,k<j->j<=k+d->sameS s at' j<=(best4 s at' k).1\/sameS s at' j<4)->best4 s at' (k+d)=best4 s at' k
 | 0,_=>rfl
 | d+1,h=>by
  have ih:=best4_skip s at' k d fun j h1 h2=>h j h1 (by omega)
  have:=h (k+d+1) (by omega) (by omega)
  have e:best4 s at' (k+(d+1))=if(best4 s at' (k+d)).1<sameS s at' (k+d+1)/\4<=sameS s at' (k+d+1) then(sameS s at' (k+d+1),k+d+1) else best4 s at' (k+d):=rfl
  rw[e,ih,if_neg (by omega)]
theorem bestTo_spec (s:List UInt8)(at':Nat):∀ k,(bestTo s at' k).1=0\/(0<(bestTo s at' k).2/\(bestTo s at' k).2<=k/\(bestTo s at' k).1=sameS s at' (bestTo s at' k).2)
 | 0=>.inl rfl
 | k+1=>by
  have ih:=bestTo_spec s at' k
  unfold bestTo
  split
  ·exact .inr ⟨by simp,by simp,rfl⟩
  ·rcases ih with h | h
   ·exact .inl h
   ·exact .inr ⟨h.1,by omega,h.2.2⟩
theorem bestTo_le (s:List UInt8)(at':Nat):∀ k,(bestTo s at' k).1<=mostS s at'
 | 0=>by simp[bestTo]
 | k+1=>by
  have:=bestTo_le s at' k
  have h:=sameS_le s at' (k+1)
  unfold bestTo
  split
  ·exact h
  ·exact this
def runF :Nat->List UInt8->List UInt8
 | 0,_=>[]
 | f+1,s=>if s = [] then [] else UInt8.ofNat (min s.length 128-1)::s.take 128++runF f (s.drop 128)
def runS (s:List UInt8):List UInt8:=runF s.length s
theorem runF_more :∀ (f g:Nat) (s:List UInt8),s.length<=f->s.length<=g->runF f s=runF g s
 | 0,0,_,_,_=>rfl
 | 0,g+1,s,h,_=>by
  have:s = []:=List.length_eq_zero_iff.1 (by omega)
  subst this
  simp[runF]
 | f+1,0,s,_,h=>by
  have:s = []:=List.length_eq_zero_iff.1 (by omega)
  subst this
  simp[runF]
 | f+1,g+1,s,h1,h2=>by
  unfold runF
  by_cases e:s = []
  ·rw[if_pos e,if_pos e]
  ·have:0<s.length:=List.length_pos_iff.2 e
   rw[if_neg e,if_neg e,runF_more f g (s.drop 128) (by rw[List.length_drop];omega) (by rw[List.length_drop];omega)]
theorem runS_nil :runS [] = []:=rfl
theorem runS_cons {s:List UInt8}(h:s ≠ []):runS s=UInt8.ofNat (min s.length 128-1)::s.take 128++runS (s.drop 128):=by
 have h0:0<s.length:=List.length_pos_iff.2 h
 have e:runS s=runF (s.length-1+1) s:=by unfold runS;congr 1;omega
 rw[e]
 unfold runF
 rw[if_neg h]
 unfold runS
 rw[runF_more (s.length-1) (s.drop 128).length (s.drop 128) (by rw[List.length_drop];omega) (Nat.le_refl _)]
def copyT (n far:Nat):List UInt8:=[UInt8.ofNat (n+124),UInt8.ofNat (far%256),UInt8.ofNat (far/256)]
def packF (s:List UInt8):Nat->Nat->Nat->List UInt8
 | 0,alone,_=>runS (s.drop alone)
 | f+1,alone,at'=>if at'<s.length then(if(bestS s at').1<4 then packF s f alone (at'+1) else runS ((s.drop alone).take (at'-alone))++copyT (bestS s at').1 (bestS s at').2++packF s f (at'+(bestS s at').1) (at'+(bestS s at').1)) else runS (s.drop alone)
def packT (s:List UInt8)(alone at':Nat):List UInt8:=packF s (s.length-at') alone at'
def packS (s:List UInt8):List UInt8:=packT s 0 0
theorem packF_more (s:List UInt8):∀ (f g alone at':Nat),s.length-at'<=f->s.length-at'<=g->packF s f alone at'=packF s g alone at'
 | 0,0,_,_,_,_=>rfl
 | 0,g+1,_,at',h,_=>by
  unfold packF
  rw[if_neg (by omega)]
 | f+1,0,_,at',_,h=>by
  unfold packF
  rw[if_neg (by omega)]
 | f+1,g+1,alone,at',h1,h2=>by
  unfold packF
  by_cases e:at'<s.length
  ·rw[if_pos e,if_pos e]
   by_cases e4:(bestS s at').1<4
   ·rw[if_pos e4,if_pos e4,packF_more s f g alone (at'+1) (by omega) (by omega)]
   ·rw[if_neg e4,if_neg e4,packF_more s f g _ (at'+(bestS s at').1) (by omega) (by omega)]
  ·rw[if_neg e,if_neg e]
theorem packT_step {s:List UInt8}{at':Nat}(alone:Nat)(h:at'<s.length):packT s alone at'=if(bestS s at').1<4 then packT s alone (at'+1) else runS ((s.drop alone).take (at'-alone))++copyT (bestS s at').1 (bestS s at').2++packT s (at'+(bestS s at').1) (at'+(bestS s at').1):=by
 have e:packT s alone at'=packF s (s.length-at'-1+1) alone at':=by unfold packT;congr 1;omega
 rw[e]
 unfold packF
 rw[if_pos h]
 unfold packT
 by_cases e4:(bestS s at').1<4
 ·rw[if_pos e4,if_pos e4,packF_more s _ (s.length-(at'+1)) alone (at'+1) (by omega) (by omega)]
 ·rw[if_neg e4,if_neg e4,packF_more s _ (s.length-(at'+(bestS s at').1)) _ (at'+(bestS s at').1) (by omega) (by omega)]
theorem packT_end {s:List UInt8}{at':Nat}(alone:Nat)(h:s.length<=at'):packT s alone at'=runS (s.drop alone):=by
 unfold packT
 rw[show s.length-at'=0 by omega]
 rfl
def copyS (out:List UInt8)(far:Nat):Nat->List UInt8
 | 0=>out
 | n+1=>copyS out far n ++ [(copyS out far n).getD ((copyS out far n).length-far) 0]
theorem copyS_len (out:List UInt8)(far:Nat):∀ n,(copyS out far n).length=out.length+n
 | 0=>rfl
 | n+1=>by rw[copyS,List.length_append,copyS_len out far n];simp;omega
def tokS (out b:List UInt8)(most:Int):Int×List UInt8×Nat :=
 if(b.getD 0 0).toNat<128 then
  (if b.length<(b.getD 0 0).toNat+2 then(4,[],0) else if most<out.length+(b.getD 0 0).toNat+1 then(6,[],0) else(0,out++(b.drop 1).take ((b.getD 0 0).toNat+1),(b.getD 0 0).toNat+2))
 else if b.length<3 then(4,[],0)
 else if(b.getD 1 0).toNat+256*(b.getD 2 0).toNat=0\/out.length<(b.getD 1 0).toNat+256*(b.getD 2 0).toNat then(3,[],0)
 else if most<out.length+((b.getD 0 0).toNat-124:Nat) then(6,[],0)
 else(0,copyS out ((b.getD 1 0).toNat+256*(b.getD 2 0).toNat) ((b.getD 0 0).toNat-124),3)
def unpF :Nat->List UInt8->List UInt8->Int->List UInt8×Int
 | 0,out,_,_=>(out,0)
 | f+1,out,b,most=>if b = [] then(out,0) else if(tokS out b most).1≠0 then([],(tokS out b most).1) else unpF f (tokS out b most).2.1 (b.drop (tokS out b most).2.2) most
def unpT (out b:List UInt8)(most:Int):List UInt8×Int:=unpF b.length out b most
def unpS (b:List UInt8)(most:Int):List UInt8×Int:=if most<0/\b = [] then([],6) else unpT [] b (max most 0)
theorem tokS_used (out b:List UInt8)(most:Int)(h:(tokS out b most).1=0):0<(tokS out b most).2.2/\(tokS out b most).2.2<=b.length:=by
 unfold tokS at h ⊢
 repeat' split at h
 all_goals first | (exfalso;revert h;decide) | skip
 all_goals (simp only[*,↓reduceIte];constructor <;> omega)
theorem unpF_more :∀ (f g:Nat) (out b:List UInt8) (most:Int),b.length<=f->b.length<=g->unpF f out b most=unpF g out b most
 | 0,0,_,_,_,_,_=>rfl
 | 0,g+1,out,b,_,h,_=>by
  have:b = []:=List.length_eq_zero_iff.1 (by omega)
  subst this
  simp[unpF]
 | f+1,0,out,b,_,_,h=>by
  have:b = []:=List.length_eq_zero_iff.1 (by omega)
  subst this
  simp[unpF]
 | f+1,g+1,out,b,most,h1,h2=>by
  unfold unpF
  by_cases e:b = []
  ·rw[if_pos e,if_pos e]
  ·rw[if_neg e,if_neg e]
   by_cases e2:(tokS out b most).1=0
   ·have hu:=tokS_used out b most e2
    rw[if_neg (fun h=>h e2),if_neg (fun h=>h e2),unpF_more f g _ _ most (by rw[List.length_drop];omega) (by rw[List.length_drop];omega)]
   ·rw[if_pos e2,if_pos e2]
theorem unpT_nil (out:List UInt8)(most:Int):unpT out [] most=(out,0):=rfl
theorem unpT_step {b:List UInt8}(out:List UInt8)(most:Int)(h:b ≠ []):unpT out b most=if(tokS out b most).1≠0 then([],(tokS out b most).1) else unpT (tokS out b most).2.1 (b.drop (tokS out b most).2.2) most:=by
 have h0:0<b.length:=List.length_pos_iff.2 h
 have e:unpT out b most=unpF (b.length-1+1) out b most:=by unfold unpT;congr 1;omega
 rw[e]
 unfold unpF
 rw[if_neg h]
 by_cases e2:(tokS out b most).1=0
 ·have hu:=tokS_used out b most e2
  rw[if_neg (fun h=>h e2),if_neg (fun h=>h e2)]
  unfold unpT
  rw[unpF_more (b.length-1) (b.drop (tokS out b most).2.2).length _ _ most (by rw[List.length_drop];omega) (Nat.le_refl _)]
 ·rw[if_pos e2,if_pos e2]
theorem runS_step {s:List UInt8}{n:Nat}(hs:0<s.length)(hn:min s.length 128=n):runS s = [UInt8.ofNat (n-1)]++(s.take n++runS (s.drop n)):=by
 rw[runS_cons (fun e=>by subst e;simp at hs),hn]
 by_cases h:s.length<=128
 ·rw[List.take_of_length_le h,List.take_of_length_le (by omega),List.drop_eq_nil_of_le h,List.drop_eq_nil_of_le (by omega)];rfl
 ·rw[show n=128 by omega];rfl
theorem zrun {w0:World}{M0:MT}{R0:List Rw}{b l:List UInt8}{v:Value}(hlen:b.length+2*l.length<=2^40):RM 153 #[v,sv l] w0 M0 (⟨v,5,1,b.length,b.map cb⟩::R0) (A:=Value) (fun _=>True) (fun u=>u) (fun _=>M0) (fun u=>⟨u,5,1,(b++runS l).length,(b++runS l).map cb⟩::R0):=by
 refine enterM Tryz.func153 ?_
 refine r1 .as (se (bl (lo3 (fun(_:Value) c s=>c++runS s=b++runS l/\c.length+2*s.length<=2^40) (fun _ _ s=>s.length) (fun u _ s=>[(0,u),(1,sv s)]) (fun _ _ _=>M0) (fun u c _=>⟨u,5,1,c.length,c.map cb⟩::R0) v b l ⟨rfl,hlen⟩ su (fun u c s hi=>?_))))
 obtain⟨hcs,hn40⟩:=hi
 refine se (r3 .mv .ln .gtr (sd (fun hs=>?_) (fun hs=>?_)))
 ·have hs0:0<s.length:=by omega
  obtain⟨n,hn⟩:∃ n,min s.length 128=n:=⟨_,rfl⟩
  have hn2:0<n/\n<=s.length/\n<=128/\(n=s.length\/n=128):=by omega
  have hst:=runS_step hs0 hn
  refine sk (nN (bl (rg (p2 .mv .ln (pp (PR.min (n:Int) (hr:=by split <;> omega)) (p1 .as (en (rg (p2 .mv .mv (pp (PR.sb ((n-1:Nat):Int)) (pp (PR.cv (r:=((UInt8.ofNat (n-1)).toNat:Int)) (cv8 (by omega))) (bs #[.int .u8 ((UInt8.ofNat (n-1)).toNat:Int)] (fun g0=>?_)))))))))))))
  refine ap 0 (fun v1=>?_) (hl:=rfl) (h1:=rfl)
  refine rc 0 (c ++ [UInt8.ofNat (n-1)]).length ((c ++ [UInt8.ofNat (n-1)]).map cb) (hn:=by rw[List.length_append];rfl) (hx:=by rw[List.map_append];rfl) (h:=?_)
  refine p1 .as (en (rg (p3 .mv .mv .mv (pp (PR.st (i:=n)) (apS 0 (s:=s.take n) (fun v2=>?_) (hl:=by simp;omega))))))
  refine rc 0 (c ++ [UInt8.ofNat (n-1)]++s.take n).length ((c ++ [UInt8.ofNat (n-1)]++s.take n).map cb) (hn:=by rw[List.length_append (bs:=s.take n)]) (hx:=by rw[List.map_append (l₂:=s.take n)]) (h:=?_)
  exact p1 .as (en (rg0 (p2 .mv .mv (pp (PR.sd (i:=n)) (p1 .as (en0 (bN (nN (bk3 v2 (c ++ [UInt8.ofNat (n-1)]++s.take n) (s.drop n) ⟨by rw[←hcs,hst];simp,by simp;omega⟩ (by rw[List.length_drop];omega) su)))))))))
 ·obtain rfl:s = []:=by cases s with | nil=>rfl | cons _ _=>simp at hs
  refine xt (nX (nX (bH (nN (r2 .mv .as (rt ?_))))))
  rw[runS_nil,List.append_nil] at hcs
  subst hcs
  exact rm u trivial su
section
theorem or8 (n m:Nat)(hn:n<256)(hm:m<256):bits .or .i64 (n:Int) ((256*m:Nat):Int)=((n+256*m:Nat):Int):=by
 rw[i64_or_nat n (256*m) (by omega) (by omega)]
 congr 1
 have h:=Nat.two_pow_add_eq_or_of_lt (i:=8) (b:=n) (by omega) m
 rw[Nat.or_comm,Nat.add_comm n]
 exact h.symm
theorem shl8 (m:Nat)(hm:m<256):IntKind.i64.wrap ((m:Int)*2^(8:Int).toNat)=((256*m:Nat):Int):=by
 rw[show(m:Int)*2^(8:Int).toNat=((256*m:Nat):Int) by show(m:Int)*256=_;omega]
 exact wX ⟨rfl,by omega,by omega⟩
theorem sh8i :0<=(8:Int)/\(8:Int)<=IntKind.i64.bits:=by decide
section
variable {out b:List UInt8}{most:Int}
theorem tok_4 (h1:(bt b 0).toNat<128)(h2:b.length<(bt b 0).toNat+2):tokS out b most=(4,[],0):=by unfold bt at *;unfold tokS;rw[if_pos h1,if_pos h2]
theorem tok_6 (h1:(bt b 0).toNat<128)(h2:¬ b.length<(bt b 0).toNat+2)(h3:most<out.length+(bt b 0).toNat+1):tokS out b most=(6,[],0):=by unfold bt at *;unfold tokS;rw[if_pos h1,if_neg h2,if_pos h3]
theorem tok_r (h1:(bt b 0).toNat<128)(h2:¬ b.length<(bt b 0).toNat+2)(h3:¬ most<out.length+(bt b 0).toNat+1):tokS out b most=(0,out++(b.drop 1).take ((bt b 0).toNat+1),(bt b 0).toNat+2):=by unfold bt at *;unfold tokS;rw[if_pos h1,if_neg h2,if_neg h3]
theorem tok_4c (h1:¬ (bt b 0).toNat<128)(h2:b.length<3):tokS out b most=(4,[],0):=by unfold bt at *;unfold tokS;rw[if_neg h1,if_pos h2]
theorem tok_3 (h1:¬ (bt b 0).toNat<128)(h2:¬ b.length<3)(h3:(bt b 1).toNat+256*(bt b 2).toNat=0\/out.length<(bt b 1).toNat+256*(bt b 2).toNat):tokS out b most=(3,[],0):=by unfold bt at *;unfold tokS;rw[if_neg h1,if_neg h2,if_pos h3]
theorem tok_6c (h1:¬ (bt b 0).toNat<128)(h2:¬ b.length<3)(h3:¬ ((bt b 1).toNat+256*(bt b 2).toNat=0\/out.length<(bt b 1).toNat+256*(bt b 2).toNat))(h4:most<out.length+((bt b 0).toNat-124:Nat)):tokS out b most=(6,[],0):=by unfold bt at *;unfold tokS;rw[if_neg h1,if_neg h2,if_neg h3,if_pos h4]
theorem tok_c (h1:¬ (bt b 0).toNat<128)(h2:¬ b.length<3)(h3:¬ ((bt b 1).toNat+256*(bt b 2).toNat=0\/out.length<(bt b 1).toNat+256*(bt b 2).toNat))(h4:¬ most<out.length+((bt b 0).toNat-124:Nat)):tokS out b most=(0,copyS out ((bt b 1).toNat+256*(bt b 2).toNat) ((bt b 0).toNat-124),3):=by unfold bt at *;unfold tokS;rw[if_neg h1,if_neg h2,if_neg h3,if_neg h4]
end
theorem ztok {w0:World}{M0:MT}{R0:List Rw}{out b:List UInt8}{most:Nat}{v:Value}(hb:0<b.length)(hout:out.length<=2^40)(hbl:b.length<=2^40)(hmost:most<2^63):RM 228 #[v,sv b,i6 (most:Int)] w0 M0 (⟨v,5,1,out.length,out.map cb⟩::R0) (A:=Value) (fun _=>True) (fun u=>.tuple #[u,i6 ((tokS out b (most:Int)).2.2:Int),i6 (tokS out b (most:Int)).1]) (fun _=>M0) (fun u=>⟨u,5,1,(tokS out b (most:Int)).2.1.length,(tokS out b (most:Int)).2.1.map cb⟩::R0):=by
 refine enterM Tryz.func228 ?_
 have hc0:=(bt b 0).toNat_lt
 have hc1:=(bt b 1).toNat_lt
 have hc2:=(bt b 2).toNat_lt
 refine r3 .as .as .as (se (rg (p1 .mv (pp (PR.sa (i:=0)) (p1 .lss (en (sd (fun e1=>?_) (fun e1=>?_))))))))
 ·have e1:(bt b 0).toNat<128:=by omega
  refine rg (p1 .mv (pp (PR.sa (i:=0)) (pp (PR.cn ((bt b 0).toNat:Int)) (pp (PR.ad (((bt b 0).toNat+1:Nat):Int)) (p1 .as (en (se (rg (p3 .mv .ln .mv (pp (PR.ad (((bt b 0).toNat+2:Nat):Int)) (p1 .lss (en (sd (fun e2=>?_) (fun e2=>?_))))))))))))))
  ·rw[tok_4 e1 (by omega)]
   refine r3 .as .as .as (rt (nR (nR (kL [(6,nv),(7,i6 0),(8,i6 4)] (nr 5 1 ?_)))))
   exact rm (nv) trivial su
  ·have e2:¬ b.length<(bt b 0).toNat+2:=by omega
   refine sk (nN (se (rg (p3 .mv .mv .mv (pp PR.lr (pp (PR.sb ((most:Int)-(out.length:Int))) (p1 .gtr (en (sd (fun e3=>?_) (fun e3=>?_))))))))))
   ·rw[tok_6 e1 e2 (by omega)]
    refine r3 .as .as .as (rt (nR (nR (kL [(6,nv),(7,i6 0),(8,i6 6)] (nr 5 1 ?_)))))
    exact rm (nv) trivial su
   ·rw[tok_r e1 e2 (by omega)]
    refine sk (nN (rg (p3 .mv .mv .mv (pp (PR.ad (((bt b 0).toNat+2:Nat):Int)) (pp (PR.sm (i:=1) (j:=(bt b 0).toNat+2)) (apS 0 (s:=(b.drop 1).take ((bt b 0).toNat+2-1)) (fun v1=>?_) (hl:=by simp;omega)))))))
    refine rc 0 (out++(b.drop 1).take ((bt b 0).toNat+1)).length ((out++(b.drop 1).take ((bt b 0).toNat+1)).map cb) (hn:=by rw[List.length_append];rfl) (hx:=by rw[List.map_append];rfl) (h:=?_)
    exact p1 .mv (pp (PR.ad (((bt b 0).toNat+2:Nat):Int)) (p3 .as .as .as (en (rt (nR (kL [(6,v1),(7,i6 (((bt b 0).toNat+2:Nat):Int)),(8,i6 0)] (rm v1 trivial su)))))))
 ·have e1:¬ (bt b 0).toNat<128:=by omega
  refine sk (nN (se (r3 .mv .ln .lss (sd (fun e2=>?_) (fun e2=>?_)))))
  ·rw[tok_4c e1 (by omega)]
   refine r3 .as .as .as (rt (nR (kL [(6,nv),(7,i6 0),(8,i6 4)] (nr 5 1 ?_))))
   exact rm (nv) trivial su
  ·have e2:¬ b.length<3:=by omega
   refine sk (nN (dqb ?_))
   refine Y1 .mv (YQ (PR.sa (i:=1)) (YQ (PR.cn ((bt b 1).toNat:Int)) (Y1 .mv (YQ (PR.sa (i:=2)) (YQ (PR.cn ((bt b 2).toNat:Int)) (YQ (PR.shl ((256*(bt b 2).toNat:Nat):Int) (h0:=sh8i) (h:=shl8 _ hc2)) (YQ (PR.or (((bt b 1).toNat+256*(bt b 2).toNat:Nat):Int) (h:=or8 _ _ hc1 hc2)) (Y1 .as (YE (se (rg (p3 .mv .eqi .mv (gFf (hp:=PR.mv) ?_)))))))))))))
   refine gFf (hp:=PR.mv) ?_
   refine gFf (hp:=PR.lr) ?_
   refine gFf (hp:=PR.gtr) ?_
   refine p1 .por (en (cs (fun e3=>?_) (fun e3=>?_)))
   ·simp only[Bool.or_eq_true,decide_eq_true_eq] at e3
    rw[tok_3 e1 e2 (by omega)]
    refine r3 .as .as .as (rt (nR (kL [(6,nv),(7,i6 0),(8,i6 3)] (nr 5 1 ?_))))
    exact rm (nv) trivial su
   ·simp only[Bool.or_eq_false_iff,decide_eq_false_iff_not] at e3
    have e3:¬ ((bt b 1).toNat+256*(bt b 2).toNat=0\/out.length<(bt b 1).toNat+256*(bt b 2).toNat):=by omega
    refine sk (nN (rg ?_))
    refine p1 .mv (pp (PR.sa (i:=0)) (pp (PR.cn ((bt b 0).toNat:Int)) (pp (PR.sb (((bt b 0).toNat-124:Nat):Int)) (p1 .as (en (se (rg (p3 .mv .mv .mv (pp PR.lr (pp (PR.sb ((most:Int)-(out.length:Int))) (p1 .gtr (en (sd (fun e4=>?_) (fun e4=>?_))))))))))))))
    ·rw[tok_6c e1 e2 e3 (by omega)]
     refine r3 .as .as .as (rt (nR (kL [(6,nv),(7,i6 0),(8,i6 6)] (nr 5 1 ?_))))
     exact rm (nv) trivial su
    ·rw[tok_c e1 e2 e3 (by omega)]
     refine sk (nN (se (r2 .mv .mv (bl (lo2 (fun(_:Value) i=>i<=(bt b 0).toNat-124) (fun _ i=>(bt b 0).toNat-124-i) (fun u i=>[(0,u),(10,i6 (((bt b 1).toNat+256*(bt b 2).toNat:Nat):Int)),(67,i6 (((bt b 0).toNat-124:Nat):Int)),(68,i6 (i:Int))]) (fun _ _=>M0) (fun u i=>⟨u,5,1,out.length+i,(copyS out ((bt b 1).toNat+256*(bt b 2).toNat) i).map cb⟩::R0) v 0 (Nat.zero_le _) su (fun u i hi=>?_))))))
     refine r1 .lss (se (sd (fun hi2=>?_) (fun hi2=>?_)))
     ·have hi2:i<(bt b 0).toNat-124:=by omega
      refine sk (nN (se (bl (rg0 (p3 .mv .mv .mv (pp PR.lr (p1 .mv (pp (PR.sb ((out.length+i-((bt b 1).toNat+256*(bt b 2).toNat):Nat):Int)) (pp (PR.ix (i:=out.length+i-((bt b 1).toNat+256*(bt b 2).toNat))) (pp (PR.lp (cb_at (l:=copyS out ((bt b 1).toNat+256*(bt b 2).toNat) i) (i:=out.length+i-((bt b 1).toNat+256*(bt b 2).toNat)) (by rw[copyS_len];omega))) (bs #[.int .u8 ((bt (copyS out ((bt b 1).toNat+256*(bt b 2).toNat) i) (out.length+i-((bt b 1).toNat+256*(bt b 2).toNat))).toNat:Int)] (fun g0=>?_))))))))))))
      refine ap 0 (fun u1=>?_) (hl:=rfl) (h1:=rfl)
      refine rc 0 (out.length+(i+1)) ((copyS out ((bt b 1).toNat+256*(bt b 2).toNat) (i+1)).map cb) (hn:=rfl) (hx:=by rw[copyS,List.map_append,copyS_len];rfl) (h:=?_)
      exact p1 .as (en0 (bN (nN (rg0 (pp (PR.ad ((i+1:Nat):Int)) (p1 .mv (en0 (nN (bk2 u1 (i+1) (by omega) (by omega) su)))))))))
     ·obtain rfl:i=(bt b 0).toNat-124:=by omega
      refine xt (nX (nX (bH (nN (r4 .mv .as .as .as (rt (kL [(6,u),(7,i6 3),(8,i6 0)] (rc 0 (copyS out ((bt b 1).toNat+256*(bt b 2).toNat) ((bt b 0).toNat-124)).length ((copyS out ((bt b 1).toNat+256*(bt b 2).toNat) ((bt b 0).toNat-124)).map cb) (hn:=(copyS_len _ _ _).symm) (hx:=rfl) (h:=?_)))))))))
      exact rm u trivial su
end
theorem tok_le {out b:List UInt8}{m:Int}(h:(tokS out b m).1=0):((tokS out b m).2.1.length:Int)<=m:=by
 unfold tokS at h ⊢
 repeat' split at h
 all_goals first | (exfalso;revert h;decide) | skip
 all_goals simp only[*,↓reduceIte,List.length_append,copyS_len,List.length_take,List.length_drop] at *
 all_goals omega
theorem unpS_64k (b:List UInt8):unpS b 65536=unpT [] b ((65536:Nat):Int):=by
 unfold unpS
 rw[if_neg (by omega)];rfl
theorem zunp {b:List UInt8}{w:World}(hb:b.length<=2^32):RV 162 #[sv b,i6 65536] w (.tuple #[.string ⟨(unpS b 65536).1.toArray⟩,i6 (unpS b 65536).2]):=by
 refine enter Tryz.func162 ?_
 rw[unpS_64k]
 refine r2 .as .as (se (rg (p3 .mv .lss .mv (gSk ?_))))
 refine gSk ?_
 refine gSk ?_
 refine pp (PR.pand (b:=false) (b2:=false)) (en (cf (hb:=rfl) (sk (nN (r1 .as (rg (p1 .mv (pp (PR.max ((65536:Nat):Int) (hr:=rfl)) (p1 .as (en (se (bl (nr 5 1 ?_)))))))))))))
 refine lo3 (fun(_:Value) c r=>unpT c r ((65536:Nat):Int)=unpT [] b ((65536:Nat):Int)/\c.length<=65536/\r.length<=b.length) (fun _ _ r=>r.length) (fun u _ r=>[(0,sv r),(1,i6 ((65536:Nat):Int)),(6,u)]) (fun _ _ _=>[]) (fun u c _=>[⟨u,5,1,c.length,c.map cb⟩]) (nv) [] b ⟨rfl,by decide,Nat.le_refl _⟩ su (fun u c r hi=>?_)
 obtain⟨hi,hc,hrb⟩:=hi
 refine se (r3 .mv .ln .gtr (sd (fun hr0=>?_) (fun hr0=>?_)))
 ·have hr0:0<r.length:=by omega
  have hst:=unpT_step c ((65536:Nat):Int) (List.ne_nil_of_length_pos hr0)
  refine sk (nN (bl (rg (p3 .mv .mv .mv (cm (ztok (out:=c) (b:=r) (most:=65536) hr0 (by omega) (by omega) (by decide)) (fun v1 _=>?_))))))
  refine p5 .mv .ext .ext .ext .as (p2 .as .as (en (se (r2 .mv .nei (sd (fun e1=>?_) (fun e1=>?_))))))
  ·rw[if_pos e1] at hst
   rw[hst] at hi
   rw[←hi]
   exact r3 .mv .as .as (rt (nR (bR (nR (bR (nR qv))))))
  ·have e1:(tokS c r ((65536:Nat):Int)).1=0:=Decidable.not_not.1 e1
   rw[if_neg (fun h=>h e1)] at hst
   rw[hst] at hi
   have hu:=tokS_used c r _ e1
   have hle:=tok_le e1
   exact sk (nN (dq 5 (Y3 .mv .mv .mv (YQ (PR.sd (i:=(tokS c r ((65536:Nat):Int)).2.2)) (Y1 .as (YE (p1 .as (en0 (bN (nN (bk3 v1 (tokS c r ((65536:Nat):Int)).2.1 (r.drop (tokS c r ((65536:Nat):Int)).2.2) ⟨hi,by omega,by rw[List.length_drop];omega⟩ (by rw[List.length_drop];omega) su)))))))))))
 ·obtain rfl:r = []:=List.length_eq_zero_iff.1 (by omega)
  rw[unpT_nil] at hi
  refine xt (nX (nX (bH (nN (rg (p1 .mv (pp (PR.rs 0 (l:=c) (hn:=rfl)) (p2 .as .as (en (rt ?_))))))))))
  rw[←hi]
  exact qv
section
open Go.RowKit Go.Maps
theorem arr4 :WideMaps.ArrKey Tryz.prog 342 5 4:=⟨Tryz.underlying342,by kernel_rfl,by kernel_rfl,by kernel_rfl⟩
theorem keyed4 :Keyed Tryz.prog 342:=Keyed.of_law (deep_law_laid (by kernel_rfl) (m:=2) (by omega) (of_decide_eq_true (by kernel_rfl)) (by kernel_rfl) (by rw[Tryz.underlying342]))
theorem kb8 (b:UInt8):(Lit.int .u8 (b.toNat:Int)).keyBytes = [b]:=by
 have h:b.toNat<256:=b.toNat_lt
 have e:(((b.toNat:Int))%2^8).toNat%256=b.toNat:=by omega
 show [UInt8.ofNat (((b.toNat:Int)%2^8).toNat%256)] = [b]
 rw[e]
 simp
theorem lw8 (b:UInt8):(Lit.int .u8 (b.toNat:Int)).wf=true:=by
 have h:b.toNat<256:=b.toNat_lt
 show(decide ((0:Int)<=b.toNat)&&decide ((b.toNat:Int)<=255))=true
 simp
 omega
theorem key4 (l:List UInt8)(hl:l.length=4):keyOf Tryz.prog 342 (.agg (cells8 l))=some (.string l):=by
 match l,hl with
 | [a,b,c,d],_=>
  have hkt:Tryz.prog.keyType 342 = true:=by kernel_rfl
  have hsz:∃ m,Tryz.prog.types.size=m+1:=⟨Tryz.prog.types.size-1,by
   have:0<Tryz.prog.types.size:=of_decide_eq_true (by kernel_rfl)
   omega⟩
  obtain⟨m,hm⟩:=hsz
  show keyOf Tryz.prog 342 (.agg #[cb a,cb b,cb c,cb d])=_
  unfold keyOf
  simp only[arr4.hu]
  rw[if_pos (by simp[hkt,Value.formed,arr4.hu,arr4.size]),hm]
  unfold Program.keyLits
  simp only[arr4.hu,Value.cells]
  rw[if_pos (by rw[arr4.size];rfl),show List.range 4 = [0,1,2,3] from rfl,List.mapM_cons,List.mapM_cons,List.mapM_cons,List.mapM_cons,List.mapM_nil]
  simp[arr4.one,Program.keyLits,Tryz.underlying5,cb,lw8,keyBytes,kb8]
def isMap4 (f:List UInt8->Option Nat)(n:Nat):Obj->Prop:=fun ob=>∃ (es:Array MapEntry) (clock:Nat) (D:DataW Unit),ob = .map es clock/\WideElems.Fit Tryz.prog 342 (plainElem (H:=Unit) Tryz.prog 3) es clock/\es.size<=n ∧
 D = .map ((es.toList.map (WideElems.rg Tryz.prog 342 (plainElem Tryz.prog 3))).foldr DataW.insert []) ∧ ∀ s,Maps.has D (.string s)=(f s).isSome/\D.atKey (.string s) (.lit (.int .i64 0)) = .lit (.int .i64 (((f s).getD 0:Nat):Int))
theorem isMap4_owns {w:World}{g n:Nat}{f:List UInt8->Option Nat}(h:∃ ob,w.heap[g]?=some ob/\isMap4 f n ob):∃ D:DataW Unit,w.ownsMap Tryz.prog 342 (plainElem Tryz.prog 3) g n D ∧ ∀ s,Maps.has D (.string s)=(f s).isSome/\D.atKey (.string s) (.lit (.int .i64 0)) = .lit (.int .i64 (((f s).getD 0:Nat):Int)):=by
 obtain⟨ob,h1,es,clock,D,rfl,h2,h3,h4,h5⟩:=h
 exact⟨D,⟨es,clock,h1,h2,h3,h4⟩,h5⟩
theorem isMap4_of {w:World}{g n:Nat}{f:List UInt8->Option Nat}{D:DataW Unit}(h:w.ownsMap Tryz.prog 342 (plainElem Tryz.prog 3) g n D)(hs:∀ s,Maps.has D (.string s)=(f s).isSome/\D.atKey (.string s) (.lit (.int .i64 0)) = .lit (.int .i64 (((f s).getD 0:Nat):Int))):∃ ob,w.heap[g]?=some ob/\isMap4 f n ob:=by
 obtain⟨es,clock,h1,h2,h3,h4⟩:=h
 exact⟨_,h1,es,clock,D,rfl,h2,h3,h4,hs⟩
theorem isKeyLit4 (s:List UInt8)(hs:s.length=4):WideAt.IsKeyLit (.string s):=keyed4.key (key4 s hs)
section
variable {D:List Deferred}{a:Act}{o:Oper}{w w0:World}{n s:Nat}{L:List (Nat×Value)}{v:Value}{ops:Array Oper}{rest:List Oper}{Q:Exit->Act->World->Prop}{M:List (Nat×(Obj->Prop))}{x y z:Operand}{g m:Nat}{f:List UInt8->Option Nat}
theorem run_inMap4 {l:List UInt8}(ho:o.op = .lookup 263 x y true)(hx:a.eval x = .map (some g))(hy:a.eval y = .agg (cells8 l))(h:∃ ob,w.heap[g]?=some ob/\isMap4 f m ob)(hl:l.length=4):(execOp a.eval o).run Tryz.prog w = .ok (.value (.tuple #[.int .i64 (((f l).getD 0:Nat):Int),.bool (f l).isSome])) w:=by
 obtain⟨D,h1,h2⟩:=isMap4_owns h
 have hz:(zeroValue 3).run Tryz.prog w = .ok (.int .i64 0) w:=by kernel_rfl
 obtain⟨u,ps,hr,hu⟩:=h1.look_ok keyed4 Tryz.underlying263 hz (plainElem_int Tryz.underlying3 (by decide)) (key4 l hl)
 obtain⟨c,rfl,hc,_⟩:=plainElem_int_inv Tryz.underlying3 hu
 simp only[Prod.mk.injEq] at hc
 have h5:c=(((f l).getD 0:Nat):Int):=by
  have:=(h2 l).2
  rw[hc.1] at this
  injection this with h3
  injection h3
 subst h5
 rw[(h2 l).1] at hr
 unfold execOp
 simp only[ho,hx,hy,Sem.run_bind,hr,Result.andThen_ok,Sem.run_pure]
def putF (f:List UInt8->Option Nat)(l:List UInt8)(i:Nat):List UInt8->Option Nat:=fun s=>if s=l then some i else f s
theorem sqMap4Put {l:List UInt8}{i k:Nat}(hF:FrD D a n L)(hM:Mem w0 M w)(hgd:o.guard=none)(ho:o.op = .mapUpdate 263 x y z)(hd:o.dst=none)(hx:a.eval x = .map (some g))(hy:a.eval y = .agg (cells8 l))(hz:a.eval z = .int .i64 (k:Int))(e:M[i]?=some (g,isMap4 f m))(hl:l.length=4)(hk:k<=maxLen)(hn:m<maxLen)
  (h:∀ a2 w2,w.grownBy w2 (some g)->FrD D a2 n L->Mem w0 (M.set i (g,isMap4 (putF f l k) (m+1))) w2->wpList Tryz.prog ops Q rest a2 w2):wpList Tryz.prog ops Q (o::rest) a w:=by
 obtain⟨D,h1,h2⟩:=isMap4_owns (hM.ob i e)
 have hIs:IsMap D:=h1.isMap
 have hwf:(Lit.int .i64 (k:Int)).wf=true:=by
  unfold maxLen at hk
  show(decide ((-9223372036854775808:Int)<=k)&&decide ((k:Int)<=9223372036854775807))=true
  simp
  omega
 obtain⟨w2,hr,h3,h4⟩:=h1.update keyed4 Tryz.underlying263 hn (key4 l hl) (plainElem_int Tryz.underlying3 hwf)
 refine sqN hF (wantedS hgd) (w2:=w2) ?_ hd fun a2 hF2=>h a2 w2 h4 hF2 (hM.upd i e h4 (isMap4_of (D:=D.put (.string l) (.lit (.int .i64 (k:Int)))) h3 fun s=>?_))
 ·unfold execOp
  simp only[ho,hx,hy,hz,Sem.run_bind,hr,Result.andThen_ok,Sem.run_pure]
 ·unfold putF
  by_cases hs:s=l
  ·subst hs
   rw[if_pos rfl]
   refine⟨?_,?_⟩
   ·rw[has_put_same hIs (isKeyLit4 s hl)];rfl
   ·rw[atKey_put_same hIs (isKeyLit4 s hl)];rfl
  ·rw[if_neg hs]
   refine⟨?_,?_⟩
   ·rw[has_put_other (fun e=>hs (by injection e)),(h2 s).1]
   ·rw[atKey_put_other (fun e=>hs (by injection e))]
    exact(h2 s).2
theorem sqMakeMap4 {r:Option Operand}(hF:FrD D a n L)(hM:Mem w0 M w)(hgd:o.guard=none)(ho:o.op = .makeMap 263 r)(hr:∀ q,r=some q->∃ k p,a.eval q = .int k p)(hd:o.dst=some s)(hs:s<n)
  (h:∀ g a2 w2,w.heap.size<=g->Below w.heap.size w w2->FrD D a2 n ((s,.map (some g))::L)->Mem w0 ((g,isMap4 (fun _=>none) 0)::M) w2->wpList Tryz.prog ops Q rest a2 w2):wpList Tryz.prog ops Q (o::rest) a w:=by
 have hb:Below w.heap.size w (w.alloc (.map #[] 0)):=(Below.refl _ _).alloc (Nat.le_refl _) _
 refine sq hF (wantedS hgd) (v:=.map (some w.heap.size)) (w2:=w.alloc (.map #[] 0)) ?_ hd hs fun a2 hF2=>h _ a2 _ (Nat.le_refl _) hb hF2 (hM.addS hb (Nat.le_refl _) (isMap4_of (World.ownsMap_made w _ _ _) fun _=>⟨rfl,rfl⟩))
 unfold execOp
 cases r with
 | none=>simp only[ho,Option.map,Sem.run_bind,run_makeMap,Result.andThen_ok,Sem.run_pure]
 | some q=>
  obtain⟨k,p,hq⟩:=hr q rfl
  simp only[ho,Option.map,hq]
  simp[Instr.makeMap,run_underlying Tryz.underlying263,go_sem]
end
end
section
variable {D:List Deferred}
section
variable {a:Act}{o:Oper}{w w0:World}{n s:Nat}{L:List (Nat×Value)}{v:Value}{ops:Array Oper}{rest:List Oper}{Q:Exit->Act->World->Prop}{M:List (Nat×(Obj->Prop))}{x y z:Operand}{g m i:Nat}
theorem run_ld4 {l:List UInt8}(ho:o.op = .load 342 x)(hx:a.eval x = .pointer (some ⟨g,0,none⟩))(h:∃ ob,w.heap[g]?=some ob/\isY l ob)(hl:l.length=4):(execOp a.eval o).run Tryz.prog w = .ok (.value (.agg (cells8 l))) w:=by
 refine run_ldS (cs:=l.map cb) ho hx (by kernel_rfl) (by rw[List.length_map,hl];kernel_rfl) fun j u hj=>?_
 have hlt:j<l.length:=by have:=(List.getElem?_eq_some_iff.1 hj).1;simpa using this
 rw[Nat.zero_add,isY_cell h hlt]
 rw[List.getElem?_map,List.getElem?_eq_getElem hlt] at hj
 simp only[Option.map_some,Option.some.injEq] at hj
 rw[←hj]
 simp[cb,bt,hlt]
def cellsI (zs:List Int):Array Value:=(zs.map fun z=>Value.int .i64 z).toArray
theorem made_ints (m:Nat):madeCells #[Value.int .i64 0] m=cellsI (List.replicate m 0):=by
 unfold madeCells cellsI
 apply Array.ext'
 simp[List.map_replicate]
 apply List.ext_getElem
 ·simp
 ·intro j h1 h2
  simp[Nat.mod_one]
theorem sqMakeI {k k2:IntKind}{p p2:Int}(hF:FrD D a n L)(hM:Mem w0 M w)(hgd:o.guard=none)(ho:o.op = .makeSlice 26 x y)(hx:a.eval x = .int k p)(hy:a.eval y = .int k2 p2)(hp:p=(m:Int))(hp2:p2=(m:Int))(hm:m<=35184372088832)(hd:o.dst=some s)(hs:s<n)
  (h:∀ g a2 w2,w.heap.size<=g->Below w.heap.size w w2->FrD D a2 n ((s,.slice (some ⟨g,0,none⟩) m m)::L)->Mem w0 ((g,isB 3 (cellsI (List.replicate m 0)))::M) w2->wpList Tryz.prog ops Q rest a2 w2):wpList Tryz.prog ops Q (o::rest) a w:=by
 subst hp hp2
 have hr:=run_make_row' (P:=Tryz.prog) 26 3 (.int .i64 0) 8 Tryz.underlying26 (by kernel_rfl) rfl k k2 m (by omega) (by omega) w
 rw[made_ints] at hr
 refine sqRow (cs:=cellsI (List.replicate m 0)) (t:=3) hF hM (wantedS hgd) ?_ hd hs h
 unfold execOp
 simp only[ho,hx,hy,Sem.run_bind,hr,Result.andThen_ok,Sem.run_pure]
end
end
end Go.Proofs.YtdjholkjkbihmaaGreatDoor
