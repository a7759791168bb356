/- Laws and walks of TopNeverOther. -/
import Derived.OpenShut
import Derived.Deep.Slices
import Derived.ProofKit
import Derived.OpenVars
import Derived.Test.YtdjholkjkbihmaaGreatDoorF27
namespace Go.Proofs.YtdjholkjkbihmaaGreatDoor
open Go.RowKit
set_option maxRecDepth 100000
set_option maxHeartbeats 4000000
theorem rtake2 {h:List Wd}{b:List UInt8}{t:Nat}{last:Bool}{w:World}(hh:h.length=8)(hb:b.length=64)(ht:t<2^62):RV 114 #[.agg (cells h),sv b,.int .u64 (t:Int),.bool last] w (.agg (cells (compress h b t last))):=by
 refine enter Tryz.func114 ?_
 refine rg (ba (fun g0=>?_))
 refine aa Tryz.zeroValue125 (fun g1=>kM 0 (cells (List.replicate 8 0)) ?_)
 refine en (rg (aa Tryz.zeroValue288 (fun g2=>kM 0 (cells (List.replicate 16 0)) ?_)))
 refine aa Tryz.zeroValue288 (fun g3=>kM 0 (cells (List.replicate 16 0)) ?_)
 refine en (rg (cl (fun _ _ h=>reight) (aa Tryz.zeroValue125 (fun g4=>kM 0 (cells (List.replicate 8 0)) ?_))))
 refine sw 0 (h1:=cells_one _) (hV:=by rw[cells_size];rfl) (hW:=by rw[cells_size];first | rfl | assumption) ?_
 refine en (se (r1 .as (bl (kM 1 (cells (wordsTo b 0)) ?_))))
 refine kM 2 (cells (fillV h 0)) ?_
 have lw:=wordsTo_len b
 have lf:=fillV_len h
 have le8:eightV.length=8:=rfl
 refine lo (A:=Nat) (fun i=>i<=16) (fun i=>16-i) (fun i=>[(1,sv b),(2,.int .u64 (t:Int)),(3,.bool last),(4,pt g0),(8,pt g1),(9,pt g2),(10,pt g3),(11,pt g4),(12,i6 (i:Int))]) (fun i=>[(g4,isB 125 (cells eightV)),(g3,isB 288 (cells (wordsTo b i))),(g2,isB 288 (cells (fillV h i))),(g1,isB 125 (cells (List.replicate 8 0))),(g0,isB 125 (cells h))]) (fun i=>[]) 0 (by omega) su (fun i hi=>?_)
 refine se (r2 .mv .lss (sd (fun hi=>?_) (fun hi=>?_)))
 ·have hi:i<16:=by omega
  refine sk (nN (se (bl ?_)))
  refine dqs 31 (Y3 .mv .mv .mv (YQ (PR.ml ((4*i:Nat):Int)) (YQ (PR.sa (i:=4*i)) (Y3 .b32 .mv .mv (YQ (PR.ml ((4*i:Nat):Int)) (YQ (PR.ad ((4*i+1:Nat):Int)) (YQ (PR.sa (i:=4*i+1)) (Y1 .b32 (YQ (PR.m32 256) (YQ PR.a32 (Y2 .mv .mv (YQ (PR.ml ((4*i:Nat):Int)) (YQ (PR.ad ((4*i+2:Nat):Int)) ?_)))))))))))))
  refine YQ (PR.sa (i:=4*i+2)) (Y1 .b32 (YQ (PR.m32 65536) (YQ PR.a32 (Y2 .mv .mv (YQ (PR.ml ((4*i:Nat):Int)) (YQ (PR.ad ((4*i+3:Nat):Int)) (YQ (PR.sa (i:=4*i+3)) (Y1 .b32 (YQ (PR.m32 16777216) (YQ PR.ws (Y1 (.ia0 i) (YE (swd 1 ?_ (ho:=(by rw[lw];omega)))))))))))))))
  refine en (r2 .mv .lss (sd (fun h8=>?_) (fun h8=>?_)))
  ·have h8:i<8:=by omega
   refine rg0 (p5 .mv .mv (.ia0 i) .lwd (.ia0 i) (swd 2 ?_ (ho:=(by rw[lf];omega))))
   refine en0 (bN (nN (rg0 (p1 .mv (pp (PR.ad ((i+1:Nat):Int)) (p1 .as (en0 (nN (kM 1 (cells (wordsTo b (i+1))) ?_)))))))))
   refine kM 2 (cells (fillV h (i+1))) ?_ (hc:=by rw[fillV,if_pos h8])
   exact bk (i+1) (by omega) (by omega) su
  ·have h8:¬ i<8:=by omega
   refine rg0 (p2 .mv .mv (pp (PR.sb ((i-8:Nat):Int)) (p3 (.ia0 (i-8)) .lwd (.ia0 i) (swd 2 ?_ (ho:=(by rw[lf];omega))))))
   refine en0 (bN (nN (rg0 (p1 .mv (pp (PR.ad ((i+1:Nat):Int)) (p1 .as (en0 (nN (kM 1 (cells (wordsTo b (i+1))) ?_)))))))))
   refine kM 2 (cells (fillV h (i+1))) ?_ (hc:=by rw[fillV,if_neg h8])
   exact bk (i+1) (by omega) (by omega) su
 ·obtain rfl:i=16:=by omega
  refine xt (nX (nX (bH (nN (kM 2 (cells (h++eightV)) ?_ (hc:=by rw[fillV_16 h hh]))))))
  have l8:(h++eightV).length=16:=by rw[List.length_append,hh];rfl
  refine rg (p3 (.ia0 12) .lwd .mv (pp (PR.remU (n:=t) (m:=4294967296)) (pp (PR.cv (u32_lo t)) (p2 .xorW (.ia0 12) (swd 2 ?_)))))
  refine en (gW 2 (fun v1x ev1x=>?_))
  have lv1x:v1x.length=16:=by rw[ev1x,List.length_set];assumption
  refine rg (p3 (.ia0 13) .lwd .mv (pp (PR.quoU (n:=t) (m:=4294967296) (by omega)) (pp (PR.cv (u32_up t)) (p2 .xorW (.ia0 13) (swd 2 ?_)))))
  refine en (gW 2 (fun v2x ev2x=>?_))
  have lv2x:v2x.length=16:=by rw[ev2x,List.length_set];assumption
  refine jn [(4,pt g0),(8,pt g1),(9,pt g2),(10,pt g3)] [(g4,isB 125 (cells eightV)),(g3,isB 288 (cells (wordsTo b 16))),(g2,isB 288 (cells (startV h t last))),(g1,isB 125 (cells (List.replicate 8 0))),(g0,isB 125 (cells h))] [] ?_ ?_
  ·skip
   refine r1 .mv (cs (fun hla=>?_) (fun hla=>?_))
   ·subst hla
    refine rg0 (p2 (.ia0 14) .lwd (pp PR.n32 (p1 (.ia0 14) (swd 2 ?_))))
    refine en0 (kM 2 (cells (startV h t true)) ?_ (hc:=by subst ev2x ev1x;rfl))
    exact nN (je su)
   ·subst hla
    refine kM 2 (cells (startV h t false)) ?_ (hc:=by subst ev2x ev1x;rfl)
    exact sk (nN (je su))
  ·skip
   refine se (r1 .as (bl ?_))
   generalize hVV:startV h t last=V0
   have lV:∀ r,(roundsS (wordsTo b 16) V0 r).length=16:=fun r=>by rw[roundsS_len,←hVV,startV_len h t last hh]
   have lm:=wordsTo_len b 16
   generalize hWW:wordsTo b 16=m at *
   refine kM 2 (cells (roundsS m V0 0)) ?_ (hc:=by rw[←hVV];rfl)
   refine lo (A:=Nat) (fun r=>r<=10) (fun r=>10-r) (fun r=>[(4,pt g0),(8,pt g1),(9,pt g2),(10,pt g3),(13,i6 (r:Int))]) (fun r=>[(g3,isB 288 (cells m)),(g2,isB 288 (cells (roundsS m V0 r))),(g1,isB 125 (cells (List.replicate 8 0))),(g0,isB 125 (cells h))]) (fun r=>[]) 0 (by omega) su (fun r hi=>?_)
   refine se (r2 .mv .lss (sd (fun hr=>?_) (fun hr=>?_)))
   ·have hr:r<10:=by omega
    have lR:=lV r
    refine sk (nN (se (bl (rg (ce (fun _ _ h=>rrowsT) (fun vr=>?_))))))
    refine os 0 (fun ovr cvr=>?_)
    refine p1 .mv (pp (PR.ix (i:=r) (n:=10) (m:=1)) (pp (PR.lp (v2:=sv (rowTx.getD r [])) (cs:=txs rowTx) (by rw[txs_at (by show r<10;omega)])) (p1 .as (en ?_))))
    generalize hVR:roundsS m V0 r=V at *
    have lT:∀ i,(roundTo m V r i).length=16:=fun i=>by rw[roundTo_len];exact lR
    have lx:=rowTx_len r hr
    refine kM 1 (cells (roundTo m V r 0)) ?_
    refine r1 .as (bl (lo (A:=Nat) (fun i=>i<=8) (fun i=>8-i) (fun i=>[(4,pt g0),(8,pt g1),(9,pt g2),(10,pt g3),(13,i6 (r:Int)),(14,sv (rowTx.getD r [])),(15,i6 (i:Int))]) (fun i=>[(g3,isB 288 (cells m)),(g2,isB 288 (cells (roundTo m V r i))),(g1,isB 125 (cells (List.replicate 8 0))),(g0,isB 125 (cells h))]) (fun i=>[⟨vr,9,1,10,(txs rowTx)⟩]) 0 (by omega) su (fun i hi=>?_)))
    refine se (r2 .mv .lss (sd (fun hi=>?_) (fun hi=>?_)))
    ·have hi:i<8:=by omega
     have lTi:=lT i
     have s0:=sig_lt r hr (2*i) (by omega)
     have s1:=sig_lt r hr (2*i+1) (by omega)
     refine sk (nN (se (bl ?_)))
     refine dqb (Y2 .mv .mv (YQ (PR.ml ((2*i:Nat):Int)) (YQ (PR.sa (i:=2*i)) (YC (fun _ _ h=>rplace (i:=2*i) hr (by omega)) (Y4 (.ia0 (sg r (2*i))) .lwd .mv .mv (YQ (PR.ml ((2*i:Nat):Int)) (YQ (PR.ad ((2*i+1:Nat):Int)) (YQ (PR.sa (i:=2*i+1)) (YC (fun _ _ h=>rplace (i:=2*i+1) hr (by omega)) (Y4 (.ia0 (sg r (2*i+1))) .lwd .as .as (YE (r2 .mv .lss (sd (fun h4=>?_) (fun h4=>?_))))))))))))))
     ·have h4:i<4:=by omega
      refine rg0 (p3 (.lw (hn:=by rw[cells_size];exact lTi)) .mv .mv (pp (PR.ad ((i+4:Nat):Int)) (p1 .mv (pp (PR.ad ((i+8:Nat):Int)) (p1 .mv (pp (PR.ad ((i+12:Nat):Int)) (p2 .mv .mv ?_)))))))
      refine cl (fun _ _ h=>rmix2 (a:=i) (b:=i+4) (c:=i+8) (d:=i+12) lTi (by omega) (by omega) (by omega) (by omega)) ?_
      refine sw 1 (h1:=cells_one _) (hV:=by rw[cells_size];rw[mixS_len];exact lTi) (hW:=by rw[cells_size];exact lTi) ?_
      refine en0 (bN (nN (rg0 (p1 .mv (pp (PR.ad ((i+1:Nat):Int)) (p1 .as (en0 (nN (kM 1 (cells (roundTo m V r (i+1))) ?_ (hc:=by rw[roundTo,ja,jb,jc,jd,if_pos h4,if_pos h4,if_pos h4,if_pos h4];rfl))))))))))
      exact bk (i+1) (by omega) (by omega) su
     ·have h4:¬ i<4:=by omega
      refine rg (p1 .mv (pp (PR.sb ((i-4:Nat):Int)) (p1 .as (en ?_))))
      refine rg0 (p3 (.lw (hn:=by rw[cells_size];exact lTi)) .mv .mv (pp (PR.ad ((i-4+1:Nat):Int)) (pp (PR.rem (((i-4+1)%4:Nat):Int) (h:=by rw[Int.ofNat_tmod];rfl)) (pp (PR.ad ((4+(i-4+1)%4:Nat):Int)) (p1 .mv (pp (PR.ad ((i-4+2:Nat):Int)) (pp (PR.rem (((i-4+2)%4:Nat):Int) (h:=by rw[Int.ofNat_tmod];rfl)) (pp (PR.ad ((8+(i-4+2)%4:Nat):Int)) (p1 .mv (pp (PR.ad ((i-4+3:Nat):Int)) (pp (PR.rem (((i-4+3)%4:Nat):Int) (h:=by rw[Int.ofNat_tmod];rfl)) (pp (PR.ad ((12+(i-4+3)%4:Nat):Int)) (p2 .mv .mv ?_)))))))))))))
      refine cl (fun _ _ h=>rmix2 (a:=i-4) (b:=4+(i-4+1)%4) (c:=8+(i-4+2)%4) (d:=12+(i-4+3)%4) lTi (by omega) (by omega) (by omega) (by omega)) ?_
      refine sw 1 (h1:=cells_one _) (hV:=by rw[cells_size];rw[mixS_len];exact lTi) (hW:=by rw[cells_size];exact lTi) ?_
      refine en0 (bN (nN (rg0 (p1 .mv (pp (PR.ad ((i+1:Nat):Int)) (p1 .as (en0 (nN (kM 1 (cells (roundTo m V r (i+1))) ?_ (hc:=by rw[roundTo,ja,jb,jc,jd,if_neg h4,if_neg h4,if_neg h4,if_neg h4];rfl))))))))))
      exact bk (i+1) (by omega) (by omega) su
    ·obtain rfl:i=8:=by omega
     subst hVR
     refine xt (nX (nX (bH (bN (nN (rg0 (p1 .mv (pp (PR.ad ((r+1:Nat):Int)) (p1 .as (en0 (nN (kM 1 (cells (roundsS m V0 (r+1))) ?_))))))))))))
     exact bk (r+1) (by omega) (by omega) su
   ·obtain rfl:r=10:=by omega
    refine xt (nX (nX (bH (nN (se (r1 .as (bl ?_)))))))
    generalize hVF:roundsS m V0 10=V at *
    have lV:=lV 10
    rw[hVF] at lV
    have lF:=foldTo_len h V
    refine kM 3 (cells (foldTo h V 0)) ?_
    refine lo (A:=Nat) (fun i=>i<=8) (fun i=>8-i) (fun i=>[(4,pt g0),(8,pt g1),(9,pt g2),(19,i6 (i:Int))]) (fun i=>[(g2,isB 288 (cells V)),(g1,isB 125 (cells (List.replicate 8 0))),(g0,isB 125 (cells (foldTo h V i)))]) (fun i=>[]) 0 (by omega) su (fun i hi=>?_)
    refine se (r2 .mv .lss (sd (fun hi=>?_) (fun hi=>?_)))
    ·have hi:i<8:=by omega
     have lFi:=lF i
     refine sk (nN (se (bl (dq 14 (Y5 .mv .mv (.ia0 i) .lwd .mv (Y4 (.ia0 i) .lwd .xorW .mv (YQ (PR.ad ((i+8:Nat):Int)) (Y4 (.ia0 (i+8)) .lwd .xorW (.ia0 i) (YE (swd 2 ?_))))))))))
     refine en0 (bN (nN (rg0 (p1 .mv (pp (PR.ad ((i+1:Nat):Int)) (p1 .as (en0 (nN (kM 2 (cells (foldTo h V (i+1))) ?_ (hc:=by rw[foldTo,BitVec.xor_assoc,foldTo_at h V i i (by omega) (by omega)]))))))))))
     exact bk (i+1) (by omega) (by omega) su
    ·obtain rfl:i=8:=by omega
     refine xt (nX (nX (bH (nN (gW 2 (fun F eF=>?_))))))
     have lF8:F.length=8:=by rw[eF,lF 8];exact hh
     have lF2:(cells F).size=8:=by rw[cells_size,lF8]
     rw[show compress h b t last=F by rw[eF];unfold compress;rw[hVV,hWW,hVF]]
     refine rg (p1 (.lw (hn:=by rw[cells_size];exact lF8)) (sw 1 (h1:=cells_one _) (hV:=by rw[cells_size];exact lF8) (hW:=by rw[cells_size];first | rfl | assumption) ?_))
     exact en (rt qv)
section
theorem bt_zeros (n j:Nat):bt (List.replicate n 0) j=0:=by
 unfold bt
 rw[List.getD_eq_getElem?_getD,List.getElem?_replicate]
 split <;> rfl
def keyTo (k:List UInt8):Nat->List UInt8
 | 0=>List.replicate 64 0
 | i+1=>(keyTo k i).set i (bt k i)
theorem keyTo_len (k:List UInt8)(i:Nat):(keyTo k i).length=64:=by
 induction i with
 | zero=>simp[keyTo]
 | succ i ih=>simp[keyTo,ih]
theorem keyTo_at (k:List UInt8)(i j:Nat)(hi:i<=64):bt (keyTo k i) j=if j<i then bt k j else 0:=by
 induction i with
 | zero=>rw[keyTo,bt_zeros,if_neg (by omega)]
 | succ i ih=>
  rw[keyTo,bt_set _ _ _ _ (by rw[keyTo_len];omega),ih (by omega)]
  by_cases h:i=j
  ·subst h;simp
  ·rw[if_neg h]
   by_cases h2:j<i
   ·rw[if_pos h2,if_pos (by omega)]
   ·rw[if_neg h2,if_neg (by omega)]
theorem keyTo_32 (k:List UInt8)(hk:k.length=32):keyTo k 32=k++List.replicate 32 0:=by
 apply ext_bt
 ·rw[keyTo_len];simp[hk]
 ·intro i hi
  rw[keyTo_len] at hi
  rw[keyTo_at k 32 i (by omega)]
  split
  ·rename_i h;simp[bt,hk,h,List.getElem?_append]
  ·rename_i h
   have e:bt (k++List.replicate 32 0) i=bt (List.replicate 32 0) (i-32):=by
    unfold bt;rw[List.getD_eq_getElem?_getD,List.getD_eq_getElem?_getD,List.getElem?_append_right (by omega),hk]
   rw[e,bt_zeros]
theorem rjoin1 {a:List UInt8}{v:Value}{w:World}(ha:a.length<2^61)(hV:Sl w v 1 1 (txs [a])):RV 51 #[v] w (sv a):=by
 refine enter Tryz.func51 ?_
 have hov:=hV.one
 refine r1 .as (r1 .as (se (r1 .as ?_)))
 refine bl (lr 2 (kL [(0,v),(3,.string ⟨#[]⟩),(4,i6 0)] (un (se (rg (p2 .mv .mv (pp (PR.lr (n:=1) (hs:=SL.p hV)) (p1 .lss (en (ct (sk (nN (se ?_)))))))))))))
 refine bl (rg0 (p3 .mv .mv .mv (pp (PR.ix (i:=0) (n:=1) (m:=1) (hs:=SL.p hV)) (pp (PR.lp (v2:=sv a) (cs:=txs [a]) rfl (hs:=SL.p hV)) (pp ((PR.cat (s:=[]) (s2:=a) ev ev (by show 0+_<_;omega)).to rfl) (p1 .as (en0 (bN (nN (rg0 (p1 .mv (pp (PR.ad 1) (p1 .as (en0 ?_))))))))))))))
 exact nN (kL [(0,v),(3,sv a),(4,i6 1)] (un (se (rg (p2 .mv .mv (pp (PR.lr (n:=1) (hs:=SL.p hV)) (p1 .lss (en (cf (xt (nX (nX (bH (nN (r2 .mv .as (rt (q1 rfl)))))))))))))))))
theorem full_eq (n:Nat):full n=(n-1)/64:=rfl
theorem pad_len {d:List UInt8}(h:d.length<=64):(pad64 d).length=64:=by unfold pad64;simp;omega
theorem wrap64 {n:Nat}(h:n<2^62):IntKind.u64.wrap (n:Int)=(n:Int):=by
 exact IntWalk.u64_in _ ⟨by omega,by omega⟩
theorem div256 (x:Wd)(k:Nat):nm x/2^(8*k)/256=nm x/2^(8*(k+1)):=by
 have e:(2:Int)^(8*(k+1))=2^(8*k)*256:=by rw[show 8*(k+1)=8*k+8 by omega,Int.pow_add];rfl
 rw[e,Int.ediv_ediv_of_nonneg (Int.le_of_lt (Int.pow_pos (by omega)))]
theorem sh_pos (x:Wd)(k:Nat):0<=nm x/2^(8*k)/\nm x/2^(8*k)<4294967296:=by
 have h0:0<=nm x:=by unfold nm;omega
 have h1:nm x<4294967296:=by unfold nm;have:=x.isLt;omega
 exact⟨Int.ediv_nonneg h0 (Int.le_of_lt (Int.pow_pos (by omega))),Int.lt_of_le_of_lt (Int.ediv_le_self _ h0) h1⟩
section
variable {G:Kn}{x y:Operand}{t t2:TypeId}{X:Wd}{j:Nat}
theorem PR.d256 (hx:EV G x (.int .u32 (nm X/2^(8*j))):=by exact ev)(hy:EV G y (.int .u32 256):=by exact ev):PR Tryz.prog G (.binOp .quo t x y t2) (.int .u32 (nm X/2^(8*(j+1)))):=fun a w _ ho hg=>run_quo ho (hx a w hg) (hy a w hg) (by decide) (by
 have h:=sh_pos X j
 have h2:=sh_pos X (j+1)
 rw[Int.tdiv_eq_ediv_of_nonneg h.1,div256,wrap_u32];omega)
theorem PR.r256 (hx:EV G x (.int .u32 (nm X/2^(8*j))):=by exact ev)(hy:EV G y (.int .u32 256):=by exact ev):PR Tryz.prog G (.binOp .rem t x y t2) (.int .u32 ((byteOf X j).toNat:Int)):=fun a w _ ho hg=>run_rem ho (hx a w hg) (hy a w hg) (by decide) (by
 rw[Int.tmod_eq_emod_of_nonneg (sh_pos X j).1,byteOf_eq'])
end
theorem wrap8 (b:UInt8):IntKind.u8.wrap (b.toNat:Int)=(b.toNat:Int):=by
 have:=b.toNat_lt
 rw[wrap_u8];omega
theorem rdigest2 {h0:List Wd}{p:List UInt8}{w:World}(hh:h0.length=8)(hp:p.length<2^60):RV 50 #[.agg (cells h0),sv p] w (.agg (cells8 (outD (blake h0 p) 32))):=by
 refine enter Tryz.func50 ?_
 refine rg (ba (fun g0=>?_))
 refine aa Tryz.zeroValue65 (fun g1=>kM 0 (cells8 (List.replicate 32 0)) ?_)
 refine en (r1 .as (se (bl (kM 1 (cells (hashTo h0 p 0)) ?_))))
 refine lo (A:=Nat) (fun q=>q<=full p.length) (fun q=>full p.length-q) (fun q=>[(1,sv p),(2,pt g0),(4,pt g1),(5,i6 ((64*q:Nat):Int))]) (fun q=>[(g1,isB 65 (cells8 (List.replicate 32 0))),(g0,isB 125 (cells (hashTo h0 p q)))]) (fun q=>[]) 0 (Nat.zero_le _) su (fun q hi=>?_)
 refine bl ?_
 have hfl:=full_eq p.length
 have lq:(hashTo h0 p q).length=8:=(hashTo_len h0 p q).trans hh
 refine rg (p1 .mv (pp (PR.ad ((64*(q+1):Nat):Int)) (p1 .as (en (r5 .mv .mv .ln .geq .as (r1 .as (se (r1 .mv (sd (fun hla=>?_) (fun hla=>?_))))))))))
 ·have hla2:p.length<=64*(q+1):=by omega
  have hq:q=full p.length:=by omega
  obtain⟨d,hd⟩:∃ d,p.drop (64*q)=d:=⟨_,rfl⟩
  have ld:d.length=p.length-64*q:=by rw[←hd,List.length_drop]
  rw[decide_eq_true hla]
  refine r3 .mv .ln .as (rg (p2 .mv .mv (pp ((PR.sd (i:=64*q)).to (show _=Value.string ⟨(d++List.replicate 0 0).toArray⟩ by rw[hd,List.replicate_zero,List.append_nil])) (p1 .as (en (bl (lo (A:=Nat) (fun j=>d.length+j<=64) (fun j=>64-j) (fun j=>[(1,sv p),(2,pt g0),(4,pt g1),(5,i6 ((64*q:Nat):Int)),(6,i6 (p.length:Int)),(7,.bool true),(8,sv (d++List.replicate j 0))]) (fun j=>[(g1,isB 65 (cells8 (List.replicate 32 0))),(g0,isB 125 (cells (hashTo h0 p q)))]) (fun j=>[]) 0 (by omega) su (fun j hi=>?_))))))))
  refine se ?_
  have hln:(d++List.replicate j (0:UInt8)).length=d.length+j:=by rw[List.length_append,List.length_replicate]
  refine r3 .mv .ln .lss (sd (fun hi=>?_) (fun hi=>?_))
  ·have hi:d.length+j<64:=by omega
   exact sk (nN (bl (rg0 (p1 .mv (pp ((PR.cat (s:=d++List.replicate j 0) (s2:=[0]) ev ev (by show _+1<_;omega)).to (by rw[List.append_assoc,←List.replicate_succ'])) (p1 .as (en0 (bN (nN (bk (j+1) (by omega) (by omega) su))))))))))
  ·obtain rfl:j=64-d.length:=by omega
   have hpl:=pad_len (d:=d) (by omega)
   refine xt (nX (nX (bH (nN (rg (p3 (.lw (hn:=by rw[cells_size];exact lq)) .mv .mv (pp (PR.cv (wrap64 (n:=p.length) (by omega))) (p1 .mv (cl (fun _ _ h=>rtake2 (b:=pad64 d) (t:=p.length) (last:=true) lq hpl (by omega)) (sw 1 (h1:=cells_one _) (hV:=by rw[cells_size];rw[compress_len];exact lq) (hW:=by rw[cells_size];exact lq) ?_))))))))))
   refine en (se (r1 .mv (ct (xt (nX (bX (nX (bH (nN (rg (aa Tryz.zeroValue65 (fun g2=>kM 0 (cells8 (List.replicate 32 0)) ?_))))))))))))
   refine en (se (r1 .as (bl ?_)))
   have hbl:compress (hashTo h0 p q) (pad64 d) p.length true=blake h0 p:=by rw[blake,←hq,hd]
   have lB:(blake h0 p).length=8:=by rw[←hbl,compress_len];exact lq
   refine kM 2 (cells (blake h0 p)) ?_ (hc:=by rw[hbl])
   generalize hHb:blake h0 p=H at *
   refine kM 0 (cells8 (outD H 0)) ?_
   have lO:=outD_len H
   refine lo (A:=Nat) (fun i=>i<=32) (fun i=>32-i) (fun i=>[(2,pt g0),(4,pt g1),(9,pt g2),(10,i6 (i:Int))]) (fun i=>[(g2,isB 65 (cells8 (outD H i))),(g1,isB 65 (cells8 (List.replicate 32 0))),(g0,isB 125 (cells H))]) (fun i=>[]) 0 (by omega) su (fun i hi=>?_)
   refine se (r2 .mv .lss (sd (fun hi=>?_) (fun hi=>?_)))
   ·have hi:i<32:=by omega
    have lOi:=lO i
    refine sk ?_
    refine nN (se (bl (rg (p1 .mv (pp (PR.quo ((i/4:Nat):Int) (h:=⟨by rw[Int.ofNat_tdiv];rfl,by omega,by omega⟩)) (p1 (.ia0 (i/4)) (pp (PR.to PR.lwd (show _=Value.int .u32 (nm (gt H (i/4))/2^(8*0)) by simp)) (p1 .as (en (se (r1 .as (bl (lo (A:=Nat) (fun k=>k<=i%4) (fun k=>i%4-k) (fun k=>[(2,pt g0),(4,pt g1),(9,pt g2),(10,i6 (i:Int)),(11,.int .u32 (nm (gt H (i/4))/2^(8*k))),(12,i6 (k:Int))]) (fun k=>[(g2,isB 65 (cells8 (outD H i))),(g1,isB 65 (cells8 (List.replicate 32 0))),(g0,isB 125 (cells H))]) (fun k=>[]) 0 (by omega) su (fun k hi=>?_))))))))))))))
    refine se (rg (p2 .mv .mv (pp (PR.rem ((i%4:Nat):Int) (h:=by rw[Int.ofNat_tmod];rfl)) (p1 .lss (en (sd (fun hk=>?_) (fun hk=>?_)))))))
    ·skip
     refine sk (nN (se ?_))
     exact bl (rg0 (p1 .mv (pp PR.d256 (p1 .as (en0 (bN (nN (rg0 (p1 .mv (pp (PR.ad ((k+1:Nat):Int)) (p1 .as (en0 (nN (bk (k+1) (by omega) (by omega) su))))))))))))))
    ·obtain rfl:k=i%4:=by omega
     refine xt (nX (nX (bH (nN (rg0 (p2 .mv .mv (pp PR.r256 (pp (PR.cv (wrap8 _)) (p1 (.ia0 i) (sby 0 ?_))))))))))
     refine en0 (bN (nN (rg0 (p1 .mv (pp (PR.ad ((i+1:Nat):Int)) (p1 .as (en0 (nN (kM 0 (cells8 (outD H (i+1))) ?_)))))))))
     exact bk (i+1) (by omega) (by omega) su
   ·obtain rfl:i=32:=by omega
    refine xt (nX (nX (bH (nN (gB 0 (fun F eF=>?_))))))
    have lF:F.length=32:=by rw[eF];exact lO 32
    have lF2:(cells8 F).size=32:=by rw[cells8_size,lF]
    rw[show outD H 32=F from eF.symm]
    refine rg (p1 (.lw (hn:=by rw[cells8_size];exact lF)) (sw 1 (h1:=cells8_one _) (hV:=by rw[cells8_size];exact lF) (hW:=by rw[cells8_size];first | rfl | assumption) ?_))
    exact en (rt qv)
 ·have hla2:64*(q+1)<p.length:=by omega
  rw[decide_eq_false hla]
  refine rg0 (p3 .mv .mv .mv (pp ((PR.sm (i:=64*q) (j:=64*(q+1))).to (by rw[show 64*(q+1)-64*q=64 by omega])) (p1 .as (en0 (nN (rg (p3 (.lw (hn:=by rw[cells_size];exact lq)) .mv .mv (pp (PR.cv (wrap64 (n:=64*(q+1)) (by omega))) (p1 .mv (cl (fun _ _ h=>rtake2 (b:=(p.drop (64*q)).take 64) (t:=64*(q+1)) (last:=false) lq (by rw[List.length_take,List.length_drop];omega) (by omega)) (sw 1 (h1:=cells_one _) (hV:=by rw[cells_size];rw[compress_len];exact lq) (hW:=by rw[cells_size];exact lq) ?_)))))))))))
  refine en (se (r1 .mv (cf (sk (nN (rg0 (p2 .mv .as (en0 (bN (nN (kM 1 (cells (hashTo h0 p (q+1))) ?_ (hc:=by rw[hashTo]))))))))))))
  exact bk (q+1) (by omega) (by omega) su
theorem rkeyed2 {k a:List UInt8}{v:Value}{w:World}(hk:k.length=32)(ha:a.length<2^59)(hV:Sl w v 1 1 (txs [a])):RV 20 #[.agg (cells8 k),v] w (.agg (cells8 (keyedS k a))):=by
 refine enter Tryz.func20 ?_
 have le8:eightV.length=8:=rfl
 have hov:=hV.one
 have lX:=keyedS_len k a
 have hX:outD (blake h0K (k++List.replicate 32 0++a)) 32=keyedS k a:=rfl
 generalize keyedS k a=X at *
 have lX2:(cells8 X).size=32:=by rw[cells8_size,lX]
 refine rg (ba (fun g0=>?_))
 refine aa Tryz.zeroValue65 (fun g1=>kM 0 (cells8 (List.replicate 32 0)) ?_)
 refine en (rg (cl (fun _ _ h=>reight) (aa Tryz.zeroValue125 (fun g2=>kM 0 (cells (List.replicate 8 0)) ?_))))
 refine sw 0 (h1:=cells_one _) (hV:=by rw[cells_size];rfl) (hW:=by rw[cells_size];first | rfl | assumption) ?_
 refine en (rg (p2 (.ia0 0) .lwd (pp (PR.xorW (b:=16842784#32)) (pp (PR.xorW (b:=8192#32)) (p1 (.ia0 0) (swd 0 ?_))))))
 refine en (kM 0 (cells h0K) ?_)
 refine rg (aa Tryz.zeroValue24 (fun g3=>kM 0 (cells8 (List.replicate 64 0)) ?_))
 refine en (se (r1 .as (bl (kM 0 (cells8 (keyTo k 0)) ?_))))
 have lk:=keyTo_len k
 refine lo (A:=Nat) (fun i=>i<=32) (fun i=>32-i) (fun i=>[(1,v),(2,pt g0),(4,pt g1),(5,pt g2),(6,pt g3),(7,i6 (i:Int))]) (fun i=>[(g3,isB 24 (cells8 (keyTo k i))),(g2,isB 125 (cells h0K)),(g1,isB 65 (cells8 (List.replicate 32 0))),(g0,isB 23 (cells8 k))]) (fun i=>[]) 0 (by omega) su (fun i hi=>?_)
 refine se (r2 .mv .lss (sd (fun hi=>?_) (fun hi=>?_)))
 ·have hi:i<32:=by omega
  have lki:=lk i
  refine sk (nN (se (bl (rg0 (p5 .mv .mv (.ia0 i) .lby (.ia0 i) (sby 0 ?_))))))
  refine en0 (bN (nN (rg0 (p1 .mv (pp (PR.ad ((i+1:Nat):Int)) (p1 .as (en0 (nN (kM 0 (cells8 (keyTo k (i+1))) ?_)))))))))
  exact bk (i+1) (by omega) (by omega) su
 ·obtain rfl:i=32:=by omega
  refine xt (nX (nX (bH (nN (kM 0 (cells8 (k++List.replicate 32 0)) ?_ (hc:=by rw[keyTo_32 k hk]))))))
  refine dqs 7 (Y1 (.lw (hn:=by rw[cells_size];rfl)) (YQ PR.sA (YQ (PR.bB (l:=k++List.replicate 32 0) (hl:=by rw[List.length_append,hk];rfl)) (Y1 .mv (YC (fun _ _ h=>rjoin1 (by omega) (hV.below h.m.below)) (YQ (PR.cat (s:=k++List.replicate 32 0) (s2:=a) ev ev (by rw[List.length_append,hk,List.length_replicate];omega)) (YC (fun _ _ h=>hX▸rdigest2 rfl (by rw[List.length_append,List.length_append,hk,List.length_replicate];omega)) (YE (sw 2 (h1:=cells8_one _) (hV:=by rw[cells8_size];exact lX) (hW:=by rw[cells8_size];first | rfl | assumption) ?_)))))))))
  exact en (rt qv)
end
section
attribute [local irreducible] sumS keyedS sealS bxS opS bytesS takeS rowS packS rtObj manB
theorem hxd_inj :∀ a b:Fin 16,hxd a.val=hxd b.val->a=b:=by decide
theorem hexS_inj :∀ {d e:List UInt8},hexS d=hexS e->d=e
 | [],[],_=>rfl
 | [],b::e,h=>by
  have:=congrArg List.length h
  rw[hexS_len,hexS_len] at this
  simp at this
 | a::d,[],h=>by
  have:=congrArg List.length h
  rw[hexS_len,hexS_len] at this
  simp at this
 | a::d,b::e,h=>by
  have ea:hexS (a::d)=hxd (a.toNat/16)::hxd (a.toNat%16)::hexS d:=by unfold hexS;rw[List.flatMap_cons];rfl
  have eb:hexS (b::e)=hxd (b.toNat/16)::hxd (b.toNat%16)::hexS e:=by unfold hexS;rw[List.flatMap_cons];rfl
  rw[ea,eb] at h
  injection h with h1 h
  injection h with h2 h3
  have ha:=a.toNat_lt
  have hb:=b.toNat_lt
  have q1:=Fin.ext_iff.1 (hxd_inj ⟨a.toNat/16,by omega⟩ ⟨b.toNat/16,by omega⟩ h1)
  have q2:=Fin.ext_iff.1 (hxd_inj ⟨a.toNat%16,by omega⟩ ⟨b.toNat%16,by omega⟩ h2)
  simp only at q1 q2
  rw[hexS_inj h3,UInt8.toNat_inj.1 (show a.toNat=b.toNat by omega)]
theorem op_le (k m x:List UInt8):(opS k m x).1.length<=65536:=by
 have hu:∀ y,(unpS y 65536).1.length<=65536:=fun y=>by
  unfold unpS
  split
  ·exact Nat.zero_le _
  ·have:=unpT_le y.length y [] (max 65536 0) (Nat.le_refl _) (by show(0:Int)<=_;omega)
   omega
 match x with
 | []=>unfold opS;exact Nat.zero_le _
 | [a]=>unfold opS;exact Nat.zero_le _
 | a::b::y=>
  rw[opS]
  by_cases h1:a.toNat+b.toNat*256=0
  ·rw[if_pos h1]
   by_cases h2:(openS (keyedS k boxesT) m y).2=0
   ·rw[if_pos h2]
    by_cases h3:(unpS (openS (keyedS k boxesT) m y).1 65536).2=0
    ·rw[if_pos h3]
     by_cases h4:hexS (keyedS (keyedS k namesT) (unpS (openS (keyedS k boxesT) m y).1 65536).1)=m
     ·rw[if_pos h4];exact hu _
     ·rw[if_neg h4];exact Nat.zero_le _
    ·rw[if_neg h3];exact Nat.zero_le _
   ·rw[if_neg h2];exact Nat.zero_le _
  ·rw[if_neg h1];exact Nat.zero_le _
theorem got_cases (k no bt:List UInt8)(eC:Int)(ob s:List UInt8):((gotS (kyD k no) bt eC ob s).2≠0/\(gotS (kyD k no) bt eC ob s).1 = [])\/((gotS (kyD k no) bt eC ob s).2=0/\(kyD k no).nm (gotS (kyD k no) bt eC ob s).1=s/\(gotS (kyD k no) bt eC ob s).1.length<=65536):=by
 unfold gotS
 by_cases h1:eC≠0
 ·rw[if_pos h1];exact .inl ⟨h1,rfl⟩
 ·rw[if_neg h1]
  by_cases h2:(kyD k no).pnm bt≠ob
  ·rw[if_pos h2];exact .inl ⟨by decide,rfl⟩
  ·rw[if_neg h2]
   by_cases h3:((kyD k no).tk bt s).2≠0
   ·rw[if_pos h3];exact .inl ⟨h3,rfl⟩
   ·rw[if_neg h3]
    have h4:((kyD k no).tk bt s).1.1=s:=by
     show(takeS bt s).1.1=s
     rcases take_cases bt s with e | e | ⟨l,x,_,_,hx,e⟩
     ·exact absurd (show(takeS bt s).2≠0 by rw[e];decide) h3
     ·exact absurd (show(takeS bt s).2≠0 by rw[e];decide) h3
     ·rw[e];exact hx
    rw[h4]
    rcases op_cases k s ((kyD k no).tk bt s).1.2 with h | h
    ·exact .inl h
    ·exact .inr ⟨h.1,h.2,op_le _ _ _⟩
theorem k9_len :k9.length=32:=rfl
theorem n7_len :n7.length=64:=rfl
theorem keepsT {w:World}(hG:HG w)(hE:Env w):RV 4 #[] w (.bool true):=by
 have hK:EnvK (kyD k9 n7) w:=envK k9_len n7_len hG hE
 exact tkeepsX hK kyRt fun hb=>kBegun (hK.below hb)
theorem neverS {k no dt:List UInt8}{u0 v0 u1 v1 u2 v2 u3 v3 u4 v4:Value}{Z:Nat->Shf}{left:Int}{w:World}(hG:HG w)(hE:Env w)(hk:k.length=32)(hn:no.length=64)(hW:StoW w u0 v0 u1 v1 u2 v2 u3 v3 u4 v4 Z)(hl:-9223372036854775808<=left/\left<=9223372036854775807):RV 3 #[.agg (cells8 k),.agg (cells8 no),sv dt,.agg #[u0,v0,u1,v1,u2,v2,u3,v3,u4,v4,i6 left]] w (.bool true):=by
 have hK:EnvK (kyD k no) w:=envK hk hn hG hE
 have ok:=hK.ok
 obtain⟨nm,hnm⟩:∃ nm,(pkF (kyD k no) [((kyD k no).nm dt,(kyD k no).bx dt)]).nm=nm:=⟨_,rfl⟩
 have hnl:1<=nm.length/\nm.length<=100:=by
  have:=pnm_len ok ((kyD k no).mkp [((kyD k no).nm dt,(kyD k no).bx dt)])
  rw[←hnm]
  show 1<=((kyD k no).pnm _).length/\((kyD k no).pnm _).length<=100
  omega
 have gc:=got_cases k no (rdS nm (ddA left Z nm) (eeA left Z nm) (kkA left)).1 (rdS nm (ddA left Z nm) (eeA left Z nm) (kkA left)).2 nm ((kyD k no).nm dt)
 refine tnever (D:=kyD k no) (Z1:=kZ1 (kyD k no)) (Z2:=Z) (Z:=Z) (r:=kqR (kyD k no) [((kyD k no).nm dt,(kyD k no).bx dt)]) (bt:=(rdS nm (ddA left Z nm) (eeA left Z nm) (kkA left)).1) (eC:=(rdS nm (ddA left Z nm) (eeA left Z nm) (kkA left)).2) (left2:=lf (lf (lf (lf (lf left))))) hK hW (fun hb=>keepsT (hG.below hb) (hE.below hb)) (fun hb=>kBegun (hK.below hb)) (fun _ _=>⟨by show 1<2^36;decide,by show 0<2^36;decide⟩) (kR_eq _ _) (fun hd=>?_) (Nat.le_trans (rdS_le ..) (by decide)) (fun ht {w2} {u0} {v0} {u1} {v1} {u2} {v2} {u3} {v3} {u4} {v4} hb hS=>by rw[hnm];exact sreadA (hE.below hb) hS ht hl hnl) ?_ (fun h=>?_) (fun h=>?_) (fun {w2} {v} {a} {b} hb hV ha hbl hne he=>?_)
 ·have hb:=kBx1 ok hd
  refine⟨hb,fun i hi=>kPut2 ok hb i hi,?_,kPlX ok hb (b:=((kyD k no).nm dt,(kyD k no).bx dt)) (List.mem_singleton.2 rfl)⟩
  have:=pl_le ok hb
  show((kyD k no).pl (kL1 (kyD k no) dt)).length<2^36
  omega
 ·rw[hnm]
  rcases gc with h | h
  ·rw[h.2];exact Nat.zero_le _
  ·exact h.2.2
 ·rw[hnm] at h ⊢
  rcases gc with h2 | h2
  ·exact h2.2
  ·exact absurd h2.1 h
 ·rw[hnm] at h ⊢
  rcases gc with h2 | h2
  ·exact absurd h h2.1
  ·exact h2.2.1
 ·have he2:keyedS (kyD k no).idk a=keyedS (kyD k no).idk b:=hexS_inj he
  exact apart2 (X:=keyedS (kyD k no).idk a) ok.idk (keyedS_len _ _) hne (fun _ _ _ hV=>rkeyed2 ok.idk (by omega) hV) (fun _ _ _ hV=>he2▸rkeyed2 ok.idk (by omega) hV) hV
end
section
open Go.ChangeShapes Go.WideShapes Go.ChangeAt Go.RowKit
theorem list_choice {α:Type}{p:Nat->α->Prop}:∀ n:Nat,(∀ i,i<n->∃ x,p i x)->∃ l:List α,l.length=n ∧ ∀ i x,l[i]?=some x->p i x
 | 0,_=>⟨[],rfl,fun i x h=>by simp at h⟩
 | n+1,h=>by
  obtain⟨l,hl,hp⟩:=list_choice n fun i hi=>h i (by omega)
  obtain⟨y,hy⟩:=h n (by omega)
  refine⟨l ++ [y],by simp[hl],fun i x hx=>?_⟩
  by_cases hi:i<l.length
  ·rw[List.getElem?_append_left hi] at hx;exact hp i x hx
  ·rw[List.getElem?_append_right (by omega)] at hx
   have hlt:=(List.getElem?_eq_some_iff.1 hx).1
   simp only[List.length_singleton] at hlt
   have e:i=n:=by omega
   subst e
   rw[hl,Nat.sub_self] at hx
   simp only[List.getElem?_cons_zero,Option.some.injEq] at hx
   subst hx
   exact hy
theorem flat_inv {α:Type}{f:α->List Value}{m:Nat}(hf:∀ x,(f x).length=m):∀ (l:List α) (j:Nat) (u:Value),(l.flatMap f)[j]?=some u->∃ i x r,j=i*m+r/\l[i]?=some x/\(f x)[r]?=some u
 | [],j,u,h=>by simp at h
 | y::l,j,u,h=>by
  rw[List.flatMap_cons] at h
  by_cases hj:j<(f y).length
  ·rw[List.getElem?_append_left hj] at h
   exact⟨0,y,j,by omega,rfl,h⟩
  ·rw[List.getElem?_append_right (by omega),hf] at h
   obtain⟨i,x,r,h1,h2,h3⟩:=flat_inv hf l (j-m) u h
   rw[hf] at hj
   exact⟨i+1,x,r,by rw[Nat.add_mul];omega,by simpa using h2,h3⟩
theorem plain_addr {W:World}{a:Addr}{u:Value}(h:W.cell? (a.add 0)=some u):a.spot=none/\a.block<W.heap.size:=by
 unfold World.cell? at h
 have e:(a.add 0).block=a.block/\(a.add 0).spot=a.spot:=by unfold Addr.add;rw[if_pos rfl];exact⟨rfl,rfl⟩
 rw[e.1,e.2] at h
 split at h
 ·rename_i c t fr hb
  constructor
  ·cases hs:a.spot with
   | none=>rfl
   | some x=>rw[hs] at h;simp at h
  ·rcases Nat.lt_or_ge a.block W.heap.size with hlt | hge
   ·exact hlt
   ·rw[Array.getElem?_eq_none hge] at hb;cases hb
 ·cases h
theorem flat_lenO {α:Type}{f:α->List Value}{m:Nat}(hf:∀ x,(f x).length=m)(l:List α):(l.flatMap f).length=l.length*m:=by
 induction l with
 | nil=>simp
 | cons a l ih=>rw[List.flatMap_cons,List.length_append,ih,hf,List.length_cons,Nat.add_mul];omega
theorem slice_openS {α:Type}{f:α->List Value}{m:Nat}(hfl:∀ x,(f x).length=m)(hm0:0<m){H:Type}{enc:TypeId×Value->H}{P:Program}{W:World}{sp:Nat->Bool}{hd:Bool}{b0 fuel:Nat}{t e:TypeId}{c0:Value}{y:DataW H×List MemPlace}(hu:P.underlying t=some (.slice e))(hce:P.cellsOf e=m)
  (hel:∀ (n:Nat) (cs':List Value) (z:DataW H×List MemPlace),DataW.trod enc P W b0 sp hd n e cs'=some z->∃ x,cs'=f x) (h:DataW.trod enc P W b0 sp hd fuel t [c0]=some y):∃ l:List α,Sl W c0 m l.length (l.flatMap f)/\l.length<=maxLen:=by
 rcases Deep.open_slice hu h with⟨h1,_⟩ | ⟨a,len,cap,mm,n,D,Pl,h1,_,hl,hm,hmm,hye,hc⟩
 ·injection h1 with h1
  exact⟨[],⟨by simp,.inl ⟨⟨_,_,h1⟩,rfl⟩⟩,by simp⟩
 ·injection h1 with h1
  have hlm:len<=mm:=by rw[hmm];split <;> omega
  rw[hce] at hc
  obtain⟨l,hll,hlp⟩:=list_choice (p:=fun i (x:α)=>∀ j u,(f x)[j]?=some u->W.cell? ((a.add (i*m)).add j)=some u) len (fun i hi=>by
   obtain⟨cs',hcs,ht⟩:=hc i (by omega)
   obtain⟨_,hcl,hat⟩:=World.cells?_some hcs
   obtain⟨x,rfl⟩:=hel _ _ _ ht
   refine⟨x,fun j u hj=>?_⟩
   have hjm:j<m:=by have:=(List.getElem?_eq_some_iff.1 hj).1;rwa[hfl] at this
   rw[hat j hjm]
   exact hj)
  refine⟨l,⟨flat_lenO hfl l,?_⟩,by omega⟩
  rw[h1]
  rcases Nat.eq_zero_or_pos len with h0 | h0
  ·exact .inl ⟨⟨_,_,by rw[h0]⟩,by omega⟩
  ·obtain⟨x0,hx0⟩:∃ x,l[0]?=some x:=⟨l[0],by simp[show 0<l.length by omega]⟩
   obtain⟨u0,hu0⟩:∃ u,(f x0)[0]?=some u:=⟨(f x0)[0]'(by rw[hfl];exact hm0),List.getElem?_eq_getElem _⟩
   have c0':=hlp 0 x0 hx0 0 u0 hu0
   have e00:(a.add (0*m)).add 0=a.add 0:=by unfold Addr.add;simp
   rw[e00] at c0'
   obtain⟨hsp,hb⟩:=plain_addr c0'
   obtain⟨b,o,sp'⟩:=a
   simp only at hsp hb
   subst hsp
   refine .inr ⟨b,o,cap,by rw[hll],hb,fun j u hu=>?_⟩
   obtain⟨i,x,r,rfl,hx,hr⟩:=flat_inv hfl l j u hu
   have q:=hlp i x hx r u hr
   rw[addr_add,addr_add] at q
   rw[←q,Nat.add_assoc]
section
variable {H:Type}{enc:TypeId×Value->H}{W:World}{base:Nat}{v:Value}{d:DataW H}{ps:List MemPlace}{sp:Nat->Bool}{hd:Bool}{b0:Nat}
theorem obj_of_trod {n:Nat}{cs:List Value}{z:DataW H×List MemPlace}(h:DataW.trod enc Tryz.prog W b0 sp hd n 73 cs=some z):∃ o:Ob,cs=obC o:=by
 have k4:Tryz.prog.cellsOf 73 = 4:=by kernel_rfl
 have ks:Tryz.prog.cellsOf 9 = 1:=by kernel_rfl
 have kb:Tryz.prog.cellsOf 4 = 1:=by kernel_rfl
 obtain⟨xs,n',_,_,hlen,hxl,hq⟩:=DataW.trod_struct Tryz.underlying73 h
 rw[k4] at hlen
 have hx4:xs.length=4:=by simpa using hxl
 match cs,hlen,xs,hx4 with
 | [c0,c1,c2,c3],_,[y0,y1,y2,y3],_=>
  have f0:=hq 0 _ rfl
  have f1:=hq 1 _ rfl
  have f2:=hq 2 _ rfl
  have f3:=hq 3 _ rfl
  have f0':DataW.trod enc Tryz.prog W b0 sp hd n' 9 [c0]=some y0:=by simpa[ks] using f0
  have f1':DataW.trod enc Tryz.prog W b0 sp hd n' 9 [c1]=some y1:=by simpa[ks] using f1
  have f2':DataW.trod enc Tryz.prog W b0 sp hd n' 9 [c2]=some y2:=by simpa[ks] using f2
  have f3':DataW.trod enc Tryz.prog W b0 sp hd n' 4 [c3]=some y3:=by simpa[kb] using f3
  obtain⟨s0,e0,_⟩:=DataW.trod_string Tryz.underlying9 f0'
  obtain⟨s1,e1,_⟩:=DataW.trod_string Tryz.underlying9 f1'
  obtain⟨s2,e2,_⟩:=DataW.trod_string Tryz.underlying9 f2'
  obtain⟨b3,e3,_⟩:=DataW.trod_bool Tryz.underlying4 f3'
  injection e0 with e0
  injection e1 with e1
  injection e2 with e2
  injection e3 with e3
  subst e0 e1 e2 e3
  exact⟨⟨s0.data.toList,s1.data.toList,s2.data.toList,b3⟩,rfl⟩
theorem int_of_trod {n:Nat}{cs:List Value}{z:DataW H×List MemPlace}(h:DataW.trod enc Tryz.prog W b0 sp hd n 3 cs=some z):∃ q:Int,cs = [i6 q]:=by
 obtain⟨q,e,_⟩:=DataW.trod_int Tryz.underlying3 h
 exact⟨q,e⟩
theorem nts_flat (l:List Int):l.flatMap (fun q=>[Value.int .i64 q])=nts l:=by
 induction l with
 | nil=>rfl
 | cons a l ih=>rw[List.flatMap_cons,ih];rfl
theorem shelf_of_trod {n:Nat}{cs:List Value}{z:DataW H×List MemPlace}(h:DataW.trod enc Tryz.prog W b0 sp hd n 28 cs=some z):∃ (s:Shf) (u v:Value),cs = [u,v]/\ShfW W u v s:=by
 have k2:Tryz.prog.cellsOf 28 = 2:=by kernel_rfl
 have ko:Tryz.prog.cellsOf 25 = 1:=by kernel_rfl
 have ki:Tryz.prog.cellsOf 26 = 1:=by kernel_rfl
 obtain⟨xs,n',_,_,hlen,hxl,hq⟩:=DataW.trod_struct Tryz.underlying28 h
 rw[k2] at hlen
 have hx2:xs.length=2:=by simpa using hxl
 match cs,hlen,xs,hx2 with
 | [u,v],_,[y0,y1],_=>
  have f0:=hq 0 _ rfl
  have f1:=hq 1 _ rfl
  have f0':DataW.trod enc Tryz.prog W b0 sp hd n' 25 [u]=some y0:=by simpa[ko] using f0
  have f1':DataW.trod enc Tryz.prog W b0 sp hd n' 26 [v]=some y1:=by simpa[ki] using f1
  obtain⟨l,hl,hl2⟩:=slice_openS (f:=obC) obC_len (by decide) Tryz.underlying25 (by kernel_rfl) (fun _ _ _ ht=>obj_of_trod ht) f0'
  obtain⟨m,hm,hm2⟩:=slice_openS (f:=fun q:Int=>[Value.int .i64 q]) (fun _=>rfl) (by decide) Tryz.underlying26 (by kernel_rfl) (fun _ _ _ ht=>int_of_trod ht) f1'
  rw[nts_flat] at hm
  exact⟨⟨l,m⟩,u,v,rfl,hl,hm,hl2,hm2⟩
theorem open_store (hval:Value.okWide Tryz.prog W .any base 31 v)
  (h:DataW.Trod enc Tryz.prog W b0 sp hd 31 v d ps):∃ (u0 v0 u1 v1 u2 v2 u3 v3 u4 v4:Value) (Z:Nat->Shf) (left:Int),v = .agg #[u0,v0,u1,v1,u2,v2,u3,v3,u4,v4,i6 left]/\StoW W u0 v0 u1 v1 u2 v2 u3 v3 u4 v4 Z ∧ -9223372036854775808<=left/\left<=9223372036854775807:=by
 unfold Value.okWide at hval
 rw[Tryz.underlying31] at hval
 obtain⟨cs,rfl,_,_⟩:=hval
 obtain⟨fuel,hf⟩:=h
 have k11:Tryz.prog.cellsOf 31 = 11:=by kernel_rfl
 have k10:Tryz.prog.cellsOf 29 = 10:=by kernel_rfl
 have k2:Tryz.prog.cellsOf 28 = 2:=by kernel_rfl
 have ki:Tryz.prog.cellsOf 3 = 1:=by kernel_rfl
 obtain⟨xs,n',_,_,hlen,hxl,hq⟩:=DataW.trod_struct Tryz.underlying31 hf
 simp only[Value.cells] at hlen hq
 rw[k11] at hlen
 have hx2:xs.length=2:=by simpa using hxl
 obtain⟨l0,hl0⟩:∃ l,cs.toList=l:=⟨_,rfl⟩
 rw[hl0] at hlen hq
 match l0,hlen,xs,hx2 with
 | [u0,v0,u1,v1,u2,v2,u3,v3,u4,v4,z],_,[y0,y1],_=>
  have f0:=hq 0 _ rfl
  have f1:=hq 1 _ rfl
  have f0':DataW.trod enc Tryz.prog W b0 sp hd n' 29 [u0,v0,u1,v1,u2,v2,u3,v3,u4,v4]=some y0:=by simpa[k10] using f0
  have f1':DataW.trod enc Tryz.prog W b0 sp hd n' 3 [z]=some y1:=by simpa[ki] using f1
  obtain⟨left,e1,_,hwf⟩:=DataW.trod_int Tryz.underlying3 f1'
  obtain⟨ys,m,_,_,_,hyl,hall⟩:=DataW.trod_array Tryz.underlying29 f0'
  rw[k2] at hall
  have g:∀ i,i<5->∃ (s:Shf) (u v:Value),(([u0,v0,u1,v1,u2,v2,u3,v3,u4,v4].drop (i*2)).take 2) = [u,v]/\ShfW W u v s:=fun i hi=>by
   have h1:=hall i hi
   obtain⟨x,hx⟩:∃ x,ys[i]?=some x:=⟨ys[i]'(by omega),List.getElem?_eq_getElem (by omega)⟩
   rw[hx] at h1
   exact shelf_of_trod h1
  obtain⟨s0,a0,b0,e0,q0⟩:=g 0 (by decide)
  obtain⟨s1,a1,b1,e2,q1⟩:=g 1 (by decide)
  obtain⟨s2,a2,b2,e3,q2⟩:=g 2 (by decide)
  obtain⟨s3,a3,b3,e4,q3⟩:=g 3 (by decide)
  obtain⟨s4,a4,b4,e5,q4⟩:=g 4 (by decide)
  cases e0;cases e2;cases e3;cases e4;cases e5
  injection e1 with e1
  subst e1
  refine⟨u0,v0,u1,v1,u2,v2,u3,v3,u4,v4,fun i=>match i with | 0=>s0 | 1=>s1 | 2=>s2 | 3=>s3 | _=>s4,left,by congr 1;apply Array.ext';rw[hl0],⟨q0,q1,q2,q3,q4⟩,?_⟩
  have h2:IntKind.i64.min<=left/\left<=IntKind.i64.max:=by simpa[Lit.wf] using hwf
  exact h2
end
end
section
open Go.ChangeShapes Go.WideShapes Go.ChangeAt Go.RowKit
section
variable {H:Type}{enc:TypeId×Value->H}{P:Program}{W W':World}
theorem trodAll_below (hl:laidOutB P=true)(hb:Below W.heap.size W W'):∀ {ts:List TypeId} {vs:List Value} {ds:List (DataW H)} {ps:List MemPlace},
  (ts.all fun t=>P.readableRec t&&decide (t<P.types.size))=true->DataW.TrodAll enc P W 0 (fun _=>true) true ts vs ds ps->(∀ x∈ps,x.block<W.heap.size) →
  DataW.TrodAll enc P W' 0 (fun b=>decide (b<W.heap.size)) true ts vs ds ps
 | [],[],[],_,_,h,_=>h
 | [],_::_,_,_,_,h,_=>h.elim
 | [],[],_::_,_,_,h,_=>h.elim
 | _::_,[],_,_,_,h,_=>h.elim
 | _::_,_::_,[],_,_,h,_=>h.elim
 | t::ts,v::vs,d::ds,ps,hr,h,hlt=>by
  obtain⟨p,q,h1,h2,rfl⟩:=h
  simp only[List.all_cons,Bool.and_eq_true,decide_eq_true_eq] at hr
  exact⟨p,q,Below.trod hl hr.1.1 hr.1.2 h1 hb (fun x hx=>hlt x (by simp[hx])),trodAll_below hl hb (by simpa[Bool.and_eq_true] using hr.2) h2 (fun x hx=>hlt x (by simp[hx])),rfl⟩
theorem law_post {f:Func}{s:ChangeSpec}{args:Array Value}{ds gs:List (DataW H)}{before:List MemPlace}(hl:laidOutB P=true)(hr:(f.params.toList.all fun t=>P.readableRec t&&decide (t<P.types.size))=true)
  (hv:varsRowed P s.vars=true) (hW:DataW.Whole enc P f.params.toList s.vars false W args.toList ds gs before) (hb:Below W.heap.size W W') {T:TypeId} (hres:f.resultTypes = #[T]) (hT:P.underlying T=some .bool)
  (h1:(s.fn H (ds++gs)).results = [.lit (.bool true)]) (h2:(s.fn H (ds++gs)).args=ds) (h3:(s.fn H (ds++gs)).vars=gs) :
  s.post enc P f false true false false W args (.bool true) W':=by
 have hW0:=hW
 obtain⟨p,q,hA,hV,rfl,hfz,hnd⟩:=hW
 have hlt:=hW0.lt
 refine⟨ds,gs,_,[],p,q,hW0,?_,?_,?_,Below.frame hb _,fun h=>by cases h⟩
 ·rw[h1,hres]
  exact trodAll_mk1 (shut_bool hT true)
 ·rw[h2];exact trodAll_below hl hb hr hA (fun x hx=>hlt x (by simp[hx]))
 ·rw[h3];exact Below.trodVars hl hb hv hV
def byteV :Value->UInt8
 | .int _ z=>UInt8.ofNat z.toNat
 | _=>0
theorem byteV_cb (b:UInt8):byteV (cb b)=b:=by simp[byteV,cb]
theorem open_byteArr {base:Nat}{t e:TypeId}{n:Nat}{v:Value}{d:DataW H}{ps:List MemPlace}{sp:Nat->Bool}{hd:Bool}{b0:Nat}(hu:P.underlying t=some (.array n e))(he:P.underlying e=some (.int .u8))(hce:P.cellsOf e=1)
  (hct:P.cellsOf t=n) (hval:Value.okWide P W .any base t v) (h:DataW.Trod enc P W b0 sp hd t v d ps):∃ l:List UInt8,l.length=n/\v = .agg (cells8 l):=by
 unfold Value.okWide at hval
 rw[hu] at hval
 obtain⟨cs,rfl,hsz,_⟩:=hval
 obtain⟨fuel,hf⟩:=h
 obtain⟨xs,m,rfl,_,hlen,hxl,hall⟩:=DataW.trod_array hu hf
 have hcs:cs.size=n:=by rw[hsz,hct]
 have hget:∀ i,i<n->∃ b:UInt8,cs[i]?=some (cb b):=by
  intro i hi
  have h1:=hall i hi
  rw[hce] at h1
  have hx:∃ x,xs[i]?=some x:=⟨xs[i]'(by omega),List.getElem?_eq_getElem (by omega)⟩
  obtain⟨x,hx⟩:=hx
  rw[hx] at h1
  obtain⟨z,hz,_,hwf⟩:=DataW.trod_int he h1
  simp only[Nat.mul_one,Value.cells] at hz
  have hb:=bounds_u8 hwf
  refine⟨UInt8.ofNat z.toNat,?_⟩
  have hi':i<cs.toList.length:=by simpa[hcs] using hi
  rw[List.drop_eq_getElem_cons hi'] at hz
  simp at hz
  have e1:cs[i]?=some cs[i]:=Array.getElem?_eq_getElem (by omega)
  rw[e1,hz]
  unfold cb
  congr 2
  rw[UInt8.toNat_ofNat']
  omega
 refine⟨(List.range n).map (fun i=>byteV (cs[i]?.getD undef)),by simp,?_⟩
 congr 1
 apply Array.ext_getElem?
 intro i
 by_cases hi:i<n
 ·obtain⟨b,hb⟩:=hget i hi
  rw[hb]
  simp[cells8,hi,hb,byteV_cb]
 ·rw[Array.getElem?_eq_none (by omega)]
  simp[cells8,hi]
end
end
end Go.Proofs.YtdjholkjkbihmaaGreatDoor
