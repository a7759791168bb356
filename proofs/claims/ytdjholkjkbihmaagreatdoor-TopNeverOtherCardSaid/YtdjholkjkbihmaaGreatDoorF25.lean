/- Laws and walks of TopNeverOther. -/
import Derived.Test.YtdjholkjkbihmaaGreatDoorF24
namespace Go.Proofs.YtdjholkjkbihmaaGreatDoor
open Go.RowKit
set_option maxRecDepth 100000
set_option maxHeartbeats 4000000
theorem PR.sAh {G:Kn}{x y:Operand}{g o n:Nat}{p:Int}{t e:TypeId}(j:Nat)(hx:EV G x (px g o):=by exact ev)(hy:EV G y (i6 p):=by exact ev)(hp:p=(j:Int):=by rfl)(hu:und t=some (.array n e):=by rfl)(hz:szT e=some 1:=by rfl)(hj:j<=n:=by omega)(hn:0<n:=by decide):PR Tryz.prog G (.slice t x none (some y) none) (.slice (some ⟨g,o,none⟩) j n):=fun a w op ho hg=>by
 subst hp
 have h1:=run_sliceArr_h (P:=Tryz.prog) (und_ok hu) (szT_ok hz) g o (j:Int) (by omega) (by omega) hn w
 unfold execOp
 simp only[ho,hx a w hg,hy a w hg,Option.map,Sem.run_bind,h1,Result.andThen_ok,Sem.run_pure,Int.toNat_natCast]
theorem PR.bQ {G:Kn}{x:Operand}{g n c:Nat}{t:TypeId}{l:List UInt8}(hx:EV G x (.slice (some ⟨g,0,none⟩) n c):=by exact ev)(hm:MB G g t (cells8 l):=by exact mb)(hl:n<=l.length:=by omega):PR Tryz.prog G (.convert 75 9 x) (sv (l.take n)):=fun a w op ho hg=>by
 have h1:=run_strOf (w:=w) (g:=g) (off:=0) (cap:=c) (n:=n) (l:=l.take n) (by rw[List.length_take];omega) (fun q hq=>by
  have hq2:q<n/\q<l.length:=by rw[List.length_take] at hq;omega
  rw[(hm a w hg).cell,Nat.zero_add,cells8_get l q hq2.2]
  simp[bt,hq2])
 unfold execOp
 simp only[ho,hx a w hg,Sem.run_bind,h1,Result.andThen_ok,Sem.run_pure]
theorem cv00 :IntKind.u8.wrap 0=((0:UInt8).toNat:Int):=by decide
theorem sh00 :0<=(0:Int)/\(0:Int)<=IntKind.u64.bits:=by decide
theorem sh08 :0<=(8:Int)/\(8:Int)<=IntKind.u64.bits:=by decide
theorem cdig {k d:List UInt8}{u:Value}{w:World}(hG:HG w)(hk:k.length=32)(hd:d.length<2^59)(hU:Sl w u 32 1 (dgC k)):RV 66 #[.agg #[u],sv d] w (.agg (cells8 (keyedS (keyedS k namesT) d))):=by
 refine enter Tryz.func66 ?_
 have hou:=hU.one
 have hcK:=hkeyAt (k:=keyedS k namesT) (s:=d) hG (keyedS_len _ _) hd
 have lD:(keyedS (keyedS k namesT) d).length=32:=keyedS_len _ _
 generalize keyedS (keyedS k namesT) d=Dg at *
 have lD2:(cells8 Dg).size=32:=by rw[cells8_size,lD]
 refine rg (ba (fun g0=>?_))
 refine aa Tryz.zeroValue65 (fun g1=>kM 0 (cells8 (List.replicate 32 0)) ?_)
 refine en (rg (p1 .lw (cl (fun _ _ h=>kid (hG.below h.m.below) hk (hU.below h.m.below)) (p1 .mv (bs #[sv d] (fun g2=>?_))))))
 refine cl (fun _ _ h=>hcK _ _ h.m.below (blkSl (m:=1) (k:=1) (h.m.at 0 rfl) rfl)) (sw 1 (h1:=cells8_one _) (hV:=by rw[cells8_size];exact lD) (hW:=by rw[cells8_size];first | rfl | assumption) ?_)
 exact en (rt qv)
theorem cname {k d:List UInt8}{u:Value}{w:World}(hG:HG w)(hk:k.length=32)(hd:d.length<2^59)(hU:Sl w u 32 1 (dgC k)):RV 25 #[.agg #[u],sv d] w (sv (hexS (keyedS (keyedS k namesT) d))):=by
 refine enter Tryz.func25 ?_
 have hou:=hU.one
 refine rg (ba (fun g0=>?_))
 exact p1 .as (en (rg (p2 .lw .mv (cl (fun _ _ h=>cdig (hG.below h.m.below) hk hd (hU.below h.m.below)) (cl (fun _ _ h=>hhex (keyedS_len _ _)) (p1 .as (en (rt (q1 rfl)))))))))
theorem hsum1 {b:List UInt8}{v:Value}{w:World}(hG:HG w)(hb:b.length<2^59)(hV:Sl w v 1 1 [sv b]):RV 95 #[v] w (.agg (cells8 (sumS b))):=by
 have h:=hsum (l:=[b]) hG hV (by simp;omega) (show 1<2^60 by decide)
 rwa[List.flatten_singleton] at h
theorem pkname {b:List UInt8}{w:World}(hG:HG w)(hb:b.length<2^59):RV 42 #[sv b] w (sv ([112,97,99,107,47]++hexS (sumS b))):=by
 refine enter Tryz.func42 ?_
 refine r1 .as (rg (p1 .mv (bs #[sv b] (fun g0=>?_))))
 exact cl (fun _ _ h=>hsum1 (hG.below h.m.below) hb (blkSl (m:=1) (k:=1) (h.m.at 0 rfl) rfl)) (cl (fun _ _ h=>hhex (sumS_len _)) (pp (PR.cat (s:=[112,97,99,107,47]) (s2:=hexS (sumS b)) EV.k ev (by rw[hexS_len,sumS_len];decide)) (p1 .as (en (rt (q1 rfl))))))
theorem nput2 {w:World}:RV 58 #[.int .u64 0,i6 2] w (.string ⟨#[0,0]⟩):=by
 refine enter Tryz.func58 ?_
 refine r1 .as (rg (p1 .mv (pp (PR.max 2 (hr:=rfl)) (pp (PR.min 2 (hr:=rfl)) (p1 .as (en (rg (aa Tryz.zeroValue224 (fun g0=>kM 0 (cells8 (List.replicate 8 0)) ?_)))))))))
 refine en (se (r2 .mv .mv (bl (lr 3 (un (r1 .lss ?_))))))
 refine se (ct (sk (nN (se (bl (r2 .mv .as (rg0 (p3 .mv .mv .mv (pp (PR.ml 0) (pp (PR.shr 0 (h:=by decide)) (pp (PR.cv (r:=((0:UInt8).toNat:Int)) cv00) (p1 (.ia0 0) (sby 0 ?_ (ho:=by decide))))))))))))))
 refine en0 (kM 0 (cells8 (List.replicate 8 0)) ?_)
 refine bN (nN (rg0 (pp (PR.ad 1) (p1 .mv (en0 (nN (un (r1 .lss ?_))))))))
 refine se (ct (sk (nN (se (bl (r2 .mv .as (rg0 (p3 .mv .mv .mv (pp (PR.ml 8) (pp (PR.shr 0 (h:=by decide)) (pp (PR.cv (r:=((0:UInt8).toNat:Int)) cv00) (p1 (.ia0 1) (sby 0 ?_ (ho:=by decide))))))))))))))
 refine en0 (kM 0 (cells8 (List.replicate 8 0)) ?_)
 refine bN (nN (rg0 (pp (PR.ad 2) (p1 .mv (en0 ?_)))))
 exact nN (un (r1 .lss (se (cf (xt (nX (nX (bH (nN (rg (p1 .mv (pp (PR.sAh 2) (pp (PR.bQ (hl:=by decide)) (p1 .as (en (rt (q1 rfl)))))))))))))))))
theorem u64_or2 (a b:Nat)(ha:a<2^64)(hb:b<2^64):bits .or .u64 (a:Int) (b:Int)=((a|||b:Nat):Int):=by
 have hx:a|||b<2^64:=Nat.or_lt_two_pow ha hb
 show IntKind.u64.wrap ((BitVec.ofInt 64 (a:Int)|||BitVec.ofInt 64 (b:Int)).toNat:Int)=_
 have e:∀ c:Nat,c<2^64->(BitVec.ofInt 64 (c:Int)).toNat=c:=by
  intro c hc
  rw[BitVec.toNat_ofInt]
  omega
 rw[BitVec.toNat_or,e a ha,e b hb,IntKind.wrap_u64]
 omega
theorem u8_64 (a:UInt8):IntKind.u64.wrap (a.toNat:Int)=(a.toNat:Int):=by
 have:=a.toNat_lt
 unfold IntKind.wrap;simp[IntKind.bits,IntKind.signed];omega
theorem get_s0 (a:UInt8):IntKind.u64.wrap ((a.toNat:Int)*2^(0:Int).toNat)=(a.toNat:Int):=by
 rw[show(a.toNat:Int)*2^(0:Int).toNat=(a.toNat:Int) by simp];exact u8_64 a
theorem get_s1 (b:UInt8):IntKind.u64.wrap ((b.toNat:Int)*2^(8:Int).toNat)=((b.toNat*256:Nat):Int):=by
 have:=b.toNat_lt
 unfold IntKind.wrap;simp[IntKind.bits,IntKind.signed];omega
theorem get_o0 (a:UInt8):bits .or .u64 0 (a.toNat:Int)=(a.toNat:Int):=by
 rw[show(0:Int)=((0:Nat):Int) from rfl,u64_or2 0 a.toNat (by decide) (by have:=a.toNat_lt;omega),Nat.zero_or]
theorem get_o1 (a b:UInt8):bits .or .u64 (a.toNat:Int) ((b.toNat*256:Nat):Int)=((a.toNat+b.toNat*256:Nat):Int):=by
 have ha:=a.toNat_lt;have hb:=b.toNat_lt
 rw[u64_or2 a.toNat (b.toNat*256) (by omega) (by omega)]
 congr 1
 have h:=Nat.two_pow_add_eq_or_of_lt (i:=8) (b:=a.toNat) (by omega) b.toNat
 rw[Nat.or_comm,Nat.mul_comm b.toNat 256,Nat.add_comm]
 exact h.symm
theorem nget2 {a b:UInt8}{w:World}:RV 227 #[.string ⟨[a,b].toArray⟩] w (.int .u64 ((a.toNat+b.toNat*256:Nat):Int)):=by
 refine enter Tryz.func227 ?_
 refine r1 .as (r1 .as (se (rg (p1 .mv (pp (PR.ln (s:=[a,b])) (pp (PR.min 2 (hr:=rfl)) (p1 .mv (en (bl (lr 3 (un (r1 .lss ?_))))))))))))
 refine se (ct (sk (nN (se (bl (r2 .mv .as (rg0 (p3 .mv .mv .mv (pp (PR.sa (s:=[a,b]) (i:=0) (hn:=show 0<2 by decide)) (pp (PR.cv (r:=(a.toNat:Int)) (u8_64 _)) (p1 .mv (pp (PR.ml 0) (pp (PR.shl (a.toNat:Int) (h0:=sh00) (h:=get_s0 a)) ?_)))))))))))))
 refine pp (PR.or (a.toNat:Int) (h:=get_o0 a)) (p1 .as (en0 (bN (nN (rg0 (pp (PR.ad 1) (p1 .mv (en0 (nN (un (r1 .lss (se (ct (sk ?_))))))))))))))
 refine nN (se (bl (r2 .mv .as (rg0 (p3 .mv .mv .mv (pp (PR.sa (s:=[a,b]) (i:=1) (hn:=show 1<2 by decide)) (pp (PR.cv (r:=(b.toNat:Int)) (u8_64 _)) (p1 .mv (pp (PR.ml 8) (pp (PR.shl ((b.toNat*256:Nat):Int) (h0:=sh08) (h:=get_s1 b)) (pp (PR.or ((a.toNat+b.toNat*256:Nat):Int) (h:=get_o1 a b)) (p1 .as (en0 ?_)))))))))))))
 exact bN (nN (rg0 (pp (PR.ad 2) (p1 .mv (en0 (nN (un (r1 .lss (se (cf (xt (nX (nX (bH (nN (r2 .mv .as (rt (q1 rfl))))))))))))))))))
theorem cv640 :IntKind.u64.wrap 0=0:=by decide
def bxS (k d:List UInt8):List UInt8:=[0,0]++sealS (keyedS k boxesT) (nonceS (keyedS (keyedS k namesT) d)) (hexS (keyedS (keyedS k namesT) d)) (packS d)
theorem cseal {k d:List UInt8}{u:Value}{w:World}(hG:HG w)(hk:k.length=32)(hd:d.length<=65536)(hU:Sl w u 32 1 (dgC k)):RV 35 #[.agg #[u],sv d] w (.tuple #[.agg #[sv (hexS (keyedS (keyedS k namesT) d)),sv (bxS k d)],i6 0]):=by
 refine enter Tryz.func35 ?_
 have hou:=hU.one
 have hbx:∀ {w2},Below w.heap.size w w2->RV 88 #[.agg #[u],i6 0] w2 _:=fun hb=>kbox (hG.below hb) hk (hU.below hb)
 have hdg:∀ {w2},Below w.heap.size w w2->RV 66 #[.agg #[u],sv d] w2 _:=fun hb=>cdig (hG.below hb) hk (by omega) (hU.below hb)
 unfold bxS
 have lB:(keyedS k boxesT).length=32:=keyedS_len _ _
 have lD:(keyedS (keyedS k namesT) d).length=32:=keyedS_len _ _
 generalize keyedS k boxesT=B at *
 generalize keyedS (keyedS k namesT) d=Dg at *
 have lN:=nonceS_len Dg
 have lH:(hexS Dg).length=64:=by rw[hexS_len,lD]
 have lP:=pack_len d
 have lX:=sealS_len B (nonceS Dg) (hexS Dg) (packS d) lN
 refine rg (ba (fun g0=>?_))
 refine aa Tryz.zeroValue101 (fun g1=>p1 .as (en (se (r3 .mv .ln .gtr (cf (hb:=(decide_eq_false (by omega))) ?_)))))
 refine sk (nN (rg (p2 .fa .ld (pp (PR.lr) (pp (PR.sb 0) (p1 .as (en (rg (p2 .lw .mv (cl (fun _ _ h=>hbx h.m.below) (p3 .mv .ext .ext (aa Tryz.zeroValue23 (fun g2=>kM 0 (cells8 (List.replicate 32 0)) ?_)))))))))))))
 refine sw 0 (h1:=cells8_one _) (hV:=by rw[cells8_size];exact lB) (hW:=by rw[cells8_size];first | rfl | assumption) ?_
 refine p1 .as (en (se (r2 .mv .nei (cf (hb:=rfl) (sk (nN (rg (p2 .lw .mv (cl (fun _ _ h=>hdg h.m.below) (aa Tryz.zeroValue65 (fun g3=>kM 0 (cells8 (List.replicate 32 0)) ?_)))))))))))
 refine sw 0 (h1:=cells8_one _) (hV:=by rw[cells8_size];exact lD) (hW:=by rw[cells8_size];first | rfl | assumption) ?_
 refine en (rg (p1 (.lw (hn:=by rw[cells8_size];exact lD)) (cl (fun _ _ h=>hhex lD) (p1 .as (en (dqb (Y1 (.lw (hn:=by rw[cells8_size];exact lB)) (YQ PR.sA (YQ (PR.bB (l:=Dg) (hl:=lD)) ?_)))))))))
 refine YC (fun _ _ h=>snonce) (Y2 .mv .mv (YC (fun _ _ h=>zpack (s:=d) (by omega)) (YC (fun _ _ h=>sseal (hd:=hexS Dg) (d:=packS d) (hG.below h.m.below) lB lN (by omega)) (Y1 .as (YE (rg (p2 .mv .mv (pp (PR.cv (r:=0) cv640) (cl (fun _ _ h=>nput2) (p1 .mv (pp (PR.cat (s:=[0,0]) (s2:=sealS B (nonceS Dg) (hexS Dg) (packS d)) ev ev (show 2+_<_ by rw[lX];omega)) (pp (PR.bd #[sv (hexS Dg),sv ([0,0]++sealS B (nonceS Dg) (hexS Dg) (packS d))]) (sw 2 ?_)))))))))))))
 exact p1 .as (en (rt qv))
theorem cepoF {m x:List UInt8}{w:World}(hx:x.length<2):RV 161 #[.agg #[sv m,sv x]] w (.tuple #[i6 0,i6 4]):=by
 refine enter Tryz.func161 ?_
 refine rg (ba (fun g0=>?_))
 exact p2 .as .as (en (se (r4 .fa .ld .ln .lss (ct (hb:=(decide_eq_true (by omega))) (r2 .as .as (rt (nR qv)))))))
theorem cepoT {m y:List UInt8}{a b:UInt8}{w:World}:RV 161 #[.agg #[sv m,sv (a::b::y)]] w (.tuple #[i6 ((a.toNat+b.toNat*256:Nat):Int),i6 0]):=by
 refine enter Tryz.func161 ?_
 have ha:=a.toNat_lt
 have hb:=b.toNat_lt
 refine rg (ba (fun g0=>?_))
 refine p2 .as .as (en ?_)
 exact se (r4 .fa .ld .ln .lss (cf (hb:=(decide_eq_false (by simp;omega))) (sk (nN (rg (p2 .fa .ld (pp ((PR.st (s:=a::b::y) (i:=2) (hn:=by simp)).to (v2:=.string ⟨[a,b].toArray⟩) rfl) (cl (fun _ _ h=>nget2) (pp (PR.cv (r:=((a.toNat+b.toNat*256:Nat):Int)) (wX ⟨rfl,by omega,by omega⟩)) (p2 .as .as (en (rt qv))))))))))))
theorem kboxE {k:List UInt8}{u:Value}{e:Nat}{w:World}(hU:Sl w u 32 1 (dgC k))(he:0<e):RV 88 #[.agg #[u],i6 (e:Int)] w (.tuple #[.agg (cells8 (List.replicate 32 0)),i6 1]):=by
 refine enter Tryz.func88 ?_
 have hou:=hU.one
 refine rg (ba (fun g0=>?_))
 refine aa Tryz.zeroValue23 (fun g1=>kM 0 (cells8 (List.replicate 32 0)) ?_)
 refine p1 .as (en (se (rg (p1 .mv (pp ((PR.lss).to (v2:=.bool false) (by rw[decide_eq_false (by omega)])) (p1 .mv (gDo ?_)))))))
 refine p1 .mv (gDo ?_)
 refine p1 .fa (gDo ?_)
 refine p1 .ld (gDo ?_)
 refine pp (PR.lr) (gDo ?_)
 refine pp ((PR.geq).to (v2:=.bool true) (by rw[decide_eq_true (by omega)])) (pp (PR.por (b:=false) (b2:=true)) (en (ct (hb:=rfl) (rg (pp ((PR.bd #[.int .u8 0,.int .u8 0,.int .u8 0,.int .u8 0,.int .u8 0,.int .u8 0,.int .u8 0,.int .u8 0,.int .u8 0,.int .u8 0,.int .u8 0,.int .u8 0,.int .u8 0,.int .u8 0,.int .u8 0,.int .u8 0,.int .u8 0,.int .u8 0,.int .u8 0,.int .u8 0,.int .u8 0,.int .u8 0,.int .u8 0,.int .u8 0,.int .u8 0,.int .u8 0,.int .u8 0,.int .u8 0,.int .u8 0,.int .u8 0,.int .u8 0,.int .u8 0]).to (v2:=.agg (cells8 (List.replicate 32 0))) rfl) (sw 0 (h1:=cells8_one _) (hV:=by rw[cells8_size];first | rfl | assumption) (hW:=by rw[cells8_size];first | rfl | assumption) ?_))))))
 exact p1 .as (en (rt (nR qv)))
section
def RMd (F:FuncId)(cap:Array Value)(w0:World)(M:MT)(R:List Rw)(MM:MT)(RR:List Rw):Prop:=∀ w,MR w0 M R w->CallsD Tryz.prog F cap .returning w fun e u' w'=>u' = .returning/\(∃ v,e = .returned v)/\MR w0 MM RR w'
section
variable {D:List Deferred}{nt:Nat}{w0:World}{L:LT}{M MM:MT}{R RR:List Rw}{x:Operand}{ops:Array Oper}{rest:List Oper}{Q:Exit->Act->World->Prop}{tyo:TypeId}{ps:String}{af:Array Edge}{F:FuncId}{cap:Array Value}{fn:Func}{cc:Code}{vs:List Value}
theorem enterD {f:FuncId}{RE:Ending->World->Prop}{w:World}(hf:Tryz.prog.funcs[f]?=some fn)(h:KX [] nt w (numbered vs 0) [] [] (cc.wp Tryz.prog (bodyPostD Tryz.prog fn RE)))(hb:fn.body=some cc:=by rfl)(hn:fn.ntmps=nt:=by rfl)(hv:Nat.ble vs.length nt=true:=by rfl):Calls Tryz.prog f vs.toArray w RE :=
 walk_enterD hf hb hn hv fun a hF=>h a w ⟨hF,Mem.new w,by simp,.nil⟩
theorem enterDd (hf:Tryz.prog.funcs[F]?=some fn)(h:KX [] nt w0 (numbered vs 0) M R (cc.wp Tryz.prog (bodyPost Tryz.prog fn fun e w'=>(∃ v,e = .returned v)/\MR w0 MM RR w')))(hb:fn.body=some cc:=by rfl)(hn:fn.ntmps=nt:=by rfl)(hv:Nat.ble vs.length nt=true:=by rfl):RMd F vs.toArray w0 M R MM RR:=fun w hw=>
 walk_enterDd (u:=.returning) hf hb hn hv fun a hF=>h a w ⟨hF,hw.m,hw.r,hw.nd⟩
theorem dfr (h:KX (lateF F cap::D) nt w0 L M R (wpList Tryz.prog ops Q rest))(hx:EV (St D nt w0 L M R) x (.func (.func F) #[] cap):=by exact ev):KX D nt w0 L M R (wpList Tryz.prog ops Q (⟨none,.defer { callee:=.value x,args:=#[],argTypes:=#[] },tyo,ps,af,none⟩::rest)):=fun a w hs=>
 sqDefer hs.f rfl rfl (hx a w hs) rfl fun a2 hF=>h a2 w ⟨hF,hs.m,hs.r,hs.nd⟩
theorem rtD {fF:Func}{RE:Ending->World->Prop}(hc:RMd F cap w0 M R MM RR)(hF:Tryz.prog.funcs[F]?=some fF)(h:KX [] nt w0 L MM RR (bodyPost Tryz.prog fn RE .ret))(hn:(fF.name == "runtime.NumGoroutine")=false:=by kernel_rfl)(hb:fF.body.isNone=false:=by rfl):KX [lateF F cap] nt w0 L M R (bodyPostD Tryz.prog fn RE .ret):=fun a w hs=>
 retD1 hs.f (fun w=>entersF hF hn hb cap w) (T:=fun w'=>MR w0 MM RR w') (hc w hs.mr) fun w' hT=>by
  obtain⟨_,v,hv,hR⟩:=h { a with defers:=[] } w' ⟨⟨hs.f.size,rfl,hs.f.has⟩,hT.m,hT.r,hT.nd⟩
  exact⟨v,hv,hR⟩
end
end
def dT (e:Int)(s:List UInt8):List UInt8:=if e=0 then s else []
def opS (k m:List UInt8):List UInt8->List UInt8×Int
 | a::b::y=>if a.toNat+b.toNat*256=0 then(if(openS (keyedS k boxesT) m y).2=0 then(if(unpS (openS (keyedS k boxesT) m y).1 65536).2=0 then(if hexS (keyedS (keyedS k namesT) (unpS (openS (keyedS k boxesT) m y).1 65536).1)=m then((unpS (openS (keyedS k boxesT) m y).1 65536).1,0) else([],5)) else([],(unpS (openS (keyedS k boxesT) m y).1 65536).2)) else([],(openS (keyedS k boxesT) m y).2)) else([],1)
 | _=>([],4)
theorem copn1 {w0:World}{M0:MT}{R0:List Rw}{ge gd:Nat}{e:Int}{s:List UInt8}:RMd 160 #[pt ge,pt gd] w0 ((ge,isB 52 #[i6 e])::(gd,isB 9 #[sv s])::M0) R0 ((ge,isB 52 #[i6 e])::(gd,isB 9 #[sv (dT e s)])::M0) R0:=by
 refine enterDd Tryz.func160 ?_
 refine r2 .ld .nei (sd (fun h3=>?_) (fun h3=>?_))
 ·rw[show dT e s = [] from if_neg h3]
  refine rg0 (s1 1 (cs:=#[.string ⟨#[]⟩]) ?_)
  exact en0 (e0N (fun u w h=>⟨⟨u,rfl⟩,h⟩))
 ·rw[show dT e s=s from if_pos (Decidable.not_not.1 h3)]
  exact sk (e0N (fun u w h=>⟨⟨u,rfl⟩,h⟩))
theorem ep2 (x:List UInt8):(x.length<2 ∧ ∀ k m,opS k m x=([],4)) ∨ ∃ a b y,x=a::b::y:=by
 match x with
 | []=>exact .inl ⟨by decide,fun _ _=>rfl⟩
 | [a]=>exact .inl ⟨by simp,fun _ _=>rfl⟩
 | a::b::y=>exact .inr ⟨a,b,y,rfl⟩
theorem unpT_le :∀ (n:Nat) (b out:List UInt8) (m:Int),b.length<=n->(out.length:Int)<=m->((unpT out b m).1.length:Int)<=m:=by
 intro n
 induction n with
 | zero=>
  intro b out m hb ho
  obtain rfl:b = []:=List.length_eq_zero_iff.1 (by omega)
  rw[unpT_nil];exact ho
 | succ n ih=>
  intro b out m hb ho
  by_cases h0:b = []
  ·subst h0;rw[unpT_nil];exact ho
  ·rw[unpT_step out m h0]
   split
   ·simp;omega
   ·rename_i h
    have h1:(tokS out b m).1=0:=Decidable.not_not.1 h
    have h2:=tokS_used out b m h1
    exact ih _ _ m (by rw[List.length_drop];omega) (tok_le h1)
theorem unp_le (b:List UInt8):(unpS b 65536).1.length<=65536:=by
 have h:=unpT_le _ b [] ((65536:Nat):Int) (Nat.le_refl _) (by simp)
 rw[unpS_64k];omega
theorem copened {k m x:List UInt8}{u:Value}{w:World}(hG:HG w)(hk:k.length=32)(hml:m.length<2^28)(hxl:x.length<2^28)(hU:Sl w u 32 1 (dgC k)):RV 104 #[.agg #[u],.agg #[sv m,sv x]] w (.tuple #[.string ⟨(opS k m x).1.toArray⟩,i6 (opS k m x).2]):=by
 refine enterD Tryz.func104 ?_
 have hou:=hU.one
 refine rg (ba (fun g0=>?_))
 refine ba (fun g1=>?_)
 refine a1 Tryz.zeroValue9 (fun g2=>?_)
 refine a1 Tryz.zeroValue52 (fun g3=>?_)
 refine en (rg (pp PR.mk (dfr ?_)))
 refine en ?_
 rcases ep2 x with⟨hx,hv⟩ | ⟨a,b,y,rfl⟩
 ·skip
  rw[hv]
  refine rg (p1 .lw (cl (fun _ _ h=>cepoF hx) (p4 .mv .ext .ext .as (s1 0 (cs:=#[i6 4]) ?_))))
  refine en (se (r2 .ld .nei (ct (hb:=rfl) (dr [_,.any,.any] [] [⟨1,_,_,_,0,.val (.string ⟨#[]⟩)⟩,⟨2,_,_,_,0,.val (i6 4)⟩] [1,0] [] ⟨rfl,rfl,trivial⟩ (fun Bs=>⟨kv (oP (PR.ld ez (MB.ox 1 rfl (by kernel_rfl)))),ks 0,ks 1,trivial⟩) ?_))))
  refine rt (nR (fr [1,1] [] ?_))
  refine rtD copn1 Tryz.func160 ?_
  exact qv (hv:=by first | rfl | (simp only[dT, *,if_true,if_false,↓reduceIte];rfl))
 ·skip
  rw[opS]
  have hlx:y.length<2^29:=by simp at hxl;omega
  refine rg (p1 .lw (cl (fun _ _ h=>cepoT) (p4 .mv .ext .ext .as (s1 0 (cs:=#[i6 0]) ?_))))
  refine en (se (r2 .ld .nei (cf (hb:=rfl) (sk (nN ?_)))))
  by_cases he:a.toNat+b.toNat*256=0
  ·skip
   rw[if_pos he]
   rw[he]
   refine rg (p2 .lw .mv (cl (fun _ _ h=>kbox (hG.below h.m.below) hk (hU.below h.m.below)) (p3 .mv .ext .ext (aa Tryz.zeroValue23 (fun g4=>kM 0 (cells8 (List.replicate 32 0)) ?_)))))
   refine sw 0 (h1:=cells8_one _) (hV:=by rw[cells8_size];exact keyedS_len _ _) (hW:=by rw[cells8_size];first | rfl | assumption) ?_
   refine s1 1 (cs:=#[i6 0]) ?_
   refine en (se (r2 .ld .nei (cf (hb:=rfl) (sk (nN (dqs 11 (Y5 (.lw (hn:=by rw[cells8_size];exact keyedS_len _ _)) .fa .ld .fa .ld (YQ ((PR.sd (s:=a::b::y) (i:=2) (hn:=by simp)).to (v2:=sv y) rfl) (YC (fun _ _ h=>sopen (hd:=m) (x:=y) (hG.below h.m.below) (keyedS_len _ _) (by omega)) (Y4 .mv .ext .ext .as (YE (s1 1 (cs:=#[i6 ((openS (keyedS k boxesT) m y).2)]) ?_))))))))))))
   refine en (se (r2 .ld .nei (sd (fun hr=>?_) (fun hr=>?_))))
   ·rw[if_neg hr]
    refine dr [_,.any,.any] [] [⟨1,_,_,_,0,.val (.string ⟨#[]⟩)⟩,⟨2,_,_,_,0,.val (i6 ((openS (keyedS k boxesT) m y).2))⟩] [2,1] [] ⟨rfl,rfl,trivial⟩ (fun Bs=>⟨kv (oP (PR.ld ez (MB.ox 1 rfl (by kernel_rfl)))),ks 0,ks 1,trivial⟩) ?_
    refine rt (nR (fr [2,2] [] ?_))
    refine rtD copn1 Tryz.func160 ?_
    exact qv (hv:=by first | rfl | (simp only[dT, *,if_true,if_false,↓reduceIte];rfl))
   ·have hr:(openS (keyedS k boxesT) m y).2=0:=Decidable.not_not.1 hr
    rw[if_pos hr]
    refine sk (nN ?_)
    have hul:(unpS (openS (keyedS k boxesT) m y).1 65536).1.length<2^59:=Nat.lt_of_le_of_lt (unp_le _) (by decide)
    refine rg (p1 .mv (cl (fun _ _ h=>zunp (b:=(openS (keyedS k boxesT) m y).1) (by have:=openS_le (keyedS k boxesT) m y;omega)) (p3 .mv .ext .ext (s1 2 (cs:=#[sv ((unpS (openS (keyedS k boxesT) m y).1 65536).1)]) ?_))))
    refine s1 1 (cs:=#[i6 ((unpS (openS (keyedS k boxesT) m y).1 65536).2)]) ?_
    refine en (se ?_)
    by_cases hq:(unpS (openS (keyedS k boxesT) m y).1 65536).2=0
    ·skip
     rw[if_pos hq]
     refine dqb (Y1 .ld (YQ ((PR.eqi).to (v2:=.bool true) (by rw[decide_eq_true hq])) (Y1 .mv (YDo ?_))))
     refine Y1 .lw (YDo ?_)
     refine Y1 .ld (YDo ?_)
     refine YC (fun _ _ h=>cname (d:=(unpS (openS (keyedS k boxesT) m y).1 65536).1) (hG.below h.m.below) hk hul (hU.below h.m.below)) (YDo ?_)
     refine Y1 .fa (YDo ?_)
     refine Y1 .ld (YDo ?_)
     refine Y1 .nes (YQ (PR.pand (b:=true) (b2:=decide (¬ (hexS (keyedS (keyedS k namesT) (unpS (openS (keyedS k boxesT) m y).1 65536).1))=m))) (YE (cs (fun hm=>?_) (fun hm=>?_))))
     ·rw[Bool.true_and,decide_eq_true_eq] at hm
      rw[if_neg hm]
      refine rg0 (s1 1 (cs:=#[i6 5]) ?_)
      refine en0 (nN (dr [_,_,.any,.any] [] [⟨2,_,_,_,0,.val (sv ((unpS (openS (keyedS k boxesT) m y).1 65536).1))⟩,⟨3,_,_,_,0,.val (i6 5)⟩] [2,1] [] ⟨rfl,rfl,trivial⟩ (fun Bs=>⟨kv (oP (PR.ld ez (MB.ox 0 rfl (by kernel_rfl)))),kv (oP (PR.ld ez (MB.ox 1 rfl (by kernel_rfl)))),ks 0,ks 1,trivial⟩) ?_))
      refine rt (fr [2,2] [] ?_)
      refine rtD copn1 Tryz.func160 ?_
      exact qv (hv:=by first | rfl | (simp only[dT, *,if_true,if_false,↓reduceIte];rfl))
     ·rw[Bool.true_and,decide_eq_false_iff_not,Decidable.not_not] at hm
      rw[if_pos hm]
      refine sk (nN (dr [_,_,.any,.any] [] [⟨2,_,_,_,0,.val (sv ((unpS (openS (keyedS k boxesT) m y).1 65536).1))⟩,⟨3,_,_,_,0,.val (i6 ((unpS (openS (keyedS k boxesT) m y).1 65536).2))⟩] [2,1] [] ⟨rfl,rfl,trivial⟩ (fun Bs=>⟨kv (oP (PR.ld ez (MB.ox 0 rfl (by kernel_rfl)))),kv (oP (PR.ld ez (MB.ox 1 rfl (by kernel_rfl)))),ks 0,ks 1,trivial⟩) ?_))
      refine rt (fr [2,2] [] ?_)
      refine rtD copn1 Tryz.func160 ?_
      exact qv (hv:=by first | rfl | (simp only[dT, *,if_true,if_false,↓reduceIte];rfl))
    ·skip
     rw[if_neg hq]
     refine dqb (Y1 .ld (YQ ((PR.eqi).to (v2:=.bool false) (by rw[decide_eq_false hq])) (Y1 .mv (YSk ?_))))
     refine YSk ?_
     refine YSk ?_
     refine YSk ?_
     refine YSk ?_
     refine YSk ?_
     refine YQ (PR.pand (b:=false) (b2:=false)) (YE (cf (hb:=rfl) (sk (nN (dr [_,_,.any,.any] [] [⟨2,_,_,_,0,.val (sv ((unpS (openS (keyedS k boxesT) m y).1 65536).1))⟩,⟨3,_,_,_,0,.val (i6 ((unpS (openS (keyedS k boxesT) m y).1 65536).2))⟩] [2,1] [] ⟨rfl,rfl,trivial⟩ (fun Bs=>⟨kv (oP (PR.ld ez (MB.ox 0 rfl (by kernel_rfl)))),kv (oP (PR.ld ez (MB.ox 1 rfl (by kernel_rfl)))),ks 0,ks 1,trivial⟩) ?_)))))
     refine rt (fr [2,2] [] ?_)
     refine rtD copn1 Tryz.func160 ?_
     exact qv (hv:=by first | rfl | (simp only[dT, *,if_true,if_false,↓reduceIte];rfl))
  ·skip
   rw[if_neg he]
   refine rg (p2 .lw .mv (cl (fun _ _ h=>kboxE (e:=a.toNat+b.toNat*256) (hU.below h.m.below) (by omega)) (p3 .mv .ext .ext (aa Tryz.zeroValue23 (fun g4=>kM 0 (cells8 (List.replicate 32 0)) ?_)))))
   refine sw 0 (h1:=cells8_one _) (hV:=by rw[cells8_size];first | rfl | assumption) (hW:=by rw[cells8_size];first | rfl | assumption) ?_
   refine s1 1 (cs:=#[i6 1]) ?_
   refine en (se (r2 .ld .nei (ct (hb:=rfl) (dr [_,.any,.any] [] [⟨1,_,_,_,0,.val (.string ⟨#[]⟩)⟩,⟨2,_,_,_,0,.val (i6 1)⟩] [2,1] [] ⟨rfl,rfl,trivial⟩ (fun Bs=>⟨kv (oP (PR.ld ez (MB.ox 1 rfl (by kernel_rfl)))),ks 0,ks 1,trivial⟩) ?_))))
   refine rt (nR (fr [2,2] [] ?_))
   refine rtD copn1 Tryz.func160 ?_
   exact qv (hv:=by first | rfl | (simp only[dT, *,if_true,if_false,↓reduceIte];rfl))

def ofS (b:List UInt8):Option (List Bx):=match textsS b with
 | .error _=>none
 | .ok X=>if X.length<3\/X.length%2=0\/X.head?≠some hibp\/65536<b.length\/namesS (boxesOf X.tail)≠0 then none else some (boxesOf X.tail)
theorem ofS_err {b:List UInt8}{e:Int}(h:textsS b = .error e):ofS b=none:=by unfold ofS;rw[h]
theorem ofS_no {b:List UInt8}{X:List (List UInt8)}(h:textsS b = .ok X)(hn:X.length<3\/X.length%2=0\/X.head?≠some hibp\/65536<b.length\/namesS (boxesOf X.tail)≠0):ofS b=none:=by
 unfold ofS;rw[h];exact if_pos hn
theorem ofS_ok {b:List UInt8}{X:List (List UInt8)}(h:textsS b = .ok X)(hn:¬ (X.length<3\/X.length%2=0\/X.head?≠some hibp\/65536<b.length\/namesS (boxesOf X.tail)≠0)):ofS b=some (boxesOf X.tail):=by
 unfold ofS;rw[h];exact if_neg hn
theorem ofS_long {b:List UInt8}(h:65536<b.length):ofS b=none:=by
 cases ht:textsS b with
 | error e=>exact ofS_err ht
 | ok X=>exact ofS_no ht (.inr (.inr (.inr (.inl h))))
theorem shape {X:List (List UInt8)}(h2:X.length%2=1)(h0:X.head?=some hibp):X=hibp::textsB (boxesOf X.tail):=by
 cases X with
 | nil=>simp at h0
 | cons m r=>
  simp only[List.head?_cons,Option.some.injEq] at h0
  subst h0
  rw[List.tail_cons,texts_boxesOf r (by simp only[List.length_cons] at h2;omega)]
theorem ofS_some {b:List UInt8}{l:List Bx}(h:ofS b=some l):textsS b = .ok (hibp::textsB l)/\bytesS l=b/\b.length<=65536/\namesS l=0/\l ≠ []:=by
 unfold ofS at h
 cases ht:textsS b with
 | error e=>rw[ht] at h;cases h
 | ok X=>
  rw[ht] at h
  dsimp only at h
  split at h
  ·cases h
  ·rename_i hn
   injection h with h
   have hs:=shape (X:=X) (by omega) (Classical.byContradiction fun hc=>hn (.inr (.inr (.inl hc))))
   rw[h] at hs
   have hb:=(textsS_back b.length b X (Nat.le_refl _) ht).1
   refine⟨by rw[←hs],by unfold bytesS;rw[←hs];exact hb,Classical.byContradiction fun hc=>hn (.inr (.inr (.inr (.inl (by omega))))),Classical.byContradiction fun hc=>hn (.inr (.inr (.inr (.inr (by rw[h];exact hc))))),fun e=>?_⟩
   subst e
   have:=congrArg List.length hs
   have h3:¬ X.length<3:=fun hc=>hn (.inl hc)
   simp[textsB] at this
   omega
theorem textsS_err :∀ (f:Nat) (b:List UInt8) (e:Int),b.length<=f->textsS b = .error e->e=3\/e=4
 | 0,b,e,hf,h=>by
  have:b = []:=List.eq_nil_of_length_eq_zero (by omega)
  subst this
  rw[textsS_nil] at h;cases h
 | f+1,b,e,hf,h=>by
  by_cases hb:b = []
  ·subst hb;rw[textsS_nil] at h;cases h
  ·rw[textsS_step hb] at h
   cases hl:lenP 0 b with
   | error e2=>
    rw[hl] at h
    injection h with h
    subst h
    have key:∀ (b:List UInt8) (k:Nat) (e:Int),lenP k b = .error e->e=3\/e=4:=by
     intro b
     induction b with
     | nil=>intro k e h;simp[lenP] at h;omega
     | cons c r ih=>
      intro k e h
      unfold lenP at h
      split at h
      ·split at h
       ·injection h with h;omega
       ·cases h
      ·split at h
       ·injection h with h;omega
       ·cases hq:lenP (k+1) r with
        | ok p=>rw[hq] at h;cases h
        | error e2=>rw[hq] at h;injection h with h;subst h;exact ih (k+1) _ hq
    exact key b 0 _ hl
   | ok p=>
    obtain⟨n,x⟩:=p
    rw[hl] at h
    dsimp only at h
    by_cases hn:x.length<n
    ·rw[if_pos hn] at h;injection h with h;omega
    ·rw[if_neg hn] at h
     have:=lenP_len (by omega) hl
     cases ht:textsS (x.drop n) with
     | ok l=>rw[ht] at h;cases h
     | error e2=>
      rw[ht] at h
      injection h with h
      subst h
      exact textsS_err f (x.drop n) _ (by rw[List.length_drop];omega) ht
abbrev Pl :=List UInt8×Nat×Nat
def placeC (p:Pl):List Value:=[tx p.1,.int .i64 (p.2.1:Int),.int .i64 (p.2.2:Int)]
theorem placeC_len (p:Pl):(placeC p).length=3:=rfl
def placeOf (l:List Bx)(k:Nat)(x:Bx):Pl:=(x.1,(bytesS (l.take (k+1))).length-x.2.length,x.2.length)
def placesTo (l:List Bx):Nat->List Pl
 | 0=>[]
 | k+1=>placesTo l k++(match l[k]? with | some x=>[placeOf l k x] | none=>[])
def placesS (l:List Bx):List Pl:=placesTo l l.length
theorem placesTo_snoc (l:List Bx)(k:Nat){x:Bx}(hx:l[k]?=some x):placesTo l (k+1)=placesTo l k ++ [placeOf l k x]:=by rw[placesTo,hx]
theorem placesTo_len (l:List Bx):∀ k,k<=l.length->(placesTo l k).length=k
 | 0,_=>rfl
 | k+1,h=>by
  have hx:l[k]?=some l[k]:=by simp
  rw[placesTo_snoc l k hx,List.length_append,placesTo_len l k (by omega)];rfl
theorem placesTo_at (l:List Bx):∀ k j x,j<k->k<=l.length->l[j]?=some x->(placesTo l k)[j]?=some (placeOf l j x)
 | 0,j,x,h,_,_=>by omega
 | k+1,j,x,h,hk,hx=>by
  have hy:l[k]?=some l[k]:=by simp
  rw[placesTo_snoc l k hy]
  have hl:=placesTo_len l k (by omega)
  by_cases hj:j<k
  ·rw[List.getElem?_append_left (by omega)];exact placesTo_at l k j x hj (by omega) hx
  ·have:j=k:=by omega
   subst this
   rw[List.getElem?_append_right (by omega),hl,Nat.sub_self]
   rw[hx] at hy
   injection hy with hy
   rw[←hy];rfl
theorem bytes_step (l:List Bx)(k:Nat){x:Bx}(hx:l[k]?=some x):(bytesS (l.take (k+1))).length=(bytesS (l.take k)).length+(rowedS x.1+rowedS x.2):=by
 unfold bytesS
 rw[textsB_snoc l k hx,rowS_sum,rowS_sum]
 simp[Nat.add_assoc]
theorem rowS_append (a b:List (List UInt8)):rowS (a++b)=rowS a++rowS b:=by unfold rowS;rw[List.flatMap_append]
theorem place_cut (l:List Bx)(k:Nat){x:Bx}(hx:l[k]?=some x):x.2.length<=(bytesS (l.take (k+1))).length/\(bytesS (l.take (k+1))).length<=(bytesS l).length/\((bytesS l).drop ((bytesS (l.take (k+1))).length-x.2.length)).take x.2.length=x.2:=by
 have h1:bytesS (l.take (k+1))=rowS (hibp::textsB (l.take k))++(lenB x.1.length++(x.1++lenB x.2.length))++x.2:=by
  unfold bytesS
  rw[textsB_snoc l k hx,←List.cons_append,rowS_append,rowS_cons x.1,rowS_cons x.2,rowS_nil,List.append_nil]
  simp[List.append_assoc]
 have h2:bytesS l=bytesS (l.take (k+1))++rowS (textsB (l.drop (k+1))):=by
  unfold bytesS
  rw[←rowS_append,List.cons_append]
  congr 2
  unfold textsB
  rw[←List.flatMap_append,List.take_append_drop]
 obtain⟨Y,hY⟩:∃ Y,rowS (hibp::textsB (l.take k))++(lenB x.1.length++(x.1++lenB x.2.length))=Y:=⟨_,rfl⟩
 rw[hY] at h1
 have h3:(bytesS (l.take (k+1))).length=Y.length+x.2.length:=by rw[h1,List.length_append]
 refine⟨by omega,by rw[h2,List.length_append];omega,?_⟩
 rw[h3,Nat.add_sub_cancel,h2,h1,List.append_assoc,List.drop_left,List.take_left]
def takeS (b nm:List UInt8):Bx×Int:=match ofS b with
 | none=>(([],[]),3)
 | some l=>match l.find? fun x=>x.1==nm with
  | some x=>(x,0)
  | none=>(([],[]),9)
theorem find_step (l:List Bx)(nm:List UInt8)(i:Nat){x:Bx}(hx:l[i]?=some x):(l.drop i).find? (fun x=>x.1==nm)=if x.1=nm then some x else(l.drop (i+1)).find? fun x=>x.1==nm:=by
 obtain⟨hl,rfl⟩:=List.getElem?_eq_some_iff.1 hx
 rw[List.drop_eq_getElem_cons hl,List.find?_cons]
 by_cases h:l[i].1=nm
 ·rw[if_pos h];simp[h]
 ·rw[if_neg h,beq_eq_false_iff_ne.2 h]
theorem copen {k m x:List UInt8}{u:Value}{w:World}(hG:HG w)(hk:k.length=32)(hml:m.length<2^28)(hxl:x.length<2^28)(hU:Sl w u 32 1 (dgC k)):RV 45 #[.agg #[u],.agg #[sv m,sv x]] w (.tuple #[.string ⟨(opS k m x).1.toArray⟩,i6 (opS k m x).2]):=by
 refine enter Tryz.func45 ?_
 have hou:=hU.one
 refine rg (ba (fun g0=>?_))
 refine ba (fun g1=>?_)
 exact p2 .as .as (en (rg (p2 .lw .lw (cl (fun _ _ h=>copened (hG.below h.m.below) hk hml hxl (hU.below h.m.below)) (p4 .ext .ext .as .as (en (rt qv)))))))
theorem shr7 (r:Nat):(r:Int)/2^(7:Int).toNat=((r/128:Nat):Int):=by
 show(r:Int)/128=_
 omega
theorem prowed {s:List UInt8}{w:World}(hs:s.length<2^42):RV 93 #[sv s] w (i6 (rowedS s:Int)):=by
 refine enter Tryz.func93 ?_
 have hlb:=lenB_more s.length
 have hb6:=lenB_bound s.length hs
 refine r1 .as (r1 .as (se (rg (p2 .mv .ln (pp (PR.shr ((s.length/128:Nat):Int) (h:=shr7 s.length)) (p1 .as (en (bl (lo2 (fun n r=>n+more7 r=1+more7 (s.length/128)) (fun _ r=>r) (fun n r=>[(0,sv s),(3,i6 (n:Int)),(4,i6 (r:Int))]) (fun _ _=>[]) (fun _ _=>[]) 1 (s.length/128) rfl su (fun n r hn=>?_))))))))))
 refine se (r2 .mv .gtr (sd (fun hr=>?_) (fun hr=>?_)))
 ·have hr0:r≠0:=by omega
  have hst:=more7_step r hr0
  refine sk (nN (se ?_))
  exact bl (rg0 (p1 .mv (pp (PR.ad ((n+1:Nat):Int)) (p1 .as (en0 (bN (nN (rg0 (p1 .mv (pp (PR.shr ((r/128:Nat):Int) (h:=shr7 r)) (p1 .as (en0 (nN (bk2 (n+1) (r/128) (by omega) (by omega) su))))))))))))))
 ·obtain rfl:r=0:=by omega
  have hst:more7 0=0:=rfl
  rw[show(rowedS s:Int)=((n+s.length:Nat):Int) by unfold rowedS;rw[hlb];omega]
  exact xt (nX (nX (bH (nN (rg (p3 .mv .mv .ln (pp (PR.ad ((n+s.length:Nat):Int)) (p1 .as (en (rt (q1 rfl)))))))))))
theorem pmay {w0:World}{M0:MT}{R0:List Rw}{g:Nat}{names:List (List UInt8)}{s:List UInt8}(hs:s.length<2^42):RM 92 #[.map (some g),sv s] w0 ((g,isSet names)::M0) R0 (A:=Unit) (fun _=>True) (fun _=>i6 (mayS names s)) (fun _=>(g,isSet names)::M0) (fun _=>R0):=by
 refine enterM Tryz.func92 ?_
 refine r1 .as (se (rg (p4 .mv .ln .lss .mv (gFf (hp:=PR.mv) ?_))))
 refine gFf (hp:=PR.ln) ?_
 refine gFf (hp:=PR.gtr) ?_
 refine p1 .por (en (cs (fun h1=>?_) (fun h1=>?_)))
 ·simp only[Bool.or_eq_true,decide_eq_true_eq] at h1
  have hm:mayS names s=7:=by unfold mayS;rw[if_pos (by omega)]
  refine r1 .as (rt (nR ?_))
  rw[hm]
  exact kL [(4,i6 7)] (rm () trivial su)
 ·simp only[Bool.or_eq_false_iff,decide_eq_false_iff_not] at h1
  have h1:¬ (s.length<1\/100<s.length):=by omega
  refine sk (nN (se (rg (p2 .mv .mv (pp (PR.lk 0) (en (cs (fun h2=>?_) (fun h2=>?_))))))))
  ·have hm:mayS names s=8:=by unfold mayS;rw[if_neg h1,if_pos h2]
   refine r1 .as (rt (nR ?_))
   rw[hm]
   exact kL [(4,i6 8)] (rm () trivial su)
  ·have hm:mayS names s=0:=by unfold mayS;rw[if_neg h1,if_neg (by rw[h2];decide)]
   refine sk (nN (r1 .as (rt ?_)))
   rw[hm]
   exact kL [(4,i6 0)] (rm () trivial su)
theorem sum_le :∀ (l:List Nat) (j:Nat),(l.take j).sum<=l.sum
 | [],j=>by simp
 | a::l,0=>by simp
 | a::l,j+1=>by have:=sum_le l j;simp;omega
theorem sum_step {l:List Nat}{j a:Nat}(h:l[j]?=some a):(l.take (j+1)).sum=(l.take j).sum+a:=by
 rw[List.take_add_one,h];simp
theorem may_ok {l:List Bx}{i:Nat}{x:Bx}(hx:l[i]?=some x)(h:namesF ((l.take i).map (·.1)) (l.drop i)=0):mayS ((l.take i).map (·.1)) x.1=0/\namesF ((l.take (i+1)).map (·.1)) (l.drop (i+1))=0:=by
 rw[namesF_step _ l i hx] at h
 by_cases h0:mayS ((l.take i).map (·.1)) x.1=0
 ·rw[if_pos h0] at h
  exact⟨h0,by rw[map_snoc l i hx];exact h⟩
 ·rw[if_neg h0] at h;exact absurd h h0
theorem txs_app (a b:List (List UInt8)):txs (a++b)=txs a++txs b:=by unfold txs;rw[List.map_append]
theorem pkmake {l:List Bx}{v:Value}{w:World}(hV:Sl w v 2 l.length (l.flatMap boxC))(h1l:1<=l.length)(hln:l.length<2^20)(hn0:namesS l=0)(hb:(bytesS l).length<=65536)(hsz:∀ x∈l,x.1.length<2^40)(hfl:(hibp::textsB l).flatten.length<=65536):RV 40 #[v] w (.tuple #[sv (bytesS l),i6 0]):=by
 refine enter Tryz.func40 ?_
 have hov:=hV.one
 have hTl:(hibp::textsB l).length=1+2*l.length:=by rw[List.length_cons,textsB_len];omega
 have hTs:((hibp::textsB l).map rowedS).sum<=65536:=by rw[←rowS_sum];exact hb
 refine r2 .as .as (se ?_)
 refine rg (p1 .mv (pp (PR.lr) (p1 .eqi (en (cf (hb:=(decide_eq_false (by omega))) (sk (nN (rg (p1 .mv (pp (PR.lr) (pp (PR.ml ((2*l.length:Nat):Int)) (pp (PR.ad ((1+2*l.length:Nat):Int)) (mk0 (p:=((1+2*l.length:Nat):Int)) (c:=1+2*l.length) (fun v0=>?_))))))))))))))
 refine p1 .as (en (rg (p1 .mv (bs #[.string ⟨#[104,105,98,112]⟩] (fun g0=>?_)))))
 refine ap 0 (fun v1=>?_) (hl:=rfl) (h1:=rfl)
 refine rc 0 (1) (txs [hibp]) (hn:=by omega) (hx:=rfl) (h:=?_)
 refine p1 .as (en (rg (p1 .mv (pp (PR.lr) (mset (fun gs=>?_))))))
 refine p1 .as (en (se (rg (p1 .mv (pp (PR.lr) (p1 .mv (en (bl (lo2 (fun(_:Value) i=>i<=l.length/\namesF ((l.take i).map (·.1)) (l.drop i)=0) (fun _ i=>l.length-i) (fun u i=>[(0,v),(4,u),(5,.map (some gs)),(26,v),(27,i6 (l.length:Int)),(28,i6 (i:Int))]) (fun _ i=>[(gs,isSet ((l.take i).map (·.1)))]) (fun u i=>[⟨u,9,1,1+2*i,txs (hibp::textsB (l.take i))⟩]) v1 0 ⟨Nat.zero_le _,hn0⟩ su (fun u i hi=>?_))))))))))
 obtain⟨hi,hnf⟩:=hi
 refine r1 .lss (se (sd (fun hi2=>?_) (fun hi2=>?_)))
 ·have hi2:i<l.length:=by omega
  obtain⟨x,hx⟩:∃ x,l[i]?=some x:=⟨_,List.getElem?_eq_getElem hi2⟩
  obtain⟨hm0,hm1⟩:=may_ok hx hnf
  have hxl:=hsz x (List.mem_of_getElem? hx)
  have hnl:((l.take i).map (·.1)).length<=2^20:=by rw[List.length_map,List.length_take];omega
  refine sk (nN (se (bl (rg (pp (PR.ix (i:=i)) (pp (PR.lq (o:=i*2) (cs:=l.flatMap boxC) (ys:=boxC x) (fun j u hj=>flat_at boxC_len hx j hj)) (aa Tryz.zeroValue101 (fun g1=>sw 0 ?_))))))))
  refine en (se (rg (p3 .mv .fa .ld (fr [1] [0] ?_))))
  refine cm (pmay (s:=x.1) (by omega)) (fun _ _=>?_)
  refine p1 .as (en (rg (p1 .mv (pp ((PR.nei).to (v2:=.bool false) (by rw[hm0];rfl)) (en (cf (hb:=rfl) (sk (nN (rg (p3 .mv .fa .ld (sadd 0 ?_)))))))))))
  refine en (rg0 (p5 .mv .fa .ld .fa .ld (bs #[sv x.1,sv x.2] (fun g2=>?_))))
  refine ap 0 (fun v2=>?_) (hl:=rfl) (h1:=rfl)
  refine rc 0 (1+2*(i+1)) (txs (hibp::textsB (l.take (i+1)))) (hn:=by omega) (hx:=by rw[textsB_snoc l i hx,←List.cons_append,txs_app];rfl) (h:=?_)
  refine p1 .as (en0 (bN (nN (rg0 (pp (PR.ad ((i+1:Nat):Int)) (p1 .mv (en0 (nN ?_))))))))
  rw[←map_snoc l i hx]
  exact bk2 v2 (i+1) ⟨by omega,hm1⟩ (by omega) su
 ·obtain rfl:i=l.length:=by omega
  rw[List.take_length] at *
  refine xt (nX (nX (bH (nN (r1 .as (se (rg (p1 .mv (pp (PR.lr) (p1 .mv (en (bl (lo (A:=Nat) (fun j=>j<=1+2*l.length) (fun j=>1+2*l.length-j) (fun j=>[(4,u),(9,i6 ((((hibp::textsB l).map rowedS).take j).sum:Int)),(50,u),(51,i6 ((1+2*l.length:Nat):Int)),(52,i6 (j:Int))]) (fun _=>[]) (fun _=>[⟨u,9,1,1+2*l.length,txs (hibp::textsB l)⟩]) 0 (Nat.zero_le _) su (fun j hj=>?_))))))))))))))
  refine r1 .lss (se (sd (fun hj2=>?_) (fun hj2=>?_)))
  ·have hj2:j<(hibp::textsB l).length:=by omega
   obtain⟨s,hs⟩:∃ s,(hibp::textsB l)[j]?=some s:=⟨_,List.getElem?_eq_getElem hj2⟩
   have hst:=sum_step (l:=(hibp::textsB l).map rowedS) (j:=j) (a:=rowedS s) (by rw[List.getElem?_map,hs];rfl)
   have hle:=sum_le ((hibp::textsB l).map rowedS) (j+1)
   have hsr:rowedS s=(lenB s.length).length+s.length:=rfl
   refine sk (nN (se (bl (rg (pp (PR.ix (i:=j)) (pp (PR.lp (v2:=sv s) (tx_at hs)) (p1 .as (en (rg (p2 .mv .mv (cl (fun _ _ h=>prowed (s:=s) (by omega)) (pp (PR.ad ((((hibp::textsB l).map rowedS).take (j+1)).sum:Int)) (p1 .as ?_)))))))))))))
   exact en (rg (p1 .mv (pp ((PR.gtr).to (v2:=.bool false) (by rw[decide_eq_false (by omega)])) (en (cf (hb:=rfl) (sk (bN (nN (rg0 (pp (PR.ad ((j+1:Nat):Int)) (p1 .mv (en0 (nN (bk (j+1) (by omega) (by omega) su))))))))))))))
  ·obtain rfl:j=1+2*l.length:=by omega
   exact xt (nX (nX (bH (nN (rg (p1 .mv (cl (fun _ _ h=>nrowK (l:=hibp::textsB l) (by rw[hTl];exact h.s 0) (by omega) (by omega)) (p2 .as .as (en (rt qv))))))))))
section
section
variable {D:List Deferred}{nt:Nat}{w0:World}{L:LT}{M:MT}{R:List Rw}{ops:Array Oper}{rest:List Oper}{Q:Exit->Act->World->Prop}{tyo:TypeId}{ps:String}{af:Array Edge}{d:Nat}
theorem mset0 (h:∀ g,KX D nt w0 ((d,.map (some g))::L) ((g,isSet [])::M) R (wpList Tryz.prog ops Q rest))(hb:Nat.blt d nt=true:=by rfl):KX D nt w0 L M R (wpList Tryz.prog ops Q (⟨some d,.makeMap 186 none,tyo,ps,af,none⟩::rest)):=fun a w hs=>
 sqMakeSet hs.f hs.m rfl rfl (fun q hq=>by cases hq) rfl (Nat.le_of_ble_eq_true hb) fun g a2 w2 h1 h2 hF hM=>h g a2 w2 (hs.new hb h2 h1 (hM.has _ (List.mem_cons_self ..)).2 hF)
end
def pofT (b:List UInt8):Tele:=match ofS b with
 | some l=>.row 158 3 l.length ((placesS l).flatMap placeC) fun v=>.ret (.tuple #[v,.int .i64 0])
 | none=>.ret (.tuple #[.slice none 0 0,.int .i64 3])
theorem pofT_no {b:List UInt8}(h:ofS b=none):pofT b = .ret (.tuple #[nv,i6 3]):=by unfold pofT;rw[h]
theorem pofT_some {b:List UInt8}{l:List Bx}(h:ofS b=some l):pofT b = .row 158 3 l.length ((placesS l).flatMap placeC) fun v=>.ret (.tuple #[v,i6 0]):=by unfold pofT;rw[h]
theorem tx_ok {b:List UInt8}(h:txE b=0):textsS b = .ok (txL b):=by
 unfold txE at h;unfold txL
 cases ht:textsS b with
 | ok l=>rfl
 | error e=>
  rw[ht] at h
  have:=textsS_err _ b e (Nat.le_refl _) ht
  simp only at h;omega
theorem tx_no {b:List UInt8}(h:txE b≠0):ofS b=none:=by
 unfold txE at h
 cases ht:textsS b with
 | ok l=>rw[ht] at h;exact absurd rfl h
 | error e=>exact ofS_err ht
theorem textsB_at :∀ {l:List Bx} {i:Nat} {x:Bx},l[i]?=some x->(textsB l)[2*i]?=some x.1/\(textsB l)[2*i+1]?=some x.2
 | a::l,0,x,h=>by
  injection h with h;subst h;exact⟨rfl,rfl⟩
 | a::l,i+1,x,h=>textsB_at (l:=l) (i:=i) h
theorem names_go {l:List Bx}{i:Nat}{x:Bx}(hx:l[i]?=some x)(h:namesS l=namesF ((l.take i).map (·.1)) (l.drop i)):(mayS ((l.take i).map (·.1)) x.1=0->namesS l=namesF ((l.take (i+1)).map (·.1)) (l.drop (i+1)))/\(mayS ((l.take i).map (·.1)) x.1≠0->namesS l≠0):=by
 rw[namesF_step _ l i hx] at h
 refine⟨fun h0=>?_,fun h0=>?_⟩
 ·rw[if_pos h0] at h;rw[h,map_snoc l i hx]
 ·rw[if_neg h0] at h;rw[h];exact h0
theorem row_ge :∀ l:List (List UInt8),l.length<=(rowS l).length
 | []=>Nat.le_refl _
 | a::l=>by
  have h1:=row_ge l
  have h2:=lenB_pos a.length
  have h3:rowS (a::l)=lenB a.length++a++rowS l:=rfl
  rw[h3,List.length_append,List.length_append,List.length_cons];omega
theorem ofS_bad {b:List UInt8}{l:List Bx}(h0:textsS b = .ok (hibp::textsB l))(hn:namesS l≠0):ofS b=none:=ofS_no h0 (.inr (.inr (.inr (.inr (by rw[List.tail_cons,boxesOf_texts];exact hn)))))
theorem ofS_good {b:List UInt8}{l:List Bx}(h0:textsS b = .ok (hibp::textsB l))(hl:1<=l.length)(hb:b.length<=65536)(hn:namesS l=0):ofS b=some l:=by
 have h:=ofS_ok h0 (by
  rintro(h | h | h | h | h)
  ·rw[List.length_cons,textsB_len] at h;omega
  ·rw[List.length_cons,textsB_len] at h;omega
  ·exact h rfl
  ·omega
  ·rw[List.tail_cons,boxesOf_texts] at h;exact h hn)
 rwa[List.tail_cons,boxesOf_texts] at h
theorem bytes_0 (l:List Bx):(bytesS (l.take 0)).length=rowedS hibp:=by
 rw[List.take_zero]
 unfold bytesS
 rw[rowS_sum];simp[textsB]
theorem row_texts {b:List UInt8}{l:List Bx}(h:textsS b = .ok (hibp::textsB l)):bytesS l=b:=(textsS_back b.length b _ (Nat.le_refl _) h).1
theorem pkof {b:List UInt8}{w:World}(hb:b.length<2^42):RT 41 #[sv b] w (pofT b):=by
 refine enter Tryz.func41 ?_
 refine r2 .as .as (se (r3 .mv .ln .gtr (sd (fun hlong=>?_) (fun hlong=>?_))))
 ·rw[pofT_no (ofS_long (by omega))]
  exact r2 .as .as (rt (nR (et [])))
 ·have hbl:b.length<=65536:=by omega
  refine sk (nN (rg (p1 .mv (ce (fun _ _ h=>ntextsU (b:=b) (by omega)) (fun vt=>?_)))))
  refine os 0 (fun ovt cvt=>?_)
  refine p5 .mv .ext .ext .as .as (en (se ?_))
  by_cases e1:txE b=0
  ·have ht:=tx_ok e1
   by_cases e2:(txL b).length<3
   ·skip
    rw[pofT_no (ofS_no ht (.inl e2))]
    refine rg (p1 .mv (pp ((PR.nei).to (v2:=.bool false) (by rw[decide_eq_false (by first | assumption | omega)])) (p1 .mv (gDo ?_))))
    refine p1 .mv (gDo ?_)
    refine pp (PR.lr) (gDo ?_)
    refine pp ((PR.lss).to (v2:=.bool true) (by rw[decide_eq_true (by first | assumption | omega)])) (pp (PR.por (b:=false) (b2:=true)) (p1 .mv (gSk ?_)))
    refine gSk ?_
    refine gSk ?_
    refine gSk ?_
    refine pp (PR.por (b:=true) (b2:=false)) (p1 .mv (gSk ?_))
    refine gSk ?_
    refine gSk ?_
    refine gSk ?_
    exact pp (PR.por (b:=true) (b2:=false)) (en (ct (hb:=rfl) (r2 .as .as (rt (nR (et []))))))
   ·by_cases e3:(txL b).length%2=1
    ·by_cases e4:(txL b).getD 0 []=hibp
     ·skip
      have h0:(txL b).head?=some hibp:=by rw[←e4];cases hq:txL b with | nil=>rw[hq] at e2;simp at e2 | cons a r=>rfl
      have hX:=shape e3 h0
      obtain⟨l,hl⟩:∃ l,boxesOf (txL b).tail=l:=⟨_,rfl⟩
      rw[hl] at hX
      rw[hX] at ht
      have hTl:(hibp::textsB l).length=1+2*l.length:=by rw[List.length_cons,textsB_len];omega
      have hl1:1<=l.length:=by rw[hX,hTl] at e2;omega
      have hbb:bytesS l=b:=row_texts ht
      have hll:l.length<=65536:=by have:=row_ge (hibp::textsB l);rw[hTl,show rowS (hibp::textsB l)=b from hbb] at this;omega
      refine rg (p1 .mv (pp ((PR.nei).to (v2:=.bool false) (by rw[decide_eq_false (by first | assumption | omega)])) (p1 .mv (gDo ?_))))
      refine p1 .mv (gDo ?_)
      refine pp (PR.lr) (gDo ?_)
      refine pp ((PR.lss).to (v2:=.bool false) (by rw[decide_eq_false (by first | assumption | omega)])) (pp (PR.por (b:=false) (b2:=false)) (p1 .mv (gDo ?_)))
      refine p1 .mv (gDo ?_)
      refine pp (PR.lr) (gDo ?_)
      refine pp (PR.rmn (((txL b).length%2:Nat):Int)) (gDo ?_)
      refine pp ((PR.nei).to (v2:=.bool false) (by rw[decide_eq_false (by first | assumption | omega)])) (pp (PR.por (b:=false) (b2:=false)) (p1 .mv (gDo ?_)))
      refine p1 .mv (gDo ?_)
      refine pp (PR.ix (i:=0)) (gDo ?_)
      refine pp (PR.lp (v2:=sv ((txL b).getD 0 [])) (txs_at (l:=txL b) (i:=0) (by omega))) (gDo ?_)
      refine pp ((PR.nes (s:=(txL b).getD 0 []) (s2:=hibp)).to (v2:=.bool false) (by first | rw[decide_eq_false (by assumption)] | (rw[decide_eq_false (fun h=>h (by assumption))]))) (pp (PR.por (b:=false) (b2:=false)) (en (cf (hb:=rfl) (sk (nN (rg (mset0 (fun gs=>?_))))))))
      refine p1 .as (en (r1 .as (rg (cl (fun _ _ h=>prowed (s:=hibp) (by decide)) (p1 .as (en (se (r1 .as (bl (nr 158 3 ?_))))))))))
      refine rc 1 (1+2*l.length) (txs (hibp::textsB l)) (hn:=by rw[hX,hTl]) (hx:=by rw[hX]) (h:=?_)
      refine lo2 (fun(_:Value) i=>i<=l.length/\namesS l=namesF ((l.take i).map (·.1)) (l.drop i)) (fun _ i=>l.length-i) (fun u i=>[(4,vt),(6,.map (some gs)),(7,u),(8,i6 ((bytesS (l.take i)).length:Int)),(9,i6 ((1+2*i:Nat):Int))]) (fun _ i=>[(gs,isSet ((l.take i).map (·.1)))]) (fun u i=>[⟨u,158,3,i,(placesTo l i).flatMap placeC⟩,⟨vt,9,1,1+2*l.length,txs (hibp::textsB l)⟩]) (nv) 0 ⟨Nat.zero_le _,rfl⟩ (by rw[show((bytesS (l.take 0)).length:Int)=(rowedS hibp:Int) by rw[bytes_0]];exact su) (fun u i hi=>?_)
      obtain⟨hi,hnm⟩:=hi
      refine se (rg (p2 .mv .mv (pp (PR.lr) (p1 .lss (en (sd (fun hi2=>?_) (fun hi2=>?_)))))))
      ·have hi2:i<l.length:=by omega
       obtain⟨x,hx⟩:∃ x,l[i]?=some x:=⟨_,List.getElem?_eq_getElem hi2⟩
       have hng:=names_go hx hnm
       have ha1:(hibp::textsB l)[1+2*i]?=some x.1:=by rw[Nat.add_comm];exact(textsB_at hx).1
       have ha2:(hibp::textsB l)[1+2*i+1]?=some x.2:=by rw[show 1+2*i+1=2*i+1+1 by omega];exact(textsB_at hx).2
       have hbs:=bytes_step l i hx
       have hpc:=place_cut l i hx
       rw[hbb] at hpc
       have hs1:rowedS x.1=(lenB x.1.length).length+x.1.length:=rfl
       have hs2:rowedS x.2=(lenB x.2.length).length+x.2.length:=rfl
       have hnl:((l.take i).map (·.1)).length<=i:=by rw[List.length_map,List.length_take];omega
       refine sk (nN (se (bl ?_)))
       refine dqb (Y2 .mv .mv (YQ (PR.ix (i:=1+2*i)) (YQ (PR.lp (v2:=sv x.1) (tx_at (l:=hibp::textsB l) ha1)) (Y2 .mv .mv (YQ (PR.ad ((1+2*i+1:Nat):Int)) (YQ (PR.ix (i:=1+2*i+1)) (YQ (PR.lp (v2:=sv x.2) (tx_at (l:=hibp::textsB l) ha2)) (Y2 .as .as (YE (se (rg (p2 .mv .mv (fr [0] [1,1] ?_)))))))))))))
       refine cm (pmay (s:=x.1) (by omega)) (fun _ _=>?_)
       refine p1 .nei (en (sd (fun hm=>?_) (fun hm=>?_)))
       ·rw[pofT_no (ofS_bad ht (hng.2 hm))]
        exact r2 .as .as (rt (nR (bR (nR (nR (bR (nR (et []))))))))
       ·have hm0:=Decidable.not_not.1 hm
        refine sk (nN (rg (p2 .mv .mv (sadd 0 ?_))))
        refine en (rg ?_)
        refine p2 .mv .mv (cl (fun _ _ h=>prowed (s:=x.1) (by omega)) (p1 .mv (cl (fun _ _ h=>prowed (s:=x.2) (by omega)) (pp (PR.ad ((rowedS x.1+rowedS x.2:Nat):Int)) (pp (PR.ad ((bytesS (l.take (i+1))).length:Int)) (p1 .as (en (rg0 (p5 .mv .mv .mv .mv .ln (pp (PR.sb (((bytesS (l.take (i+1))).length-x.2.length:Nat):Int)) (p2 .mv .ln (pp (PR.bd #[sv x.1,i6 (((bytesS (l.take (i+1))).length-x.2.length:Nat):Int),i6 (x.2.length:Int)]) (bs #[sv x.1,i6 (((bytesS (l.take (i+1))).length-x.2.length:Nat):Int),i6 (x.2.length:Int)] (fun g0=>?_))))))))))))))
        refine ap 0 (fun v2=>?_) (hl:=rfl) (h1:=rfl)
        refine rc 0 (i+1) ((placesTo l (i+1)).flatMap placeC) (hn:=rfl) (hx:=by rw[placesTo_snoc l i hx,List.flatMap_append];rfl) (h:=?_)
        refine p1 .as (en0 (bN (nN (rg0 (p1 .mv (pp (PR.ad ((1+2*(i+1):Nat):Int)) (p1 .as (en0 (nN ?_)))))))))
        rw[←map_snoc l i hx]
        exact bk2 v2 (i+1) ⟨by omega,hng.1 hm0⟩ (by omega) su
      ·obtain rfl:i=l.length:=by omega
       rw[List.drop_length] at hnm
       rw[pofT_some (ofS_good ht hl1 hbl hnm)]
       exact xt (nX (nX (bH (nN (r3 .mv .as .as (rt (et [0])))))))
     ·skip
      rw[pofT_no (ofS_no ht (.inr (.inr (.inl (fun h=>e4 (by rw[List.getD_eq_getElem?_getD,←List.head?_eq_getElem?,h];rfl))))))]
      refine rg (p1 .mv (pp ((PR.nei).to (v2:=.bool false) (by rw[decide_eq_false (by first | assumption | omega)])) (p1 .mv (gDo ?_))))
      refine p1 .mv (gDo ?_)
      refine pp (PR.lr) (gDo ?_)
      refine pp ((PR.lss).to (v2:=.bool false) (by rw[decide_eq_false (by first | assumption | omega)])) (pp (PR.por (b:=false) (b2:=false)) (p1 .mv (gDo ?_)))
      refine p1 .mv (gDo ?_)
      refine pp (PR.lr) (gDo ?_)
      refine pp (PR.rmn (((txL b).length%2:Nat):Int)) (gDo ?_)
      refine pp ((PR.nei).to (v2:=.bool false) (by rw[decide_eq_false (by first | assumption | omega)])) (pp (PR.por (b:=false) (b2:=false)) (p1 .mv (gDo ?_)))
      refine p1 .mv (gDo ?_)
      refine pp (PR.ix (i:=0)) (gDo ?_)
      refine pp (PR.lp (v2:=sv ((txL b).getD 0 [])) (txs_at (l:=txL b) (i:=0) (by omega))) (gDo ?_)
      exact pp ((PR.nes (s:=(txL b).getD 0 []) (s2:=hibp)).to (v2:=.bool true) (by first | rw[decide_eq_true (by assumption)] | (rw[decide_eq_true (fun h=>h (by assumption))]))) (pp (PR.por (b:=false) (b2:=true)) (en (ct (hb:=rfl) (r2 .as .as (rt (nR (et [])))))))
    ·skip
     rw[pofT_no (ofS_no ht (.inr (.inl (by omega))))]
     refine rg (p1 .mv (pp ((PR.nei).to (v2:=.bool false) (by rw[decide_eq_false (by first | assumption | omega)])) (p1 .mv (gDo ?_))))
     refine p1 .mv (gDo ?_)
     refine pp (PR.lr) (gDo ?_)
     refine pp ((PR.lss).to (v2:=.bool false) (by rw[decide_eq_false (by first | assumption | omega)])) (pp (PR.por (b:=false) (b2:=false)) (p1 .mv (gDo ?_)))
     refine p1 .mv (gDo ?_)
     refine pp (PR.lr) (gDo ?_)
     refine pp (PR.rmn (((txL b).length%2:Nat):Int)) (gDo ?_)
     refine pp ((PR.nei).to (v2:=.bool true) (by rw[decide_eq_true (by first | assumption | omega)])) (pp (PR.por (b:=false) (b2:=true)) (p1 .mv (gSk ?_)))
     refine gSk ?_
     refine gSk ?_
     refine gSk ?_
     exact pp (PR.por (b:=true) (b2:=false)) (en (ct (hb:=rfl) (r2 .as .as (rt (nR (et []))))))
  ·skip
   rw[pofT_no (tx_no e1)]
   refine rg (p1 .mv (pp ((PR.nei).to (v2:=.bool true) (by rw[decide_eq_true (by first | assumption | omega)])) (p1 .mv (gSk ?_))))
   refine gSk ?_
   refine gSk ?_
   refine pp (PR.por (b:=true) (b2:=false)) (p1 .mv (gSk ?_))
   refine gSk ?_
   refine gSk ?_
   refine gSk ?_
   refine pp (PR.por (b:=true) (b2:=false)) (p1 .mv (gSk ?_))
   refine gSk ?_
   refine gSk ?_
   refine gSk ?_
   exact pp (PR.por (b:=true) (b2:=false)) (en (ct (hb:=rfl) (r2 .as .as (rt (nR (et []))))))
end
end Go.Proofs.YtdjholkjkbihmaaGreatDoor
