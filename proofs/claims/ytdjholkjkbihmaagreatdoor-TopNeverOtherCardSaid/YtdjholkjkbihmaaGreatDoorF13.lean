/- Laws and walks of TopNeverOther. -/
import Derived.Test.YtdjholkjkbihmaaGreatDoorF12
namespace Go.Proofs.YtdjholkjkbihmaaGreatDoor
open Go.RowKit
set_option maxRecDepth 100000
set_option maxHeartbeats 4000000
section
section
variable {D:List Deferred}{nt:Nat}{w0:World}{L:LT}{M:MT}{R:List Rw}{x y z:Operand}{g d:Nat}{names:List (List UInt8)}{l:List UInt8}{ops:Array Oper}{rest:List Oper}{Q:Exit->Act->World->Prop}{tyo:TypeId}{ps:String}{af:Array Edge}{k:IntKind}{p:Int}
theorem mset (h:∀ g,KX D nt w0 ((d,.map (some g))::L) ((g,isSet [])::M) R (wpList Tryz.prog ops Q rest))(hx:EV (St D nt w0 L M R) x (.int k p):=by exact ev)(hb:Nat.blt d nt=true:=by rfl):KX D nt w0 L M R (wpList Tryz.prog ops Q (⟨some d,.makeMap 186 (some x),tyo,ps,af,none⟩::rest)):=fun a w hs=>
 sqMakeSet hs.f hs.m rfl rfl (fun q hq=>by injection hq with hq;subst hq;exact⟨k,p,hx a w hs⟩) rfl (Nat.le_of_ble_eq_true hb) fun g a2 w2 h1 h2 hF hM=>h g a2 w2 (hs.new hb h2 h1 (hM.has _ (List.mem_cons_self ..)).2 hF)
theorem PR.lk (i:Nat)(hx:EV (St D nt w0 L M R) x (.map (some g)):=by exact ev)(hy:EV (St D nt w0 L M R) y (sv l):=by exact ev)(e:M[i]?=some (g,isSet names):=by rfl)(hl:l.length<=maxLen:=by unfold maxLen;omega):PR Tryz.prog (St D nt w0 L M R) (.lookup 186 x y false) (.bool (names.contains l)):=fun a w o ho hs=>
 run_inSet ho (hx a w hs) (hy a w hs) (hs.m.ob i e) hl
theorem sadd (i:Nat)(h:KX D nt w0 L (M.set i (g,isSet (names ++ [l]))) R (wpList Tryz.prog ops Q rest))(hx:EV (St D nt w0 L M R) x (.map (some g)):=by exact ev)(hy:EV (St D nt w0 L M R) y (sv l):=by exact ev)(hz:EV (St D nt w0 L M R) z (.bool true):=by exact ev)(e:M[i]?=some (g,isSet names):=by rfl)(hl:l.length<=maxLen:=by unfold maxLen;omega)(hn:names.length<maxLen:=by unfold maxLen;omega):KX D nt w0 L M R (wpList Tryz.prog ops Q (⟨none,.mapUpdate 186 x y z,tyo,ps,af,none⟩::rest)):=fun a w hs=>
 sqSetAdd (i:=i) hs.f hs.m rfl rfl rfl (hx a w hs) (hy a w hs) (hz a w hs) e hl hn fun a2 w2 hg hF hM=>h a2 w2 ⟨hF,hM,fun q hq=>(hs.r q hq).upd i e hg,hs.nd⟩
end
end
def refC (nm:List UInt8):List Value:=[tx [109],i6 1,i6 0,tx nm,i6 0]
theorem refC_len (nm:List UInt8):(refC nm).length=5:=rfl
abbrev refsC (l:List (List UInt8)):List Value:=l.flatMap refC
structure PlS where
 nm:List UInt8
 at_:Int
 len:Int
def plC (p:PlS):List Value:=[tx p.nm,i6 p.at_,i6 p.len]
theorem plC_len (p:PlS):(plC p).length=3:=rfl
abbrev plsC (l:List PlS):List Value:=l.flatMap plC
abbrev noPl :PlS:=⟨[],0,0⟩
structure PkS where
 nm:List UInt8
 pl:List PlS
abbrev noPk :PkS×Value:=(⟨[],[]⟩,nv)
def pkC (q:PkS×Value):List Value:=[tx q.1.nm,q.2]
theorem pkC_len (q:PkS×Value):(pkC q).length=2:=rfl
abbrev pksC (l:List (PkS×Value)):List Value:=l.flatMap pkC
abbrev pckT :List UInt8:=[112,97,99,107,47]
structure PlOk (p:PlS):Prop where
 l:p.nm.length<2^40
 o:ofOk p.nm=true
 a:0<=p.at_/\p.at_<=9223372036854775807
 b:0<=p.len/\p.len<=9223372036854775807
structure PkOk (p:PkS):Prop where
 nm:∃ t,p.nm=pckT++t/\t.length<2^40/\ofOk t=true
 n:p.pl.length<2^36
 pl:∀ x∈p.pl,PlOk x
theorem getD_memX {α:Type}{l:List α}{i:Nat}{d:α}(h:i<l.length):l[i]?=some (l.getD i d)/\l.getD i d∈l:=by
 rw[List.getD_eq_getElem?_getD,List.getElem?_eq_getElem h]
 exact⟨rfl,List.getElem_mem h⟩
structure RtIn (w:World)(vr vp:Value)(refs:List (List UInt8))(packs:List (PkS×Value)):Prop where
 r:Sl w vr 5 refs.length (refsC refs)
 p:Sl w vp 2 packs.length (pksC packs)
 q:∀ x∈packs,Sl w x.2 3 x.1.pl.length (plsC x.1.pl)
theorem RtIn.below {w w2:World}{vr vp:Value}{refs:List (List UInt8)}{packs:List (PkS×Value)}(h:RtIn w vr vp refs packs)(hb:Below w.heap.size w w2):RtIn w2 vr vp refs packs:=⟨h.r.below hb,h.p.below hb,fun x hx=>(h.q x hx).below hb⟩
structure RtOk (N:Int)(refs:List (List UInt8))(packs:List (PkS×Value)):Prop where
 n:1<=N/\N<=99999999
 r1:refs.length<=1
 p1:packs.length<=1
 r:∀ x∈refs,x.length<2^40/\ofOk x=true
 p:∀ x∈packs,PkOk x.1
theorem rix0 {v f:Value}{w:World}(hV:Sl w v 5 0 []):RV 278 #[v,f] w (i6 (-1)):=by
 refine enter Tryz.func278 ?_
 refine r1 .as (se (rg ?_))
 exact p1 .mv (pp (PR.lr) (p1 .mv (en (bl (lr 1 (un (r1 .lss (se (cf (xt (nX (nX (bH (nN (r1 .as (rt (q1 rfl)))))))))))))))))
theorem rcont0 {v f:Value}{w:World}(hV:Sl w v 5 0 []):RV 263 #[v,f] w (.bool false):=by
 refine enter Tryz.func263 ?_
 exact r1 .as (rg (p2 .mv .mv (cl (fun _ _ h=>rix0 (hV.below h.m.below)) (p2 .geq .as (en (rt (q1 rfl)))))))
theorem rchkref {v:Value}{nm:List UInt8}{w:World}(hE:Env w)(hV:Sl w v 5 0 [])(hn:nm.length<2^40)(ho:ofOk nm=true):RV 234 #[v,.agg (refC nm).toArray] w (i6 0):=by
 refine enter Tryz.func234 ?_
 refine rg (ba (fun g0=>?_))
 refine p1 .as (en (se (bl (rg (p2 .fa .ld (cl (fun _ _ h=>rmach (hE.below h.m.below)) (p2 .not .as (en (cf (rg (p4 .fa .ld .lss .mv (gFf (hp:=PR.fa) ?_))))))))))))
 refine gFf (hp:=PR.ld) ?_
 refine gFf (hp:=PR.gtr) ?_
 refine p2 .por .mv (gFf (hp:=PR.fa) ?_)
 refine gFf (hp:=PR.ld) ?_
 refine gFf (hp:=PR.lss) ?_
 refine p2 .por .mv (gFf (hp:=PR.fa) ?_)
 refine gFf (hp:=PR.ld) ?_
 refine gFf (hp:=PR.gtr) ?_
 refine p2 .por .mv (gFf (hp:=PR.fa) ?_)
 refine gFf (hp:=PR.ld) ?_
 refine gFf (hp:=PR.lss) ?_
 refine p2 .por .as (en (cf (hb:=rfl) (rg (p2 .fa .ld (cl (fun _ _ h=>rchunk (hE.below h.m.below) hn) (p2 .not .as ?_))))))
 exact en (cf (hb:=(by rw[ho];rfl)) (rg (p1 .mv (pp PR.mk (cl (fun _ _ h=>rcont0 (hV.below h.m.below)) (p1 .as (en (cf (sk (bN (nN (r1 .as (rt (q1 rfl))))))))))))))
theorem cut_pack (t:List UInt8):(Value.tuple #[sv (Lib.trimPrefix (pckT++t) pckT),.bool (Lib.hasPrefix (pckT++t) pckT)]) = .tuple #[sv t,.bool true]:=by
 unfold Lib.trimPrefix
 rw[pre_app,if_pos rfl,List.drop_left]
theorem kS {D:List Deferred}{nt:Nat}{w0:World}{L:LT}{M:MT}{R:List Rw}(i:Nat)(S2:Obj->Prop){X:Act->World->Prop}{g:Nat}{S:Obj->Prop}(h:KX D nt w0 L (M.set i (g,S2)) R X)(e:M[i]?=some (g,S):=by rfl)(hc:S=S2):KX D nt w0 L M R X:=by
 subst hc
 rw[list_set_self e] at h
 exact h
theorem rchkpk {vr vp:Value}{N:Int}{refs:List (List UInt8)}{packs:List (PkS×Value)}{w:World}(hE:Env w)(hR:RtIn w vr vp refs packs)(hk:RtOk N refs packs):RV 235 #[vp] w (i6 0):=by
 refine enter Tryz.func235 ?_
 have hVp:=hR.p
 refine r1 .as (rg (p1 .mv (pp (PR.lr) (mset (fun gm=>?_)))))
 refine p1 .as (en (se (rg (p1 .mv (pp (PR.lr) (p1 .mv (en (bl (lo (A:=Nat) (fun i=>i<=packs.length) (fun i=>packs.length-i) (fun i=>[(0,vp),(2,i6 0),(3,.map (some gm)),(13,vp),(14,i6 (packs.length:Int)),(15,i6 (i:Int))]) (fun i=>[(gm,isSet ((packs.take i).map (·.1.nm)))]) (fun i=>[]) 0 (Nat.zero_le _) su (fun i hi=>?_))))))))))
 refine r1 .lss (se (sd (fun hlt=>?_) (fun hlt=>?_)))
 ·skip
  refine sk (nN (se (bl ?_)))
  have h1:=hk.p1
  have hi0:i=0:=by omega
  have hlt0:i<packs.length:=by omega
  obtain⟨hp1,hpm⟩:=getD_memX (d:=noPk) hlt0
  have hpk:=hk.p _ hpm
  have hVq:=hR.q _ hpm
  have hon:=hVq.one
  obtain⟨t,ht,ht1,ht2⟩:=hpk.nm
  have hcut:∀ w2,RV 194 #[sv ((packs.getD i noPk).1.nm),sv pckT] w2 (.tuple #[sv t,.bool true]):=fun w2=>by rw[ht,←cut_pack t];exact str_cut _ _ w2
  have hpn:=hpk.n
  have hnl:(packs.getD i noPk).1.nm.length<2^41:=by rw[ht,List.length_append];show 5+_<_;omega
  refine rg (pp (PR.ix (i:=i)) (pp (PR.lq (ys:=pkC (packs.getD i noPk)) (fun q u hu=>flat_at pkC_len hp1 q hu)) (aa Tryz.zeroValue118 (fun g0=>sw 0 ?_))))
  refine en (rg (p2 .fa .ld (cl (fun _ _ h=>hcut _) (p5 .mv .ext .ext .as .as (en (se (rg (p3 .mv .not .mv (gFf (hp:=PR.mv) ?_)))))))))
  refine gcN (fun _ _ _ h=>rchunk (hE.below h.m.below) ht1) ?_
  refine gFf (hp:=PR.not) ?_
  refine p1 .por (en ?_)
  refine cf (hb:=(by rw[ht2];rfl)) (sk (nN (se (rg (p3 .mv .fa .ld (pp ((PR.lk 1 (hl:=by rw[ht,List.length_append];show 5+_<=_;unfold maxLen;omega)).to (v2:=.bool false) (by subst hi0;rfl)) (en (cf (sk (nN (rg (p3 .mv .fa .ld (sadd 1 ?_ (hn:=by rw[List.length_map,List.length_take];unfold maxLen;omega))))))))))))))
  refine en (rg (p2 .fa .ld (pp (PR.lr) (p1 .mv (en (bl (lo (A:=Nat) (fun j=>j<=(packs.getD i noPk).1.pl.length) (fun j=>(packs.getD i noPk).1.pl.length-j) (fun j=>[(0,vp),(2,i6 0),(3,.map (some gm)),(5,pt g0),(13,vp),(14,i6 (packs.length:Int)),(15,i6 (i:Int)),(40,(packs.getD i noPk).2),(41,i6 ((packs.getD i noPk).1.pl.length:Int)),(42,i6 (j:Int))]) (fun j=>[(g0,isB 118 #[sv ((packs.getD i noPk).1.nm),(packs.getD i noPk).2]),(gm,isSet (((packs.take i).map (·.1.nm)) ++ [((packs.getD i noPk).1.nm)]))]) (fun j=>[]) 0 (Nat.zero_le _) su (fun j hi=>?_))))))))
  refine r1 .lss (se (sd (fun hlt2=>?_) (fun hlt2=>?_)))
  ·skip
   refine sk (nN (se (bl ?_)))
   obtain⟨hy1,hym⟩:=getD_memX (d:=noPl) (show j<(packs.getD i noPk).1.pl.length by omega)
   have hy:=hpk.pl _ hym
   refine rg (pp (PR.ix (i:=j)) (pp (PR.lq (ys:=plC ((packs.getD i noPk).1.pl.getD j noPl)) (fun q u hu=>flat_at plC_len hy1 q hu)) (aa Tryz.zeroValue158 (fun g1=>sw 0 ?_))))
   refine en (se (rg (p2 .fa .ld (cl (fun _ _ h=>rchunk (hE.below h.m.below) hy.l) (p1 .not (en (cf (hb:=(by rw[hy.o];rfl)) (sk (nN (rg (p4 .fa .ld .lss .mv (gFf (hp:=PR.fa) ?_))))))))))))
   refine gFf (hp:=PR.ld) ?_
   refine gFf (hp:=PR.lss) ?_
   exact p1 .por (en (cf (hb:=(by have:=hy.a;have:=hy.b;rw[Bool.or_eq_false_iff,decide_eq_false_iff_not,decide_eq_false_iff_not];omega)) (sk (bN (nN (rg0 (pp (PR.ad ((j+1:Nat):Int)) (p1 .mv (en0 (nN (bk (j+1) (by omega) (by omega) su)))))))))))
  ·skip
   refine xt (nX (nX (bH (bN (nN (rg0 (pp (PR.ad ((i+1:Nat):Int)) (p1 .mv (en0 (nN (kS 1 (isSet ((packs.take (i+1)).map (·.1.nm))) ?_ (hc:=by rw[List.take_succ_eq_append_getElem hlt0,List.map_append,List.getD_eq_getElem?_getD,List.getElem?_eq_getElem hlt0];rfl))))))))))))
   exact bk (i+1) (by omega) (by omega) su
 ·skip
  exact xt (nX (nX (bH (nN (r1 .as (rt (q1 rfl)))))))

abbrev Bx :=List UInt8×List UInt8
def boxC (b:Bx):List Value:=[tx b.1,tx b.2]
theorem boxC_len (b:Bx):(boxC b).length=2:=rfl
def hibp :List UInt8:=[104,105,98,112]
def mayS (seen:List (List UInt8))(nm:List UInt8):Int:=if nm.length<1\/100<nm.length then 7 else if seen.contains nm then 8 else 0
def namesF :List (List UInt8)->List Bx->Int
 | _,[]=>0
 | seen,b::r=>if mayS seen b.1=0 then namesF (seen ++ [b.1]) r else mayS seen b.1
def namesS (l:List Bx):Int:=namesF [] l
def textsB (l:List Bx):List (List UInt8):=l.flatMap fun b=>[b.1,b.2]
def bytesS (l:List Bx):List UInt8:=rowS (hibp::textsB l)
def boxesOf :List (List UInt8)->List Bx
 | n::d::r=>(n,d)::boxesOf r
 | _=>[]
theorem boxesOf_texts :∀ l:List Bx,boxesOf (textsB l)=l
 | []=>rfl
 | b::l=>by
  have h:textsB (b::l)=b.1::b.2::textsB l:=rfl
  rw[h,boxesOf,boxesOf_texts l]
theorem texts_boxesOf :∀ (r:List (List UInt8)),r.length%2=0->textsB (boxesOf r)=r
 | [],_=>rfl
 | [x],h=>by simp at h
 | n::d::r,h=>by
  have h2:=texts_boxesOf r (by simp only[List.length_cons] at h;omega)
  show textsB ((n,d)::boxesOf r)=_
  have h3:textsB ((n,d)::boxesOf r)=n::d::textsB (boxesOf r):=rfl
  rw[h3,h2]
theorem textsB_len (l:List Bx):(textsB l).length=2*l.length:=by
 induction l with
 | nil=>rfl
 | cons b l ih=>
  have h:textsB (b::l)=b.1::b.2::textsB l:=rfl
  rw[h,List.length_cons,List.length_cons,List.length_cons,ih];omega
theorem textsB_snoc (l:List Bx)(i:Nat){x:Bx}(hx:l[i]?=some x):textsB (l.take (i+1))=textsB (l.take i) ++ [x.1,x.2]:=by
 obtain⟨hl,rfl⟩:=List.getElem?_eq_some_iff.1 hx
 unfold textsB
 rw[List.take_succ_eq_append_getElem hl,List.flatMap_append]
 rfl
theorem namesF_step (seen:List (List UInt8))(l:List Bx)(i:Nat){x:Bx}(hx:l[i]?=some x):namesF seen (l.drop i)=if mayS seen x.1=0 then namesF (seen ++ [x.1]) (l.drop (i+1)) else mayS seen x.1:=by
 obtain⟨hl,rfl⟩:=List.getElem?_eq_some_iff.1 hx
 rw[List.drop_eq_getElem_cons hl,namesF]
theorem map_snoc (l:List Bx)(i:Nat){x:Bx}(hx:l[i]?=some x):(l.take (i+1)).map (·.1)=(l.take i).map (·.1) ++ [x.1]:=by
 obtain⟨hl,rfl⟩:=List.getElem?_eq_some_iff.1 hx
 rw[List.take_succ_eq_append_getElem hl,List.map_append]
 rfl
def rowedS (s:List UInt8):Nat:=(lenB s.length).length+s.length
theorem rowS_sum (l:List (List UInt8)):(rowS l).length=(l.map rowedS).sum:=by
 induction l with
 | nil=>rfl
 | cons s l ih=>rw[rowS_cons,List.map_cons,List.sum_cons,←ih,List.length_append,List.length_append];unfold rowedS;omega
theorem lenB_bound (n:Nat)(h:n<2^42):(lenB n).length<=6:=by
 have key:∀ k m,m<128^(k+1)->(lenB m).length<=k+1:=by
  intro k
  induction k with
  | zero=>intro m hm;rw[lenB_lt m (by omega)];simp
  | succ k ih=>
   intro m hm
   by_cases h8:m<128
   ·rw[lenB_lt m h8];simp
   ·rw[lenB_ge m h8,List.length_cons]
    have:=ih (m/128) (by rw[Nat.div_lt_iff_lt_mul (by decide)];rw[Nat.pow_succ] at hm;omega)
    omega
 exact key 5 n (by omega)
theorem lenB_pos (n:Nat):0<(lenB n).length:=List.length_pos_iff.2 (lenB_ne n)
def more7 (m:Nat):Nat:=if m=0 then 0 else(lenB m).length
theorem more7_step (m:Nat)(h:m≠0):more7 m=1+more7 (m/128):=by
 unfold more7
 rw[if_neg h]
 by_cases h8:m<128
 ·rw[lenB_lt m h8,if_pos (by omega)];simp
 ·rw[lenB_ge m h8,if_neg (by omega),List.length_cons];omega
theorem lenB_more (m:Nat):(lenB m).length=1+more7 (m/128):=by
 by_cases h:m=0
 ·subst h;rw[lenB_lt 0 (by decide)];rfl
 ·have:=more7_step m h
  unfold more7 at this ⊢
  rw[if_neg h] at this
  exact this
structure KyD where
 k:List UInt8
 no:List UInt8
 ep:List Value
 sh:List Value
 rb:List UInt8
 bk:List UInt8
 idk:List UInt8
 nn:List UInt8->List UInt8
 sl:List UInt8->List UInt8->List UInt8->List UInt8
 nm:List UInt8->List UInt8
 bx:List UInt8->List UInt8
 op:List UInt8->List UInt8->List UInt8×Int
 mkp:List Bx->List UInt8
 pl:List Bx->List PlS
 pnm:List UInt8->List UInt8
 tk:List UInt8->List UInt8->Bx×Int
structure BxOk (l:List Bx):Prop where
 n:1<=l.length/\l.length<=2
 nm:∀ b∈l,b.1.length=64/\ofOk b.1=true
 nd:(l.map (·.1)).Nodup
 sz:(l.map fun b=>b.2.length).sum<=32768
def KyD.s3 (D:KyD):List Value:=(D.sh.drop 33).take 33++(D.sh.drop 99).take 66
structure KyOk (D:KyD):Prop where
 k:D.k.length=32
 no:D.no.length=64
 ep:D.ep.length=33
 ep1:∀ u∈D.ep,u.oneCell'=true
 sh:D.sh.length=165
 sh1:∀ u∈D.sh,u.oneCell'=true
 rb:D.rb.length<=100
 bk:D.bk.length=32
 idk:D.idk.length=32
 nn:∀ s,(D.nn s).length=12
 sl:∀ n h d,(D.sl n h d).length<=d.length+100
 nm:∀ d,(D.nm d).length=64
 bx:∀ d,(D.bx d).length<=2*d.length+1000
 nmo:∀ d,ofOk (D.nm d)=true
 mkp:∀ l,BxOk l->(D.mkp l).length<=40000
 pnm:∀ b,∃ t,D.pnm b=pckT++t/\t.length=64/\ofOk t=true
 pl:∀ l,BxOk l->(D.pl l).length=l.length ∧ ∀ i,i<l.length->((D.pl l).getD i noPl).nm=(l.getD i ([],[])).1/\PlOk ((D.pl l).getD i noPl)/\((D.pl l).getD i noPl).at_<=99999999/\((D.pl l).getD i noPl).len<=99999999
 tk:∀ b nm,b.length<=65538->(D.tk b nm).1.1.length<2^28/\(D.tk b nm).1.2.length<2^28
structure EnvK (D:KyD)(w:World):Prop where
 e:Env w
 ok:KyOk D
 chk:∀ {w2:World} {v u:Value},Below w.heap.size w w2->Sl w2 v 33 1 D.ep->Sl w2 u 32 1 (dgC D.k)->RV 127 #[.agg #[v],.agg #[u]] w2 (i6 0)
 byt:∀ {w2:World} {v:Value},Below w.heap.size w w2->Sl w2 v 33 1 D.ep->RV 128 #[.agg #[v]] w2 (.tuple #[sv D.rb,i6 0])
 box:∀ {w2:World} {u:Value},Below w.heap.size w w2->Sl w2 u 32 1 (dgC D.k)->RV 88 #[.agg #[u],i6 0] w2 (.tuple #[.agg (cells8 D.bk),i6 0])
 of:∀ {w2:World},Below w.heap.size w w2->RT 135 #[sv D.rb] w2 (.row 106 33 1 D.ep fun a=>.ret (.tuple #[.agg #[a],i6 0]))
 opn:∀ {w2:World} {v u:Value},Below w.heap.size w w2->Sl w2 v 33 1 D.ep->Sl w2 u 33 3 D.s3->RT 136 #[.agg #[v],u] w2 (.row 23 32 1 (dgC D.k) fun a=>.ret (.tuple #[.agg #[a],i6 0]))
 mke:∀ {w2:World},Below w.heap.size w w2->RT 31 #[.agg (cells8 D.k),sv D.no] w2 (.row 106 33 1 D.ep fun a=>.row 23 32 1 (dgC D.k) fun b=>.row 71 33 5 D.sh fun c=>.ret (.tuple #[.agg #[a],.agg #[b],c,i6 0]))
 id:∀ {w2:World} {u:Value},Below w.heap.size w w2->Sl w2 u 32 1 (dgC D.k)->RV 11 #[.agg #[u]] w2 (.agg (cells8 D.idk))
 join:∀ {w2:World} {u:Value},Below w.heap.size w w2->Sl w2 u 33 3 D.s3->RV 72 #[u] w2 (.tuple #[.agg (cells8 D.k),i6 0])
 non:∀ {w2:World} {s:List UInt8},Below w.heap.size w w2->s.length=32->RV 90 #[sv s] w2 (.agg (cells8 (D.nn s)))
 sea:∀ {w2:World} {n h d:List UInt8},Below w.heap.size w w2->n.length=12->h.length+d.length<2^20->RV 89 #[.agg (cells8 D.bk),.agg (cells8 n),sv h,sv d] w2 (sv (D.sl n h d))
 sop:∀ {w2:World} {n h d:List UInt8},Below w.heap.size w w2->n.length=12->h.length+d.length<2^20->RV 137 #[.agg (cells8 D.bk),sv h,sv (D.sl n h d)] w2 (.tuple #[sv d,i6 0])
 cnm:∀ {w2:World} {u:Value} {d:List UInt8},Below w.heap.size w w2->Sl w2 u 32 1 (dgC D.k)->d.length<=65536->RV 25 #[.agg #[u],sv d] w2 (sv (D.nm d))
 cse:∀ {w2:World} {u:Value} {d:List UInt8},Below w.heap.size w w2->Sl w2 u 32 1 (dgC D.k)->d.length<=65536->RV 35 #[.agg #[u],sv d] w2 (.tuple #[.agg #[sv (D.nm d),sv (D.bx d)],i6 0])
 cop:∀ {w2:World} {u:Value} {m x:List UInt8},Below w.heap.size w w2->Sl w2 u 32 1 (dgC D.k)->m.length<2^28->x.length<2^28->RV 45 #[.agg #[u],.agg #[sv m,sv x]] w2 (.tuple #[.string ⟨(D.op m x).1.toArray⟩,i6 (D.op m x).2])
 pmk:∀ {w2:World} {v:Value} {l:List Bx},Below w.heap.size w w2->Sl w2 v 2 l.length (l.flatMap boxC)->BxOk l->RV 40 #[v] w2 (.tuple #[sv (D.mkp l),i6 0])
 pof:∀ {w2:World} {l:List Bx},Below w.heap.size w w2->BxOk l->RT 41 #[sv (D.mkp l)] w2 (.row 158 3 (D.pl l).length (plsC (D.pl l)) fun v=>.ret (.tuple #[v,i6 0]))
 pna:∀ {w2:World} {b:List UInt8},Below w.heap.size w w2->b.length<=65538->RV 42 #[sv b] w2 (sv (D.pnm b))
 ptk:∀ {w2:World} {b m:List UInt8},Below w.heap.size w w2->b.length<=65538->RV 48 #[sv b,sv m] w2 (.tuple #[.agg (boxC (D.tk b m).1).toArray,i6 (D.tk b m).2])
theorem EnvK.below {D:KyD}{w w2:World}(h:EnvK D w)(hb:Below w.heap.size w w2):EnvK D w2:=by
 have t:∀ {w3:World},Below w2.heap.size w2 w3->Below w.heap.size w w3:=fun h3=>hb.trans (h3.mono hb.size)
 exact⟨h.e.below hb,h.ok,fun h3=>h.chk (t h3),fun h3=>h.byt (t h3),fun h3=>h.box (t h3),fun h3=>h.of (t h3),fun h3=>h.opn (t h3),fun h3=>h.mke (t h3),fun h3=>h.id (t h3),fun h3=>h.join (t h3),fun h3=>h.non (t h3),fun h3=>h.sea (t h3),fun h3=>h.sop (t h3),fun h3=>h.cnm (t h3),fun h3=>h.cse (t h3),fun h3=>h.cop (t h3),fun h3=>h.pmk (t h3),fun h3=>h.pof (t h3),fun h3=>h.pna (t h3),fun h3=>h.ptk (t h3)⟩
theorem sall {Y:Type}{w0:World}{caps:List Value}{f:FuncId}{u0 v0 u1 v1 u2 v2 u3 v3 u4 v4:Value}(Z Z':Nat->Shf)(MM:Nat->Y->MT)(RR:Nat->Y->List Rw)(J:Nat->Y->Prop)(w0':Y)(hJ0:J 0 w0')(hS:StoIn w0 u0 v0 u1 v1 u2 v2 u3 v3 u4 v4 (Z 0) (Z 1) (Z 2) (Z 3) (Z 4))
  (hc:∀ i y a b M0 R0,i<5->J i y->RM f (Value.int .i64 (i:Int)::Value.agg #[a,b]::Value.bool false::caps).toArray w0 (M0++MM i y) (shR (Z i) a b++(R0++RR i y)) (A:=Value×Value×Y) (fun q=>J (i+1) q.2.2) (fun q=>.agg #[q.1,q.2.1]) (fun q=>M0++MM (i+1) q.2.2) (fun q=>shR (Z' i) q.1 q.2.1++(R0++RR (i+1) q.2.2)))
  (hf:(match Tryz.prog.funcs[f]? with | some fn=>!(fn.name == "runtime.NumGoroutine")&&fn.body.isSome | none=>false)=true):RM 82 #[.agg #[u0,v0,u1,v1,u2,v2,u3,v3,u4,v4,i6 (-1)],.func (.func f) #[] caps.toArray] w0 (MM 0 w0') (RR 0 w0') (A:=V10×Y) (fun q=>J 5 q.2) (fun q=>.agg #[q.1.a0,q.1.b0,q.1.a1,q.1.b1,q.1.a2,q.1.b2,q.1.a3,q.1.b3,q.1.a4,q.1.b4,i6 (-1)]) (fun q=>MM 5 q.2) (fun q=>shR (Z' 4) q.1.a4 q.1.b4++(shR (Z' 3) q.1.a3 q.1.b3++(shR (Z' 2) q.1.a2 q.1.b2++(shR (Z' 1) q.1.a1 q.1.b1++(shR (Z' 0) q.1.a0 q.1.b0++RR 5 q.2))))):=by
 refine enterM Tryz.func82 ?_
 obtain⟨h0,h1,h2,h3,h4,h5,h6,h7,h8,h9⟩:=hS.one
 refine rg (ba (fun g0=>?_))
 refine aa Tryz.zeroValue31 (fun g1=>en (rg (p1 .lw (ce (fun _ _ h=>stcop (hS.below h.m.below)) (fun x0 y0 x1 y1 x2 y2 x3 y3 x4 y4=>?_)))))
 refine osL 10 ?_
 iterate 20 intro
 refine sw 1 ?_
 refine en (se (rg (p1 .fa (pp (PR.ls [x0,y0,x1,y1,x2,y2,x3,y3,x4,y4]) (p1 .mv (en (bl (lr 6 (kL [(1,.func (.func f) #[] caps.toArray),(2,pt g0),(4,pt g1),(11,.agg #[x0,y0,x1,y1,x2,y2,x3,y3,x4,y4]),(12,i6 0)] ?_)))))))))
 refine un (r1 .lss (se (ct (sk (nN (se (bl (rg (p1 .mv (pp (PR.xl 0 [x0,y0]) (aa Tryz.zeroValue28 (fun g2=>p1 .as (sw 0 ?_)))))))))))))
 refine en (rg (p2 .fa .ld (pp (PR.to PR.eqi (v2:=.bool false) rfl) (p1 .as (en (se (r3 .fa .ld .gtr (cf (hb:=rfl) (sk (nN (rg0 (p5 .mv .mv .mv .lw .mv (fr [] [1,1] ?_)))))))))))))
 refine fx [] [] ([(g2,isB 28 #[x0,y0]),(g1,isB 31 #[nv,nv,nv,nv,nv,nv,nv,nv,nv,nv,i6 0]),(g0,isB 31 #[x0,y0,x1,y1,x2,y2,x3,y3,x4,y4,i6 (-1)])]++MM 0 w0') (shR (Z 0) x0 y0++([⟨x1,73,4,(Z 1).objs.length,(obs (Z 1).objs)⟩,⟨y1,3,1,(Z 1).fates.length,(nts (Z 1).fates)⟩,⟨x2,73,4,(Z 2).objs.length,(obs (Z 2).objs)⟩,⟨y2,3,1,(Z 2).fates.length,(nts (Z 2).fates)⟩,⟨x3,73,4,(Z 3).objs.length,(obs (Z 3).objs)⟩,⟨y3,3,1,(Z 3).fates.length,(nts (Z 3).fates)⟩,⟨x4,73,4,(Z 4).objs.length,(obs (Z 4).objs)⟩,⟨y4,3,1,(Z 4).fates.length,(nts (Z 4).fates)⟩]++RR 0 w0')) ?_
 refine cmF (args:=i6 ((0:Nat):Int) :: .agg #[x0,y0] :: .bool false::caps) (hc 0 w0' x0 y0 _ _ (by omega) hJ0) (fun⟨a0,b0,w1⟩ hj1=>?_) (hg:=hf)
 refine os 0 (fun oa0 ca0=>?_)
 refine os 1 (fun ob0 cb0=>?_)
 refine p1 .fa (pp (PR.ia 0) (sc 2 (cs:=#[a0,b0,x1,y1,x2,y2,x3,y3,x4,y4,i6 (-1)]) ?_))
 refine en0 (bN (nN (rg0 (pp (PR.ad 1) (p1 .mv (en0 (nN (kL [(1,.func (.func f) #[] caps.toArray),(2,pt g0),(4,pt g1),(11,.agg #[x0,y0,x1,y1,x2,y2,x3,y3,x4,y4]),(12,i6 1)] ?_))))))))
 refine un (r1 .lss (se (ct (sk (nN (se (bl (rg (p1 .mv (pp (PR.xl 1 [x1,y1]) (aa Tryz.zeroValue28 (fun g3=>p1 .as (sw 0 ?_)))))))))))))
 refine en (rg (p2 .fa .ld (pp (PR.to PR.eqi (v2:=.bool false) rfl) (p1 .as (en (se (r3 .fa .ld .gtr (cf (hb:=rfl) (sk (nN (rg0 (p5 .mv .mv .mv .lw .mv (fr [] [3,3] ?_)))))))))))))
 refine fx [] [] ([(g3,isB 28 #[x1,y1]),(g2,isB 28 #[x0,y0]),(g1,isB 31 #[nv,nv,nv,nv,nv,nv,nv,nv,nv,nv,i6 0]),(g0,isB 31 #[a0,b0,x1,y1,x2,y2,x3,y3,x4,y4,i6 (-1)])]++MM 1 w1) (shR (Z 1) x1 y1++([⟨a0,73,4,(Z' 0).objs.length,(obs (Z' 0).objs)⟩,⟨b0,3,1,(Z' 0).fates.length,(nts (Z' 0).fates)⟩,⟨x2,73,4,(Z 2).objs.length,(obs (Z 2).objs)⟩,⟨y2,3,1,(Z 2).fates.length,(nts (Z 2).fates)⟩,⟨x3,73,4,(Z 3).objs.length,(obs (Z 3).objs)⟩,⟨y3,3,1,(Z 3).fates.length,(nts (Z 3).fates)⟩,⟨x4,73,4,(Z 4).objs.length,(obs (Z 4).objs)⟩,⟨y4,3,1,(Z 4).fates.length,(nts (Z 4).fates)⟩]++RR 1 w1)) ?_
 refine cmF (args:=i6 ((1:Nat):Int) :: .agg #[x1,y1] :: .bool false::caps) (hc 1 w1 x1 y1 _ _ (by omega) hj1) (fun⟨a1,b1,w2⟩ hj2=>?_) (hg:=hf)
 refine os 0 (fun oa1 ca1=>?_)
 refine os 1 (fun ob1 cb1=>?_)
 refine p1 .fa (pp (PR.ia 1) (sc 3 (cs:=#[a0,b0,a1,b1,x2,y2,x3,y3,x4,y4,i6 (-1)]) ?_))
 refine en0 (bN (nN (rg0 (pp (PR.ad 2) (p1 .mv (en0 (nN (kL [(1,.func (.func f) #[] caps.toArray),(2,pt g0),(4,pt g1),(11,.agg #[x0,y0,x1,y1,x2,y2,x3,y3,x4,y4]),(12,i6 2)] ?_))))))))
 refine un (r1 .lss (se (ct (sk (nN (se (bl (rg (p1 .mv (pp (PR.xl 2 [x2,y2]) (aa Tryz.zeroValue28 (fun g4=>p1 .as (sw 0 ?_)))))))))))))
 refine en (rg (p2 .fa .ld (pp (PR.to PR.eqi (v2:=.bool false) rfl) (p1 .as (en (se (r3 .fa .ld .gtr (cf (hb:=rfl) (sk (nN (rg0 (p5 .mv .mv .mv .lw .mv (fr [] [5,5] ?_)))))))))))))
 refine fx [] [] ([(g4,isB 28 #[x2,y2]),(g3,isB 28 #[x1,y1]),(g2,isB 28 #[x0,y0]),(g1,isB 31 #[nv,nv,nv,nv,nv,nv,nv,nv,nv,nv,i6 0]),(g0,isB 31 #[a0,b0,a1,b1,x2,y2,x3,y3,x4,y4,i6 (-1)])]++MM 2 w2) (shR (Z 2) x2 y2++([⟨a1,73,4,(Z' 1).objs.length,(obs (Z' 1).objs)⟩,⟨b1,3,1,(Z' 1).fates.length,(nts (Z' 1).fates)⟩,⟨a0,73,4,(Z' 0).objs.length,(obs (Z' 0).objs)⟩,⟨b0,3,1,(Z' 0).fates.length,(nts (Z' 0).fates)⟩,⟨x3,73,4,(Z 3).objs.length,(obs (Z 3).objs)⟩,⟨y3,3,1,(Z 3).fates.length,(nts (Z 3).fates)⟩,⟨x4,73,4,(Z 4).objs.length,(obs (Z 4).objs)⟩,⟨y4,3,1,(Z 4).fates.length,(nts (Z 4).fates)⟩]++RR 2 w2)) ?_
 refine cmF (args:=i6 ((2:Nat):Int) :: .agg #[x2,y2] :: .bool false::caps) (hc 2 w2 x2 y2 _ _ (by omega) hj2) (fun⟨a2,b2,w3⟩ hj3=>?_) (hg:=hf)
 refine os 0 (fun oa2 ca2=>?_)
 refine os 1 (fun ob2 cb2=>?_)
 refine p1 .fa (pp (PR.ia 2) (sc 4 (cs:=#[a0,b0,a1,b1,a2,b2,x3,y3,x4,y4,i6 (-1)]) ?_))
 refine en0 (bN (nN (rg0 (pp (PR.ad 3) (p1 .mv (en0 (nN (kL [(1,.func (.func f) #[] caps.toArray),(2,pt g0),(4,pt g1),(11,.agg #[x0,y0,x1,y1,x2,y2,x3,y3,x4,y4]),(12,i6 3)] ?_))))))))
 refine un (r1 .lss (se (ct (sk (nN (se (bl (rg (p1 .mv (pp (PR.xl 3 [x3,y3]) (aa Tryz.zeroValue28 (fun g5=>p1 .as (sw 0 ?_)))))))))))))
 refine en (rg (p2 .fa .ld (pp (PR.to PR.eqi (v2:=.bool false) rfl) (p1 .as (en (se (r3 .fa .ld .gtr (cf (hb:=rfl) (sk (nN (rg0 (p5 .mv .mv .mv .lw .mv (fr [] [7,7] ?_)))))))))))))
 refine fx [] [] ([(g5,isB 28 #[x3,y3]),(g4,isB 28 #[x2,y2]),(g3,isB 28 #[x1,y1]),(g2,isB 28 #[x0,y0]),(g1,isB 31 #[nv,nv,nv,nv,nv,nv,nv,nv,nv,nv,i6 0]),(g0,isB 31 #[a0,b0,a1,b1,a2,b2,x3,y3,x4,y4,i6 (-1)])]++MM 3 w3) (shR (Z 3) x3 y3++([⟨a2,73,4,(Z' 2).objs.length,(obs (Z' 2).objs)⟩,⟨b2,3,1,(Z' 2).fates.length,(nts (Z' 2).fates)⟩,⟨a1,73,4,(Z' 1).objs.length,(obs (Z' 1).objs)⟩,⟨b1,3,1,(Z' 1).fates.length,(nts (Z' 1).fates)⟩,⟨a0,73,4,(Z' 0).objs.length,(obs (Z' 0).objs)⟩,⟨b0,3,1,(Z' 0).fates.length,(nts (Z' 0).fates)⟩,⟨x4,73,4,(Z 4).objs.length,(obs (Z 4).objs)⟩,⟨y4,3,1,(Z 4).fates.length,(nts (Z 4).fates)⟩]++RR 3 w3)) ?_
 refine cmF (args:=i6 ((3:Nat):Int) :: .agg #[x3,y3] :: .bool false::caps) (hc 3 w3 x3 y3 _ _ (by omega) hj3) (fun⟨a3,b3,w4⟩ hj4=>?_) (hg:=hf)
 refine os 0 (fun oa3 ca3=>?_)
 refine os 1 (fun ob3 cb3=>?_)
 refine p1 .fa (pp (PR.ia 3) (sc 5 (cs:=#[a0,b0,a1,b1,a2,b2,a3,b3,x4,y4,i6 (-1)]) ?_))
 refine en0 (bN (nN (rg0 (pp (PR.ad 4) (p1 .mv (en0 (nN (kL [(1,.func (.func f) #[] caps.toArray),(2,pt g0),(4,pt g1),(11,.agg #[x0,y0,x1,y1,x2,y2,x3,y3,x4,y4]),(12,i6 4)] ?_))))))))
 refine un (r1 .lss (se (ct (sk (nN (se (bl (rg (p1 .mv (pp (PR.xl 4 [x4,y4]) (aa Tryz.zeroValue28 (fun g6=>p1 .as (sw 0 ?_)))))))))))))
 refine en (rg (p2 .fa .ld (pp (PR.to PR.eqi (v2:=.bool false) rfl) (p1 .as (en (se (r3 .fa .ld .gtr (cf (hb:=rfl) (sk (nN (rg0 (p5 .mv .mv .mv .lw .mv (fr [] [9,9] ?_)))))))))))))
 refine fx [] [] ([(g6,isB 28 #[x4,y4]),(g5,isB 28 #[x3,y3]),(g4,isB 28 #[x2,y2]),(g3,isB 28 #[x1,y1]),(g2,isB 28 #[x0,y0]),(g1,isB 31 #[nv,nv,nv,nv,nv,nv,nv,nv,nv,nv,i6 0]),(g0,isB 31 #[a0,b0,a1,b1,a2,b2,a3,b3,x4,y4,i6 (-1)])]++MM 4 w4) (shR (Z 4) x4 y4++([⟨a3,73,4,(Z' 3).objs.length,(obs (Z' 3).objs)⟩,⟨b3,3,1,(Z' 3).fates.length,(nts (Z' 3).fates)⟩,⟨a2,73,4,(Z' 2).objs.length,(obs (Z' 2).objs)⟩,⟨b2,3,1,(Z' 2).fates.length,(nts (Z' 2).fates)⟩,⟨a1,73,4,(Z' 1).objs.length,(obs (Z' 1).objs)⟩,⟨b1,3,1,(Z' 1).fates.length,(nts (Z' 1).fates)⟩,⟨a0,73,4,(Z' 0).objs.length,(obs (Z' 0).objs)⟩,⟨b0,3,1,(Z' 0).fates.length,(nts (Z' 0).fates)⟩]++RR 4 w4)) ?_
 refine cmF (args:=i6 ((4:Nat):Int) :: .agg #[x4,y4] :: .bool false::caps) (hc 4 w4 x4 y4 _ _ (by omega) hj4) (fun⟨a4,b4,w5⟩ hj5=>?_) (hg:=hf)
 refine os 0 (fun oa4 ca4=>?_)
 refine os 1 (fun ob4 cb4=>?_)
 refine p1 .fa (pp (PR.ia 4) (sc 6 (cs:=#[a0,b0,a1,b1,a2,b2,a3,b3,a4,b4,i6 (-1)]) ?_))
 refine en0 (bN (nN ?_))
 refine rg0 (pp (PR.ad 5) (p1 .mv (en0 (nN (kL [(1,.func (.func f) #[] caps.toArray),(2,pt g0),(4,pt g1),(11,.agg #[x0,y0,x1,y1,x2,y2,x3,y3,x4,y4]),(12,i6 5)] (un (r1 .lss (se (cf (xt (nX (nX (bH (nN (rg (p1 .lw (sw 5 ?_)))))))))))))))))
 exact en (rt (rm (⟨a0,b0,a1,b1,a2,b2,a3,b3,a4,b4⟩,w5) hj5 su))
def insO (l:List Ob)(i:Nat)(o:Ob):List Ob:=l.take i++o::l.drop i
theorem insO_len {l:List Ob}{i:Nat}(o:Ob)(h:i<=l.length):(insO l i o).length=l.length+1:=by
 unfold insO
 rw[List.length_append,List.length_take,List.length_cons,List.length_drop];omega
theorem obs_take (l:List Ob)(i:Nat):(obs l).take (i*4)=obs (l.take i):=by
 induction l generalizing i with
 | nil=>simp[obs]
 | cons a l ih=>
  cases i with
  | zero=>simp[obs]
  | succ i=>
   rw[List.take_succ_cons]
   show(obC a++obs l).take ((i+1)*4)=obC a++obs (l.take i)
   rw[List.take_append,←ih i,List.take_of_length_le (by rw[obC_len];omega),obC_len]
   congr 2;omega
theorem obs_drop (l:List Ob)(i:Nat):(obs l).drop (i*4)=obs (l.drop i):=by
 induction l generalizing i with
 | nil=>simp[obs]
 | cons a l ih=>
  cases i with
  | zero=>simp[obs]
  | succ i=>
   rw[List.drop_succ_cons]
   show(obC a++obs l).drop ((i+1)*4)=obs (l.drop i)
   rw[List.drop_append,←ih i,List.drop_eq_nil_of_le (by rw[obC_len];omega),obC_len,List.nil_append]
   congr 1;omega
theorem obs_ins (l:List Ob)(i:Nat)(o:Ob):obs (insO l i o)=(obs l).take (i*4)++obC o++(obs l).drop (i*4):=by
 rw[obs_take,obs_drop]
 simp[insO,obs]
theorem spl_size {cur:Array Value}{o:Nat}{ys:List Value}(h:o+ys.length<=cur.size):(spl cur o ys).size=cur.size:=by
 unfold spl
 rw[List.size_toArray,List.length_append,List.length_append,List.length_take,List.length_drop,Array.length_toList];omega
theorem spl_mid {cur:Array Value}{o k:Nat}{ys:List Value}(h:o+ys.length<=k)(hk:k<=cur.size):(spl cur o ys).toList.take k=cur.toList.take o++ys++(cur.toList.take k).drop (o+ys.length):=by
 unfold spl
 have h1:(cur.toList.take o).length=o:=by rw[List.length_take,Array.length_toList];omega
 have h2:(cur.toList.take o++ys).length=o+ys.length:=by rw[List.length_append,h1]
 rw[List.toList_toArray,List.take_append,List.take_of_length_le (l:=cur.toList.take o++ys) (by omega),h2,List.drop_take]
theorem spl_front {cur:Array Value}{o:Nat}{ys:List Value}(h:o+ys.length<=cur.size):(spl cur o ys).toList.take (o+ys.length)=cur.toList.take o++ys:=by
 rw[spl_mid (Nat.le_refl _) h,List.drop_eq_nil_of_le (by rw[List.length_take];omega),List.append_nil]
theorem ins_grow {l:List Ob}{i c2:Nat}{o:Ob}{zs:List Value}{cur:Array Value}(hi:i<l.length)(h4:cur.toList.take (l.length*4)=obs l)(hz:zs.length=(c2-i)*4)(hc:l.length+1<=c2) :
  (spl (spl (cur.toList.take (i*4)++zs).toArray (0+i*4) (obC o)) (0+(i+1)*4) ((obs l).drop (i*4))).toList.take ((l.length+1)*4)=obs (insO l i o):=by
 have e1:cur.toList.take (i*4)=(obs l).take (i*4):=by rw[←h4,List.take_take,Nat.min_eq_left (by omega)]
 have h5:=obs_len l
 have h6:((obs l).take (i*4)).length=i*4:=by rw[List.length_take];omega
 have h7:((obs l).drop (i*4)).length=(l.length-i)*4:=by rw[List.length_drop];omega
 have hs:(cur.toList.take (i*4)++zs).toArray.size=c2*4:=by rw[List.size_toArray,e1,List.length_append,h6,hz];omega
 have ho:=obC_len o
 have hs2:=spl_size (cur:=(cur.toList.take (i*4)++zs).toArray) (o:=0+i*4) (ys:=obC o) (by omega)
 rw[obs_ins,show(l.length+1)*4=0+(i+1)*4+((obs l).drop (i*4)).length by omega,spl_front (by omega),show 0+(i+1)*4=0+i*4+(obC o).length by omega,spl_front (by omega),Nat.zero_add,List.toList_toArray,List.take_append_of_le_length (by rw[e1,h6];exact Nat.le_refl _),e1,List.take_of_length_le (by omega)]
theorem ins_room {l:List Ob}{i cap:Nat}{o:Ob}{cur:Array Value}(hi:i<l.length)(h4:cur.toList.take (l.length*4)=obs l)(h3:cur.size=cap*4)(hc:l.length+1<=cap) :
  (spl (spl cur (0+(i+1)*4) ((obs l).drop (i*4))) (0+i*4) (obC o)).toList.take ((l.length+1)*4)=obs (insO l i o):=by
 have h5:=obs_len l
 have ho:=obC_len o
 have h7:((obs l).drop (i*4)).length=(l.length-i)*4:=by rw[List.length_drop];omega
 have e1:cur.toList.take (i*4)=(obs l).take (i*4):=by rw[←h4,List.take_take,Nat.min_eq_left (by omega)]
 have hs2:=spl_size (cur:=cur) (o:=0+(i+1)*4) (ys:=(obs l).drop (i*4)) (by omega)
 have hA:(spl cur (0+(i+1)*4) ((obs l).drop (i*4))).toList.take ((l.length+1)*4)=cur.toList.take ((i+1)*4)++(obs l).drop (i*4):=by
  rw[show(l.length+1)*4=0+(i+1)*4+((obs l).drop (i*4)).length by omega,spl_front (by omega),Nat.zero_add]
 have h8:(cur.toList.take ((i+1)*4)).length=(i+1)*4:=by rw[List.length_take,Array.length_toList];omega
 have hB:(spl cur (0+(i+1)*4) ((obs l).drop (i*4))).toList.take (0+i*4)=(obs l).take (i*4):=by
  have:=congrArg (List.take (0+i*4)) hA
  rw[List.take_take,Nat.min_eq_left (by omega),List.take_append_of_le_length (by omega),List.take_take,Nat.min_eq_left (by omega),Nat.zero_add,e1] at this
  rw[Nat.zero_add];exact this
 rw[obs_ins,spl_mid (by omega) (by omega),hA,hB,ho,show 0+i*4+4=(i+1)*4 by omega,List.drop_append_of_le_length (by omega),List.drop_eq_nil_of_le (by omega),List.nil_append]
theorem ob_at {l:List Ob}{i:Nat}{cur:Array Value}(h4:cur.toList.take (l.length*4)=obs l){q:Nat}{v:Value}(h:((obs l).drop (i*4))[q]?=some v):cur[0+i*4+q]?=some v:=by
 rw[List.getElem?_drop,←h4,List.getElem?_take] at h
 split at h
 ·rw[Nat.zero_add,←Array.getElem?_toList];exact h
 ·cases h
theorem obC_src {o:Ob}{q:Nat}{v:Value}(h:(obC o)[q]?=some v):(obC o).toArray[0+q]?=some v:=by
 rw[Nat.zero_add,List.getElem?_toArray];exact h
theorem sins {w0:World}{M0:MT}{R0:List Rw}{gv i:Nat}{v:Value}{l:List Ob}{o:Ob}(hi:i<=l.length)(hn:l.length<2^36):RM 226 #[v,i6 (i:Int),.slice (some ⟨gv,0,none⟩) 1 1] w0 ((gv,isB 73 (obC o).toArray)::M0) (⟨v,73,4,l.length,obs l⟩::R0) (A:=Value) (fun _=>True) (fun u=>u) (fun _=>(gv,isB 73 (obC o).toArray)::M0) (fun u=>⟨u,73,4,l.length+1,obs (insO l i o)⟩::R0):=by
 refine enterM Tryz.func226 ?_
 refine os 0 (fun ov cv=>?_)
 have hll:=obs_len l
 have hoc:=obC_len o
 have ho1:=obC_one o
 have hl1:=obs_one l
 refine r1 .as ?_
 refine rg (p2 .mv .mv (pp (PR.sF (i:=i)) (en (r3 .mv .l0 .as (se (r2 .mv .eqi (cf (sk (nN (r3 .mv .lr .as (se (r3 .mv .mv .eqi (sd (fun he=>?_) (fun he=>?_))))))))))))))
 ·have he:i=l.length:=by omega
  refine rg (p2 .mv .mv (ap 0 (fun v0=>?_)))
  refine p1 .as (en (rt (nR (kL [(6,v0)] (rc 0 (l.length+1) (obs (insO l i o)) (hn:=rfl) (hx:=by rw[obs_ins,List.take_of_length_le (by omega),List.drop_eq_nil_of_le (by omega),List.append_nil]) (h:=?_))))))
  exact rm v0 trivial su
 ·have hlt:i<l.length:=by omega
  refine ob 0 (hn:=show 0<l.length by omega) (fun g cap cur hv h1 h2 h3 h4=>?_)
  subst hv
  refine sk (nN (se (rg (p2 .mv .mv (pp (PR.ad ((l.length+1:Nat):Int)) (p1 .mv (pp PR.cap (p1 .gtr (en (sd (fun hg=>?_) (fun hg=>?_)))))))))))
  ·skip
   refine rg (p2 .mv .mv (pp (PR.bT' i) (p2 .mv .mv (pp (PR.ad ((l.length+1:Nat):Int)) (p1 .mv (pp (PR.sb ((l.length+1-i:Nat):Int)) (agz 0 (l.length+1-i) (fun g2 c2 zs hc1 hc2 hz=>?_))))))))
   rw[show i+(l.length+1-i)=l.length+1 by omega] at hc1 ⊢
   have hcz:(cur.toList.take (i*4)++zs).toArray.size=c2*4:=by rw[List.size_toArray,List.length_append,hz,List.length_take,Array.length_toList,h3];omega
   refine p1 .as (en (rg (p2 .mv .mv (pp (PR.bF (m:=4) i) (p1 .mv ?_)))))
   have hcz2:(spl (cur.toList.take (i*4)++zs).toArray (0+i*4) (obC o)).size=_:=spl_size (cur:=(cur.toList.take (i*4)++zs).toArray) (o:=0+i*4) (ys:=obC o) (by omega)
   refine cpB 2 0 (obC o) ?_ (hc:=fun q v hq=>obC_src hq) (hl:=(by show _=min 1 (l.length+1-i)*4;omega)) (hfit:=by omega) (h1:=ho1)
   refine en (dts 8 [.slice (some ⟨g2,0,none⟩) (l.length+1) c2,i6 (i:Int),i6 1,i6 ((i+1:Nat):Int),.slice (some ⟨g2,0+(i+1)*4,none⟩) (l.length+1-(i+1)) (c2-(i+1)),.slice (some ⟨g,0,none⟩) l.length cap,i6 (i:Int),.slice (some ⟨g,0+i*4,none⟩) (l.length-i) (cap-i)] (ac (.mv tv) (ac (.mv tv) (ac (.mv tv) (ac (PR.ad (p:=i) (q:=1) ((i+1:Nat):Int) tv tv) (ac (PR.bF (m:=4) (i+1) (p:=((i+1:Nat):Int)) tv tv) (ac (.mv tv) (ac (.mv tv) (ac (PR.bF (m:=4) i (p:=i) tv tv) .nil)))))))) ?_)
   refine cpB 1 0 ((obs l).drop (i*4)) ?_ (hc:=fun q v hq=>ob_at h4 hq) (hl:=by show _=min (l.length-i) (l.length+1-(i+1))*4;rw[List.length_drop];omega) (hfit:=by rw[List.length_drop];omega) (h1:=fun u hu=>hl1 u (List.mem_of_mem_drop hu))
   refine en (r2 .mv .as (rt (nR (kL [(6,.slice (some ⟨g2,0,none⟩) (l.length+1) c2)] (rb 0 (n:=l.length+1) (m:=4) (obs (insO l i o)) ?_ (ins_grow hlt h4 hz hc1) hc1 hc2 (by rw[spl_size (by rw[hcz2,List.length_drop];omega),hcz2,hcz]))))))
   exact rm (.slice (some ⟨g2,0,none⟩) (l.length+1) c2) trivial su
  ·skip
   refine sk (nN (rg (p3 .mv .mv .mv ?_)))
   refine pp (PR.ad ((l.length+1:Nat):Int)) (pp (PR.bT' (l.length+1)) (p1 .as (en (se (rg (p4 .mv .mv .mv .mv (pp (PR.ad ((i+1:Nat):Int)) (pp (PR.bF (m:=4) (i+1)) (pp (PR.ov 1 0) (p1 .not (en (ct (dts 8 [.slice (some ⟨g,0,none⟩) (l.length+1) cap,i6 (i:Int),i6 1,i6 ((i+1:Nat):Int),.slice (some ⟨g,0+(i+1)*4,none⟩) (l.length+1-(i+1)) (cap-(i+1)),.slice (some ⟨g,0,none⟩) (l.length+1) cap,i6 (i:Int),.slice (some ⟨g,0+i*4,none⟩) ((l.length+1)-i) (cap-i)] (ac (.mv tv) (ac (.mv tv) (ac (.mv tv) (ac (PR.ad (p:=i) (q:=1) ((i+1:Nat):Int) tv tv) (ac (PR.bF (m:=4) (i+1) (p:=((i+1:Nat):Int)) tv tv) (ac (.mv tv) (ac (.mv tv) (ac (PR.bF (m:=4) i (p:=i) tv tv) .nil)))))))) ?_)))))))))))))
   refine cpB 0 0 ((obs l).drop (i*4)) ?_ (hc:=fun q v hq=>ob_at h4 hq) (hl:=by show _=min (l.length+1-i) (l.length+1-(i+1))*4;rw[List.length_drop];omega) (hfit:=by rw[List.length_drop];omega) (h1:=fun u hu=>hl1 u (List.mem_of_mem_drop hu))
   have hcz:=spl_size (cur:=cur) (o:=0+(i+1)*4) (ys:=(obs l).drop (i*4)) (by rw[List.length_drop];omega)
   refine en (rg (p2 .mv .mv (pp (PR.bF (m:=4) i) (p1 .mv (cpB 1 0 (obC o) ?_ (hc:=fun q v hq=>obC_src hq) (hl:=(by show _=min 1 (l.length+1-i)*4;omega)) (hfit:=by omega) (h1:=ho1))))))
   refine en (r2 .mv .as (rt (nR (kL [(6,.slice (some ⟨g,0,none⟩) (l.length+1) cap)] (rb 0 (n:=l.length+1) (m:=4) (obs (insO l i o)) ?_ (ins_room hlt h4 h3 (by omega)) (by omega) h2 (by rw[spl_size (by rw[hcz];omega),hcz,h3]))))))
   exact rm (.slice (some ⟨g,0,none⟩) (l.length+1) cap) trivial su
theorem cur_at {l:List Ob}{cur:Array Value}(h4:cur.toList.take (l.length*4)=obs l){k:Nat}{v:Value}(h:(obs l)[k]?=some v):cur[k]?=some v:=by
 rw[←h4,List.getElem?_take] at h
 split at h
 ·rw[←Array.getElem?_toList];exact h
 ·cases h
theorem obs_set (l:List Ob)(i:Nat)(o:Ob)(hi:i<l.length):obs (l.set i o)=(obs l).take (i*4)++obC o++(obs l).drop ((i+1)*4):=by
 rw[obs_take,obs_drop,List.set_eq_take_append_cons_drop,if_pos hi]
 simp[obs]
theorem put_set {l:List Ob}{i cap:Nat}{o:Ob}{cur:Array Value}(hi:i<l.length)(h4:cur.toList.take (l.length*4)=obs l)(h3:cur.size=cap*4)(hc:l.length<=cap):(splQ cur (i*4) (obC o)).toList.take (l.length*4)=obs (l.set i o)/\(splQ cur (i*4) (obC o)).size=cap*4:=by
 have ho:=obC_len o
 have e1:cur.toList.take (i*4)=(obs l).take (i*4):=by rw[←h4,List.take_take,Nat.min_eq_left (by omega)]
 have h5:splQ cur (i*4) (obC o)=spl cur (i*4) (obC o):=rfl
 rw[h5,obs_set l i o hi,spl_mid (by omega) (by omega),h4,ho,e1,spl_size (by omega),show i*4+4=(i+1)*4 by omega]
 exact⟨rfl,h3⟩
def putT (s:Shf)(nm da:List UInt8):Tele:=.row 73 4 (putO s.objs nm da).length (obs (putO s.objs nm da)) fun x=>.row 3 1 s.fates.length (nts s.fates) fun y=>.ret (.tuple #[.agg #[x,y],i6 0])
theorem sput {u v:Value}{s:Shf}{w:World}{nm da:List UInt8}(hS:ShfIn w u v s)(hf:s.fates = [])(hk:askS s.objs nm=0)(hd:da.length<=65536):RT 159 #[.agg #[u,v],sv nm,sv da] w (putT s nm da):=by
 refine enter Tryz.func159 ?_
 have o1:=hS.one
 have hlen:=hS.ho
 refine rg (ba (fun g0=>?_))
 refine aa Tryz.zeroValue28 (fun g1=>p1 .as (en (rg (p1 .lw (ce (fun _ _ h=>scop (hS.below h.m.below)) (fun x y=>?_))))))
 refine os 0 (fun ox cx=>?_)
 refine os 1 (fun oy cy=>?_)
 refine sw 1 ?_
 refine en (rg (p2 .lw .mv (cl (fun _ _ h=>hk▸sasked nm ⟨h.s 0,h.s 1,hS.ho,hS.hf⟩) (p1 .as (en (se (rg (p3 .mv .eqi .mv (gTt (hp:=PR.mv) ?_)))))))))
 refine gTt (hp:=PR.ln) ?_
 refine gTt (hp:=PR.gtr) ?_
 refine p1 .pand (en (cf (sk (nN (se (r2 .mv .nei (cf (sk (nN ?_)))))))))
 have htk:(.tuple #[.agg #[x,tkV s y],i6 (s.fates.headD 0)]:Value) = .tuple #[.agg #[x,y],i6 0]:=by rw[tkV,if_pos (by rw[hf];rfl),hf];rfl
 refine rg (p1 .lw (cl (fun _ _ h=>htk▸staken ⟨h.s 0,h.s 1,hS.ho,hS.hf⟩) (p3 .mv .ext .ext (sw 1 ?_))))
 refine p1 .as (en ?_)
 refine se (r1 .mv (bl (se (bl (se (bl (se (bl (se (bl (se (se (r2 .eqi .as ?_)))))))))))))
 refine cf (sk (nN (se (se (r2 .eqi .as (cf (rg0 (p2 .eqi .as (en0 (nN (cf (sk (nN ?_)))))))))))))
 refine r2 .eqi .as (cf (sk (nN (xt (bX (nX (bX (nX (bX (nX (bH (nN (se (rg (p2 .lw .mv (cl (fun _ _ h=>sfind nm ⟨h.s 0,h.s 1,hS.ho,hS.hf⟩) (p5 .mv .ext .ext .as .as (en (se (r1 .mv (cs (fun hb=>?_) (fun hb=>?_))))))))))))))))))))))
 ·have hFl:=findB_lt hb
  generalize hOO:s.objs.getD (findI s.objs nm) noOb=O
  have hO:s.objs[findI s.objs nm]?=some O:=by rw[←hOO];exact getD_at hFl
  have hP:putT s nm da = .row 73 4 s.objs.length (obs (s.objs.set (findI s.objs nm) ⟨nm,da,O.da,true⟩)) fun x=>.row 3 1 s.fates.length (nts s.fates) fun y=>.ret (.tuple #[.agg #[x,y],i6 0]):=by unfold putT putO;rw[if_pos hb,List.length_set,hOO]
  rw[hP]
  refine ob 0 (hn:=show 0<s.objs.length by omega) (fun g cap cur hv h1 h2 h3 h4=>?_)
  subst hv
  refine dr [_,_,_,_,_,_,_,_,_,_,_,_,_,.any] [] [⟨13,_,_,_,findI s.objs nm*4,.val (.agg #[sv nm,sv da,sv O.da,.bool true])⟩] [0] [] ⟨rfl,trivial⟩ (fun Bs=>⟨kv (oP (PR.fa ez)),kv (oP (PR.ld ed (mk' 2))),kv (oP (PR.mv ez)),kv (oP (PR.mv ez)),kv (oP (PR.mv ez)),kv (oP (PR.fa ez)),kv (oP (PR.ld ed (mk' 2))),kv (oP (PR.mv ez)),kv (oP (PR.ib (m:=4) (findI s.objs nm) ed ed)),kv (oP (PR.fq ed)),kv (oP (PR.lc (v:=sv O.da) (cur_at h4 (obs_at hO 1 rfl)) ed (MB.ox 0 rfl (by kernel_rfl)))),kv (oP (PR.bd #[sv nm,sv da,sv O.da,.bool true])),kv (oP (PR.ib (m:=4) (findI s.objs nm) ed ed)),ks 0 (hz:=by show findI s.objs nm*4+4<=cur.size;omega),trivial⟩) ?_
  obtain⟨h5,h6⟩:=put_set (o:=⟨nm,da,O.da,true⟩) hFl h4 h3 h1
  refine rb 0 (n:=s.objs.length) (m:=4) (obs (s.objs.set (findI s.objs nm) ⟨nm,da,O.da,true⟩)) ?_ h5 h1 h2 h6
  refine xt (nX (nX (bH (nN (rg (p1 .lw (sw 0 ?_)))))))
  exact p1 .as (en (rt (et [0,1])))
 ·have hP:putT s nm da = .row 73 4 (s.objs.length+1) (obs (insO s.objs (findI s.objs nm) ⟨nm,da,[],false⟩)) fun x=>.row 3 1 s.fates.length (nts s.fates) fun y=>.ret (.tuple #[.agg #[x,y],i6 0]):=by unfold putT putO;rw[if_neg (by simp[hb]),←insO_len ⟨nm,da,[],false⟩ (findI_le s.objs nm)];rfl
  rw[hP]
  refine sk (nN (rg0 (p5 .fa .ld .mv .mv .mv (pp (PR.bd #[sv nm,sv da,.string ⟨#[]⟩,.bool false]) (bs #[sv nm,sv da,.string ⟨#[]⟩,.bool false] (fun g2=>?_))))))
  refine cm (sins (o:=⟨nm,da,[],false⟩) (i:=findI s.objs nm) (l:=s.objs) (findI_le _ _) hS.ho) (fun x2 _=>?_)
  refine os 0 (fun ox2 cx2=>?_)
  refine p1 .fa (s1 2 (cs:=#[x2,y]) ?_)
  refine en0 (nN (xt (bH (nN (rg (p1 .lw (sw 1 ?_)))))))
  exact p1 .as (en (rt (et [0,1])))
def pShf (z:Shf)(nm da:List UInt8):Shf:=⟨putO z.objs nm da,z.fates⟩
structure PutOk (z:Shf)(nm da:List UInt8):Prop where
 ho:z.objs.length<2^36
 hf:z.fates = []
 hk:askS z.objs nm=0
 hd:da.length<=65536
def TellW (fd:FuncId)(dcaps:List Value)(Mx:MT)(da:Nat->List UInt8):Prop:=∀ W,(∀ x∈Mx,∃ ob,W.heap[x.1]?=some ob/\x.2 ob)->∀ i:Nat,i<5->RV fd (Value.int .i64 (i:Int)::dcaps).toArray W (sv (da i))
abbrev funOk (f:FuncId):Prop:=(match Tryz.prog.funcs[f]? with | some fn=>!(fn.name == "runtime.NumGoroutine")&&fn.body.isSome | none=>false)=true
theorem pacl {w0:World}{Mx:MT}{R0:List Rw}{g4 g5 g8 i:Nat}{a b:Value}{z:Shf}{nm:List UInt8}{da:Nat->List UInt8}{fd:FuncId}{dcaps:List Value}{Y:Type}(J:Y->Prop)(u:Y)(hJ:∀ u,J u)(hi:i<5)(hp:PutOk z nm (da i))(hd:TellW fd dcaps Mx da)(hg:funOk fd):RM 158 #[i6 (i:Int),.agg #[a,b],.bool false,pt g4,pt g5,pt g8] w0 ((g8,isB 52 #[i6 0])::(g5,isB 135 #[.func (.func fd) #[] dcaps.toArray])::(g4,isB 9 #[sv nm])::Mx) (shR z a b++R0) (A:=Value×Value×Y) (fun q=>J q.2.2) (fun q=>.agg #[q.1,q.2.1]) (fun _=>(g8,isB 52 #[i6 0])::(g5,isB 135 #[.func (.func fd) #[] dcaps.toArray])::(g4,isB 9 #[sv nm])::Mx) (fun q=>shR (pShf z nm (da i)) q.1 q.2.1++R0):=by
 refine enterM Tryz.func158 ?_
 refine os 0 (fun oa ca=>?_)
 refine os 1 (fun ob cb=>?_)
 refine rg (ba (fun g0=>?_))
 refine aa Tryz.zeroValue28 (fun g1=>en (r1 .as (se (r2 .mv .not (ct (dr0 [_,_,_,_,_,.tel [73,3] (.row 73 4 (putO z.objs nm (da i)).length (obs (putO z.objs nm (da i))) fun x=>.row 3 1 z.fates.length (nts z.fates) fun y=>.ret (.tuple #[.agg #[x,y],i6 0])),.tel [73,3] (.row 73 4 (putO z.objs nm (da i)).length (obs (putO z.objs nm (da i))) fun x=>.row 3 1 z.fates.length (nts z.fates) fun y=>.ret (.tuple #[.agg #[x,y],i6 0])),.tel [73,3] (.row 73 4 (putO z.objs nm (da i)).length (obs (putO z.objs nm (da i))) fun x=>.row 3 1 z.fates.length (nts z.fates) fun y=>.ret (.agg #[x,y])),_,.any,_] [] [⟨9,_,_,_,0,.tel [73,3] (.row 73 4 (putO z.objs nm (da i)).length (obs (putO z.objs nm (da i))) fun x=>.row 3 1 z.fates.length (nts z.fates) fun y=>.ret (.agg #[x,y]))⟩] [1] [10] ⟨rfl,trivial⟩ (fun Bs=>⟨kv (oP (PR.lw ez (MB.ox 0 rfl (by kernel_rfl)))),kv (oP (PR.ld ez (mk' 4))),kv (oP (PR.ld ez (mk' 3))),kv (oP (PR.mv ez)),kv (oCF (fun a W h=>hd W (fun x hx=>by obtain⟨k,hk⟩:=List.mem_iff_getElem?.1 hx;exact h.mem (k+5) x.1 x.2 (by simpa using hk) (js1 (by omega))) i hi) ed (.cons ed .nil) hg),kv (oE (fun _ _ h=>h.size) (fun _ _ h=>sput ⟨h.rows _ (List.mem_cons_self ..),h.rows _ (List.mem_cons_of_mem _ (List.mem_cons_self ..)),hp.ho,by rw[hp.hf];decide⟩ hp.hf hp.hk hp.hd) (.cons ed (.cons ed (.cons ed .nil)))),kv (oM .move (.inl rfl)),kv oX0,kv oX1,ks 0,kv (oP (PR.as ed)),trivial⟩) (fun x y=>?_)))))))
 refine kM 1 #[x,y] ?_
 refine os 0 (fun ox cx=>?_)
 refine os 1 (fun oy cy=>?_)
 refine nN (se (r2 .ld .eqi (ct (rg0 (p1 .mv (s1 2 (cs:=#[i6 0]) ?_))))))
 refine en0 (nN (rg (p1 .lw (sw 0 ?_))))
 exact en (rt (kL [(9,pt g1)] (rm (x,y,u) (hJ u) su)))
theorem TellW.mono {fd:FuncId}{dcaps:List Value}{Mx My:MT}{da:Nat->List UInt8}(h:TellW fd dcaps Mx da)(hs:∀ x∈Mx,x∈My):TellW fd dcaps My da:=fun W hW=>h W fun x hx=>hW x (hs x hx)
abbrev pZ (Z:Nat->Shf)(nm:List UInt8)(da:Nat->List UInt8)(i:Nat):Shf:=pShf (Z i) nm (da i)
theorem putall {w0:World}{Mx:MT}{R0:List Rw}{u0 v0 u1 v1 u2 v2 u3 v3 u4 v4:Value}{Z:Nat->Shf}{nm:List UInt8}{da:Nat->List UInt8}{fd:FuncId}{dcaps:List Value}(hS:StoIn w0 u0 v0 u1 v1 u2 v2 u3 v3 u4 v4 (Z 0) (Z 1) (Z 2) (Z 3) (Z 4))(hp:∀ i,i<5->PutOk (Z i) nm (da i))(hd:TellW fd dcaps Mx da)(hg:funOk fd):RM 100 #[.agg #[u0,v0,u1,v1,u2,v2,u3,v3,u4,v4,i6 (-1)],sv nm,.func (.func fd) #[] dcaps.toArray] w0 Mx R0 (A:=V10) (fun _=>True) (fun q=>.tuple #[.agg #[q.a0,q.b0,q.a1,q.b1,q.a2,q.b2,q.a3,q.b3,q.a4,q.b4,i6 (-1)],i6 0]) (fun _=>Mx) (fun q=>shR (pZ Z nm da 4) q.a4 q.b4++(shR (pZ Z nm da 3) q.a3 q.b3++(shR (pZ Z nm da 2) q.a2 q.b2++(shR (pZ Z nm da 1) q.a1 q.b1++(shR (pZ Z nm da 0) q.a0 q.b0++R0))))):=by
 refine enterM Tryz.func100 ?_
 obtain⟨h0,h1,h2,h3,h4,h5,h6,h7,h8,h9⟩:=hS.one
 refine rg (ba (fun g0=>?_))
 refine b1 (fun g1=>?_)
 refine b1 (fun g2=>?_)
 refine aa Tryz.zeroValue31 (fun g3=>p1 .as (en (rg (a1 Tryz.zeroValue52 (fun g4=>?_)))))
 refine s1 0 (cs:=#[i6 0]) ?_
 refine en (rg (p1 .lw (pp PR.mk (fr [2,3,3] [] ?_))))
 refine cm (sall (Y:=Unit) Z (pZ Z nm da) (fun _ _=>((g4,isB 52 #[i6 0])::(g2,isB 135 #[.func (.func fd) #[] dcaps.toArray])::(g1,isB 9 #[sv nm])::(g3,isB 31 #[nv,nv,nv,nv,nv,nv,nv,nv,nv,nv,i6 0])::(g0,isB 31 #[u0,v0,u1,v1,u2,v2,u3,v3,u4,v4,i6 (-1)])::Mx)) (fun _ _=>R0) (fun _ _=>True) () trivial hS (fun i y a b M1 R1 hi _=>RM.mid (M:=((g4,isB 52 #[i6 0])::(g2,isB 135 #[.func (.func fd) #[] dcaps.toArray])::(g1,isB 9 #[sv nm])::(g3,isB 31 #[nv,nv,nv,nv,nv,nv,nv,nv,nv,nv,i6 0])::(g0,isB 31 #[u0,v0,u1,v1,u2,v2,u3,v3,u4,v4,i6 (-1)])::Mx)) (pacl (Mx:=((g3,isB 31 #[nv,nv,nv,nv,nv,nv,nv,nv,nv,nv,i6 0])::(g0,isB 31 #[u0,v0,u1,v1,u2,v2,u3,v3,u4,v4,i6 (-1)])::Mx)++M1) (R0:=R0++R1) (fun _:Unit=>True) () (fun _=>trivial) hi (hp i hi) (hd.mono fun x hx=>List.mem_append_left _ (List.mem_cons_of_mem _ (List.mem_cons_of_mem _ (hx)))) hg)) (by kernel_rfl)) (fun⟨q,_⟩ _=>?_)
 refine osL 10 ?_
 iterate 20 intro
 refine sw 4 ?_
 refine en (dr [_,_,.any,_] [] [⟨2,_,_,_,0,.val (.agg #[q.a0,q.b0,q.a1,q.b1,q.a2,q.b2,q.a3,q.b3,q.a4,q.b4,i6 (-1)])⟩] [3] [7] ⟨rfl,trivial⟩ (fun Bs=>⟨kv (oP (PR.lw ez (mk' 4))),kv (oP (PR.ld ez (mk' 0))),ks 0,kv (oP (PR.as ed)),trivial⟩) ?_)
 exact rt (kL [(6,pt g3),(7,i6 0)] (rm q trivial su))
theorem spmayput {nm da:List UInt8}{w:World}(hn:1<=nm.length/\nm.length<=100)(hd:da.length<=65536):RV 96 #[sv nm,sv da] w (i6 0):=by
 refine enter Tryz.func96 ?_
 refine r1 .as (se (rg (p1 .mv ?_)))
 exact cl (fun _ _ h=>spmay nm _) (p1 .not (en (cf (hb:=(by rw[decide_eq_true hn];rfl)) (sk (nN (se (r3 .mv .ln .gtr (cf (sk (nN (r1 .as (rt (q1 rfl)))))))))))))
theorem post1 {g:Nat}{da:List UInt8}{Mx:MT}(hm:(g,isB 9 #[sv da])∈Mx):TellW 139 [pt g] Mx fun _=>da:=by
 intro W hW i _
 have hB:Blk W g 9 #[sv da]:=blk_of (hW _ hm)
 refine enter Tryz.func139 ?_
 exact r1 .as (rg (pp (PR.ld (cs:=#[sv da]) (hm:=MB.w0 hB)) (p1 .as (en (rt (q1 rfl))))))
theorem spost {w0:World}{u0 v0 u1 v1 u2 v2 u3 v3 u4 v4:Value}{Z:Nat->Shf}{nm da:List UInt8}(hS:StoIn w0 u0 v0 u1 v1 u2 v2 u3 v3 u4 v4 (Z 0) (Z 1) (Z 2) (Z 3) (Z 4))(hp:∀ i,i<5->PutOk (Z i) nm da)(hn:1<=nm.length/\nm.length<=100)(hl:da.length<=65536):RT 77 #[.agg #[u0,v0,u1,v1,u2,v2,u3,v3,u4,v4,i6 (-1)],sv nm,sv da] w0 (stZ (pZ Z nm (fun _=>da)) fun a b c d e f g h i j=>.ret (.tuple #[.agg #[a,b,c,d,e,f,g,h,i,j,i6 (-1)],i6 0])):=by
 refine enter Tryz.func77 ?_
 obtain⟨h0,h1,h2,h3,h4,h5,h6,h7,h8,h9⟩:=hS.one
 refine rg (ba (fun g0=>?_))
 refine b1 (fun g1=>?_)
 refine aa Tryz.zeroValue31 (fun g2=>p1 .as (en ?_))
 refine se (rg (p2 .mv .ld (cl (fun _ _ h=>spmayput hn hl) (p1 .as (en (r2 .mv .nei (cf (sk (nN (rg (p2 .lw .mv (pp PR.mk (cm (putall (Z:=Z) (da:=fun _=>da) (fd:=139) (dcaps:=[pt g1]) hS hp (post1 mm) (by show _=true;kernel_rfl)) (fun q _=>?_))))))))))))))
 refine osL 10 ?_
 iterate 20 intro
 refine p2 .ext .ext (sw 0 ?_)
 exact p1 .as (en (rt (et [8,9,6,7,4,5,2,3,0,1])))
structure NmOk (z:Shf):Prop where
 ho:z.objs.length<1000
 hf:z.fates = []
 hk:chkS z.objs=0
def accN (Z:Nat->Shf)(p:List UInt8):Nat->List (List UInt8)
 | 0=>[]
 | i+1=>accN Z p i++nmS (Z i).objs p
theorem accN_le {Z:Nat->Shf}(h:∀ i,i<5->NmOk (Z i))(p:List UInt8):∀ i,i<=5->(accN Z p i).length<=i*1000
 | 0,_=>Nat.zero_le _
 | i+1,hi=>by
  have h1:=accN_le h p i (by omega)
  have h2:=nmS_le (Z i).objs p
  have h3:=(h i (by omega)).ho
  rw[accN,List.length_append];omega
theorem txs_one (l:List (List UInt8)):∀ u∈txs l,u.oneCell'=true:=fun u hu=>by
 obtain⟨s,_,rfl⟩:=List.mem_map.1 hu
 rfl
def nmA (Z:Nat->Shf)(p:List UInt8):List (List UInt8):=Lib.compact (srt (accN Z p 5))
theorem nacl {w0:World}{Mx:MT}{R0:List Rw}{gp gf ge gl:Nat}{i:Int}{a b v:Value}{z:Shf}{p:List UInt8}{acc:List (List UInt8)}(hz:NmOk z)(hA:acc.length<=5000):RM 83 #[i6 i,.agg #[a,b],.bool false,pt gp,pt gf,pt ge,pt gl] w0 ((gl,isB 48 #[v])::(ge,isB 3 #[i6 0])::(gf,isB 9 #[sv p])::(gp,isB 4 #[.bool true])::Mx) (shR z a b++(⟨v,9,1,acc.length,txs acc⟩::R0)) (A:=Value×Value×Value) (fun _=>True) (fun q=>.agg #[q.1,q.2.1]) (fun q=>(gl,isB 48 #[q.2.2])::(ge,isB 3 #[i6 0])::(gf,isB 9 #[sv p])::(gp,isB 4 #[.bool true])::Mx) (fun q=>shR z q.1 q.2.1++(⟨q.2.2,9,1,(acc++nmS z.objs p).length,txs (acc++nmS z.objs p)⟩::R0)):=by
 refine enterM Tryz.func83 ?_
 refine osL 3 ?_
 iterate 6 intro
 refine rg (ba (fun g0=>?_))
 refine aa Tryz.zeroValue28 (fun g1=>en (se (r1 .mv (cf (sk (nN (rg (p2 .lw .ld (ce (fun _ _ h=>snames p ⟨h.s 0,h.s 1,by have:=hz.ho;omega,by rw[hz.hf];decide⟩ hz.hf hz.hk) (fun x y n=>?_))))))))))
 refine osL 3 ?_
 iterate 6 intro
 refine p4 .mv .ext .ext .ext (sw 1 ?_)
 refine p2 .as .as (en (se (r2 .mv .nei (cf (sk (nN (rg (p2 .ld .mv ?_))))))))
 have hle:=nmS_le z.objs p
 have hlz:=hz.ho
 refine apR 5 2 (fun v2=>?_) (h1:=txs_one _)
 refine os 5 (fun o2 _=>?_)
 refine s1 2 (cs:=#[v2]) ?_
 refine en (rg (p1 .lw (sw 0 ?_)))
 refine en (rt (kL [(10,pt g1)] (rc 5 (acc++nmS z.objs p).length (txs (acc++nmS z.objs p)) (hn:=by rw[List.length_append]) (hx:=by simp[txs]) (h:=?_))))
 exact rm (x,y,v2) trivial su
theorem spnames {w0:World}{u0 v0 u1 v1 u2 v2 u3 v3 u4 v4:Value}{Z:Nat->Shf}(p:List UInt8)(hS:StoIn w0 u0 v0 u1 v1 u2 v2 u3 v3 u4 v4 (Z 0) (Z 1) (Z 2) (Z 3) (Z 4))(hz:∀ i,i<5->NmOk (Z i)):RT 32 #[.agg #[u0,v0,u1,v1,u2,v2,u3,v3,u4,v4,i6 (-1)],sv p] w0 (stZ Z fun a b c d e f g h i j=>.row 9 1 (nmA Z p).length (txs (nmA Z p)) fun n=>.ret (.tuple #[.agg #[a,b,c,d,e,f,g,h,i,j,i6 (-1)],n,i6 0])):=by
 refine enter Tryz.func32 ?_
 obtain⟨h0,h1,h2,h3,h4,h5,h6,h7,h8,h9⟩:=hS.one
 refine rg (ba (fun g0=>?_))
 refine b1 (fun g1=>?_)
 refine aa Tryz.zeroValue31 (fun g2=>p2 .as .as (en (rg (a1 Tryz.zeroValue48 (fun g3=>?_)))))
 refine en (rg (a1 Tryz.zeroValue3 (fun g4=>?_)))
 refine a1 Tryz.zeroValue4 (fun g5=>?_)
 refine s1 1 (cs:=#[i6 0]) ?_
 refine s1 0 (cs:=#[.bool true]) ?_
 refine en (rg (p1 .lw (pp PR.mk (nr 9 1 ?_))))
 refine fr [3,2,4,0] [] ?_
 refine cm (sall (Y:=Value) Z Z (fun _ y=>(g3,isB 48 #[y])::(g4,isB 3 #[i6 0])::(g1,isB 9 #[sv p])::(g5,isB 4 #[.bool true])::(g2,isB 31 #[nv,nv,nv,nv,nv,nv,nv,nv,nv,nv,i6 0])::(g0,isB 31 #[u0,v0,u1,v1,u2,v2,u3,v3,u4,v4,i6 (-1)]) :: []) (fun i y=>[⟨y,9,1,(accN Z p i).length,txs (accN Z p i)⟩]) (fun _ _=>True) (nv) trivial hS (fun i y a b M1 R1 hi _=>RM.mid (M:=(g3,isB 48 #[y])::(g4,isB 3 #[i6 0])::(g1,isB 9 #[sv p])::(g5,isB 4 #[.bool true])::(g2,isB 31 #[nv,nv,nv,nv,nv,nv,nv,nv,nv,nv,i6 0])::(g0,isB 31 #[u0,v0,u1,v1,u2,v2,u3,v3,u4,v4,i6 (-1)]) :: []) (MM:=fun q:Value×Value×Value=>(g3,isB 48 #[q.2.2])::(g4,isB 3 #[i6 0])::(g1,isB 9 #[sv p])::(g5,isB 4 #[.bool true])::(g2,isB 31 #[nv,nv,nv,nv,nv,nv,nv,nv,nv,nv,i6 0])::(g0,isB 31 #[u0,v0,u1,v1,u2,v2,u3,v3,u4,v4,i6 (-1)]) :: []) (R:=[⟨y,9,1,(accN Z p i).length,txs (accN Z p i)⟩]) (RR:=fun q:Value×Value×Value=>[⟨q.2.2,9,1,(accN Z p (i+1)).length,txs (accN Z p (i+1))⟩]) (nacl (Mx:=(g2,isB 31 #[nv,nv,nv,nv,nv,nv,nv,nv,nv,nv,i6 0])::(g0,isB 31 #[u0,v0,u1,v1,u2,v2,u3,v3,u4,v4,i6 (-1)])::M1) (R0:=R1) (hz i hi) (by have:=accN_le hz p i (by omega);omega))) (by kernel_rfl)) (fun⟨q,y⟩ _=>?_)
 refine osL 11 ?_
 iterate 22 intro
 refine sw 5 ?_
 refine en (se (r2 .ld .not (cf (sk (nN (se (r2 .ld .geq (cf (sk (nN (rg (p1 .ld (fr [] [10] ?_)))))))))))))
 have hle:=accN_le hz p 5 (by omega)
 refine cm (sortR (by omega)) (fun _ _=>?_)
 refine rc 0 (srt (accN Z p 5)).length (txs (srt (accN Z p 5))) (hn:=(srt_len _).symm) (hx:=rfl) (h:=?_)
 refine en (drC 5 0 4 (RR:=fun u=>⟨u,9,1,(nmA Z p).length,txs (nmA Z p)⟩::shR (Z 4) q.a4 q.b4++(shR (Z 3) q.a3 q.b3++(shR (Z 2) q.a2 q.b2++(shR (Z 1) q.a1 q.b1++(shR (Z 0) q.a0 q.b0 ++ []))))) (fun u=>?_) (fun M'=>compR (by rw[srt_len];omega)) (h1c:=by refine allA ?_;repeat (first | exact oneN | refine oneC (by first | rfl | assumption) ?_)))
 exact rt (et [9,10,7,8,5,6,3,4,1,2,0])
end Go.Proofs.YtdjholkjkbihmaaGreatDoor
