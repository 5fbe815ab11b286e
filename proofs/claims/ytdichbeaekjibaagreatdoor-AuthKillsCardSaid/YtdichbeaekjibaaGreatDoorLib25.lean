import Derived.Test.YtdichbeaekjibaaGreatDoorLib24
set_option linter.all false
namespace Hud
open Go
section
def kd:List Int:=[6,4,3,2,5,7,8,3,6,9,11,11,13,12,10,4,3,2,6,13]
def Nr (n:Nat):Int:=kd.getD (n%20) 0
section
variable {G:Nat→Option (List AV)}
set_option maxHeartbeats 4000000
def Z6 (n:Nat) (hn:n<9223372036854775807):aC PQ G E1 [iv n] [] λr T=>r=iv (Nr n)∧T=[]:=by
 refine aD MY (by decide) ?_;have e1:(n:Int).tmod 20=((n%20:Nat):Int):=by
  rw [Tt (by omega)];omega
 have hl:n%20<kd.length:=vF _ (by decide);have g0:(kd.map λn=>[iv n])[n%20]?=some [iv (Nr n)]:=by
  rw [lO,Nr,uW,nQ hl];rfl
 simp only [kd,fE,mE] at g0;have hl2:n%20<20:=hl;simp only [go_sem,e1,g0,hl2]
def Z7 (n:Nat):kZ (Nr n):=by
 have h1:∀ m∈kd,kZ m:=by unfold kZ;decide
 have hl:n%20<kd.length:=vF _ (by decide);refine h1 _ ?_;rw [Nr,uW,nQ hl];exact iN _
def aFm (i:Nat):BoxM:=⟨1,1,i,1⟩
def xQ (n:Nat):List BoxM:=(List.range n).map aFm
def XE (n:Nat):xQ (n+1)=xQ n++[aFm n]:=by simp [xQ,Pe]
def Gg (n:Nat) (hn:n≤1000):aC PQ G wU [iv n] [] λr T=>r=De (xQ n)∧T=[]:=by
 refine aC.fin (p:=λr T=>r=.own 0∧T=[some (.arr 4 ((xQ n).map BoxM.A))]) (aD Ma (by decide) ?_) [0] ?_;rotate_left
 ·rintro r T' ⟨rfl,rfl⟩;simp only [go_sem,jJ]
 simp only [go_sem];refine aJ n (λi=>⟨0,[(0,iv n),(3,.own 0),(4,iv i)],[some (.arr 4 ((xQ i).map BoxM.A))]⟩) (λ_=>True) ?_ trivial ?_ ?_
 ·simp only [go_sem];rfl
 ·intro i hi _;have ws:=aF (show i<9223372036854775807 by omega);have hl:(xQ i).length=i:=by simp [xQ]
  have u:IntKind.u64.wrap (i:Int)=i:=YX (by omega) (by omega);simp only [go_sem,bG hi,ws,aL,hl,u,show i+1≤maxLen by unfold maxLen;omega,show (i+1)*32≤140737488355328 by omega];rw [XE,jA];rfl
 ·intro _;simp only [go_sem,aX (cN _)]
def Z8 (g:GM) (hg:g.ok) (h200:g.L.length≤200) (d:Int) (n:Nat) (hn:n<1000000) (h0:0<g.L.length):aC PQ G BE [.ag g.A,iv d,iv n] [] λr T=>(∃ X:List Id,r=ids X∧(∀ x∈X,x∈g.I)∧X.length≤2000)∧T=[]:=by
 refine aC.fin (p:=λr T=>∃ X:List Id,((r=ids X∧T=[])∨(r=.own 0∧T=[some (.arr 3 (X.map Id.A))]))∧(∀ x∈X,x∈g.I)∧X.length≤2000) (aD MZ (by decide) ?_) [0] ?_;rotate_left
 ·rintro r T' ⟨X,⟨rfl,rfl⟩ | ⟨rfl,rfl⟩,h1,h2⟩
  ·simp only [go_sem,jJ,List.getElem?_nil];exact ⟨X,rfl,h1,h2⟩
  ·simp only [go_sem,jJ];exact ⟨X,rfl,h1,h2⟩
 simp only [go_sem];refine aB (aA _) rfl (PI g hg) rfl ?_;simp only [go_sem];refine jE (λm s=>∃ (i:Nat) (own:Int),m=g.L.length-i∧i≤g.L.length∧-1≤own∧own<g.L.length∧s=⟨0,[(1,iv d),(2,iv n),(3,.ptr 0 0),(7,ids (fR g.I)),(8,iv own),(9,iv i)],[some (.box g.A)]⟩) g.L.length ⟨0,-1,rfl,by omega,by omega,by omega,by simp only [go_sem]⟩ ?_;rintro m s ⟨i,own,rfl,hi,hw1,hw2,rfl⟩;rcases gM i g.L.length with hlt | hge
 ·have ws:=aF (show i<9223372036854775807 by have:=hg.n;omega);have g0:(g.L.map OpM.A)[i]?=some g.L[i].A:=aI _ g.L i hlt;generalize g.L[i]=o at *
  cases hb:o.By==d
  ·simp only [go_sem,aL,bG hlt,hlt,g0,hb,ws];exact ⟨g.L.length-(i+1),by omega,i+1,own,rfl,by omega,hw1,hw2,rfl⟩
  ·simp only [go_sem,aL,bG hlt,hlt,g0,hb,ws];exact ⟨g.L.length-(i+1),by omega,i+1,i,rfl,by omega,by omega,by omega,rfl⟩
 ·obtain rfl:i=g.L.length:=by omega
  have hm:∀ x∈fR g.I,x∈g.I:=λx hx=>(eU _).mem_iff.1 hx;have hml:(fR g.I).length≤2000:=by rw [(eU _).length_eq];have:=hg.i;omega
  have e37:(n:Int).tmod 37=((n%37:Nat):Int):=by rw [Tt (by omega)];omega
  have e3:(n:Int).tmod 3=((n%3:Nat):Int):=by rw [Tt (by omega)];omega
  have ed:(n:Int).tdiv 3=((n/3:Nat):Int):=by rw [Int.tdiv_eq_ediv_of_nonneg (by omega)];omega
  have hi200:=hg.i;have hwl:∀ l:List Id,l.length≤1000→(H3 g l).length≤2000:=λl hl=>by have:=RT (g:=g) l;omega
  by_cases hgo:n%37=7∧0<own
  ·have c1:(((n%37:Nat):Int)==7)=true:=by simp [hgo.1]
   have c2:decide (0<own)=true:=decide_eq_true hgo.2;obtain ⟨q,rfl⟩:=Int.eq_ofNat_of_zero_le (show 0≤own by omega);have hq:q<g.L.length:=by omega
   have g0:(g.L.map OpM.A)[q]?=some g.L[q].A:=aI _ g.L q hq;have ho:=hg.ops _ (iN hq);simp only [go_sem,aL,aX (cN _),e37,c1,c2,gt_iff_lt,undef,hq,g0];refine aB (aA _) rfl (VD g g.L[q].Past hg (by have:=ho.past.1;omega)) rfl ?_;simp only [go_sem];exact ⟨_,.inl rfl,Gd hg.i _,hwl _ (by have:=ho.past.1;omega)⟩
  ·have hc:(((((n%37:Nat):Int)==7)=true∧decide (0<own)=false))∨(((n%37:Nat):Int)==7)=false:=by
    by_cases h7:n%37=7
    ·exact .inl ⟨by simp [h7],decide_eq_false λh=>hgo ⟨h7,h⟩⟩
    ·right;rw [beq_eq_false_iff_ne];omega
   by_cases h3:0<n%3
   ·have c3:decide (0<((n%3:Nat):Int))=true:=decide_eq_true (by omega);rcases hc with ⟨c1,c2⟩ | c1
    ·simp only [go_sem,aL,aX (cN _),e37,c1,c2,gt_iff_lt,undef,e3,c3];exact ⟨_,.inl rfl,hm,hml⟩
    ·simp only [go_sem,aL,aX (cN _),e37,c1,gt_iff_lt,undef,e3,c3];exact ⟨_,.inl rfl,hm,hml⟩
   ·have c3:decide (0<((n%3:Nat):Int))=false:=decide_eq_false (by omega);by_cases h4:own<0
    ·have c4:decide (own<0)=true:=decide_eq_true h4;rcases hc with ⟨c1,c2⟩ | c1
     ·simp only [go_sem,aL,aX (cN _),e37,c1,c2,gt_iff_lt,undef,e3,c3,c4];exact ⟨_,.inl rfl,hm,hml⟩
     ·simp only [go_sem,aL,aX (cN _),e37,c1,gt_iff_lt,undef,e3,c3,c4];exact ⟨_,.inl rfl,hm,hml⟩
    ·have c4:decide (own<0)=false:=decide_eq_false h4;obtain ⟨q,rfl⟩:=Int.eq_ofNat_of_zero_le (show 0≤own by omega);have hq:q<g.I.length:=by omega
     have g0:(g.I.map Id.A)[q]?=some g.I[q].A:=aI _ g.I q hq;have hz:¬(g.I.length:Int)=0:=by omega
     have wn:IntKind.i64.wrap ((n/3:Nat):Int)=((n/3:Nat):Int):=bF (by omega) (by omega);have em:((n/3:Nat):Int).tmod (g.I.length:Int)=((n/3%g.I.length:Nat):Int):=by
      rw [Tt (by omega)];rfl
     have hk:n/3%g.I.length<g.I.length:=vF _ (by omega);have g1:(g.I.map Id.A)[n/3%g.I.length]?=some g.I[n/3%g.I.length].A:=aI _ g.I _ hk;have hw:=Ze (G:=G) g [g.I[q],g.I[n/3%g.I.length]] hg (by simp);rcases hc with ⟨c1,c2⟩ | c1
     all_goals (
      first
      | simp only [go_sem,aL,aX (cN _),e37,c1,c2,gt_iff_lt,undef,e3,c3,c4,ed,em,hq,hk,g0,g1,hz,wn,Id.A_def]
      | simp only [go_sem,aL,aX (cN _),e37,c1,gt_iff_lt,undef,e3,c3,c4,ed,em,hq,hk,g0,g1,hz,wn,Id.A_def]
      refine cD (args2:=[.ag g.A,ids [g.I[q],g.I[n/3%g.I.length]]]) (aA _) rfl rfl hw ?_
      rintro r T' ⟨rfl,rfl⟩
      refine ⟨by simp only [fF],by simp only [iU,forall_eq,uX];exact PH _,?_⟩
      simp only [go_sem]
      exact ⟨_,.inr rfl,Gd hg.i _,hwl _ (by simp)⟩)
def Lf (g:GM) (hg:g.ok) (l:List Id) (hl:l.length≤maxLen) (k:Int):aC PQ G vL [.ag g.A,ids l,iv k] [] λr T =>
  ((∃ (i:Nat) (h1:i<g.I.length) (h2:i<g.L.length),g.L[i].Kind=k∧g.I[i]∈l∧r=.tup [.ag g.I[i].A,.ag g.L[i].A])∨r=.tup [.ag (⟨0,0,0⟩:Id).A,.ag Nj])∧T=[]:=by
 refine aD Ii (by decide) ?_;have hn:=hg.n;have hi:=hg.i;have w0:IntKind.i64.wrap ((g.L.length:Int)-1)=(g.L.length:Int)-1:=bF (by omega) (by omega);simp only [go_sem,aL,w0];refine jE (λm s=>∃ i:Int,-1≤i∧i<g.L.length∧m=(i+1).toNat∧s=⟨0,[(1,ids l),(2,iv k),(3,.ptr 0 0),(6,.ptr 1 0),(7,.ptr 2 0),(8,iv i)],[some (.box g.A),some (.box [iv 0,iv 0,.v (.int .u64 0)]),some (.box Nj)]⟩) g.L.length ⟨(g.L.length:Int)-1,by omega,by omega,by omega,by simp only [go_sem,Nj]⟩ ?_;rintro m s ⟨i,hi1,hi2,rfl,rfl⟩;by_cases h0:0≤i
 ·obtain ⟨q,rfl⟩:=Int.eq_ofNat_of_zero_le h0;have hq:q<g.L.length:=by omega
  have hqi:q<g.I.length:=by omega
  have g0:(g.L.map OpM.A)[q]?=some g.L[q].A:=aI _ g.L q hq;have g1:(g.I.map Id.A)[q]?=some g.I[q].A:=aI _ g.I q hqi;have c0:decide (0≤(q:Int))=true:=decide_eq_true h0;have ws:IntKind.i64.wrap ((q:Int)-1)=(q:Int)-1:=bF (by omega) (by omega);have hh:=tY (G:=G) l g.I[q] hl;rw [Id.A_def] at hh;cases hk:g.L[q].Kind==k
  ·simp only [go_sem,Nj,aL,ge_iff_le,c0,hq,g0,hk,undef,ws];exact ⟨q,by omega,(q:Int)-1,by omega,by omega,by omega,rfl⟩
  ·simp only [go_sem,Nj,aL,ge_iff_le,c0,hq,hqi,g0,g1,hk,undef,ws,Id.A_def];refine aB (aA _) rfl hh rfl ?_;by_cases hm:g.I[q]∈l
   ·simp only [go_sem,Nj,aL,hm,decide_true,hq,hqi,g0,g1,hk,undef,ws,Id.A_def];exact .inl ⟨q,hqi,hq,by simpa using hk,hm,rfl⟩
   ·simp only [go_sem,Nj,aL,hm,decide_false,hq,hqi,g0,g1,hk,undef,ws,Id.A_def];exact ⟨q,by omega,(q:Int)-1,by omega,by omega,by omega,rfl⟩
 ·have c0:decide (0≤i)=false:=decide_eq_false h0;simp only [go_sem,Nj,ge_iff_le,c0];exact .inr rfl
end
end
section
def lz (k:Nat) (b:Bool) (l:List (List AV)):AV:=match b with | true=>.v (.slice none 0 0) | false=>.ls k l
@[go_sem] def aIr (k:Nat) (b:Bool) (l:List (List AV)):dZ (lz k b l)=[]:=by cases b<;>rfl
@[go_sem] def aIX (L:List Nat) (k:Nat) (b:Bool) (l:List (List AV)):AF L (lz k b l)=lz k b l:=by cases b<;>rfl
@[go_sem] def aIY (L:List Nat) (n k:Nat) (b:Bool) (l:List (List AV)):vG L n (lz k b l)=lz k b l:=by cases b<;>rfl
@[go_sem] def aIZ (i j:Nat) (es:List (List AV)) (k:Nat) (b:Bool) (l:List (List AV)):zH i j es (lz k b l)=lz k b l:=by cases b<;>rfl
@[go_sem] def aIs (k:Nat) (b:Bool) (l:List (List AV)):eO (lz k b l)=true:=by cases b<;>rfl
@[go_sem] def aE4 (k:Nat) (b:Bool) (l:List (List AV)):aO (lz k b l)=true:=by cases b<;>rfl
abbrev cI:AV:=.v (.slice none 0 0)
def eE (o:OpM) (p b r g x:AV):List AV:=[iv o.By,iv o.Seq,iv o.Kind,iv o.At,p,iv o.Device,iv o.Old,iv o.Member,iv o.Role,cI,
 .v (.int .i64 o.Epoch.a),.v (.int .i64 o.Epoch.b),.v (.int .u64 o.Epoch.c),iv o.N,b,r,.v (.int .i64 o.Of.a),.v (.int .i64 o.Of.b),.v (.int .u64 o.Of.c),g,
 iv o.Need,iv o.Wait,x,uv o.Pub,cI,uv o.SR,uv o.SS]
section
variable (o:OpM) (p b r g x:AV)
@[go_sem] def aIt:(eE o p b r g x)[0]?=some (iv o.By):=bJ rfl rfl
@[go_sem] def aIu:(eE o p b r g x)[2]?=some (iv o.Kind):=bJ rfl rfl
@[go_sem] def aHx:(eE o p b r g x)[19]?=some g:=bJ rfl rfl
@[go_sem] def aHy:(eE o p b r g x).length=27:=bJ rfl rfl
@[go_sem] def aHz:((eE o p b r g x).drop 16).take 3=o.Of.A:=bJ rfl rfl
@[go_sem] def aHA:(eE o p b r g x).take 27=eE o p b r g x:=bJ rfl rfl
@[go_sem] def aHB:(eE o p b r g x).drop 27=[]:=bJ rfl rfl
@[go_sem] def aIv:(eE o p b r g x).drop 0=eE o p b r g x:=bJ rfl rfl
@[go_sem] def aHC:fU (eE o p b r g x)=dZ p++(dZ b++(dZ r++(dZ g++dZ x))):=by simp [eE,fU,dZ]
@[go_sem] def aIw (L:List Nat):uF L (eE o p b r g x)=eE o (AF L p) (AF L b) (AF L r) (AF L g) (AF L x):=bJ rfl rfl
@[go_sem] def aIx (L:List Nat) (n:Nat):B9 L n (eE o p b r g x)=eE o (vG L n p) (vG L n b) (vG L n r) (vG L n g) (vG L n x):=bJ rfl rfl
@[go_sem] def aIy (i k:Nat) (es:List (List AV)):Fb i k es (eE o p b r g x)=eE o (zH i k es p) (zH i k es b) (zH i k es r) (zH i k es g) (zH i k es x):=bJ rfl rfl
def Z9:(eE o p b r g x).all eO=(eO p&&(eO b&&(eO r&&(eO g&&eO x)))):=by simp [eE,eO]
@[go_sem] def aHD:(eE o p b r g x).all eO=(eO p&&(eO b&&(eO r&&(eO g&&eO x)))):=Z9 o p b r g x
def RZ:(eE o p b r g x).all aO=(aO p&&(aO b&&(aO r&&(aO g&&aO x)))):=by simp [eE,aO]
@[go_sem] def aDF:(eE o p b r g x).all aO=(aO p&&(aO b&&(aO r&&(aO g&&aO x)))):=RZ o p b r g x
@[go_sem] def aFn (n:Int):iv n::(eE o p b r g x).drop 1=eE { o with By:=n } p b r g x:=bJ rfl rfl
@[go_sem] def aHE (n:Int):(eE o p b r g x).take 0++[iv n]++(eE o p b r g x).drop 1=eE { o with By:=n } p b r g x:=bJ rfl rfl
@[go_sem] def aHF (n:Int):(eE o p b r g x).take 1++[iv n]++(eE o p b r g x).drop 2=eE { o with Seq:=n } p b r g x:=bJ rfl rfl
@[go_sem] def aHG (n:Int):(eE o p b r g x).take 2++[iv n]++(eE o p b r g x).drop 3=eE { o with Kind:=n } p b r g x:=bJ rfl rfl
@[go_sem] def aHH (n:Int):(eE o p b r g x).take 3++[iv n]++(eE o p b r g x).drop 4=eE { o with At:=n } p b r g x:=bJ rfl rfl
@[go_sem] def aHI (c:AV):(eE o p b r g x).take 4++[c]++(eE o p b r g x).drop 5=eE o c b r g x:=bJ rfl rfl
@[go_sem] def aHJ (n:Int):(eE o p b r g x).take 5++[iv n]++(eE o p b r g x).drop 6=eE { o with Device:=n } p b r g x:=bJ rfl rfl
@[go_sem] def aHK (n:Int):(eE o p b r g x).take 6++[iv n]++(eE o p b r g x).drop 7=eE { o with Old:=n } p b r g x:=bJ rfl rfl
@[go_sem] def aHL (n:Int):(eE o p b r g x).take 7++[iv n]++(eE o p b r g x).drop 8=eE { o with Member:=n } p b r g x:=bJ rfl rfl
@[go_sem] def aHM (n:Int):(eE o p b r g x).take 8++[iv n]++(eE o p b r g x).drop 9=eE { o with Role:=n } p b r g x:=bJ rfl rfl
@[go_sem] def aFo (n m:Int) (c:Int):(eE o p b r g x).take 10++[.v (.int .i64 n),.v (.int .i64 m),.v (.int .u64 c)]++(eE o p b r g x).drop 13=eE { o with Epoch:=⟨n,m,c⟩ } p b r g x:=bJ rfl rfl
@[go_sem] def aE5 (y:Id):(eE o p b r g x).take 10++y.A++(eE o p b r g x).drop 13=eE { o with Epoch:=y } p b r g x:=bJ rfl rfl
@[go_sem] def aFp (n:Int):(eE o p b r g x).take 13++[iv n]++(eE o p b r g x).drop 14=eE { o with N:=n } p b r g x:=bJ rfl rfl
@[go_sem] def aFq (c:AV):(eE o p b r g x).take 14++[c]++(eE o p b r g x).drop 15=eE o p c r g x:=bJ rfl rfl
@[go_sem] def aFr (c:AV):(eE o p b r g x).take 15++[c]++(eE o p b r g x).drop 16=eE o p b c g x:=bJ rfl rfl
@[go_sem] def aFs (n m:Int) (c:Int):(eE o p b r g x).take 16++[.v (.int .i64 n),.v (.int .i64 m),.v (.int .u64 c)]++(eE o p b r g x).drop 19=eE { o with Of:=⟨n,m,c⟩ } p b r g x:=bJ rfl rfl
@[go_sem] def aE6 (y:Id):(eE o p b r g x).take 16++y.A++(eE o p b r g x).drop 19=eE { o with Of:=y } p b r g x:=bJ rfl rfl
@[go_sem] def aFt (c:AV):(eE o p b r g x).take 19++[c]++(eE o p b r g x).drop 20=eE o p b r c x:=bJ rfl rfl
@[go_sem] def aFu (n:Int):(eE o p b r g x).take 20++[iv n]++(eE o p b r g x).drop 21=eE { o with Need:=n } p b r g x:=bJ rfl rfl
@[go_sem] def aFv (n:Int):(eE o p b r g x).take 21++[iv n]++(eE o p b r g x).drop 22=eE { o with Wait:=n } p b r g x:=bJ rfl rfl
@[go_sem] def aFw (c:AV):(eE o p b r g x).take 22++[c]++(eE o p b r g x).drop 23=eE o p b r g c:=bJ rfl rfl
@[go_sem] def aE7:(eE o p b r g x).take 23++[.v (.int .u64 5)]++(eE o p b r g x).drop 24=eE { o with Pub:=5 } p b r g x:=bJ rfl rfl
@[go_sem] def aFx (n:Nat):(eE o p b r g x).take 23++[uv n]++(eE o p b r g x).drop 24=eE { o with Pub:=n } p b r g x:=bJ rfl rfl
end
section
variable {o:OpM} (h:o.ok)
include h
def OpM.ok.by (n:Int) (hn:kZ n):OpM.ok { o with By:=n }:=by
 have hi:=h.ints;refine ⟨?_,h.nums,h.epoch,h.of,h.past,h.path,h.body,h.refs,h.guards,h.boxes,h.hist⟩;simp_all
def OpM.ok.seq (n:Int) (hn:kZ n):OpM.ok { o with Seq:=n }:=by
 have hi:=h.ints;refine ⟨?_,h.nums,h.epoch,h.of,h.past,h.path,h.body,h.refs,h.guards,h.boxes,h.hist⟩;simp_all
def OpM.ok.kind (n:Int) (hn:kZ n):OpM.ok { o with Kind:=n }:=by
 have hi:=h.ints;refine ⟨?_,h.nums,h.epoch,h.of,h.past,h.path,h.body,h.refs,h.guards,h.boxes,h.hist⟩;simp_all
def OpM.ok.at_ (n:Int) (hn:kZ n):OpM.ok { o with At:=n }:=by
 have hi:=h.ints;refine ⟨?_,h.nums,h.epoch,h.of,h.past,h.path,h.body,h.refs,h.guards,h.boxes,h.hist⟩;simp_all
def OpM.ok.dev (n:Int) (hn:kZ n):OpM.ok { o with Device:=n }:=by
 have hi:=h.ints;refine ⟨?_,h.nums,h.epoch,h.of,h.past,h.path,h.body,h.refs,h.guards,h.boxes,h.hist⟩;simp_all
def OpM.ok.old (n:Int) (hn:kZ n):OpM.ok { o with Old:=n }:=by
 have hi:=h.ints;refine ⟨?_,h.nums,h.epoch,h.of,h.past,h.path,h.body,h.refs,h.guards,h.boxes,h.hist⟩;simp_all
def OpM.ok.mem (n:Int) (hn:kZ n):OpM.ok { o with Member:=n }:=by
 have hi:=h.ints;refine ⟨?_,h.nums,h.epoch,h.of,h.past,h.path,h.body,h.refs,h.guards,h.boxes,h.hist⟩;simp_all
def OpM.ok.role (n:Int) (hn:kZ n):OpM.ok { o with Role:=n }:=by
 have hi:=h.ints;refine ⟨?_,h.nums,h.epoch,h.of,h.past,h.path,h.body,h.refs,h.guards,h.boxes,h.hist⟩;simp_all
def OpM.ok.n_ (n:Int) (hn:kZ n):OpM.ok { o with N:=n }:=by
 have hi:=h.ints;refine ⟨?_,h.nums,h.epoch,h.of,h.past,h.path,h.body,h.refs,h.guards,h.boxes,h.hist⟩;simp_all
def OpM.ok.need (n:Int) (hn:kZ n):OpM.ok { o with Need:=n }:=by
 have hi:=h.ints;refine ⟨?_,h.nums,h.epoch,h.of,h.past,h.path,h.body,h.refs,h.guards,h.boxes,h.hist⟩;simp_all
def OpM.ok.wait (n:Int) (hn:kZ n):OpM.ok { o with Wait:=n }:=by
 have hi:=h.ints;refine ⟨?_,h.nums,h.epoch,h.of,h.past,h.path,h.body,h.refs,h.guards,h.boxes,h.hist⟩;simp_all
def OpM.ok.pub (n:Nat) (hn:n<18446744073709551616):OpM.ok { o with Pub:=n }:=by
 have hi:=h.nums;refine ⟨h.ints,?_,h.epoch,h.of,h.past,h.path,h.body,h.refs,h.guards,h.boxes,h.hist⟩;simp_all
def OpM.ok.of_ (y:Id) (hn:y.ok):OpM.ok { o with Of:=y }:=⟨h.ints,h.nums,h.epoch,hn,h.past,h.path,h.body,h.refs,h.guards,h.boxes,h.hist⟩
def OpM.ok.ep (y:Id) (hn:y.ok):OpM.ok { o with Epoch:=y }:=⟨h.ints,h.nums,hn,h.of,h.past,h.path,h.body,h.refs,h.guards,h.boxes,h.hist⟩
end
def opR (o:OpM) (p:List Id) (b r:List Nat) (g:List Int) (x:List BoxM):OpM:={ o with Past:=p,Path:=[],Body:=b,Refs:=r,Guards:=g,Boxes:=x,Hist:=[] }
def o3 {o:OpM} (h:o.ok) {p:List Id} {b r:List Nat} {g:List Int} {x:List BoxM} (h1:p.length≤1000∧∀ y∈p,y.ok) (h2:b.length≤1000∧tI b) (h3:r.length≤1000∧∀ y∈r,y<18446744073709551616) (h4:g.length≤1000∧∀ y∈g,kZ y) (h5:x.length≤1000∧∀ y∈x,y.ok):(opR o p b r g x).ok :=
 ⟨h.ints,h.nums,h.epoch,h.of,h1,⟨by simp [opR],by simp [opR]⟩,h2,h3,h4,h5,⟨by simp [opR],by simp [opR]⟩⟩
def Gh (n:Nat) (hn:n≤1000):(xQ n).length≤1000∧∀ y∈xQ n,y.ok:=by
 refine ⟨by simp [xQ];omega,λy hy=>?_⟩;obtain ⟨i,hi,rfl⟩:=cZ.1 hy;rw [sH] at hi;exact ⟨show (1:Nat)<_ by decide,show (1:Nat)<_ by decide,show i<_ by omega,show (1:Nat)<_ by decide⟩
end
section
def VK (z:Int):kZ (z.tmod 3):=by
 have:(z.tmod 3).natAbs=z.natAbs%3:=Int.natAbs_tmod z 3;constructor<;>omega
def Mb {o:OpM} (h:fS o=0):(∀ d∈o.Guards,1≤d∧d≤12)∧(o.Kind=9→o.Guards≠[]):=by
 unfold fS at h;split at h
 ·simp at h
 split at h
 ·simp at h
 split at h
 ·simp at h
 ·rename_i hn;have hb:dU o=true∧qB o=true:=by
   cases e:dU o<;>cases e2:qB o<;>simp_all
  constructor
  ·intro d hd;have h2:=hb.2;unfold qB at h2;rw [lN] at h2;have:=lF.1 h2.1 d hd;simpa [uO,lD] using this
  ·intro hk hm;have h1:=hb.1;unfold dU lD at h1;simp [hk,hm] at h1;omega
section
variable {G:Nat→Option (List AV)}
set_option maxHeartbeats 4000000
def GdR (r:AV) (T:aH):Prop:=∃ (o2:OpM) (gs:List Int) (bs:List BoxM),o2.ok∧0≤o2.By∧(gs.length≤1000∧∀ x∈gs,kZ x)∧(bs.length≤1000∧∀ y∈bs,y.ok) ∧
 ((r=.ag (eE o2 cI cI cI (.own 0) (De bs))∧T=[some (.arr 1 (gs.map λn=>[iv n]))])∨(r=.ag (eE o2 cI cI cI cI (De bs))∧gs=[]∧T=[])∨(r=.ag (eE o2 cI cI cI cI cI)∧gs=[]∧bs=[]∧T=[]))
def Td (g:GM) (hg:g.ok) (hck:∀ o∈g.L,fS o=0) (hIa:∀ x∈g.I,0≤x.a) (hcm:∀ c∈g.Cards,0≤c.Member) (X:List Id) (hX:X.length≤maxLen) (o:OpM) (ho:o.ok) (hb:0≤o.By) (n:Nat) (hn:n<1000000) :
  aC PQ G vM [.ag g.A,ids X,.ag (eE o cI cI cI cI cI),iv n] [] GdR:=by
 refine aD Ij (by decide) ?_;dsimp only [go_sem];rw [I6,aS];refine bP (λs=>s=⟨0,[(8,.ptr 2 0),(6,.ptr 1 0),(4,.ptr 0 0),(1,ids X),(3,iv n)],[some (.box g.A),some (.box (eE o cI cI cI cI cI)),some (.box (Ak 0))]⟩) ?_ ?_
 ·simp only [go_sem,Nj,Ak]
 rintro s rfl;rw [aS];refine bP (λs=>∃ (x:Id) (oc:List AV),x.ok∧((x=⟨0,0,0⟩∧oc=Ak 0)∨∃ (i:Nat) (h1:i<g.I.length) (h2:i<g.L.length),g.L[i].Kind=9∧x=g.I[i]∧oc=g.L[i].A)∧s=⟨0,[(10,.ptr 4 0),(9,.ptr 3 0),(8,.ptr 2 0),(6,.ptr 1 0),(4,.ptr 0 0),(3,iv n)],[some (.box g.A),some (.box (eE o cI cI cI cI cI)),some (.box (Ak 0)),some (.box x.A),some (.box oc)]⟩) ?_ ?_
 ·simp only [go_sem];refine mD (aA _) rfl (Lf g hg X hX 9) ?_;rintro r T' ⟨hr,rfl⟩;rcases hr with ⟨i,h1,h2,hk,hm,rfl⟩ | rfl
  ·simp only [go_sem,Nj,Ak];exact ⟨_,_,hg.is _ (iN h1),.inr ⟨i,h1,h2,hk,rfl,rfl⟩,rfl⟩
  ·simp only [go_sem,Nj,Ak];exact ⟨⟨0,0,0⟩,_,id0,.inl ⟨rfl,rfl⟩,rfl⟩
 rintro s ⟨x,oc,hx,hof,rfl⟩;rw [aS];refine bP (λs=>∃ (o1:OpM),o1.ok∧0≤o1.By∧(o1.Kind=9∨∃ (i:Nat) (h1:i<g.I.length) (h2:i<g.L.length),g.L[i].Kind=9∧x=g.I[i]∧oc=g.L[i].A)∧s=⟨0,[(10,.ptr 4 0),(9,.ptr 3 0),(8,.ptr 2 0),(6,.ptr 1 0),(4,.ptr 0 0),(3,iv n)],[some (.box g.A),some (.box (eE o1 cI cI cI cI cI)),some (.box (Ak 0)),some (.box x.A),some (.box oc)]⟩) ?_ ?_
 ·clear hck hg hX hIa hcm;cases hk:o.Kind !=9
  ·simp only [go_sem,hk,undef];refine ⟨o,ho,hb,.inl (by simpa using hk),rfl⟩
  ·cases hx0:(x.a==0&&(x.b==0&&x.c==0))
   ·simp only [go_sem,hk,hx0,Id.A_def];refine ⟨o,ho,hb,.inr ?_,rfl⟩;rcases hof with ⟨rfl,_⟩ | h
    ·simp at hx0
    ·exact h
   ·simp only [go_sem,hk,hx0,Id.A_def];exact ⟨_,ho.kind 9 ⟨by decide,by decide⟩,hb,.inl rfl,rfl⟩
 clear ho hb hof;rintro s ⟨o1,ho,hb,hof,rfl⟩;clear o;rw [aS];refine bP (λs=>o1.Kind≠9∧s=⟨0,[(10,.ptr 4 0),(9,.ptr 3 0),(8,.ptr 2 0),(6,.ptr 1 0),(4,.ptr 0 0),(3,iv n)],[some (.box g.A),some (.box (eE o1 cI cI cI cI cI)),some (.box (Ak 0)),some (.box x.A),some (.box oc)]⟩) ?_ ?_
 ·cases hk:o1.Kind==9
  ·simp only [go_sem,hk];exact λe=>by simp [e] at hk
  clear hck hg hX hof hIa hcm;simp only [go_sem,hk];refine jE (λm s=>∃ (d:Nat) (l:List Int) (c:AV) (Y:aH),m=5-d∧1≤d∧d≤5∧l.length<d∧(∀ x∈l,kZ x)∧((l=[]∧c=cI∧Y=[some (.box (Ak 0))])∨(c=.own 2∧l≠[]∧Y=[some (.box (Ak 0)),some (.arr 1 (l.map λn=>[iv n]))]))∧s=⟨0,[(3,iv n),(6,.ptr 0 0),(8,.ptr 1 0),(11,iv d)],some (.box (eE o1 cI cI cI c cI))::Y⟩) 4 ⟨1,[],_,_,rfl,by decide,by decide,by decide,by simp,.inl ⟨rfl,rfl,rfl⟩,by simp only [go_sem]⟩ ?_;rintro m s ⟨d,l,c,Y,rfl,hd1,hd5,hl,hlk,hc,rfl⟩;have ws:=aF (show d<9223372036854775807 by omega);have hz:¬((d:Nat):Int)=0:=by omega
  have hq:IntKind.i64.wrap (((n:Nat):Int).tdiv (d:Int))=((n/d:Nat):Int):=by
   have e:((n:Nat):Int).tdiv (d:Int)=((n/d:Nat):Int):=rfl;have:n/d≤n:=Ml _ _;generalize n/d=q at *
   rw [e,bF (by omega) (by omega)]
  have hm:((n/d:Nat):Int).tmod 2=((n/d%2:Nat):Int):=rfl;by_cases h4:d≤4
  ·have c4:decide ((d:Int)≤4)=true:=decide_eq_true (by omega);have hdk:kZ (d:Int):=⟨by omega,by omega⟩
   have ml1:1≤maxLen:=by decide
   cases hb2:((n/d%2:Nat):Int)==0
   ·rcases hc with ⟨rfl,rfl,rfl⟩ | ⟨rfl,hne,rfl⟩
    ·simp only [go_sem,c4,hz,hq,hm,hb2,ws];exact ⟨5-(d+1),by omega,d+1,[],_,_,rfl,by omega,by omega,by simp,hlk,.inl ⟨rfl,rfl,rfl⟩,rfl⟩
    ·simp only [go_sem,c4,hz,hq,hm,hb2,ws];exact ⟨5-(d+1),by omega,d+1,l,_,_,rfl,by omega,by omega,by omega,hlk,.inr ⟨rfl,hne,rfl⟩,rfl⟩
   ·rcases hc with ⟨rfl,rfl,rfl⟩ | ⟨rfl,hne,rfl⟩
    ·simp only [go_sem,c4,hz,hq,hm,hb2,ws,ml1];exact ⟨5-(d+1),by omega,d+1,[(d:Int)],_,_,rfl,by omega,by omega,by simp;omega,by simpa using hdk,.inr ⟨rfl,by simp,rfl⟩,rfl⟩
    ·simp only [go_sem,c4,hz,hq,hm,hb2,ws,aL,show (l.length+1)*8≤140737488355328 by omega,show l.length+1≤maxLen by unfold maxLen;omega];rw [show (List.map (λn=>[iv n]) l++[[AV.v (Value.int IntKind.i64 (d:Int))]])=List.map (λn=>[iv n]) (l++[(d:Int)]) by simp];refine ⟨5-(d+1),by omega,d+1,l++[(d:Int)],_,_,rfl,by omega,by omega,by simp;omega,?_,.inr ⟨rfl,by simp,rfl⟩,rfl⟩;intro y hy;rcases eM.1 hy with hy | hy
     ·exact hlk y hy
     ·rw [iU.1 hy];exact hdk
  ·obtain rfl:d=5:=by omega
   have c4:decide (((5:Nat):Int)≤4)=false:=rfl;clear ws hz hq hm hd1 hd5 h4;rcases hc with ⟨rfl,rfl,rfl⟩ | ⟨rfl,hne,rfl⟩
   ·simp only [go_sem,c4];refine aB (aA _) rfl (Gg 2 (by decide)) rfl ?_;simp only [go_sem,Ak];exact ⟨_,[1,2],xQ 2,((ho.need _ (iZ _)).wait _ (VK _)).pub 5 (by decide),hb,⟨by simp,by simp [kZ]⟩,Gh 2 (by decide),.inl ⟨rfl,rfl⟩⟩
   ·have hl0:((l.length:Int)==0)=false:=by
     rw [beq_eq_false_iff_ne];have:=JS.2 hne;omega
    obtain ⟨k,hk1,hk2,ek⟩:∃ k:Nat,1≤k∧k≤2∧(if (l.length:Int)<2 then (l.length:Int) else 2)=(k:Int):=⟨min 2 l.length,by have:=JS.2 hne;omega,by omega,by split<;>omega⟩
    have hk0:((k:Int)=0)=False:=by simp;omega
    simp only [go_sem,c4,aL,hl0,ek,hk0];refine aB (aA _) rfl (Gg l.length (by omega)) rfl ?_;simp only [go_sem,Ak];exact ⟨_,l,xQ l.length,((ho.need _ (iZ _)).wait _ (VK _)).pub 5 (by decide),hb,⟨by omega,hlk⟩,Gh _ (by omega),.inl ⟨rfl,rfl⟩⟩
 rintro s ⟨hk9,rfl⟩;obtain ⟨i,h1,h2,hki,rfl,rfl⟩:=hof.resolve_left hk9;have hcg:=Mb (hck _ (iN h2));have hgn:=hcg.2 hki;have hgb:=hcg.1;have hxa:=hIa _ (iN h1);have hqo:=hg.ops _ (iN h2);generalize g.I[i]=x at *
 generalize g.L[i]=q at *
 clear hck hIa hof hcg hki h1 h2 i X hX;have hmb:kZ (RR g.Cards x.a)∧0≤RR g.Cards x.a:=by
  have hcs:=hg.cs;unfold RR eK
  cases e:g.Cards.find? (λc=>c.Device==x.a) with
  | none=>simp;exact ⟨by decide,by decide⟩
  | some c =>
   have hm:=Pb e;exact ⟨(hcs c hm).2.1,hcm c hm⟩
 have hmc:=La (G:=G) g x.a hg;generalize RR g.Cards x.a=mm at *
 have hgl:0<q.Guards.length:=JS.2 hgn;have hgq:q.Guards.length≤1000:=hqo.guards.1;have hml:n%q.Guards.length<q.Guards.length:=vF _ hgl;have em:((n:Nat):Int).tmod (q.Guards.length:Int)=((n%q.Guards.length:Nat):Int):=rfl;have hgz:((q.Guards.length:Int)=0)=False:=by simp;omega
 have gq:(q.Guards.map λn=>[iv n])[n%q.Guards.length]?=some [iv q.Guards[n%q.Guards.length]]:=aI _ _ _ hml;have hqb:=hgb _ (iN hml);generalize hge:q.Guards[n%q.Guards.length]=gd at *
 have hqg:kZ gd:=⟨by omega,by omega⟩
 have hno:=ho.of_ x hx;rcases (show o1.Kind=10∨o1.Kind=11∨o1.Kind=12∨o1.Kind=13∨(o1.Kind≠10∧o1.Kind≠11∧o1.Kind≠12∧o1.Kind≠13) by omega) with hk | hk | hk | hk | hk
 ·have e10:(o1.Kind==10)=true:=by rw [hk];rfl
  have e11:(o1.Kind==11)=false:=by rw [hk];rfl
  have e12:(o1.Kind==12)=false:=by rw [hk];rfl
  have e13:(o1.Kind==13)=false:=by rw [hk];rfl
  simp only [go_sem,Id.A_def];refine aB (aA _) rfl hmc rfl ?_;simp only [go_sem,e10,e11,e12,e13,undef,Id.A_def,aL];refine aB (aA _) rfl (Gg q.Guards.length hgq) rfl ?_;simp only [go_sem,e10,e11,e12,e13,undef,Id.A_def,aL,Ak];exact ⟨_,[],xQ q.Guards.length,hno.by _ hx.1,hxa,⟨by simp,by simp⟩,Gh _ hgq,.inr (.inl ⟨rfl,rfl,rfl⟩)⟩
 ·have e10:(o1.Kind==10)=false:=by rw [hk];rfl
  have e11:(o1.Kind==11)=true:=by rw [hk];rfl
  have e12:(o1.Kind==12)=false:=by rw [hk];rfl
  have e13:(o1.Kind==13)=false:=by rw [hk];rfl
  simp only [go_sem,Id.A_def];refine aB (aA _) rfl hmc rfl ?_;simp only [go_sem,e10,e11,e12,e13,undef,Id.A_def,aL,em,hgz,gq,hml];refine aB (aA _) rfl (Gg 1 (by decide)) rfl ?_;simp only [go_sem,e10,e11,e12,e13,undef,Ak];exact ⟨_,[],xQ 1,(hno.by _ hqg).dev _ (iZ _),by show 0≤gd;omega,⟨by simp,by simp⟩,Gh _ (by decide),.inr (.inl ⟨rfl,rfl,rfl⟩)⟩
 ·have e10:(o1.Kind==10)=false:=by rw [hk];rfl
  have e11:(o1.Kind==11)=false:=by rw [hk];rfl
  have e12:(o1.Kind==12)=true:=by rw [hk];rfl
  have e13:(o1.Kind==13)=false:=by rw [hk];rfl
  simp only [go_sem,Id.A_def];refine aB (aA _) rfl hmc rfl ?_;simp only [go_sem,e10,e11,e12,e13,undef,Id.A_def,aL,em,hgz,gq,hml];exact ⟨_,[],[],hno.by _ hmb.1,hmb.2,⟨by simp,by simp⟩,⟨by simp,by simp⟩,.inr (.inr ⟨rfl,rfl,rfl,rfl⟩)⟩
 ·have e10:(o1.Kind==10)=false:=by rw [hk];rfl
  have e11:(o1.Kind==11)=false:=by rw [hk];rfl
  have e12:(o1.Kind==12)=false:=by rw [hk];rfl
  have e13:(o1.Kind==13)=true:=by rw [hk];rfl
  simp only [go_sem,Id.A_def];refine aB (aA _) rfl hmc rfl ?_;simp only [go_sem,e10,e11,e12,e13,undef,Id.A_def,aL,em,hgz,gq,hml];exact ⟨_,[],[],((hno.by _ hqg).dev _ (iZ _)).old _ hmb.1,by show 0≤gd;omega,⟨by simp,by simp⟩,⟨by simp,by simp⟩,.inr (.inr ⟨rfl,rfl,rfl,rfl⟩)⟩
 ·have e10:(o1.Kind==10)=false:=by simpa using hk.1
  have e11:(o1.Kind==11)=false:=by simpa using hk.2.1
  have e12:(o1.Kind==12)=false:=by simpa using hk.2.2.1
  have e13:(o1.Kind==13)=false:=by simpa using hk.2.2.2
  simp only [go_sem,Id.A_def];refine aB (aA _) rfl hmc rfl ?_;simp only [go_sem,e10,e11,e12,e13,undef,Id.A_def,aL,em,hgz,gq,hml];exact ⟨_,[],[],hno,hb,⟨by simp,by simp⟩,⟨by simp,by simp⟩,.inr (.inr ⟨rfl,rfl,rfl,rfl⟩)⟩
def JP {k:Nat} (l:List (List AV)) (h:uZ l l=true):dN (.ls k l) (.ls k l)=true:=by simp [dN,h]
def Ra (l:List Int):dN (uK l) (uK l)=true:=by
 refine JP _ ?_
 induction l with
 | nil=>rfl
 | cons x l ih=>simp only [fE,uZ,mB,dN,IU,beq_self_eq_true,AI,ih]
def Lg (l:List BoxM):dN (De l) (De l)=true:=by
 refine JP _ ?_
 induction l with
 | nil=>rfl
 | cons x l ih=>simp only [fE,uZ,BoxM.A,mB,dN,IU,beq_self_eq_true,AI,ih]
def PN (k:Nat):dN cI (.ls k [])=true:=rfl
def PO:dN cI cI=true:=rfl
def o4 {o:OpM} {p b r g x p' b' r' g' x':AV} (hp:dN p p'=true) (hb:dN b b'=true) (hr:dN r r'=true) (hg:dN g g'=true) (hx:dN x x'=true):dN (.ag (eE o p b r g x)) (.ag (eE o p' b' r' g' x'))=true:=by
 simp only [eE,dN,mB,IU,hp,hb,hr,hg,hx,beq_self_eq_true,AI];rfl
def XF (g:GM) (hg:g.ok) (hck:∀ o∈g.L,fS o=0) (hIa:∀ x∈g.I,0≤x.a) (hcm:∀ c∈g.Cards,0≤c.Member) (X:List Id) (hX:X.length≤maxLen) (o:OpM) (ho:o.ok) (hb:0≤o.By) (n:Nat) (hn:n<1000000) :
  aC PQ G vM [.ag g.A,ids X,.ag (eE o cI cI cI cI cI),iv n] [] λr T=>(∃ (o2:OpM) (gs:List Int) (bs:List BoxM),o2.ok∧0≤o2.By∧(gs.length≤1000∧∀ x∈gs,kZ x)∧(bs.length≤1000∧∀ y∈bs,y.ok)∧r=.ag (eE o2 cI cI cI (uK gs) (De bs)))∧T=[]:=by
 refine aC.dsub (p:=λr T=>(∃ (o2:OpM) (gs:List Int) (bs:List BoxM) (c d:AV),o2.ok∧0≤o2.By∧(gs.length≤1000∧∀ x∈gs,kZ x)∧(bs.length≤1000∧∀ y∈bs,y.ok)∧dN c (uK gs)=true∧dN d (De bs)=true∧r=.ag (eE o2 cI cI cI c d))∧T=[]) ((Td g hg hck hIa hcm X hX o ho hb n hn).fin [0] ?_) ?_
 ·rintro r T' ⟨o2,gs,bs,h1,h2,h3,h4,⟨rfl,rfl⟩ | ⟨rfl,rfl,rfl⟩ | ⟨rfl,rfl,rfl,rfl⟩⟩
  ·simp only [go_sem,jJ];exact ⟨o2,gs,bs,_,_,h1,h2,h3,h4,Ra _,Lg _,rfl⟩
  ·simp only [go_sem,jJ,List.getElem?_nil];exact ⟨o2,[],bs,_,_,h1,h2,h3,h4,PN _,Lg _,rfl⟩
  ·simp only [go_sem,jJ,List.getElem?_nil];exact ⟨o2,[],[],_,_,h1,h2,h3,h4,PN _,PN _,rfl⟩
 ·rintro r T' ⟨⟨o2,gs,bs,c,d,h1,h2,h3,h4,h5,h6,rfl⟩,rfl⟩;exact ⟨_,o4 PO PO PO h5 h6,⟨o2,gs,bs,h1,h2,h3,h4,rfl⟩,rfl⟩
end
end
section
def Lh (l:List Nat) (k:IntKind):dN (.ls 1 (l.map λn:Nat=>[.v (.int k (n:Int))])) (.ls 1 (l.map λn:Nat=>[.v (.int k (n:Int))]))=true:=by
 refine JP _ ?_
 induction l with
 | nil=>rfl
 | cons x l ih=>simp only [fE,uZ,mB,dN,IU,beq_self_eq_true,AI,ih]
def Ns (l:List Id):dN (ids l) (ids l)=true:=JP _ (RY l)
structure RowsOk (b r g x:AV) (B R:List Nat) (Gs:List Int) (X:List BoxM):Prop where
 b1:B.length≤1000∧tI B
 b2:dN b (.ls 1 (bl B))=true
 r1:R.length≤1000∧∀ y∈R,y<18446744073709551616
 r2:dN r (.ls 1 (ul R))=true
 g1:Gs.length≤1000∧∀ y∈Gs,kZ y
 g2:dN g (uK Gs)=true
 x1:X.length≤1000∧∀ y∈X,y.ok
 x2:dN x (De X)=true
def Rb (z:Int):kZ (z.tmod 2):=by
 have:(z.tmod 2).natAbs=z.natAbs%2:=Int.natAbs_tmod z 2;constructor<;>omega
def Rc {w:Nat} (h:w<256):[w,1,2,3,4,5,6,7,8].length≤1000∧tI [w,1,2,3,4,5,6,7,8]:=by
 refine ⟨by simp,λx hx=>?_⟩;simp only [jB,qS,or_false] at hx;omega
def H5 {I ab:List Id}:∀ (l out:List Id),out.Nodup→(l.foldl (qG I ab) out).Nodup
 | [],_,h=>h
 | y::l,out,h=>H5 l _ (by
   unfold qG;split
   ·rename_i hc;simp only [lN,decide_eq_true_eq,Gl,decide_eq_false_iff_not] at hc;rw [H9];refine ⟨h,by simp,?_⟩;intro a ha b hb e;rw [iU.1 hb] at e;exact hc.2.2 (e ▸ ha)
   ·exact h)
def H6 {g:GM} (hg:g.ok) (X:List Id):(uS g X).length≤1000:=by
 have h1:(uS g X).Nodup:=(eU _).nodup_iff.2 (H5 X [] (by simp));have:=List.Nodup.length_le_of_subset h1 (Hb (g:=g) X);have:=hg.i;have:=hg.n;omega
def VN (X:List Id) (d:Int) (h:∀ x∈X,x.b≤2147483647):kZ (PG X d):=by
 have a:=TM d X 0;have b:=TO d 2147483647 X 0 (by decide) h;unfold PG;exact ⟨by omega,by omega⟩
def oG:([]:List Nat).length≤1000∧∀ y∈([]:List Nat),y<18446744073709551616:=⟨by simp,by simp⟩
def pQ:([]:List Int).length≤1000∧∀ y∈([]:List Int),kZ y:=⟨by simp,by simp⟩
def pR:([]:List BoxM).length≤1000∧∀ y∈([]:List BoxM),y.ok:=⟨by simp,by simp⟩
def Rd:RowsOk cI cI cI cI [] [] [] []:=⟨tC,rfl,oG,rfl,pQ,rfl,pR,rfl⟩
def Re {o:OpM} {p b r g x:AV} {P:List Id} {B R:List Nat} {Gs:List Int} {X:List BoxM} (hp:dN p (ids P)=true) (h:RowsOk b r g x B R Gs X):dN (.ag (eE o p b r g x)) (.ag (opR o P B R Gs X).A)=true:=by
 simp only [eE,opR,OpM.A_def,mE,dN,mB,IU,hp,h.b2,h.r2,h.g2,h.x2,beq_self_eq_true,AI]
def Ed (b sq k d rl nd:Int):OpM:=⟨b,sq,k,0,[],d,0,0,rl,[],⟨0,0,0⟩,0,[],[],⟨0,0,0⟩,[],nd,0,[],0,[],0,0⟩
def FT {b sq k d rl nd:Int} (h1:kZ b) (h2:kZ sq) (h3:kZ k) (h4:kZ d) (h5:kZ rl) (h6:kZ nd):(Ed b sq k d rl nd).ok:=by
 have z:kZ 0:=⟨by decide,by decide⟩
 refine ⟨?_,?_,id0,id0,⟨by simp [Ed],by simp [Ed]⟩,aBw,tC,⟨by simp [Ed],by simp [Ed]⟩,⟨by simp [Ed],by simp [Ed]⟩,⟨by simp [Ed],by simp [Ed]⟩,⟨by simp [Ed],by simp [Ed]⟩⟩
 ·intro n hn;simp only [Ed,jB,qS,or_false] at hn;rcases hn with rfl | rfl | rfl | rfl | rfl | rfl | rfl | rfl | rfl | rfl | rfl<;>assumption
 ·intro n hn;simp only [Ed,jB,qS,or_false] at hn;rcases hn with rfl | rfl | rfl<;>decide
section
variable {G:Nat→Option (List AV)}
set_option maxHeartbeats 4000000
def NxR (r:AV) (T:aH):Prop:=∃ (o:OpM) (P:List Id) (pb:Bool) (b r' g x:AV) (B R:List Nat) (Gs:List Int) (X:List BoxM),o.ok∧0≤o.By∧(P.length≤1000∧∀ y∈P,y.ok)∧(pb=true→P=[])∧(B.length≤1000∧tI B)∧(R.length≤1000∧∀ y∈R,y<18446744073709551616)∧(Gs.length≤1000∧∀ y∈Gs,kZ y)∧(X.length≤1000∧∀ y∈X,y.ok) ∧
 ((b=cI∧r'=cI∧g=uK Gs∧x=De X∧B=[]∧R=[]∧T=[])∨(g=cI∧x=cI∧Gs=[]∧X=[]∧((b=cI∧r'=cI∧B=[]∧R=[]∧T=[])∨(b=.own 0∧r'=cI∧R=[]∧T=[some (.arr 1 (bl B))])∨(b=.own 0∧r'=.own 1∧T=[some (.arr 1 (bl B)),some (.arr 1 (ul R))]))))∧r=.ag (eE o (lz 3 pb (P.map Id.A)) b r' g x)
def Gi {pb:Bool} {P:List Id} (h:pb=true→P=[]):dN (lz 3 pb (P.map Id.A)) (ids P)=true:=by
 cases pb
 ·exact Ns P
 ·rw [h rfl];rfl
def SwR (g:GM) (oc:List AV) (k1:Nat) (s:St):Prop:=∃ (o:OpM) (X:List Id) (b r' g' x:AV) (B R:List Nat) (Gs:List Int) (Xs:List BoxM) (y:Id) (Y:aH),o.ok∧0≤o.By∧(∀ x∈X,x∈g.I)∧X.length≤2000∧(B.length≤1000∧tI B)∧(R.length≤1000∧∀ y∈R,y<18446744073709551616)∧(Gs.length≤1000∧∀ y∈Gs,kZ y)∧(Xs.length≤1000∧∀ y∈Xs,y.ok) ∧
 ((b=cI∧r'=cI∧g'=uK Gs∧x=De Xs∧B=[]∧R=[]∧Y=[])∨(g'=cI∧x=cI∧Gs=[]∧Xs=[]∧((b=cI∧r'=cI∧B=[]∧R=[]∧Y=[])∨(b=.own 5∧r'=cI∧R=[]∧Y=[some (.arr 1 (bl B))])∨(b=.own 5∧r'=.own 6∧Y=[some (.arr 1 (bl B)),some (.arr 1 (ul R))])))) ∧
 s=⟨0,[(9,ids X),(7,.ptr 2 0),(1,iv k1),(6,.ptr 1 0),(3,.ptr 0 0)],[some (.box g.A),some (.box (Ak 0)),some (.box (eE o cI b r' g' x)),some (.box y.A),some (.box oc)]++Y⟩
def sw0 {g:GM} {oc:List AV} {k1:Nat} {o:OpM} {X:List Id} {y:Id} {s:St} (h1:o.ok) (h2:0≤o.By) (h3:∀ x∈X,x∈g.I) (h4:X.length≤2000) (hs:s=⟨0,[(9,ids X),(7,.ptr 2 0),(1,iv k1),(6,.ptr 1 0),(3,.ptr 0 0)],[some (.box g.A),some (.box (Ak 0)),some (.box (eE o cI cI cI cI cI)),some (.box y.A),some (.box oc)]⟩):SwR g oc k1 s :=
 ⟨o,X,_,_,_,_,[],[],[],[],y,[],h1,h2,h3,h4,tC,oG,pQ,pR,.inr ⟨rfl,rfl,rfl,rfl,.inl ⟨rfl,rfl,rfl,rfl,rfl⟩⟩,hs⟩
def XG (g:GM) (hg:g.ok) (hck:∀ o∈g.L,fS o=0) (hs:∀ x∈g.I,x.b≤2147483647) (hIa:∀ x∈g.I,0≤x.a) (hcm:∀ c∈g.Cards,0≤c.Member) (h200:g.L.length≤200) (n m:Int) (hn:kZ n) (hm:kZ m) :
  aC PQ G wR [.ag g.A,iv n,iv m] [] NxR:=by
 obtain ⟨k1,hk1,e1⟩:∃ k:Nat,k<1000000∧zY n 1000000=(k:Int):=⟨(zY n 1000000).toNat,by have:=Bt n 1000000 (by decide);omega,by have:=Bt n 1000000 (by decide);omega⟩
 obtain ⟨k2,hk2,e2⟩:∃ k:Nat,k<1000000∧zY m 1000000=(k:Int):=⟨(zY m 1000000).toNat,by have:=Bt m 1000000 (by decide);omega,by have:=Bt m 1000000 (by decide);omega⟩
 have hA1:=GE (G:=G) n 1000000 hn.1 hn.2 (by decide) (by decide);have hA2:=GE (G:=G) m 1000000 hm.1 hm.2 (by decide) (by decide);rw [e1] at hA1;rw [e2] at hA2;refine aD MW (by decide) ?_;dsimp only [go_sem];rw [I6,aS];refine bP (λs=>s=⟨0,[(6,.ptr 1 0),(3,.ptr 0 0),(1,iv n),(2,iv m)],[some (.box g.A),some (.box (Ak 0))]⟩) ?_ ?_
 ·simp only [go_sem,Ak]
 rintro s rfl;rw [aS];refine bP (λs=>s=⟨0,[(1,iv k1),(6,.ptr 1 0),(3,.ptr 0 0),(2,iv m)],[some (.box g.A),some (.box (Ak 0))]⟩) ?_ ?_
 ·simp only [go_sem];refine aB (aA _) rfl hA1 rfl ?_;simp only [go_sem]
 rintro s rfl;rw [aS];refine bP (λs=>s=⟨0,[(2,iv k2),(1,iv k1),(6,.ptr 1 0),(3,.ptr 0 0)],[some (.box g.A),some (.box (Ak 0))]⟩) ?_ ?_
 ·simp only [go_sem];refine aB (aA _) rfl hA2 rfl ?_;simp only [go_sem]
 rintro s rfl;have z0:kZ 0:=⟨by decide,by decide⟩
 have tm4:((k1:Nat):Int).tmod 4=((k1%4:Nat):Int):=rfl;have hby:IntKind.i64.wrap (1+((k1:Nat):Int).tmod 5)=((1+k1%5:Nat):Int):=by
  have e:((k1:Nat):Int).tmod 5=((k1%5:Nat):Int):=rfl;rw [e,bF (by omega) (by omega)];omega
 rw [aS];refine bP (λs=>∃ o:OpM,o.ok∧0≤o.By∧s=⟨0,[(7,.ptr 2 0),(2,iv k2),(1,iv k1),(6,.ptr 1 0),(3,.ptr 0 0)],[some (.box g.A),some (.box (Ak 0)),some (.box (eE o cI cI cI cI cI))]⟩) ?_ ?_
 ·simp only [go_sem];refine aB (aA _) rfl (Z6 k2 (by omega)) rfl ?_;simp only [go_sem,hby];exact ⟨Ed ((1+k1%5:Nat):Int) 0 (Nr k2) 0 0 0,FT ⟨by omega,by omega⟩ z0 (Z7 _) z0 z0 z0,by show (0:Int)≤((1+k1%5:Nat):Int);omega,rfl⟩
 rintro s ⟨o,ho,hb,rfl⟩;rw [aS];refine bP (λs=>s=⟨0,[(8,iv g.L.length),(7,.ptr 2 0),(2,iv k2),(1,iv k1),(6,.ptr 1 0),(3,.ptr 0 0)],[some (.box g.A),some (.box (Ak 0)),some (.box (eE o cI cI cI cI cI))]⟩) ?_ ?_
 ·simp only [go_sem,aL]
 rintro s rfl;rw [aS];refine bP (λs=>g.L.length≠0∧s=⟨0,[(8,iv g.L.length),(7,.ptr 2 0),(2,iv k2),(1,iv k1),(6,.ptr 1 0),(3,.ptr 0 0)],[some (.box g.A),some (.box (Ak 0)),some (.box (eE o cI cI cI cI cI))]⟩) ?_ ?_
 ·clear hck hg hIa hcm hs hA1 hA2;simp only [go_sem];refine aK (λh=>?_) (λh=>?_)
  ·simp only [go_sem,Ak,tm4];exact ⟨Ed 1 1 1 0 0 ((k1%4:Nat):Int),[],true,_,_,_,_,[],[],[],[],FT ⟨by decide,by decide⟩ ⟨by decide,by decide⟩ ⟨by decide,by decide⟩ z0 z0 ⟨by omega,by omega⟩,by show (0:Int)≤1;decide,⟨by simp,by simp⟩,λ_=>rfl,tC,oG,pQ,pR,.inr ⟨rfl,rfl,rfl,rfl,.inl ⟨rfl,rfl,rfl,rfl,rfl⟩⟩,rfl⟩
  ·simp only [go_sem];exact λe=>by rw [e] at h;simp at h
 rintro s ⟨hL0,rfl⟩;rw [aS];refine bP (λs=>∃ o:OpM,o.ok∧0≤o.By∧s=⟨0,[(8,iv g.L.length),(7,.ptr 2 0),(2,iv k2),(1,iv k1),(6,.ptr 1 0),(3,.ptr 0 0)],[some (.box g.A),some (.box (Ak 0)),some (.box (eE o cI cI cI cI cI))]⟩) ?_ ?_
 ·clear hck hg hIa hcm hs hA1 hA2;simp only [go_sem];refine aK (λh=>?_) (λh=>?_)
  ·simp only [go_sem];exact ⟨Ed 1 0 2 (IntKind.i64.wrap ((g.L.length:Int)+1)) (IntKind.i64.wrap (3-IntKind.i64.wrap (((k1:Int).tmod 5).tdiv 4))) 0,FT ⟨by decide,by decide⟩ z0 ⟨by decide,by decide⟩ (iZ _) (iZ _) z0,by show (0:Int)≤1;decide,rfl⟩
  ·simp only [go_sem];exact ⟨o,ho,hb,rfl⟩
 clear ho hb;rintro s ⟨o1,ho,hb,rfl⟩;clear o;have hdv:IntKind.i64.wrap ((k1:Int).tdiv 5)=((k1/5:Nat):Int):=by
  rw [show (k1:Int).tdiv 5=((k1/5:Nat):Int) from rfl,bF (by omega) (by omega)]
 have hvw:=λd=>Z8 (G:=G) g hg h200 d (k1/5) (by omega) (by omega);rw [aS];refine bP (λs=>∃ X:List Id,(∀ x∈X,x∈g.I)∧X.length≤2000∧s=⟨0,[(9,ids X),(8,iv g.L.length),(7,.ptr 2 0),(2,iv k2),(1,iv k1),(6,.ptr 1 0),(3,.ptr 0 0)],[some (.box g.A),some (.box (Ak 0)),some (.box (eE o1 cI cI cI cI cI))]⟩) ?_ ?_
 ·simp only [go_sem,hdv];refine mD (aA _) rfl (hvw o1.By) ?_;rintro r T' ⟨⟨X,rfl,h1,h2⟩,rfl⟩;simp only [go_sem];exact ⟨X,h1,h2,rfl⟩
 rintro s ⟨X,hX1,hX2,rfl⟩;rw [aS];refine bP (λs=>∃ X:List Id,(∀ x∈X,x∈g.I)∧X.length≤2000∧s=⟨0,[(9,ids X),(8,iv g.L.length),(7,.ptr 2 0),(2,iv k2),(1,iv k1),(6,.ptr 1 0),(3,.ptr 0 0)],[some (.box g.A),some (.box (Ak 0)),some (.box (eE o1 cI cI cI cI cI))]⟩) ?_ ?_
 ·simp only [go_sem];refine aK (λh=>?_) (λh=>?_)
  ·simp only [go_sem];refine aB (aA _) rfl (PI g hg) rfl ?_;simp only [go_sem];exact ⟨_,λx hx=>(eU _).mem_iff.1 hx,by rw [(eU _).length_eq,hg.i];omega,rfl⟩
  ·simp only [go_sem];exact ⟨X,hX1,hX2,rfl⟩
 clear hX1 hX2;rintro s ⟨X1,hX1,hX2,rfl⟩;clear X;have hXm:X1.length≤maxLen:=by unfold maxLen;omega
 rw [aS];refine bP (λs=>∃ (x:Id) (oc:List AV),x.ok∧s=⟨0,[(10,.ptr 3 0),(9,ids X1),(8,iv g.L.length),(7,.ptr 2 0),(2,iv k2),(1,iv k1),(6,.ptr 1 0),(3,.ptr 0 0)],[some (.box g.A),some (.box (Ak 0)),some (.box (eE o1 cI cI cI cI cI)),some (.box x.A),some (.box oc)]⟩) ?_ ?_
 ·simp only [go_sem];refine mD (aA _) rfl (Lf g hg X1 hXm 6) ?_;rintro r T' ⟨hr,rfl⟩;rcases hr with ⟨i,h1,h2,hk,hm,rfl⟩ | rfl
  ·simp only [go_sem];exact ⟨_,_,hg.is _ (iN h1),rfl⟩
  ·simp only [go_sem,Nj];exact ⟨⟨0,0,0⟩,_,id0,rfl⟩
 rintro s ⟨x,oc,hx,rfl⟩;rw [aS];refine bP (λs=>∃ (x:Id),x.ok∧s=⟨0,[(10,.ptr 3 0),(9,ids X1),(8,iv g.L.length),(7,.ptr 2 0),(2,iv k2),(1,iv k1),(6,.ptr 1 0),(3,.ptr 0 0)],[some (.box g.A),some (.box (Ak 0)),some (.box (eE o1 cI cI cI cI cI)),some (.box x.A),some (.box oc)]⟩) ?_ ?_
 ·have hI0:0<g.I.length:=by rw [hg.i];omega
  have g0:(g.I.map Id.A)[0]?=some g.I[0].A:=aI _ g.I 0 hI0;have h0:=hg.is _ (iN hI0);simp only [go_sem,Id.A_def] at g0 ⊢;refine aK (λh=>?_) (λh=>?_)
  ·simp only [go_sem,g0,aL,hI0,Id.A_def];exact ⟨_,h0,rfl⟩
  ·simp only [go_sem];exact ⟨x,hx,rfl⟩
 clear hx;rintro s ⟨x1,hx,rfl⟩;clear x;rw [aS];refine bP (λs=>s=⟨0,[(12,iv ((k2/20:Nat):Int)),(10,.ptr 3 0),(9,ids X1),(8,iv g.L.length),(7,.ptr 2 0),(1,iv k1),(6,.ptr 1 0),(3,.ptr 0 0)],[some (.box g.A),some (.box (Ak 0)),some (.box (eE o1 cI cI cI cI cI)),some (.box x1.A),some (.box oc)]⟩) ?_ ?_
 ·have hdk:IntKind.i64.wrap ((k2:Int).tdiv 20)=((k2/20:Nat):Int):=by
   rw [show (k2:Int).tdiv 20=((k2/20:Nat):Int) from rfl,bF (by omega) (by omega)]
  simp only [go_sem,hdk]
 rintro s rfl;have hkk:k2/20<1000000:=by omega
 generalize k2/20=k at *
 have q3:((k:Nat):Int).tmod 3=((k%3:Nat):Int):=rfl;have q6:((k:Nat):Int).tmod 6=((k%6:Nat):Int):=rfl;have q5:((k:Nat):Int).tmod 5=((k%5:Nat):Int):=rfl;rw [aS];refine bP (SwR g oc k1) ?_ ?_
 ·rcases (show o1.Kind=2∨o1.Kind=3∨o1.Kind=5∨o1.Kind=6∨o1.Kind=7∨o1.Kind=8∨(o1.Kind=9∨o1.Kind=10∨o1.Kind=11∨o1.Kind=12∨o1.Kind=13)∨(o1.Kind≠2∧o1.Kind≠3∧o1.Kind≠5∧o1.Kind≠6∧o1.Kind≠7∧o1.Kind≠8∧o1.Kind≠9∧o1.Kind≠10∧o1.Kind≠11∧o1.Kind≠12∧o1.Kind≠13) by omega) with hk | hk | hk | hk | hk | hk | hk | hk
  ·simp only [go_sem,hk,ge_iff_le];refine aK (λh=>?_) (λh=>?_)
   ·simp only [go_sem];exact sw0 (y:=x1) ((ho.dev _ (iZ _)).role _ (iZ _)) hb hX1 hX2 rfl
   ·simp only [go_sem];exact sw0 (y:=x1) ho hb hX1 hX2 rfl
  ·simp only [go_sem,hk];refine aK (λh=>?_) (λh=>?_)
   ·simp only [go_sem];exact sw0 (y:=x1) (((ho.kind 3 ⟨by decide,by decide⟩).dev 0 z0).mem _ (iZ _)) hb hX1 hX2 rfl
   ·simp only [go_sem];exact sw0 (y:=x1) ((ho.kind 3 ⟨by decide,by decide⟩).dev _ (iZ _)) hb hX1 hX2 rfl
  ·simp only [go_sem,hk];exact sw0 (y:=x1) (((ho.kind 5 ⟨by decide,by decide⟩).mem _ (iZ _)).role _ (iZ _)) hb hX1 hX2 rfl
  ·have hI0:0<g.I.length:=by rw [hg.i];omega
   obtain ⟨q,hq1,hq2,eq⟩:∃ q:Nat,1≤q∧q≤g.I.length∧(if 4<(g.I.length:Int) then 4 else (g.I.length:Int))=(q:Int):=⟨min g.I.length 4,by omega,by omega,by split<;>omega⟩
   have hq0:((q:Int)=0)=False:=by simp;omega
   have hqm:((k:Nat):Int).tmod (q:Int)=((k%q:Nat):Int):=rfl;have hqi:k%q<g.I.length:=AH (vF _ (by omega)) hq2;have gq:(g.I.map Id.A)[k%q]?=some g.I[k%q].A:=aI _ g.I _ hqi;have hgi:=hg.is _ (iN hqi);generalize g.I[k%q]=z at *
   obtain ⟨w1,hw1,ew1⟩:=aFl (k:Int);obtain ⟨w2,hw2,ew2⟩:=aCl ((IntKind.i64.wrap ((k:Int).tdiv 3)).tmod 5);obtain ⟨w3,hw3,ew3⟩:=aCl ((IntKind.i64.wrap ((k:Int).tdiv 15)).tmod 5);simp only [go_sem,hk,eq,hq0,hqm,hqi,gq,aL,Id.A_def,ew1];refine aK (λh=>?_) (λh=>?_)
   ·simp only [go_sem,ew2,ew3];exact ⟨_,X1,_,_,_,_,[w1,1,2,3,4,5,6,7,8],[w2,w3],[],[],x1,_,((ho.kind 6 ⟨by decide,by decide⟩).ep z hgi).n_ _ (Rb _),hb,hX1,hX2,Rc hw1,⟨by simp,by simp;exact ⟨hw2,hw3⟩⟩,pQ,pR,.inr ⟨rfl,rfl,rfl,rfl,.inr (.inr ⟨rfl,rfl,rfl⟩)⟩,rfl⟩
   ·simp only [go_sem];exact ⟨_,X1,_,_,_,_,[w1,1,2,3,4,5,6,7,8],[],[],[],x1,_,((ho.kind 6 ⟨by decide,by decide⟩).ep z hgi).n_ _ (Rb _),hb,hX1,hX2,Rc hw1,oG,pQ,pR,.inr ⟨rfl,rfl,rfl,rfl,.inr (.inl ⟨rfl,rfl,rfl,rfl⟩)⟩,rfl⟩
  ·obtain ⟨w,hw,ew⟩:=aFl (IntKind.i64.wrap (97+((k:Nat):Int).tmod 3));simp only [go_sem,hk,ew];exact ⟨_,X1,_,_,_,_,[w],[],[],[],x1,_,(ho.kind 7 ⟨by decide,by decide⟩).of_ _ hx,hb,hX1,hX2,aBx hw,oG,pQ,pR,.inr ⟨rfl,rfl,rfl,rfl,.inr (.inl ⟨rfl,rfl,rfl,rfl⟩)⟩,rfl⟩
  ·simp only [go_sem,hk];exact sw0 (y:=x1) ((ho.kind 8 ⟨by decide,by decide⟩).of_ _ hx) hb hX1 hX2 rfl
  ·rcases hk with hk | hk | hk | hk | hk
   all_goals (
    simp only [go_sem,hk]
    refine mD (aA _) rfl (XF g hg hck hIa hcm X1 hXm o1 ho hb k hkk) ?_
    rintro r T' ⟨⟨o2,gs,bs,h1,h2,h3,h4,rfl⟩,rfl⟩
    simp only [go_sem]
    refine aK (λh=>?_) (λh=>?_)
    ·simp only [go_sem,hdv]
     refine mD (aA _) rfl (hvw o2.By) ?_
     rintro r T' ⟨⟨X,rfl,h5,h6⟩,rfl⟩
     simp only [go_sem]
     exact ⟨o2,X,_,_,_,_,[],[],gs,bs,x1,[],h1,h2,h5,h6,tC,oG,h3,h4,.inl ⟨rfl,rfl,rfl,rfl,rfl,rfl,rfl⟩,rfl⟩
    ·simp only [go_sem]
     exact ⟨o2,X1,_,_,_,_,[],[],gs,bs,x1,[],h1,h2,hX1,hX2,tC,oG,h3,h4,.inl ⟨rfl,rfl,rfl,rfl,rfl,rfl,rfl⟩,rfl⟩)
  ·obtain ⟨n2,n3,n5,n6,n7,n8,n9,n10,n11,n12,n13⟩:=hk;have f2:(o1.Kind==2)=false:=by simpa using n2
   have f3:(o1.Kind==3)=false:=by simpa using n3
   have f5:(o1.Kind==5)=false:=by simpa using n5
   have f6:(o1.Kind==6)=false:=by simpa using n6
   have f7:(o1.Kind==7)=false:=by simpa using n7
   have f8:(o1.Kind==8)=false:=by simpa using n8
   have f9:(o1.Kind==9)=false:=by simpa using n9
   have f10:(o1.Kind==10)=false:=by simpa using n10
   have f11:(o1.Kind==11)=false:=by simpa using n11
   have f12:(o1.Kind==12)=false:=by simpa using n12
   have f13:(o1.Kind==13)=false:=by simpa using n13
   simp only [go_sem,f2,f3,f5,f6,f7,f8,f9,f10,f11,f12,f13];exact sw0 (y:=x1) ho hb hX1 hX2 rfl
 clear ho hb hX1 hX2 hXm hx;rintro s ⟨o,X,b,r',g',x,B,R,Gs,Xs,y,Y,ho,hb,hX,hXl,hB,hR,hGs,hXs,hcase,rfl⟩;clear o1 X1 x1;rw [aS];refine bP (λs=>∃ X:List Id,(∀ x∈X,x∈g.I)∧X.length≤2000∧s=⟨0,[(9,ids X),(7,.ptr 2 0),(1,iv k1),(6,.ptr 1 0),(3,.ptr 0 0)],[some (.box g.A),some (.box (Ak 0)),some (.box (eE o cI b r' g' x)),some (.box y.A),some (.box oc)]++Y⟩) ?_ ?_
 ·have hh:=tY (G:=G) X o.Of (by unfold maxLen;omega);cases hz:(o.Of.a==0&&(o.Of.b==0&&o.Of.c==0))
  ·rcases hcase with ⟨rfl,rfl,rfl,rfl,rfl,rfl,rfl⟩ | ⟨rfl,rfl,rfl,rfl,⟨rfl,rfl,rfl,rfl,rfl⟩ | ⟨rfl,rfl,rfl,rfl⟩ | ⟨rfl,rfl,rfl⟩⟩
   all_goals (
    simp only [go_sem,hz]
    refine aB (aA _) rfl hh rfl ?_
    simp only [go_sem]
    refine aK (λh=>?_) (λh=>?_)
    ·simp only [go_sem]
     refine aB (aA _) rfl (PI g hg) rfl ?_
     simp only [go_sem]
     exact ⟨_,λx hx=>(eU _).mem_iff.1 hx,by rw [(eU _).length_eq,hg.i];omega,rfl⟩
    ·simp only [go_sem]
     exact ⟨X,hX,hXl,rfl⟩)
  ·rcases hcase with ⟨rfl,rfl,rfl,rfl,rfl,rfl,rfl⟩ | ⟨rfl,rfl,rfl,rfl,⟨rfl,rfl,rfl,rfl,rfl⟩ | ⟨rfl,rfl,rfl,rfl⟩ | ⟨rfl,rfl,rfl⟩⟩
   all_goals (
    simp only [go_sem,hz,undef]
    exact ⟨X,hX,hXl,rfl⟩)
 clear hX hXl;rintro s ⟨X1,hX,hXl,rfl⟩;clear X;have hH:=RO (G:=G) g X1 hg (by omega);have hS:=aCg (G:=G) g X1 o.By (by omega) (λx hx=>by have:=hs x (hX x hx);omega);have hLt:=Zf (G:=G) g X1 hg (by omega);have hHo:(uS g X1).length≤1000∧∀ y∈uS g X1,y.ok:=⟨H6 hg X1,λx hx=>hg.is x (Hb X1 x hx)⟩
 have hSo:kZ (PG X1 o.By):=VN X1 o.By λx hx=>hs x (hX x hx);generalize uS g X1=H at *
 generalize PG X1 o.By=sq at *
 generalize DP g X1=lt at *
 have ho2:=(ho.seq sq hSo).at_ (IntKind.i64.wrap (lt+(IntKind.i64.wrap ((k1:Int).tdiv 5)).tmod 2)) (iZ _);clear hg hck hs hIa hcm h200 hA1 hA2 hvw hX hXl;rcases hcase with ⟨rfl,rfl,rfl,rfl,rfl,rfl,rfl⟩ | ⟨rfl,rfl,rfl,rfl,⟨rfl,rfl,rfl,rfl,rfl⟩ | ⟨rfl,rfl,rfl,rfl⟩ | ⟨rfl,rfl,rfl⟩⟩
 all_goals (
  simp only [go_sem]
  refine aB (aA _) rfl hH rfl ?_
  simp only [go_sem]
  refine aB (aA _) rfl hS rfl ?_
  simp only [go_sem]
  refine aB (aA _) rfl hLt rfl ?_
  simp only [go_sem,Ak])
 ·exact ⟨_,H,false,_,_,_,_,[],[],Gs,Xs,ho2,hb,hHo,(by simp),tC,oG,hGs,hXs,.inl ⟨rfl,rfl,rfl,rfl,rfl,rfl,rfl⟩,rfl⟩
 ·exact ⟨_,H,false,_,_,_,_,[],[],[],[],ho2,hb,hHo,(by simp),tC,oG,pQ,pR,.inr ⟨rfl,rfl,rfl,rfl,.inl ⟨rfl,rfl,rfl,rfl,rfl⟩⟩,rfl⟩
 ·exact ⟨_,H,false,_,_,_,_,B,[],[],[],ho2,hb,hHo,(by simp),hB,oG,pQ,pR,.inr ⟨rfl,rfl,rfl,rfl,.inr (.inl ⟨rfl,rfl,rfl,rfl⟩)⟩,rfl⟩
 ·exact ⟨_,H,false,_,_,_,_,B,R,[],[],ho2,hb,hHo,(by simp),hB,hR,pQ,pR,.inr ⟨rfl,rfl,rfl,rfl,.inr (.inr ⟨rfl,rfl,rfl⟩)⟩,rfl⟩
def o5 (g:GM) (hg:g.ok) (hck:∀ o∈g.L,fS o=0) (hs:∀ x∈g.I,x.b≤2147483647) (hIa:∀ x∈g.I,0≤x.a) (hcm:∀ c∈g.Cards,0≤c.Member) (h200:g.L.length≤200) (n m:Int) (hn:kZ n) (hm:kZ m) :
  aC PQ G wR [.ag g.A,iv n,iv m] [] λr T=>(∃ o:OpM,o.ok∧0≤o.By∧r=.ag o.A)∧T=[]:=by
 refine aC.dsub (p:=λr T=>(∃ (o:OpM) (P:List Id) (p b r' g x:AV) (B R:List Nat) (Gs:List Int) (X:List BoxM),o.ok∧0≤o.By∧(P.length≤1000∧∀ y∈P,y.ok)∧dN p (ids P)=true∧RowsOk b r' g x B R Gs X∧r=.ag (eE o p b r' g x))∧T=[]) ((XG g hg hck hs hIa hcm h200 n m hn hm).fin [0,1] ?_) ?_
 ·rintro r T' ⟨o,P,p,b,r',g',x,B,R,Gs,X,h1,h2,h3,h4,h5,h6,h7,h8,⟨rfl,rfl,rfl,rfl,rfl,rfl,rfl⟩ | ⟨rfl,rfl,rfl,rfl,⟨rfl,rfl,rfl,rfl,rfl⟩ | ⟨rfl,rfl,rfl,rfl⟩ | ⟨rfl,rfl,rfl⟩⟩,rfl⟩
  ·simp only [go_sem,jJ,List.getElem?_nil];exact ⟨o,P,_,_,_,_,_,[],[],Gs,X,h1,h2,h3,Gi h4,⟨tC,rfl,oG,rfl,h7,Ra _,h8,Lg _⟩,rfl⟩
  ·simp only [go_sem,jJ,List.getElem?_nil];exact ⟨o,P,_,_,_,_,_,[],[],[],[],h1,h2,h3,Gi h4,Rd,rfl⟩
  ·simp only [go_sem,jJ,List.getElem?_nil];exact ⟨o,P,_,_,_,_,_,B,[],[],[],h1,h2,h3,Gi h4,⟨h5,Lh _ _,oG,rfl,pQ,rfl,pR,rfl⟩,rfl⟩
  ·simp only [go_sem,jJ,List.getElem?_nil];exact ⟨o,P,_,_,_,_,_,B,R,[],[],h1,h2,h3,Gi h4,⟨h5,Lh _ _,h6,Lh _ _,pQ,rfl,pR,rfl⟩,rfl⟩
 ·rintro r T' ⟨⟨o,P,p,b,r',g',x,B,R,Gs,X,h1,h2,h3,h4,h5,rfl⟩,rfl⟩;exact ⟨_,Re h4 h5,⟨_,o3 h1 h3 h5.b1 h5.r1 h5.g1 h5.x1,h2,rfl⟩,rfl⟩
end
end
section
def XH {o:OpM} (h:fS o=0):1≤o.By:=by
 unfold fS at h;split at h
 ·simp at h
 split at h
 ·simp at h
 split at h
 ·simp at h
 ·rename_i hn;have:dU o=true:=by cases e:dU o<;>simp_all
  unfold dU lD at this;simp only [lN,decide_eq_true_eq] at this;omega
def Reach.ida {cs:List CardM} {g:GM} (h:Reach cs g):∀ x∈g.I,0≤x.a:=by
 induction h with
 | new=>simp
 | @add g o hr ho hid ih =>
  by_cases h:(cX g o).1=0
  ·have a:=FQ h;rw [xM a h];intro x hx;rcases eM.1 hx with hx | hx
   ·exact ih x hx
   ·rw [iU.1 hx];have:=XH a.check;show 0≤o.By;omega
  ·have e:(addM g o).1=g:=by rw [addM,if_pos h]
   rw [e];exact ih
def o6 (g:GM) (o:OpM):(addM g o).1.L.length≤g.L.length+1:=by
 by_cases h:(cX g o).1=0
 ·have a:=FQ h;rw [xM a h];simp
 ·rw [addM,if_pos h];exact Hk _
section
variable {G:Nat→Option (List AV)}
set_option maxHeartbeats 4000000
def Rf:aC PQ G vJ [] [] λr T=>r=Ow [1,2,3,1,2,3]∧T=[]:=by
 refine aC.fin (p:=λr T=>r=.own 0∧T=[some (.arr 1 [[iv 1],[iv 2],[iv 3],[iv 1],[iv 2],[iv 3]])]) (aD Ib (by decide) ?_) [0] ?_;rotate_left
 ·rintro r T' ⟨rfl,rfl⟩;simp only [go_sem,jJ];rfl
 simp only [go_sem]
def Reach.hyp6 {g:GM} (hr:Reach bN g):g.ok∧(∀ o∈g.L,fS o=0)∧(∀ x∈g.I,x.b≤2147483647)∧(∀ x∈g.I,0≤x.a)∧(∀ c∈g.Cards,0≤c.Member)∧g.L.length≤200:=by
 have gd:=hr.good oF;refine ⟨gd.ok,hr.checked,hr.seqb,hr.ida,?_,gd.n⟩;rw [gd.cards];exact λc hc=>by have:=Gf.mem c hc;omega
def VO:aC PQ G AT [.ls 5 (bN.map CardM.A)] [] λr T=>r=.ag (⟨bN,[],[],[],[]⟩:GM).A∧T=[]:=XD bN
def Rg:aC PQ G tK [Ow [1,2,3,1,2,3]] [] λr T=>r=.ls 5 (bN.map CardM.A)∧T=[]:=by
 refine (Zw [1,2,3,1,2,3] (by decide)).fin [0] ?_;rintro r T' ⟨rfl,rfl⟩;simp only [go_sem,jJ];rfl
def XI (l:List Int) (hl:l.length≤9223372036854775807) (hi:∀ n∈l,kZ n) (M:Nat) (hM:M≤100) :
  aC PQ G Cf [uK l,iv M] [] λr T=>(∃ g,Reach bN g∧g.L.length≤M∧r=.ag g.A)∧T=[]:=by
 refine aD LW (by decide) ?_;dsimp only [go_sem];simp only [go_sem];refine aB (aA _) rfl Rf rfl ?_;simp only [go_sem];refine aB (aA _) rfl Rg rfl ?_;simp only [go_sem];refine aB (aA _) rfl VO rfl ?_;simp only [go_sem];refine wD (λs=>∃ g,Reach bN g∧g.L.length≤M∧s=⟨0,[(4,.ptr 0 0),(5,.ptr 1 0)],[some (.box z5),some (.box g.A)]⟩) ?_ ?_;rotate_left
 ·rintro s ⟨g,hr,hgl,rfl⟩;simp only [go_sem,z5];exact ⟨g,hr,hgl,rfl⟩
 refine jE (λm s=>∃ (i:Nat) (g:GM),m=M-i∧i≤M∧g.L.length≤i∧Reach bN g∧s=⟨0,[(0,uK l),(1,iv M),(4,.ptr 0 0),(5,.ptr 1 0),(6,iv i)],[some (.box z5),some (.box g.A)]⟩) M ⟨0,_,rfl,by omega,cT _,Reach.new,by simp only [go_sem,z5]⟩ ?_;rintro m s ⟨i,g,hm,hiM,hgi,hr,rfl⟩;obtain ⟨hg,hck,hs,hIa,hcm,h200⟩:=hr.hyp6;have hA:=λo ho=>O9 (G:=G) g o hg ho;have hN:=λn m hn hm=>o5 (G:=G) g hg hck hs hIa hcm h200 n m hn hm;clear hck hs hIa hcm h200 hg;have b1:decide ((i:Int)<(M:Int))=decide (i<M):=by rw [rX,decide_eq_true_iff,decide_eq_true_iff];omega
 have b2:decide ((i:Int)<4)=decide (i<4):=by rw [rX,decide_eq_true_iff,decide_eq_true_iff];omega
 have w2:IntKind.i64.wrap (2*(i:Int))=((2*i:Nat):Int):=by rw [bF (by omega) (by omega)];omega
 have b3:decide (((2*i:Nat):Int)<(l.length:Int))=decide (2*i<l.length):=by rw [rX,decide_eq_true_iff,decide_eq_true_iff];omega
 by_cases hgo:i<M∧(i<4∨2*i<l.length)
 rotate_left
 ·rcases gM i M with hiM2 | hiM2
  ·have c1:decide (i<M)=true:=decide_eq_true hiM2;have c2:decide (i<4)=false:=decide_eq_false λh=>hgo ⟨hiM2,.inl h⟩;have c3:decide (2*i<l.length)=false:=decide_eq_false λh=>hgo ⟨hiM2,.inr h⟩;simp only [go_sem,aL,b1,b2,w2,b3,c1,c2,c3];exact ⟨g,hr,by omega,rfl⟩
  ·have c1:decide (i<M)=false:=decide_eq_false (by omega);simp only [go_sem,aL,b1,c1,undef];exact ⟨g,hr,by omega,rfl⟩
 obtain ⟨hiM2,hgo⟩:=hgo;have ws:=aF (show i<9223372036854775807 by omega);have w3:IntKind.i64.wrap (((2*i:Nat):Int)+1)=((2*i+1:Nat):Int):=by rw [bF (by omega) (by omega)];omega
 have b4:decide (((2*i+1:Nat):Int)<(l.length:Int))=decide (2*i+1<l.length):=by rw [rX,decide_eq_true_iff,decide_eq_true_iff];omega
 have c1:decide (i<M)=true:=decide_eq_true hiM2;rw [aS];refine bP (λs=>s=⟨0,[(0,uK l),(1,iv M),(4,.ptr 0 0),(5,.ptr 1 0),(6,iv i)],[some (.box z5),some (.box g.A)]⟩) ?_ ?_
 ·clear hN hA;rcases hgo with h4 | h4
  ·have c2:decide (i<4)=true:=decide_eq_true h4;simp only [go_sem,aL,b1,b2,c1,c2,undef]
  ·have c3:decide (2*i<l.length)=true:=decide_eq_true h4;rcases gM i 4 with h5 | h5
   ·have c2:decide (i<4)=true:=decide_eq_true h5;simp only [go_sem,aL,b1,b2,c1,c2,undef]
   ·have c2:decide (i<4)=false:=decide_eq_false (by omega);simp only [go_sem,aL,b1,b2,c1,c2,w2,b3,c3]
 rintro s rfl;obtain ⟨nv,mv,hnv,hmv,hcase⟩:∃ nv mv:Int,kZ nv∧kZ mv∧((2*i+1<l.length∧(l.map λn=>[iv n])[2*i]?=some [iv nv]∧(l.map λn=>[iv n])[2*i+1]?=some [iv mv])∨(¬2*i+1<l.length∧2*i<l.length∧(l.map λn=>[iv n])[2*i]?=some [iv nv]∧mv=0)∨(¬2*i<l.length∧nv=0∧mv=0)):=by
  have z0:kZ 0:=⟨by decide,by decide⟩
  rcases gM (2*i) l.length with h1 | h1
  ·rcases gM (2*i+1) l.length with h2 | h2
   ·exact ⟨_,_,hi _ (iN h1),hi _ (iN h2),.inl ⟨h2,aI _ l _ h1,aI _ l _ h2⟩⟩
   ·exact ⟨_,_,hi _ (iN h1),z0,.inr (.inl ⟨by omega,h1,aI _ l _ h1,rfl⟩)⟩
  ·exact ⟨_,_,z0,z0,.inr (.inr ⟨by omega,rfl,rfl⟩)⟩
 have hN1:=hN nv mv hnv hmv;clear hN;rcases hcase with ⟨h1,g1,g2⟩ | ⟨h1,h2,g1,rfl⟩ | ⟨h1,rfl,rfl⟩
 have h2:2*i<l.length:=by omega
 have d1:decide (2*i<l.length)=true:=decide_eq_true h2;have d2:decide (2*i+1<l.length)=true:=decide_eq_true h1;simp only [go_sem,aL,w2,b3,d1,w3,b4,d2,g1,g2,h1,h2];rotate_left;have d1:decide (2*i<l.length)=true:=decide_eq_true h2;have d2:decide (2*i+1<l.length)=false:=decide_eq_false h1;simp only [go_sem,aL,w2,b3,d1,w3,b4,d2,g1,h2];rotate_left;have d1:decide (2*i<l.length)=false:=decide_eq_false h1;have d2:decide (2*i+1<l.length)=false:=decide_eq_false (by omega);simp only [go_sem,aL,w2,b3,d1,w3,b4,d2]
 all_goals (
  clear hi hl b1 b2 b3 b4 w2 w3 c1 hgo
  refine And.intro ?_ ?_
  all_goals (
   refine mD (aA _) rfl hN1 ?_
   rintro r T' ⟨⟨o,ho,hby,rfl⟩,rfl⟩
   have hs:=xP ho
   have hsg:=LO (G:=G) o ho hby
   have hAs:=hA (bR o) hs
   have hgl:=o6 g (bR o)
   have hrr:=hr.add hs (TC hs)
   generalize bR o=p at *
   generalize hag:addM g p=ag at *
   clear hag hs hN1
   simp only [go_sem]
   try refine And.intro ?_ ?_
   all_goals (
    refine aB (aA _) rfl hsg rfl ?_
    simp only [go_sem]
    try refine And.intro ?_ ?_
    all_goals (
     refine aB (aA _) rfl hAs rfl ?_
     simp only [go_sem]
     refine aK (λhe=>?_) (λhe=>?_)
     ·simp only [go_sem,z5,ws]
      exact ⟨M-(i+1),by omega,i+1,_,rfl,by omega,by omega,hrr,rfl⟩
     ·simp only [go_sem,z5,ws]
      exact ⟨M-(i+1),by omega,i+1,g,rfl,by omega,by omega,hr,rfl⟩))))
end
end
section
def Hc (g:GM) (R:List Nat):List OpM:=R.map λk=>g.L.getD k default
section
variable {G:Nat→Option (List AV)}
set_option maxHeartbeats 4000000
def Rh (g:GM) (hg:g.ok):aC PQ G vI [.ag g.A] [] λr T=>r=uK ((List.range g.L.length).map λ(i:Nat)=>(i:Int))∧T=[]:=by
 refine aC.fin (p:=λr T=>r=.own 0∧T=[some (.arr 1 ((List.range g.L.length).map λ(i:Nat)=>[iv i]))]) (aD Ig (by decide) ?_) [0] ?_;rotate_left
 ·rintro r T' ⟨rfl,rfl⟩;simp only [go_sem,jJ];rw [uK,D1];rfl
 have hn:=hg.n;simp only [go_sem];refine aJ g.L.length (λi=>⟨0,[(1,.ptr 0 0),(3,.own 1),(4,iv i)],[some (.box g.A),some (.arr 1 ((List.range i).map λ(i:Nat)=>[iv i]))]⟩) (λ_=>True) ?_ trivial ?_ ?_
 ·simp only [go_sem,JU,mE]
 ·intro i hi _;have ws:=aF (show i<9223372036854775807 by omega);have hr:(List.range i).length=i:=Mi;rw [Pe,jA,fE,mE];simp only [go_sem,aL,bG hi,hr,ws,show i+1≤maxLen by unfold maxLen;omega,show (i+1)*8≤140737488355328 by omega]
 ·intro _;simp only [go_sem,aL,aX (cN _)]
def aBz (hK:GK G) (g:GM) (hg:g.ok) (hc:cardsOk g.Cards) (hids:∀ o∈g.L,(Ao o).ok) (R:List Nat) (hR:∀ i∈R,i<g.L.length) (hRl:R.length≤1000)
  (hA:∀ i (h:i<R.length),(oS (Aj g.Cards (Hc g (R.take i))) (g.L.getD R[i] default)).2=0) :
  aC PQ G tJ [.ag g.A,uK (R.map λ(i:Nat)=>(i:Int))] [] λr T=>r=.ptr 0 0∧T=TG 0 (Aj g.Cards (Hc g R)):=by
 refine aD LX (by decide) ?_;have hn:=hg.n;have hgo:∀ k,k<g.L.length→g.L.getD k default∈g.L:=λk hk=>by rw [uW,nQ hk];exact iN hk
 have hok:∀ i,(Aj g.Cards (Hc g (R.take i))).ok:=λi=>TS hc _ λo ho=>by
  obtain ⟨k,hk,rfl⟩:=cZ.1 ho;have:=hgo k (hR k (Ef hk));exact ⟨hg.ops _ this,hids _ this⟩
 simp only [go_sem];refine aQ (aA _) rfl (aFg g.Cards hc) ?_;simp only [go_sem,MG,mE,JU,jJ];refine aJ R.length (λi=>⟨0,[(1,uK (R.map λ(i:Nat)=>(i:Int))),(2,.ptr 0 0),(5,.ptr 1 0),(6,iv i)],some (.box g.A)::TG 1 (Aj g.Cards (Hc g (R.take i)))⟩) (λ_=>True) ?_ trivial ?_ ?_
 ·simp only [go_sem,TG,MG,rY,Aj,Hc,JW,PGM.I,mE,JU,jJ]
 ·intro i hi _;have ws:=aF (show i<9223372036854775807 by omega);have hRi:=hR _ (iN hi);have g1:(R.map ((λn=>[iv n])∘λ(i:Nat)=>(i:Int)))[i]?=some [iv (R[i]:Nat)]:=by rw [lO,nQ hi];rfl
  have g0:(g.L.map OpM.A)[R[i]]?=some (g.L.getD R[i] default).A:=by rw [lO,uW,nQ hRi];rfl
  have ho:=hg.ops _ (hgo _ hRi);have hz:=hA i hi;have ft:Aj g.Cards (Hc g (R.take (i+1)))=(oS (Aj g.Cards (Hc g (R.take i))) (g.L.getD R[i] default)).1:=by rw [oV hi,Hc,jA,fE,mE,JO];rfl
  have hp:=hok i;simp only [go_sem,TG,MG,aL,bG hi,hi,g0,g1,hRi];generalize Aj g.Cards (Hc g (R.take (i+1)))=p2 at *
  generalize Aj g.Cards (Hc g (R.take i))=p at *
  generalize g.L.getD R[i] default=o at *
  subst ft;refine aG (T2:=TG 0 p) [1,2,3] (aA _) (by decide) (by simp) rfl (by simp only [go_sem,TG,MG]) (aDr hK p o hp ho) ?_;rintro r T' ⟨rfl,hT⟩;rw [hz];rcases hT with ⟨rfl,he⟩ | rfl
  ·simp only [go_sem,TG,MG,ws]
  ·simp only [go_sem,TG,TH,MG,ws]
 intro _;simp only [go_sem,TG,MG,aL,aX (cN _),lP]
end
end
section
def vD (g:GM) (U:List Nat):List Id:=H3 g (U.map λi=>g.I.getD i default)
def Te (g:GM) (o:OpM) (U:List Nat):OpM:=opR { o with Seq:=PG (vD g U) o.By,At:=DP g (vD g U) } (uS g (vD g U)) [] [] [] []
def XS (g:GM) (o:OpM) (U:List Nat):GM:=(addM g (bR (Te g o U))).1
section
variable {G:Nat→Option (List AV)}
set_option maxHeartbeats 4000000
def VP {g:GM} (hg:g.ok) (hs:∀ x∈g.I,x.b≤2147483647) {o:OpM} (ho:o.ok) (U:List Nat) (hl:kZ (DP g (vD g U))):(Te g o U).ok :=
 o3 ((ho.seq _ (VN _ _ λx hx=>hs x (Gd hg.i _ x hx))).at_ _ hl) ⟨H6 hg _,λx hx=>hg.is x (Hb _ x hx)⟩ tC oG pQ pR
def o7 (g:GM) (hg:g.ok) (hs:∀ x∈g.I,x.b≤2147483647) (o:OpM) (ho:o.ok) (hby:0≤o.By) (U:List Nat) (hU:∀ i∈U,i<g.I.length) (hUl:U.length≤1000) (hlt:kZ (DP g (vD g U))) :
  aC PQ G nV [.ag g.A,.ag (eE o cI cI cI cI cI),uK (U.map λ(i:Nat)=>(i:Int))] [] λr T=>r=.ag (XS g o U).A∧T=[]:=by
 refine aD Ih (by decide) ?_;simp only [go_sem];refine aJ U.length (λi=>⟨0,[(2,uK (U.map λ(i:Nat)=>(i:Int))),(3,.ptr 0 0),(4,.ptr 1 0),(6,.ptr 2 0),(7,.own 3),(8,iv i)],[some (.box g.A),some (.box (eE o cI cI cI cI cI)),some (.box z5),some (.arr 3 ((U.take i).map λk=>(g.I.getD k default).A))]⟩) (λ_=>True) ?_ trivial ?_ ?_
 ·simp only [go_sem,z5,rY,mE]
 ·intro i hi _;have ws:=aF (show i<9223372036854775807 by omega);have hk:=hU _ (iN hi);have g0:(U.map ((λn=>[iv n])∘λ(i:Nat)=>(i:Int)))[i]?=some [iv (U[i]:Nat)]:=by rw [lO,nQ hi];rfl
  have g1:(g.I.map Id.A)[U[i]]?=some (g.I.getD U[i] default).A:=by rw [lO,uW,nQ hk];rfl
  have ht:(U.take (i+1)).map (λk=>(g.I.getD k default).A)=(U.take i).map (λk=>(g.I.getD k default).A)++[(g.I.getD U[i] default).A]:=by rw [oV hi,jA];rfl
  have hl:((U.take i).map λk=>(g.I.getD k default).A).length=i:=by rw [aL,kM];omega
  rw [ht];generalize (U.take i).map (λk=>(g.I.getD k default).A)=L at *
  generalize g.I.getD U[i] default=x at *
  simp only [go_sem,z5,aL,bG hi,hi,hk,g0,g1,hl,ws,Id.A_def,show (i+1)*24≤140737488355328 by omega,show i+1≤maxLen by unfold maxLen;omega]
 ·intro _;have hn:=hg.n;have hW:aC PQ G pW [.ag g.A,.ls 3 (U.map λk=>(g.I.getD k default).A)] [] (λr T=>r=ids (vD g U)∧T=[]):=by
   have h:=VD (G:=G) g (U.map λi=>g.I.getD i default) hg (by rw [aL];omega);rw [ids,D1] at h;exact h
  have hb2:=VP hg hs ho U hlt;have hbl:(vD g U).length≤100000:=by
   have:=RT (g:=g) (U.map λi=>g.I.getD i default);rw [aL] at this;unfold vD;omega
  have hH:=RO (G:=G) g (vD g U) hg hbl;have hS:=aCg (G:=G) g (vD g U) o.By hbl (λx hx=>by have:=hs x (Gd hg.i _ x hx);omega);have hL:=Zf (G:=G) g (vD g U) hg hbl;have hsg:=LO (G:=G) (Te g o U) hb2 hby
  have hA:=O9 (G:=G) g (bR (Te g o U)) hg (xP hb2);have bO:opR { o with Seq:=PG (vD g U) o.By,At:=DP g (vD g U) } (uS g (vD g U)) [] [] [] []=Te g o U:=rfl;unfold XS;generalize Te g o U=p at *
  generalize vD g U=X at *
  generalize uS g X=H at *
  generalize PG X o.By=sq at *
  generalize DP g X=lt at *
  clear hU hs hb2 hlt ho;simp only [go_sem,z5,aL,aX (cN _),lP];refine aB (aA _) rfl hW rfl ?_;simp only [go_sem];refine aB (aA _) rfl hH rfl ?_;simp only [go_sem];refine aB (aA _) rfl hS rfl ?_;simp only [go_sem];refine aB (aA _) rfl hL rfl ?_;simp only [go_sem]
  have hsg2:aC PQ G gJ [.ag (eE { o with Seq:=sq,At:=lt } (ids H) cI cI cI cI)] [] λr T=>r=.ag (bR p).A∧T=[] :=
   aC.asub hsg (by rw [←bO];simp only [mB,Re (Ns H) Rd,AI])
  clear hsg;refine And.intro ?_ ?_
  all_goals (
   refine aB (aA _) rfl hsg2 rfl ?_
   simp only [go_sem]
   try refine And.intro ?_ ?_
   all_goals (
    refine aB (aA _) rfl hA rfl ?_
    simp only [go_sem]))
end
def DR {cs:List CardM} {g:GM} (hr:Reach cs g) (hg:g.ok) {o:OpM} (ho:o.ok) (U:List Nat) (hl:kZ (DP g (vD g U))):Reach cs (XS g o U):=by
 have h:=xP (VP hg hr.seqb ho U hl);exact hr.add h (TC h)
def Dv {cs:List CardM} {g:GM} (hr:Reach cs g) (X:List Id):kZ (DP g X):=by
 have key:∀ (X:List Id) (t:Int),0≤t→t≤2147483647→0≤X.foldl (rS g) t∧X.foldl (rS g) t≤2147483647:=by
  intro X
  induction X with
  | nil=>exact λt h0 h1=>⟨h0,h1⟩
  | cons x X ih =>
   intro t h0 h1;have hx:(g.L.getD (aM g.I x).toNat default).At≤2147483647:=by
    rw [uW];rcases gM (aM g.I x).toNat g.L.length with h | h
    ·rw [nQ h];exact (Lb (hr.checked _ (iN h))).2
    ·rw [oW h];decide
   refine ih _ ?_ ?_
   ·unfold rS;split<;>(try split)<;>omega
   ·unfold rS;split<;>(try split)<;>omega
 have:=key X 0 (by decide) (by decide);unfold DP;exact ⟨by omega,by omega⟩
end
section

end
end Hud
