import Derived.Test.YthlndebkfkanbaaGreatDoorLib08
set_option linter.all false
section
namespace Hud
instance:NeZero PP:=⟨by decide⟩
abbrev Fq:=Fin PP
theorem aOd {a b:Fq} (h:a*b=0):a=0\/b=0:=by
 have h1:(a*b).val=0:=by rw [h];rfl
 rw [Fin.val_mul] at h1
 rcases aZ2 h1 with h2 | h2
 ·left
  apply Fin.ext
  rw [Nat.mod_eq_of_lt a.isLt] at h2
  simpa using h2
 ·right
  apply Fin.ext
  rw [Nat.mod_eq_of_lt b.isLt] at h2
  simpa using h2
theorem tY (a:Fq) (n:Nat):(a^n).val=a.val^n%PP:=by
 induction n with
 | zero =>
  have:(a^0:Fq)=1:=by grind
  rw [this]
  rfl
 | succ n ih =>
  have:a^(n+1)=a^n*a:=by grind
  rw [this,Fin.val_mul,ih,Nat.pow_succ,Nat.mod_mul_mod]
theorem aMJ {a:Fq} (h:a≠0):a^NN=1:=by
 apply Fin.ext
 rw [tY,aWG]
 ·rfl
 ·rw [Nat.mod_eq_of_lt a.isLt]
  intro h0
  exact h (Fin.ext (by simpa using h0))
def inv (a:Fq):Fq:=a^(NN-1)
theorem aZ3 {a:Fq} (h:a≠0):a*inv a=1:=by
 have e0:∀ n m:Nat,n=m+1->a^n=a^m*a:=by
  rintro n m rfl
  grind
 have e:=e0 NN (NN-1) (by decide)
 rw [inv,<-aMJ h,e]
 generalize a^(NN-1)=b
 grind
theorem aUS (a:Fq):a*0=0:=Fin.mul_zero a
theorem aWH (a:Fq):0*a=0:=Fin.zero_mul a
theorem bAU (a:Fq):0+a=a:=Fin.zero_add a
theorem aZ4 (a:Fq):a+0=a:=Fin.add_zero a
theorem bAV:(1:Fq)≠0:=by decide
def ev:List Fq->Fq->Fq
 | [],_=>0
 | c::l,t=>c+t*ev l t
def zp (l:List Fq):Prop:=∀ c∈l,c=0
theorem bA9 {l:List Fq} (h:zp l) (t:Fq):ev l t=0:=by
 induction l with
 | nil=>rfl
 | cons c l ih =>
  have h1:=h c (by simp)
  have h2:=ih fun d hd=>h d (by simp [hd])
  simp only [ev,h1,h2,aUS,bAU]
def sd (z:Fq):List Fq->List Fq
 | []=>[]
 | [_]=>[]
 | _::d::l=>ev (d::l) z::sd z (d::l)
theorem aWI (z:Fq):∀ l,(sd z l).length=l.length-1
 | []=>rfl
 | [_]=>rfl
 | _::d::l=>by
  have:=aWI z (d::l)
  simp only [sd,List.length_cons] at this ⊢
  omega
theorem bAa (z t:Fq):∀ l,ev l t=(t-z)*ev (sd z l) t+ev l z
 | []=>by simp only [ev,sd,aUS,bAU]
 | [c]=>by simp only [ev,sd];grind
 | c::d::l=>by
  have:=bAa z t (d::l)
  have e1:ev (c::d::l) t=c+t*ev (d::l) t:=rfl
  have e2:ev (c::d::l) z=c+z*ev (d::l) z:=rfl
  have e3:ev (sd z (c::d::l)) t=ev (d::l) z+t*ev (sd z (d::l)) t:=rfl
  rw [e1,e2,e3,this]
  generalize ev (d::l) z=r
  generalize ev (sd z (d::l)) t=q
  grind
theorem bAb {z:Fq}:∀ {l},ev l z=0->zp (sd z l)->zp l
 | [],_,_=>by simp [zp]
 | [c],h,_=>by
  simp only [ev] at h
  have hc:c=0:=by grind
  intro x hx
  rw [List.mem_singleton.1 hx,hc]
 | c::d::l,h,hs=>by
  simp only [sd] at hs
  have h1:=hs _ (List.mem_cons_self)
  have h2:=bAb h1 fun x hx=>hs x (List.mem_cons_of_mem _ hx)
  have e2:ev (c::d::l) z=c+z*ev (d::l) z:=rfl
  rw [e2,h1] at h
  have hc:c=0:=by grind
  intro x hx
  rcases List.mem_cons.1 hx with rfl | hx
  ·exact hc
  ·exact h2 x hx
theorem aPM:∀ (n:Nat) {l:List Fq} {R:List Fq},l.length<=n->¬zp l->R.Nodup->(∀ z∈R,ev l z=0)->R.length<n
 | 0,l,R,hl,hz,_,_=>by
  have:l=[]:=List.eq_nil_of_length_eq_zero (by omega)
  subst this
  exact absurd (by simp [zp]) hz
 | n+1,l,[],_,_,_,_=>by simp
 | n+1,l,z::R,hl,hz,hn,hr=>by
  obtain ⟨h1,h2⟩:=List.nodup_cons.1 hn
  have hz0:=hr z (by simp)
  have:=aPM n (l:=sd z l) (R:=R) (by rw [aWI];omega) (fun h=>hz (bAb hz0 h)) h2 fun y hy=>by
   have e:=bAa z y l
   rw [hr y (by simp [hy]),hz0] at e
   have e2:(y-z)*ev (sd z l) y=0:=by grind
   rcases aOd e2 with h | h
   ·have:y=z:=by grind
    exact absurd (this ▸ hy) h1
   ·exact h
  simp only [List.length_cons]
  omega
theorem aGB {l R:List Fq} (hl:l.length<=R.length) (hn:R.Nodup) (hr:∀ z∈R,ev l z=0):zp l:=by
 refine Classical.byContradiction fun hz=>?_
 have:=aPM l.length (Nat.le_refl _) hz hn hr
 omega
def pa:List Fq->List Fq->List Fq
 | [],q=>q
 | p,[]=>p
 | c::p,d::q=>(c+d)::pa p q
theorem aGC (t:Fq):∀ p q,ev (pa p q) t=ev p t+ev q t
 | [],q=>by simp only [pa,ev];grind
 | c::p,[]=>by simp only [pa,ev];grind
 | c::p,d::q=>by
  have:=aGC t p q
  simp only [pa,ev,this]
  grind
theorem aA7:∀ p q,(pa p q).length=max p.length q.length
 | [],q=>by simp [pa]
 | c::p,[]=>by simp [pa]
 | c::p,d::q=>by simp only [pa,List.length_cons,aA7 p q];omega
def ps (c:Fq) (p:List Fq):List Fq:=p.map (c*·)
theorem aTh (c t:Fq) (p:List Fq):ev (ps c p) t=c*ev p t:=by
 induction p with
 | nil=>simp only [ps,List.map_nil,ev];grind
 | cons d p ih =>
  simp only [ps,List.map_cons,ev] at ih ⊢
  rw [ih]
  grind
def pm:List Fq->List Fq->List Fq
 | [],_=>[]
 | c::p,q=>pa (ps c q) (0::pm p q)
theorem aWJ (t:Fq) (q:List Fq):∀ p,ev (pm p q) t=ev p t*ev q t
 | []=>by simp only [pm,ev];grind
 | c::p=>by
  simp only [pm,aGC,aTh,ev,aWJ t q p]
  grind
def mon (d:Nat) (l:List Fq):Prop:=∃ f,l=f++[1]/\f.length=d
theorem aEp {d:Nat} {l:List Fq} (h:mon d l):l.length=d+1:=by obtain ⟨f,rfl,rfl⟩:=h;simp
theorem aTi {d:Nat}:∀ {p q:List Fq},mon d q->p.length<=d->mon d (pa p q)
 | [],q,h,_=>h
 | c::p,[],⟨f,hf,_⟩,hl=>by simp at hf
 | c::p,e::q,⟨f,hf,hd⟩,hl=>by
  cases f with
  | nil=>simp at hd;subst hd;simp at hl
  | cons x f =>
   simp only [List.cons_append,List.cons.injEq] at hf
   obtain ⟨rfl,rfl⟩:=hf
   obtain ⟨g,hg,hgl⟩:=aTi (d:=f.length) (p:=p) (q:=f++[1]) ⟨f,rfl,rfl⟩ (by simp at hd hl;omega)
   exact ⟨(c+e)::g,by simp only [pa,hg,List.cons_append],by simp at hd ⊢;omega⟩
theorem aRF {e:Nat} {q:List Fq} (hq:mon e q):∀ {d:Nat} {p:List Fq},mon d p->mon (d+e) (pm p q)
 | d,[],⟨f,hf,_⟩=>by simp at hf
 | d,c::p,⟨f,hf,hd⟩=>by
  cases f with
  | nil =>
   simp only [List.nil_append,List.cons.injEq] at hf
   obtain ⟨rfl,rfl⟩:=hf
   simp at hd
   subst hd
   have h1:ps 1 q=q:=by
    unfold ps
    conv=>rhs;rw [<-List.map_id q]
    apply List.map_congr_left
    intro x _
    simp only [id]
    grind
   simp only [pm,h1,Nat.zero_add]
   obtain ⟨g,rfl,hg⟩:=hq
   cases g with
   | nil =>
    simp at hg
    subst hg
    refine ⟨[],?_,rfl⟩
    simp only [List.nil_append,pa,List.cons.injEq,and_true]
    decide
   | cons x g =>
    refine ⟨(x+0)::g,?_,by simpa using hg⟩
    simp only [List.cons_append,pa]
    cases g<;>rfl
  | cons x f =>
   simp only [List.cons_append,List.cons.injEq] at hf
   obtain ⟨rfl,rfl⟩:=hf
   simp only [pm]
   have ih:=aRF hq (d:=f.length) (p:=f++[1]) ⟨f,rfl,rfl⟩
   have:mon (d+e) (0::pm (f++[1]) q):=by
    obtain ⟨g,hg,hgl⟩:=ih
    exact ⟨0::g,by rw [hg];rfl,by simp at hd ⊢;omega⟩
   refine aTi this ?_
   have:=aEp hq
   simp only [ps,List.length_map] at *
   simp at hd
   omega
def pr:List Fq->List Fq
 | []=>[1]
 | z::R=>pm [-z,1] (pr R)
theorem bAW {p q:List Fq} {R:List Fq} (hp:p.length<=R.length) (hq:q.length<=R.length) (hn:R.Nodup) (h:∀ z∈R,ev p z=ev q z):∀ t,ev p t=ev q t:=by
 intro t
 have h1:=aGB (l:=pa p (ps (-1) q)) (R:=R) (by rw [aA7];simp only [ps,List.length_map];omega) hn fun z hz=>by
  rw [aGC,aTh,h z hz];grind
 have h2:=bA9 h1 t
 rw [aGC,aTh] at h2
 grind
end Hud
end
section
namespace Hud
theorem bAX (n:Nat):∃ l:List (Fin n),l.Nodup/\l.length=n/\∀ x,x∈l:=⟨List.finRange n,List.nodup_finRange n,List.length_finRange,fun x=>List.mem_finRange x⟩
theorem aUT {l:List Fq} (hl:l.length<=PP) (h:∀ t,ev l t=0):zp l:=by
 obtain ⟨R,h1,h2,_⟩:=bAX PP
 exact aGB (by omega) h1 fun z _=>h z
theorem aRG {p q:List Fq} (hl:p.length=q.length) (hp:p.length<=PP) (h:∀ t,ev p t=ev q t):p=q:=by
 have hz:∀ (p q:List Fq),p.length=q.length->zp (pa p (ps (-1) q))->p=q:=by
  intro p
  induction p with
  | nil=>intro q hl _;exact (List.eq_nil_of_length_eq_zero hl.symm).symm
  | cons c p ih =>
   intro q hl hz
   cases q with
   | nil=>simp at hl
   | cons d q =>
    have h1:=hz (c+-1*d) (by simp [ps,pa])
    have h2:=ih q (by simpa using hl) fun x hx=>hz x (by simp only [ps,List.map_cons,pa];exact List.mem_cons_of_mem _ hx)
    have:c=d:=by grind
    rw [this,h2]
 refine hz p q hl (aUT (by rw [aA7];simp only [ps,List.length_map];omega) fun t=>?_)
 rw [aGC,aTh,h t]
 grind
def bT (l:List Fq):List Fq:=(l.reverse.dropWhile (· == 0)).reverse
theorem tZ (l:List Fq) (c:Fq):bT (l++[c])=if c=0 then bT l else l++[c]:=by
 unfold bT
 rw [List.reverse_append,List.reverse_singleton,List.singleton_append,List.dropWhile_cons]
 by_cases h:c=0
 ·simp [h]
 ·simp [h]
theorem aOe (t c:Fq):∀ l:List Fq,ev (l++[c]) t=ev l t+c*t^l.length
 | []=>by
  have:t^0=1:=by grind
  simp only [List.nil_append,ev,List.length_nil,this,aUS,aZ4,bAU]
  grind
 | d::l=>by
  have:=aOe t c l
  simp only [List.cons_append,ev,this,List.length_cons]
  generalize l.length=n
  generalize ev l t=e
  grind
theorem aJp {p:List Fq->Prop} (h0:p []) (hs:∀ l c,p l->p (l++[c])):∀ l,p l:=by
 intro l
 rw [<-List.reverse_reverse l]
 induction l.reverse with
 | nil=>exact h0
 | cons c r ih=>rw [List.reverse_cons];exact hs _ _ ih
theorem xV (t:Fq):∀ l,ev (bT l) t=ev l t:=by
 refine aJp rfl fun l c ih=>?_
 rw [tZ]
 split
 ·rename_i h
  subst h
  rw [ih,aOe,aWH,aZ4]
 ·rfl
theorem oF:∀ l,(bT l).length<=l.length:=by
 refine aJp (Nat.le_refl _) fun l c ih=>?_
 rw [tZ]
 split
 ·simp;omega
 ·exact Nat.le_refl _
def tr (l:List Fq):Prop:=l=[]\/∃ f c,l=f++[c]/\c≠0
theorem aJq {l:List Fq} (h:tr l):bT l=l:=by
 rcases h with rfl | ⟨f,c,rfl,hc⟩
 ·rfl
 ·rw [tZ,if_neg hc]
theorem aOf:∀ l,∃ k,l=bT l++List.replicate k 0:=by
 refine aJp ⟨0,rfl⟩ fun l c ih=>?_
 rw [tZ]
 split
 ·rename_i h
  subst h
  obtain ⟨k,hk⟩:=ih
  exact ⟨k+1,by rw [List.replicate_succ',<-List.append_assoc,<-hk]⟩
 ·exact ⟨0,by simp⟩
theorem aRH {d:Nat} {l:List Fq} (h:mon d l):tr l:=by
 obtain ⟨f,rfl,_⟩:=h
 exact .inr ⟨f,1,rfl,bAV⟩
theorem aWK (t v:Fq):∀ (l:List Fq) (i:Nat),i<l.length->ev (l.set i v) t=ev l t+(v-l.getD i 0)*t^i
 | [],i,h=>by simp at h
 | c::l,0,_=>by
  have:t^0=1:=by grind
  simp only [List.set_cons_zero,ev,List.getD_cons_zero,this]
  generalize ev l t=e
  grind
 | c::l,i+1,h=>by
  have:=aWK t v l i (by simpa using h)
  simp only [List.set_cons_succ,ev,List.getD_cons_succ,this]
  generalize ev l t=e
  generalize l.getD i 0=x
  grind
def kT (c:Fq):List Fq->Nat->List Fq->List Fq
 | [],_,a=>a
 | x::b,k,a=>kT c b (k+1) (a.set k (a.getD k 0-c*x))
theorem aDs (c:Fq):∀ (b:List Fq) (k:Nat) (a:List Fq),(kT c b k a).length=a.length
 | [],_,_=>rfl
 | x::b,k,a=>by rw [kT,aDs c b,List.length_set]
theorem aMK (c t:Fq):∀ (b:List Fq) (k:Nat) (a:List Fq),k+b.length<=a.length->ev (kT c b k a) t=ev a t-c*t^k*ev b t
 | [],k,a,_=>by
  simp only [kT,ev,aUS]
  generalize ev a t=x
  grind
 | x::b,k,a,h=>by
  have hk:k<a.length:=by simp only [List.length_cons] at h;omega
  rw [kT,aMK c t b (k+1) _ (by rw [List.length_set];simp only [List.length_cons] at h;omega),aWK t _ a k hk]
  simp only [ev]
  generalize ev a t=y
  generalize ev b t=z
  generalize a.getD k 0=w
  grind
end Hud
end
section
namespace Hud
end Hud
end
section
namespace Hud
theorem aFI (q:List Fq) (hq:q≠[]):∀ p,p≠[]->(pm p q).length+1=p.length+q.length
 | [],h=>absurd rfl h
 | [c],_=>by
  have:0<q.length:=List.length_pos_iff.2 hq
  simp only [pm,aA7,ps,List.length_map,List.length_cons,List.length_nil]
  omega
 | c::d::p,_=>by
  have:=aFI q hq (d::p) (by simp)
  have:0<q.length:=List.length_pos_iff.2 hq
  rw [pm,aA7]
  simp only [ps,List.length_map,List.length_cons] at *
  omega
def xW (a b:List Fq):List Fq:=if bT a=[]\/bT b=[] then [] else bT (pm (bT a) (bT b))
theorem aTj (t:Fq) (a b:List Fq):ev (xW a b) t=ev a t*ev b t:=by
 unfold xW
 split
 ·rename_i h
  rcases h with h | h
  ·rw [<-xV t a,h];simp only [ev,aWH]
  ·rw [<-xV t b,h];simp only [ev,aUS]
 ·rw [xV,aWJ,xV,xV]
theorem aPN (a b:List Fq):xW a b=[]\/(xW a b).length+1<=a.length+b.length:=by
 unfold xW
 split
 ·exact .inl rfl
 ·rename_i h
  simp only [not_or] at h
  have h1:=aFI (bT b) h.2 (bT a) h.1
  have h2:=oF (pm (bT a) (bT b))
  have h3:=oF a
  have h4:=oF b
  exact .inr (by omega)
theorem aWL {d e:Nat} {a b:List Fq} (ha:mon d a) (hb:mon e b):mon (d+e) (xW a b):=by
 have h1:=aEp ha
 have h2:=aEp hb
 unfold xW
 rw [aJq (aRH ha),aJq (aRH hb),if_neg (fun h=>by rcases h with h | h<;>simp [h] at h1 h2),aJq (aRH (aRF hb ha))]
 exact aRF hb ha
theorem aIa (x:Fq) (n:Nat):x^n=(x*x)^(n/2)*x^(n%2):=by
 have key:∀ m k:Nat,x^(2*m+k)=(x*x)^m*x^k:=by
  intro m
  induction m with
  | zero =>
   intro k
   rw [Nat.mul_zero,Nat.zero_add]
   generalize x^k=y
   grind
  | succ m ih =>
   intro k
   have e1:∀ (x:Fq) (k:Nat),x^(k+1)=x^k*x:=fun x k=>by grind
   rw [show 2*(m+1)+k=2*m+(k+2) by omega,ih,e1 (x*x),e1 x (k+1),e1 x k]
   generalize (x*x)^m=y
   generalize x^k=z
   grind
 rw [<-key,Nat.div_add_mod]
theorem pw0 (x:Fq):x^0=1:=by grind
theorem pw1 (x:Fq):x^1=x:=by grind
theorem aRI (x:Fq) (a b:Nat):x^(a+b)=x^a*x^b:=by
 induction b with
 | zero=>rw [Nat.add_zero,pw0];generalize x^a=y;grind
 | succ b ih =>
  have e1:∀ k:Nat,x^(k+1)=x^k*x:=fun k=>by grind
  rw [<-Nat.add_assoc,e1,e1,ih]
  generalize x^a=y
  generalize x^b=z
  grind
end Hud
end
namespace Hud
open Go
section
theorem aM {n:Int} (h1:-9223372036854775808<=n) (h2:n<=9223372036854775807):IntKind.i64.wrap n=n:=by
 simp [IntKind.wrap,IntKind.bits,IntKind.signed];omega
theorem aEq {n:Nat} (h:n<=9223372036854775807):IntKind.i64.wrap (n:Int)=n:=aM (by omega) (by omega)
theorem aH {n:Nat} (h:n<9223372036854775807):IntKind.i64.wrap ((n:Int)+1)=((n+1:Nat):Int):=by rw [aM (by omega) (by omega)];rfl
theorem aML {n:Nat} (h:n<9223372036854775807):IntKind.i64.wrap (((n+1:Nat):Int)-1)=n:=by rw [aM (by omega) (by omega)];omega
@[go_sem] theorem bF4 (n:Nat):decide (((n+1:Nat):Int)>0)=true:=decide_eq_true (by omega)
@[go_sem] theorem bFX:decide ((0:Int)>0)=false:=Eq.trans rfl rfl
@[go_sem] theorem bCL:decide (((0:Nat):Int)>0)=false:=Eq.trans rfl rfl
@[go_sem] theorem aYN {α β:Type} (f:α->β) (l:List α) (p:Nat):((l.map f).drop p).take (l.length-p)=(l.map f).drop p:=List.take_of_length_le (by simp)
@[go_sem] theorem aWM {α:Type} (l:List α) (p:Nat):(l.drop p).take (l.length-p)=l.drop p:=List.take_of_length_le (by simp)
@[go_sem] theorem aZ5 {α β:Type} (f:α->β) (l:List α):(l.map f).take l.length=l.map f:=List.take_of_length_le (by simp)
theorem bQ {a b:Nat} (h:a<b):decide ((a:Int)<(b:Int))=true:=by simpa using h
theorem bV {a b:Nat} (h:¬a<b):decide ((a:Int)<(b:Int))=false:=by simpa using h
theorem aX {α β:Type} (f:α->β) (l:List α) (i:Nat) (h:i<l.length):(l.map f)[i]?=some (f l[i]):=by simp [h]
mutual
theorem bAc {L:List Nat}:∀ {x:AV},eN x=[]->rnA L x=x
 | .own _,h=>by simp [eN] at h
 | .ptr _ _,h=>by simp [eN] at h
 | .elt _ _ _ _,h=>by simp [eN] at h
 | .vw _ _ _ _,h=>by simp [eN] at h
 | .mp _,h=>by simp [eN] at h
 | .yl _,h=>by simp [eN] at h
 | .ag cs,h=>by simp only [eN] at h;simp only [rnA];rw [wX h]
 | .cl f cs,h=>by simp only [eN] at h;simp only [rnA];rw [wX h]
 | .bm f kk cs,h=>by simp only [eN] at h;simp only [rnA];rw [wX h]
 | .tup cs,h=>by simp only [eN] at h;simp only [rnA];rw [wX h]
 | .v _,_=>rfl
 | .ls _ _,_=>rfl
 | .rp _,_=>rfl
 | .any,_=>rfl
theorem wX {L:List Nat}:∀ {x:List AV},fI x=[]->rnL L x=x
 | [],_=>rfl
 | c::cs,h=>by simp only [fI,List.append_eq_nil_iff] at h;simp only [rnL];rw [bAc h.1,wX h.2]
end
mutual
theorem aTk {L:List Nat} {n:Nat}:∀ {x:AV},eN x=[]->bkA L n x=x
 | .own _,h=>by simp [eN] at h
 | .ptr _ _,h=>by simp [eN] at h
 | .elt _ _ _ _,h=>by simp [eN] at h
 | .vw _ _ _ _,h=>by simp [eN] at h
 | .mp _,h=>by simp [eN] at h
 | .yl _,h=>by simp [eN] at h
 | .ag cs,h=>by simp only [eN] at h;simp only [bkA];rw [aFJ h]
 | .cl f cs,h=>by simp only [eN] at h;simp only [bkA];rw [aFJ h]
 | .bm f kk cs,h=>by simp only [eN] at h;simp only [bkA];rw [aFJ h]
 | .tup cs,h=>by simp only [eN] at h;simp only [bkA];rw [aFJ h]
 | .v _,_=>rfl
 | .ls _ _,_=>rfl
 | .rp _,_=>rfl
 | .any,_=>rfl
theorem aFJ {L:List Nat} {n:Nat}:∀ {x:List AV},fI x=[]->bkL L n x=x
 | [],_=>rfl
 | c::cs,h=>by simp only [fI,List.append_eq_nil_iff] at h;simp only [bkL];rw [aTk h.1,aFJ h.2]
end
mutual
theorem tC:∀ x:AV,lH x x
 | .ag cs=>by simp only [lH];exact .inl trivial
 | .v _=>by simp only [lH];exact .inl trivial
 | .own _=>by simp only [lH]
 | .ptr _ _=>by simp only [lH]
 | .elt _ _ _ _=>by simp only [lH]
 | .vw _ _ _ _=>by simp only [lH]
 | .mp _=>by simp only [lH]
 | .yl _=>by simp only [lH]
 | .cl _ _=>by simp only [lH]
 | .bm _ _ _=>by simp only [lH]
 | .tup _=>by simp only [lH]
 | .ls _ _=>by simp only [lH]
 | .rp _=>by simp only [lH]
 | .any=>by simp only [lH]
theorem aA:∀ x:List AV,tG x x
 | []=>by simp only [tG]
 | c::cs=>by simp only [tG];exact ⟨c,cs,rfl,tC c,aA cs⟩
end
section
variable {P:Program} {G:Nat->Option (List AV)} {f:FuncId} {args args':List AV} {T:Tab} {K:AV->Tab->Prop}
theorem gL (hs:tG args args') (hi:fI args'=[]) {post:AV->Tab->Prop} (hc:aD P G f args' [] post) (hk:∀ r T',post r T'->K (bkA [] T.length r) (T++T'.map (bkO [] T.length))):@qY P G f args T ⟨K⟩:=by
 refine ⟨args',hs,.inl ⟨[],by simp,by simp,?_⟩⟩
 show aD P G f (rnL [] args') (rnT [] T) _
 rw [wX hi]
 refine hc.mono fun r T' hp=>?_
 have:bkT [] T.length T [] T'=T++T'.map (bkO [] T.length):=by cases T'<;>simp [bkT]
 rw [this]
 exact hk r T' hp
theorem aC {R:AV} (hs:tG args args') (hi:fI args'=[]) (hc:aD P G f args' [] fun r T'=>r=R/\T'=[]) (hR:eN R=[]) (hk:K R T):@qY P G f args T ⟨K⟩ :=
 gL hs hi hc fun r T' ⟨h1,h2⟩=>by subst h1;subst h2;rw [aTk hR];simpa using hk
theorem bU {R:AV} {T2:Tab} (hs:tG args args') (hi:fI args'=[]) (hc:aD P G f args' [] fun r T'=>r=R/\T'=T2) (hk:K (bkA [] T.length R) (T++T2.map (bkO [] T.length))):@qY P G f args T ⟨K⟩ :=
 gL hs hi hc fun r T' ⟨h1,h2⟩=>by subst h1;subst h2;exact hk
theorem kR {args2:List AV} (hs:tG args args') (hl:aAS T args'=args2) (hi:fI args2=[]) {post:AV->Tab->Prop} (hc:aD P G f args2 [] post)
  (hk:∀ r T',post r T'->kJ r/\(∀ o∈T',aIr o)/\K (bkA [] T.length r) (T++T'.map (bkO [] T.length))):@qY P G f args T ⟨K⟩ :=
 ⟨args',hs,.inr ⟨by rw [hl];exact hi,by rw [hl];exact hc.mono hk⟩⟩
theorem bJ {args2:List AV} {x:Value} (hs:tG args args') (hl:aAS T args'=args2) (hi:fI args2=[]) (hc:aD P G f args2 [] fun r T'=>r=.v x/\T'=[]) (hk:K (.v x) T):@qY P G f args T ⟨K⟩ :=
 kR hs hl hi hc fun r T' ⟨h1,h2⟩=>by subst h1;subst h2;exact ⟨by simp [kJ],by simp,by simpa [bkA] using hk⟩
theorem aOg {L:List Nat} {args2:List AV} {T2:Tab} {post:AV->Tab->Prop} (hs:tG args args') (hL:(pT T (fI args')).filter (· < T.length)=L) (ha:rnL L args'=args2) (hT:rnT L T=T2) (hc:aD P G f args2 T2 post)
  (hk:∀ r T',post r T'->K (bkA L T.length r) (bkT L T.length T L T')):@qY P G f args T ⟨K⟩ :=
 ⟨args',hs,.inl ⟨L,by subst hL;exact List.Pairwise.filter _ (aGo _ _),fun i hi=>by subst hL;simpa using (List.mem_filter.1 hi).2,by subst ha;subst hT;exact hc.mono hk⟩⟩
theorem aG (L:List Nat) {args2:List AV} {T2:Tab} {post:AV->Tab->Prop} (hs:tG args args') (hn:L.Nodup) (hL:∀ i∈L,i<T.length) (ha:rnL L args'=args2) (hT:rnT L T=T2) (hc:aD P G f args2 T2 post)
  (hk:∀ r T',post r T'->K (bkA L T.length r) (bkT L T.length T L T')):@qY P G f args T ⟨K⟩ :=
 ⟨args',hs,.inl ⟨L,hn,hL,by subst ha;subst hT;exact hc.mono hk⟩⟩
theorem aA8 (L:List Nat) {args2:List AV} {T2:Tab} (hs:tG args args') (hn:L.Nodup) (hL:∀ i∈L,i<T.length) (ha:rnL L args'=args2) (hT:rnT L T=T2) (hc:aD P G f args2 T2 fun r T'=>K (bkA L T.length r) (bkT L T.length T L T')):@qY P G f args T ⟨K⟩ :=
 ⟨args',hs,.inl ⟨L,hn,hL,by subst ha;subst hT;exact hc⟩⟩
end
theorem nD {P:Program} {G:Nat->Option (List AV)} {f:FuncId} {args:List AV} {T:Tab} {K:KT} (h:@qY P G f args T K):@qY P G f args T K:=h
theorem aJr {α:Type} {f:α->AV} {l:List α} (h:∀ x,eN (f x)=[]):fI (l.map f)=[]:=by
 induction l with
 | nil=>rfl
 | cons x l ih=>simp [fI,h,ih]
@[go_sem] theorem aEr (a b:List AV):fI (a++b)=fI a++fI b:=by
 induction a with
 | nil=>rfl
 | cons c a ih=>simp [fI,ih]
@[go_sem] theorem aMM {α:Type} (f:α->Value) (l:List α):fI (l.map fun x=>.v (f x))=[]:=aJr fun _=>rfl
@[go_sem] theorem bF5 (L:List Nat) (a b:List AV):rnL L (a++b)=rnL L a++rnL L b:=by
 induction a with
 | nil=>rfl
 | cons c a ih=>simp [rnL,ih]
@[go_sem] theorem bCM {α:Type} (L:List Nat) (f:α->Value) (l:List α):rnL L (l.map fun x=>.v (f x))=l.map fun x=>.v (f x):=wX (aJr fun _=>rfl)
@[go_sem] theorem bF6 (L:List Nat) (n:Nat) (a b:List AV):bkL L n (a++b)=bkL L n a++bkL L n b:=by
 induction a with
 | nil=>rfl
 | cons c a ih=>simp [bkL,ih]
@[go_sem] theorem bCN {α:Type} (L:List Nat) (n:Nat) (f:α->Value) (l:List α):bkL L n (l.map fun x=>.v (f x))=l.map fun x=>.v (f x):=aFJ (aJr fun _=>rfl)
@[go_sem] theorem bAY {α:Type} (f:α->Value) (l:List α):kX (l.map fun x=>.v (f x))=True:=by
 induction l with
 | nil=>rfl
 | cons c a ih=>simp [kX,kJ,ih]
end
end Hud
