import Derived.WalkKit
set_option linter.all false
namespace Hud
open Go
section
abbrev aL:=@List.length_map
abbrev gK:=@List.length_append
abbrev bJ:=@Eq.trans
abbrev nQ:=@List.getElem?_eq_getElem
abbrev jI:=@List.append_assoc
abbrev iN:=@List.getElem_mem
abbrev uW:=@List.getD_eq_getElem?_getD
abbrev jA:=@List.map_append
abbrev jB:=@List.mem_cons
abbrev lN:=@Bool.and_eq_true
abbrev cN:=@Nat.lt_irrefl
abbrev oV:=@List.take_succ_eq_append_getElem
abbrev eM:=@List.mem_append
abbrev fX:=@List.cons_append
abbrev cZ:=@List.mem_map
abbrev iU:=@List.mem_singleton
abbrev cT:=@Nat.le_refl
abbrev fE:=@List.map_cons
abbrev gG:=@List.length_set
abbrev gW:=@List.nil_append
abbrev kB:=@Bool.false_eq_true
abbrev jJ:=@List.length_nil
abbrev kM:=@List.length_take
abbrev oW:=@List.getElem?_eq_none
abbrev lO:=@List.getElem?_map
abbrev gM:=@Nat.lt_or_ge
abbrev lF:=@List.all_eq_true
abbrev lP:=@List.take_length
abbrev kC:=@Bool.false_and
abbrev lA:=@Option.map_some
abbrev vE:=@List.getElem?_eq_some_iff
abbrev rW:=@Bool.not_eq_eq_eq_not
abbrev kN:=@Bool.true_and
abbrev lR:=@Bool.not_false
abbrev qW:=@List.flatten_cons
abbrev nR:=@List.append_nil
abbrev lG:=@Bool.not_true
abbrev qS:=@List.not_mem_nil
abbrev xR:=@List.take_of_length_le
abbrev wJ:=@List.length_cons
abbrev mE:=@List.map_nil
abbrev rX:=@Bool.eq_iff_iff
abbrev B6:=@List.getElem?_cons_succ
abbrev zD:=@List.getElem?_take
abbrev rY:=@List.take_zero
abbrev CJ:=@List.getElem?_cons_zero
abbrev xS:=@List.length_drop
abbrev AG:=@List.getElem_of_mem
abbrev sH:=@List.mem_range
abbrev uD:=@List.mem_filter
abbrev AH:=@Nat.lt_of_lt_of_le
abbrev qT:=@Nat.zero_add
abbrev H7:=@List.eq_nil_of_length_eq_zero
abbrev zF:=@List.flatten_nil
abbrev Dx:=@Array.length_toList
abbrev Ef:=@List.mem_of_mem_take
abbrev wK:=@Nat.add_zero
abbrev JQ:=@List.getElem?_append_left
abbrev CK:=@Array.toList_inj
abbrev CL:=@Nat.mod_eq_of_lt
abbrev Dy:=@List.ext_getElem?
abbrev AI:=@Bool.and_true
abbrev Gj:=@List.contains_eq_mem
abbrev FV:=@List.getElem?_drop
abbrev vF:=@Nat.mod_lt
abbrev H8:=@List.mem_cons_of_mem
abbrev Eg:=@List.getElem_map
abbrev Gk:=@List.mem_cons_self
abbrev Nv:=@List.nodup_iff_pairwise_ne
abbrev JR:=@Nat.Coprime.mul_right
abbrev Nw:=@Array.getElem?_eq_getElem
abbrev Dz:=@Bool.and_false
abbrev Gl:=@Bool.not_eq_true'
abbrev Ln:=@List.drop_of_length_le
abbrev B7:=@Nat.le_trans
abbrev PY:=@Array.getD_eq_getD_getElem?
abbrev Lo:=@List.take_append_drop
abbrev D0:=@Nat.add_assoc
abbrev H9:=@List.nodup_append
abbrev Nx:=@Array.getElem?_eq_none
abbrev B8:=@Nat.zero_le
abbrev Gm:=@List.foldl_cons
abbrev IA:=@List.nodup_cons
abbrev D1:=@List.map_map
abbrev CM:=@Nat.add_mul
abbrev Lp:=@Int.toNat_natCast
abbrev Lr:=@List.set_cons_succ
abbrev Ny:=@Nat.mul_le_mul_right
abbrev VW:=@Array.eq_empty_of_size_eq_zero
abbrev Ls:=@List.find?_eq_none
abbrev Nz:=@Nat.pow_le_pow_right
abbrev N0:=@List.map_congr_left
abbrev Lt:=@List.size_toArray
abbrev FW:=@Bool.true_or
abbrev aAq:=@List.findIdx?_eq_some_iff_getElem
abbrev FX:=@Nat.mul_one
abbrev PZ:=@List.flatten_append
abbrev VX:=@List.drop_eq_getElem_cons
abbrev Gn:=@Nat.mul_mod
abbrev Ru:=@List.mem_of_getElem?
abbrev xV:=@Nat.beq_eq
abbrev Hf:=@List.getElem?_set
abbrev JS:=@List.length_pos_iff
abbrev Hg:=@List.mem_flatten
abbrev Hh:=@Option.bind_some
abbrev Hi:=@List.drop_drop
abbrev Mc:=@List.length_singleton
abbrev Pb:=@List.mem_of_find?_eq_some
abbrev Pc:=@List.mem_take_iff_getElem
abbrev EF:=@Nat.succ_mul
abbrev Md:=@List.getElem?_of_mem
abbrev Me:=@List.mem_of_mem_drop
abbrev Hj:=@Bool.or_eq_true
abbrev Tp:=@List.eq_nil_iff_forall_not_mem
abbrev EG:=@Bool.or_true
abbrev Pd:=@List.Pairwise.imp_of_mem
abbrev FY:=@Bool.false_or
abbrev Mf:=@List.take_succ_cons
abbrev JT:=@List.mem_flatMap
abbrev Tq:=@List.drop_length_add_append
abbrev Mg:=@Nat.lt_of_le_of_lt
abbrev Mh:=@Nat.eq_zero_or_pos
abbrev Pe:=@List.range_succ
abbrev JU:=@List.range_zero
abbrev JV:=@Option.map_none
abbrev Tr:=@List.getElem?_append_right
abbrev Ts:=@Array.getElem?_append_left
abbrev Tt:=@Int.tmod_eq_emod_of_nonneg
abbrev Mi:=@List.length_range
abbrev Tu:=@Classical.byContradiction
abbrev FZ:=@Nat.pow_mul
abbrev aBJ:=@List.set_eq_take_append_cons_drop
abbrev JW:=@List.foldl_nil
abbrev Mj:=@Option.getD_some
abbrev Mk:=@List.getElem_inj
abbrev Pf:=@Array.toList_append
abbrev Pg:=@List.replicate_succ
abbrev aBK:=@List.length_zipWith
abbrev Ml:=@Nat.div_le_self
abbrev Mm:=@Nat.div_add_mod
abbrev Mn:=@Nat.min_eq_left
abbrev Hk:=@Nat.le_succ
abbrev Hl:=@Nat.one_mul
abbrev Tv:=@List.append_eq_nil_iff
abbrev Hm:=@Nat.pow_mod
abbrev XW:=@List.take_append_of_le_length
abbrev Ph:=@Nat.or_lt_two_pow
abbrev Pj:=@List.pairwise_map
abbrev Pk:=@List.foldl_append
abbrev Tw:=@List.length_replicate
abbrev Tx:=@Array.getElem?_modify
abbrev Ty:=@List.Perm.append_left
abbrev Mo:=@Nat.pow_succ
abbrev Tz:=@Array.toArray_toList
abbrev Pm:=@List.ext_getElem
abbrev XX:=@List.length_eraseIdx_of_lt
abbrev Mp:=@Bool.or_false
abbrev JX:=@Nat.mod_mod
abbrev T4:=@List.mergeSort_perm
abbrev T5:=@Nat.mul_le_mul_left
abbrev Pn:=@List.take_left'
abbrev XY:=@List.pairwise_iff_getElem
abbrev XZ:=@Option.isSome_iff_exists
abbrev T6:=@Array.empty_append
abbrev Xa:=@List.mem_filterMap
abbrev Mq:=@Nat.mul_comm
abbrev Mr:=@Nat.lt_trans
abbrev Xb:=@List.filter_append
abbrev aBL:=@Bool.and_assoc
abbrev Po:=@List.nodup_nil
abbrev Xc:=@Option.map_eq_some_iff
abbrev T7:=@List.any_eq_true
abbrev Xd:=@Nat.zero_testBit
abbrev Xe:=@Nat.eq_of_beq_eq_true
abbrev Xf:=@List.set_append_right
abbrev Pp:=@Nat.sub_zero
abbrev aBM:=@Nat.and_two_pow_sub_one_eq_mod
abbrev aBN:=@List.getElem!_eq_getElem?_getD
abbrev Xg:=@List.getLast?_concat
abbrev T8:=@List.all_append
abbrev Pq:=@Nat.le_of_lt
abbrev Pr:=@Nat.ne_of_gt
abbrev aBO:=@List.find?_eq_some_iff_getElem
abbrev Xh:=@Nat.pow_lt_pow_right
abbrev aEd:=@List.getElem_zipWith
abbrev aBP:=@List.drop_append_of_le_length
abbrev Xi:=@List.drop_succ_cons
abbrev Xj:=@List.replicate_zero
abbrev Xk:=@List.getElem?_range
abbrev T9:=@List.take_left
abbrev UA:=@List.drop_zero
abbrev Ps:=@Nat.le_zero
abbrev Pt:=@Nat.add_mod
abbrev aBQ:=@List.take_length_add_append
abbrev Xl:=@List.map_replicate
abbrev Xm:=@List.contains_cons
abbrev Xn:=@Int.natCast_nonneg
abbrev aBR:=@List.attach_map_subtype_val
abbrev aBS:=@Array.getElem?_eq_some_iff
abbrev aBT:=@List.perm_ext_iff_of_nodup
abbrev UB:=@List.map_take
abbrev aBU:=@Array.mapM_eq_mapM_toList
abbrev aBV:=@List.mem_or_eq_of_mem_set
abbrev aBW:=@List.findIdx?_eq_none_iff
abbrev UC:=@List.all_nil
abbrev aBX:=@List.eq_of_mem_replicate
abbrev Xo:=@List.isEmpty_iff
abbrev aBY:=@Array.size_setIfInBounds
abbrev UD:=@Nat.mul_zero
abbrev Xp:=@BitVec.toNat_and
abbrev Xq:=@List.map_set
abbrev aBZ:=@List.eraseIdx_cons_succ
abbrev Xr:=@Nat.and_le_left
abbrev aEe:=@Nat.testBit_or
abbrev Xt:=@Nat.mul_le_mul
abbrev Xu:=@Bool.and_self
abbrev Xv:=@Nat.mul_assoc
end
section
inductive AV where
 | v (x:Value)
 | ls (k:Nat) (es:List (List AV))
 | ag (cs:List AV)
 | own (i:Nat)
 | ptr (i off:Nat)
 | elt (i k j off:Nat)
 | vw (i k lo n:Nat)
 | mp (i:Nat)
 | yl (i:Nat)
 | bm (f k:Nat) (cs:List AV)
 | rp (cs:List AV)
 | cl (f:Nat) (caps:List AV)
 | tup (vs:List AV)
 | any
 deriving Inhabited
def aO:AV→Bool
 | .v (.agg _)=>false
 | .v (.tuple _)=>false
 | .v _=>true
 | .ls _ _=>true
 | _=>false
def eO:AV→Bool
 | .v (.agg _)=>false
 | .v (.tuple _)=>false
 | .v _=>true
 | .ls _ _=>true
 | .own _=>true
 | .ptr _ _=>true
 | .elt _ _ _ _=>true
 | .vw _ _ _ _=>true
 | .mp _=>true
 | .yl _=>true
 | .bm _ _ _=>true
 | .cl _ _=>true
 | .rp _=>true
 | _=>false
abbrev GH:=Nat→Option (Array Value)
def lS (h:GH) (b o:Nat):Option Value:=(h b).bind (·[o]?)
mutual
def kY (h:GH):AV→Value→Prop
 | .v x,u=>u=x
 | .ls k es,u=>∃ A c,u=.slice A es.length c∧es.length≤c∧c≤maxLen∧(es=[]∨∃ b o,A=some ⟨b,o,none⟩∧iC h b k es o)
 | .ag cs,u=>∃ us:Array Value,u=.agg us∧bQ h cs us.toList
 | .any,_=>True
 | _,_=>False
def iC (h:GH) (b k:Nat):List (List AV)→Nat→Prop
 | [],_=>True
 | e::es,o=>e.length=k∧kD h b e o∧iC h b k es (o+k)
def kD (h:GH) (b:Nat):List AV→Nat→Prop
 | [],_=>True
 | c::cs,o=>(∃ u,aO c=true∧lS h b o=some u∧kY h c u)∧kD h b cs (o+1)
def bQ (h:GH):List AV→List Value→Prop
 | [],us=>us=[]
 | c::cs,us=>∃ u us',us=u::us'∧kY h c u∧bQ h cs us'
end
mutual
def Rp (h:GH) (φ:Nat→Value) (n:Nat):AV→Value→Prop
 | .v x,u=>u=x
 | .ls k es,u=>kY h (.ls k es) u
 | .ag cs,u=>∃ us:Array Value,u=.agg us∧bK h φ n cs us.toList
 | .own i,u=>i<n∧u=φ i∧∃ A l c,u=.slice A l c
 | .ptr i off,u=>i<n∧∃ g,φ i=.pointer (some ⟨g,0,none⟩)∧u=.pointer (some ⟨g,off,none⟩)
 | .elt i k j off,u=>i<n∧∃ g l c,φ i=.slice (some ⟨g,0,none⟩) l c∧u=.pointer (some ⟨g,j*k+off,none⟩)
 | .mp i,u=>i<n∧u=φ i∧∃ g,u=.map (some g)
 | .yl i,u=>i<n∧u=φ i∧∃ l,u=.func (.yield l) #[] #[]
 | .bm f k caps,u=>∃ us:Array Value,u=.func (.func f) (us.toList.take k).toArray (us.toList.drop k).toArray∧bK h φ n caps us.toList
 | .vw i k lo m,u=>i<n∧∃ A c,u=.slice A m c∧m≤c∧c≤maxLen∧(m=0∨∃ g l c',φ i=.slice (some ⟨g,0,none⟩) l c'∧A=some ⟨g,lo*k,none⟩∧lo+m≤l)
 | .rp cs,u=>∃ b o,u=.pointer (some ⟨b,o,none⟩)∧kD h b cs o
 | .cl f caps,u=>∃ us:Array Value,u=.func (.func f) #[] us∧bK h φ n caps us.toList
 | .tup vs,u=>∃ us:Array Value,u=.tuple us∧bK h φ n vs us.toList
 | .any,_=>True
def bK (h:GH) (φ:Nat→Value) (n:Nat):List AV→List Value→Prop
 | [],us=>us=[]
 | c::cs,us=>∃ u us',us=u::us'∧Rp h φ n c u∧bK h φ n cs us'
end
def zG (h h':GH):Prop:=∀ b cs,h b=some cs→h' b=some cs
def zG.refl (h:GH):zG h h:=λ_ _ e=>e
def zG.trans {a b c:GH} (h:zG a b) (k:zG b c):zG a c:=λx cs e=>k x cs (h x cs e)
def zG.cell {h h':GH} (g:zG h h') {b o:Nat} {u:Value} (e:lS h b o=some u):lS h' b o=some u:=by
 unfold lS at *
 cases hb:h b with
 | none=>simp [hb] at e
 | some cs=>rw [hb] at e;rw [g b cs hb];exact e
mutual
def kY.mono {h h':GH} (g:zG h h'):∀ {x:AV} {u:Value},kY h x u→kY h' x u
 | .v _,_,e=>by simpa [kY] using e
 | .ls k es,u,e=>by
  simp only [kY] at e ⊢;obtain ⟨A,c,h1,h2,h3,h4⟩:=e;exact ⟨A,c,h1,h2,h3,h4.imp id λ⟨b,o,hA,hE⟩=>⟨b,o,hA,iC.mono g hE⟩⟩
 | .ag cs,u,e=>by
  simp only [kY] at e ⊢;obtain ⟨us,h1,h2⟩:=e;exact ⟨us,h1,bQ.mono g h2⟩
 | .any,_,_=>by simp [kY]
 | .own _,_,e=>by simp [kY] at e
 | .ptr _ _,_,e=>by simp [kY] at e
 | .elt _ _ _ _,_,e=>by simp [kY] at e
 | .vw _ _ _ _,_,e=>by simp [kY] at e
 | .mp _,_,e=>by simp [kY] at e
 | .yl _,_,e=>by simp [kY] at e
 | .bm _ _ _,_,e=>by simp [kY] at e
 | .rp _,_,e=>by simp [kY] at e
 | .cl _ _,_,e=>by simp [kY] at e
 | .tup _,_,e=>by simp [kY] at e
def iC.mono {h h':GH} (g:zG h h') {b k:Nat}:∀ {es:List (List AV)} {o:Nat},iC h b k es o→iC h' b k es o
 | [],_,_=>by simp [iC]
 | e::es,o,hh=>by
  simp only [iC] at hh ⊢;exact ⟨hh.1,kD.mono g hh.2.1,iC.mono g hh.2.2⟩
def kD.mono {h h':GH} (g:zG h h') {b:Nat}:∀ {cs:List AV} {o:Nat},kD h b cs o→kD h' b cs o
 | [],_,_=>by simp [kD]
 | c::cs,o,hh=>by
  simp only [kD] at hh ⊢;obtain ⟨⟨u,h0,h1,h2⟩,h3⟩:=hh;exact ⟨⟨u,h0,g.cell h1,kY.mono g h2⟩,kD.mono g h3⟩
def bQ.mono {h h':GH} (g:zG h h'):∀ {cs:List AV} {us:List Value},bQ h cs us→bQ h' cs us
 | [],_,e=>by simpa [bQ] using e
 | c::cs,us,hh=>by
  simp only [bQ] at hh ⊢;obtain ⟨u,us',h1,h2,h3⟩:=hh;exact ⟨u,us',h1,kY.mono g h2,bQ.mono g h3⟩
end
mutual
def Rp.mono {h h':GH} {φ φ':Nat→Value} {n n':Nat} (g:zG h h') (hn:n≤n') (hp:∀ i,i<n→φ' i=φ i):∀ {x:AV} {u:Value},Rp h φ n x u→Rp h' φ' n' x u
 | .v _,_,e=>by simpa [Rp] using e
 | .ls k es,u,e=>by simp only [Rp] at e ⊢;exact kY.mono g e
 | .ag cs,u,e=>by
  simp only [Rp] at e ⊢;obtain ⟨us,h1,h2⟩:=e;exact ⟨us,h1,bK.mono g hn hp h2⟩
 | .any,_,_=>by simp [Rp]
 | .own i,_,e=>by simp only [Rp] at e ⊢;exact ⟨by omega,by rw [hp i e.1];exact e.2.1,e.2.2⟩
 | .ptr i _,_,e=>by simp only [Rp] at e ⊢;exact ⟨by omega,by rw [hp i e.1];exact e.2⟩
 | .elt i _ _ _,_,e=>by simp only [Rp] at e ⊢;exact ⟨by omega,by rw [hp i e.1];exact e.2⟩
 | .vw i _ _ _,_,e=>by simp only [Rp] at e ⊢;exact ⟨by omega,by rw [hp i e.1];exact e.2⟩
 | .mp i,_,e=>by simp only [Rp] at e ⊢;exact ⟨by omega,by rw [hp i e.1];exact e.2.1,e.2.2⟩
 | .yl i,_,e=>by simp only [Rp] at e ⊢;exact ⟨by omega,by rw [hp i e.1];exact e.2.1,e.2.2⟩
 | .bm f k caps,u,e=>by
  simp only [Rp] at e ⊢;obtain ⟨us,h1,h2⟩:=e;exact ⟨us,h1,bK.mono g hn hp h2⟩
 | .rp cs,u,e=>by
  simp only [Rp] at e ⊢;obtain ⟨b,o,h1,h2⟩:=e;exact ⟨b,o,h1,kD.mono g h2⟩
 | .cl f caps,u,e=>by
  simp only [Rp] at e ⊢;obtain ⟨us,h1,h2⟩:=e;exact ⟨us,h1,bK.mono g hn hp h2⟩
 | .tup vs,u,e=>by
  simp only [Rp] at e ⊢;obtain ⟨us,h1,h2⟩:=e;exact ⟨us,h1,bK.mono g hn hp h2⟩
def bK.mono {h h':GH} {φ φ':Nat→Value} {n n':Nat} (g:zG h h') (hn:n≤n') (hp:∀ i,i<n→φ' i=φ i):∀ {cs:List AV} {us:List Value},bK h φ n cs us→bK h' φ' n' cs us
 | [],_,e=>by simpa [bK] using e
 | c::cs,us,hh=>by
  simp only [bK] at hh ⊢;obtain ⟨u,us',h1,h2,h3⟩:=hh;exact ⟨u,us',h1,Rp.mono g hn hp h2,bK.mono g hn hp h3⟩
end
mutual
def kY.to {h:GH} {φ:Nat→Value} {n:Nat}:∀ {x:AV} {u:Value},kY h x u→Rp h φ n x u
 | .v _,_,e=>by simpa [Rp,kY] using e
 | .ls k es,u,e=>by simp only [Rp];exact e
 | .ag cs,u,e=>by
  simp only [kY] at e;simp only [Rp];obtain ⟨us,h1,h2⟩:=e;exact ⟨us,h1,bQ.to h2⟩
 | .any,_,_=>by simp [Rp]
 | .own _,_,e=>by simp [kY] at e
 | .ptr _ _,_,e=>by simp [kY] at e
 | .elt _ _ _ _,_,e=>by simp [kY] at e
 | .vw _ _ _ _,_,e=>by simp [kY] at e
 | .mp _,_,e=>by simp [kY] at e
 | .yl _,_,e=>by simp [kY] at e
 | .bm _ _ _,_,e=>by simp [kY] at e
 | .rp _,_,e=>by simp [kY] at e
 | .cl _ _,_,e=>by simp [kY] at e
 | .tup _,_,e=>by simp [kY] at e
def bQ.to {h:GH} {φ:Nat→Value} {n:Nat}:∀ {cs:List AV} {us:List Value},bQ h cs us→bK h φ n cs us
 | [],_,e=>by simpa [bQ,bK] using e
 | c::cs,us,hh=>by
  simp only [bQ] at hh;simp only [bK];obtain ⟨u,us',h1,h2,h3⟩:=hh;exact ⟨u,us',h1,kY.to h2,bQ.to h3⟩
end
def bK.length {h:GH} {φ:Nat→Value} {n:Nat}:∀ {cs:List AV} {us:List Value},bK h φ n cs us→cs.length=us.length
 | [],us,e=>by simp only [bK] at e;subst e;rfl
 | c::cs,us,e=>by
  simp only [bK] at e;obtain ⟨u,us',rfl,_,h⟩:=e;simp [h.length]
def bQ.length {h:GH}:∀ {cs:List AV} {us:List Value},bQ h cs us→cs.length=us.length
 | [],us,e=>by simp only [bQ] at e;subst e;rfl
 | c::cs,us,e=>by
  simp only [bQ] at e;obtain ⟨u,us',rfl,_,h⟩:=e;simp [h.length]
def bK.get {h:GH} {φ:Nat→Value} {n:Nat}:∀ {cs:List AV} {us:List Value},bK h φ n cs us→∀ {i:Nat} {c:AV},cs[i]?=some c→∃ u,us[i]?=some u∧Rp h φ n c u
 | [],us,e,i,c,hi=>by simp at hi
 | d::cs,us,e,i,c,hi=>by
  simp only [bK] at e;obtain ⟨u,us',rfl,h1,h2⟩:=e
  cases i with
  | zero=>simp only [CJ,Option.some.injEq] at hi;subst hi;exact ⟨u,by simp,h1⟩
  | succ i=>simp only [B6] at hi ⊢;exact h2.get hi
def bK.mk {h:GH} {φ:Nat→Value} {n:Nat}:∀ {cs:List AV} {us:List Value},cs.length=us.length→(∀ (i:Nat) (c:AV) (u:Value),cs[i]?=some c→us[i]?=some u→Rp h φ n c u)→bK h φ n cs us
 | [],us,e,_=>by simp only [bK];exact H7 (by simpa using e.symm)
 | d::cs,[],e,_=>by simp at e
 | d::cs,u::us,e,hh=>by
  simp only [bK];exact ⟨u,us,rfl,hh 0 d u (by simp) (by simp),bK.mk (by simpa using e) λi c x hc hx=>hh (i+1) c x (by simpa using hc) (by simpa using hx)⟩
def bK.app {h:GH} {φ:Nat→Value} {n:Nat} {cs ds:List AV} {us vs:List Value} (a:bK h φ n cs us) (b:bK h φ n ds vs):bK h φ n (cs++ds) (us++vs):=by
 induction cs generalizing us with
 | nil=>simp only [bK] at a;subst a;simpa using b
 | cons c cs ih =>
  grind [bK]
def bK.take {h:GH} {φ:Nat→Value} {n:Nat} {cs:List AV} {us:List Value} (a:bK h φ n cs us) (m:Nat):bK h φ n (cs.take m) (us.take m) :=
 bK.mk (by simp [a.length]) λi c u hc hu=>by
  rw [zD] at hc hu;split at hc
  ·rw [if_pos (by assumption)] at hu;obtain ⟨u',h1,h2⟩:=a.get hc;simp_all
  ·simp at hc
def bK.drop {h:GH} {φ:Nat→Value} {n:Nat} {cs:List AV} {us:List Value} (a:bK h φ n cs us) (m:Nat):bK h φ n (cs.drop m) (us.drop m) :=
 bK.mk (by simp [a.length]) λi c u hc hu=>by
  rw [FV] at hc hu;obtain ⟨u',h1,h2⟩:=a.get hc;simp_all
def bK.set {h:GH} {φ:Nat→Value} {n:Nat} {cs:List AV} {us:List Value} (a:bK h φ n cs us) {m:Nat} {c:AV} {u:Value} (hc:Rp h φ n c u):bK h φ n (cs.set m c) (us.set m u) :=
 bK.mk (by simp [a.length]) λi d x hd hx=>by
  have hl:=a.length;rw [Hf] at hd hx;by_cases hn:m=i
  ·simp_all
  ·simp only [hn,if_false] at hd hx;obtain ⟨u',h1,h2⟩:=a.get hd;simp_all
def bQ.get {h:GH}:∀ {cs:List AV} {us:List Value},bQ h cs us→∀ {i:Nat} {c:AV},cs[i]?=some c→∃ u,us[i]?=some u∧kY h c u
 | [],us,e,i,c,hi=>by simp at hi
 | d::cs,us,e,i,c,hi=>by
  simp only [bQ] at e;obtain ⟨u,us',rfl,h1,h2⟩:=e
  cases i with
  | zero=>simp only [CJ,Option.some.injEq] at hi;subst hi;exact ⟨u,by simp,h1⟩
  | succ i=>simp only [B6] at hi ⊢;exact h2.get hi
def bQ.mk {h:GH}:∀ {cs:List AV} {us:List Value},cs.length=us.length→(∀ (i:Nat) (c:AV) (u:Value),cs[i]?=some c→us[i]?=some u→kY h c u)→bQ h cs us
 | [],us,e,_=>by simp only [bQ];exact H7 (by simpa using e.symm)
 | d::cs,[],e,_=>by simp at e
 | d::cs,u::us,e,hh=>by
  simp only [bQ];exact ⟨u,us,rfl,hh 0 d u (by simp) (by simp),bQ.mk (by simpa using e) λi c x hc hx=>hh (i+1) c x (by simpa using hc) (by simpa using hx)⟩
def kD.get {h:GH} {b:Nat}:∀ {cs:List AV} {o:Nat},kD h b cs o→∀ {i:Nat} {c:AV},cs[i]?=some c→∃ u,aO c=true∧lS h b (o+i)=some u∧kY h c u
 | [],_,_,i,c,hi=>by simp at hi
 | d::cs,o,e,i,c,hi=>by
  simp only [kD] at e;obtain ⟨⟨u,hc,h0,h1⟩,h2⟩:=e
  cases i with
  | zero=>simp only [CJ,Option.some.injEq] at hi;subst hi;exact ⟨u,hc,h0,h1⟩
  | succ i=>simp only [B6] at hi;obtain ⟨u',c0,a,b⟩:=h2.get hi;exact ⟨u',c0,by rw [←a];congr 1;omega,b⟩
def kD.mk {h:GH} {b:Nat}:∀ {cs:List AV} {o:Nat},(∀ (i:Nat) (c:AV),cs[i]?=some c→∃ u,aO c=true∧lS h b (o+i)=some u∧kY h c u)→kD h b cs o
 | [],_,_=>by simp [kD]
 | d::cs,o,hh=>by
  simp only [kD];exact ⟨hh 0 d (by simp),kD.mk λi c hc=>by obtain ⟨u,h0,h1,h2⟩:=hh (i+1) c (by simpa using hc);exact ⟨u,h0,by rw [←h1];congr 1;omega,h2⟩⟩
def kD.drop {h:GH} {b:Nat} {cs:List AV} {o:Nat} (a:kD h b cs o) (n:Nat):kD h b (cs.drop n) (o+n) :=
 kD.mk λi c hc=>by
  rw [FV] at hc;obtain ⟨u,h0,h1,h2⟩:=a.get hc;grind
def iC.get {h:GH} {b k:Nat}:∀ {es:List (List AV)} {o:Nat},iC h b k es o→∀ {j:Nat} {e:List AV},es[j]?=some e→e.length=k∧kD h b e (o+j*k)
 | [],_,_,j,e,hj=>by simp at hj
 | d::es,o,hh,j,e,hj=>by
  simp only [iC] at hh
  cases j with
  | zero=>simp only [CJ,Option.some.injEq] at hj;subst hj;exact ⟨hh.1,by simpa using hh.2.1⟩
  | succ j=>simp only [B6] at hj;obtain ⟨h1,h2⟩:=hh.2.2.get hj;exact ⟨h1,by rw [show o+(j+1)*k=o+k+j*k from by rw [EF];omega];exact h2⟩
def iC.mk {h:GH} {b k:Nat}:∀ {es:List (List AV)} {o:Nat},(∀ (j:Nat) (e:List AV),es[j]?=some e→e.length=k∧kD h b e (o+j*k))→iC h b k es o
 | [],_,_=>by simp [iC]
 | d::es,o,hh=>by
  simp only [iC];obtain ⟨h1,h2⟩:=hh 0 d (by simp);exact ⟨h1,by simpa using h2,iC.mk λj e hj=>by obtain ⟨h3,h4⟩:=hh (j+1) e (by simpa using hj);exact ⟨h3,by rw [show o+(j+1)*k=o+k+j*k from by rw [EF];omega] at h4;exact h4⟩⟩
end
section
inductive AObj where
 | box (cs:List AV)
 | arr (k:Nat) (es:List (List AV))
 | arf (k:Nat) (es:List (List AV))
 | map (ag:Bool) (ks:List (List Value)) (vs:List AV) (bs:List Nat) (cl:Nat)
 | lp (r:Loop) (s:List (Nat×AV))
 | mit (m:Option Nat) (since:Nat) (seen:List Nat) (st:Nat)
 deriving Inhabited
abbrev aH:=List (Option AObj)
def iE:Value→Option Nat
 | .pointer (some a)=>some a.block
 | .slice (some a) _ (_+1)=>some a.block
 | .map (some g)=>some g
 | .func (.yield l) _ _=>some l
 | _=>none
def gY (ag:Bool) (xs:List Value):Value:=if ag then .agg xs.toArray else xs.getD 0 undef
def qI (h:GH) (φ:Nat→Value) (n:Nat) (w:World) (i:Nat):AObj→Prop
 | .box cs=>∃ (g:Nat) (us:Array Value) (E:TypeId),φ i=.pointer (some ⟨g,0,none⟩)∧w.heap[g]?=some (.cells us E (0,0))∧h g=none∧bK h φ n cs us.toList
 | .arr k es=>(∀ e∈es,e.length=k∧∀ c∈e,aO c=true)∧((∃ A,φ i=.slice A 0 0∧es=[]) ∨
   ∃ (g c:Nat) (cur:Array Value) (E:TypeId),φ i=.slice (some ⟨g,0,none⟩) es.length (c+1)∧w.heap[g]?=some (.cells cur E (0,0))∧es.length≤c+1∧c+1≤maxLen∧cur.size=(c+1)*k∧h g=none ∧
    bQ h es.flatten (cur.toList.take (es.length*k)))
 | .arf k es=>(∀ e∈es,e.length=k∧∀ c∈e,eO c=true)∧((∃ A,φ i=.slice A 0 0∧es=[]) ∨
   ∃ (g c:Nat) (cur:Array Value) (E:TypeId),φ i=.slice (some ⟨g,0,none⟩) es.length (c+1)∧w.heap[g]?=some (.cells cur E (0,0))∧es.length≤c+1∧c+1≤maxLen∧cur.size=(c+1)*k∧h g=none ∧
    bK h φ n es.flatten (cur.toList.take (es.length*k)))
 | .lp r s=>∃ l:Nat,φ i=.func (.yield l) #[] #[]∧w.heap[l]?=some (.loop r)∧h l=none∧(∀ i x y,(i,x)∈s→(i,y)∈s→x=y)∧∀ p∈s,Rp h φ n p.2 (r.tmps.getD p.1 undef)
 | .mit m since seen st=>∃ (g:Nat) (mo:Option Nat),φ i=.pointer (some ⟨g,0,none⟩)∧w.heap[g]?=some (.mapIter mo since seen.toArray st)∧h g=none ∧
   (match m with | none=>mo=none | some j=>∃ b,mo=some b∧j<n∧φ j=.map (some b))
 | .map ag ks vs bs cl=>∃ (g:Nat) (ens:Array MapEntry),φ i=.map (some g)∧w.heap[g]?=some (.map ens cl)∧h g=none ∧
   ens.toList.map (·.key)=ks.map (gY ag)∧ens.toList.map (·.born)=bs∧bK h φ n vs (ens.toList.map (·.val))
structure Inv (h:GH) (φ:Nat→Value) (w:World) (T:aH):Prop where
 gh:∀ b cs,h b=some cs→∃ E fr,w.heap[b]?=some (.cells cs E fr)
 obj:∀ i o,T[i]?=some (some o)→qI h φ T.length w i o
 dis:∀ i j oi oj b,T[i]?=some (some oi)→T[j]?=some (some oj)→iE (φ i)=some b→iE (φ j)=some b→i=j
structure Evo (h:GH) (φ:Nat→Value) (T:aH) (w:World) (h':GH) (φ':Nat→Value) (T':aH) (w':World):Prop where
 os:w'.os=w.os
 tape:w'.tape=w.tape
 output:w'.output=w.output
 size:w.heap.size≤w'.heap.size
 frame:∀ b,b<w.heap.size→(∀ i o,T[i]?=some (some o)→iE (φ i)≠some b)→w'.heap[b]?=w.heap[b]?
 le:zG h h'
 gfr:∀ b cs,h' b=some cs→h b=some cs∨w.heap.size≤b∨∃ i o,T[i]?=some (some o)∧iE (φ i)=some b
 phi:∀ i,i<T.length→φ' i=φ i
 org:∀ i o b,T'[i]?=some (some o)→iE (φ' i)=some b→w.heap.size≤b∨∃ j oj,T[j]?=some (some oj)∧iE (φ j)=some b
 len:T.length≤T'.length
 drawn:w.drawn≤w'.drawn
def Evo.refl {h:GH} {φ:Nat→Value} {T:aH} {w:World}:Evo h φ T w h φ T w :=
 ⟨rfl,rfl,rfl,cT _,λ_ _ _=>rfl,zG.refl h,λ_ _ e=>.inl e,λ_ _=>rfl,λi o b hi hb=>.inr ⟨i,o,hi,hb⟩,cT _,cT _⟩
def Evo.trans {h0 h1 h2:GH} {φ0 φ1 φ2:Nat→Value} {T0 T1 T2:aH} {w0 w1 w2:World} (a:Evo h0 φ0 T0 w0 h1 φ1 T1 w1) (b:Evo h1 φ1 T1 w1 h2 φ2 T2 w2) :
  Evo h0 φ0 T0 w0 h2 φ2 T2 w2 where
 os:=b.os.trans a.os
 tape:=b.tape.trans a.tape
 output:=b.output.trans a.output
 size:=B7 a.size b.size
 frame:=λg hg hn=>by
  rw [b.frame g (AH hg a.size) (λi o hi hb=>?_),a.frame g hg hn];rcases a.org i o g hi hb with h | ⟨j,oj,hj,hbj⟩
  ·omega
  ·simp_all
 le:=a.le.trans b.le
 gfr:=λg cs hg=>by
  rcases b.gfr g cs hg with h | h | ⟨i,o,hi,hb⟩
  ·exact a.gfr g cs h
  ·exact .inr (.inl (B7 a.size h))
  ·exact .inr (a.org i o g hi hb)
 phi:=λi hi=>(b.phi i (AH hi a.len)).trans (a.phi i hi)
 org:=λi o g hi hb=>by
  rcases b.org i o g hi hb with h | ⟨j,oj,hj,hbj⟩
  ·exact .inl (B7 a.size h)
  ·exact a.org j oj g hj hbj
 len:=B7 a.len b.len
 drawn:=B7 a.drawn b.drawn
def pS (G:Nat→Option (List AV)) (h:GH):Prop:=∀ g cs,G g=some cs→kD h g cs 0
def pS.mono {G:Nat→Option (List AV)} {h h':GH} (a:pS G h) (g:zG h h'):pS G h':=λi cs e=>(a i cs e).mono g
def Bv (h:GH) (φ:Nat→Value) (T:aH) (w:World) (post:AV→aH→Prop) (v:Value) (w':World):Prop :=
 ∃ r T' h' φ',post r T'∧Evo h φ T w h' φ' T' w'∧Inv h' φ' w' T'∧Rp h' φ' T'.length r v
def aC (P:Program) (G:Nat→Option (List AV)) (f:FuncId) (args:List AV) (T:aH) (post:AV→aH→Prop):Prop :=
 ∀ (h:GH) (φ:Nat→Value) (w:World) (vals:Array Value),pS G h→Inv h φ w T→bK h φ T.length args vals.toList →
  ((callFunc f vals).run P w=.ok (.enter f vals) w∧Calls P f vals w (λe w'=>∃ v,e=.returned v∧Bv h φ T w post v w')) ∨
  (∃ v w',(callFunc f vals).run P w=.ok (.value v) w'∧Bv h φ T w post v w')
def Ap (P:Program) (G:Nat→Option (List AV)) (i:Nat) (args:List AV) (T:aH) (post:AV→aH→Prop):Prop :=
 ∀ (h:GH) (φ:Nat→Value) (w:World) (vals:Array Value) (l:Nat),pS G h→Inv h φ w T→bK h φ T.length args vals.toList→φ i=.func (.yield l) #[] #[] →
  ∃ (f:FuncId) (tmps:Array Value) (assign body:Code),(Instr.yield l vals).run P w=.ok (.round l f tmps assign body) w ∧
   RoundIn Fence.wide 0 P l f tmps assign body w (λe w'=>∃ v,e=.returned v∧Bv h φ T w post v w')
def Bv.mono {h:GH} {φ:Nat→Value} {T:aH} {w:World} {p q:AV→aH→Prop} {v:Value} {w':World} (a:Bv h φ T w p v w') (hpq:∀ r T',p r T'→q r T'):Bv h φ T w q v w' :=
 let ⟨r,T',h',φ',e1,e2⟩:=a
 ⟨r,T',h',φ',hpq _ _ e1,e2⟩
def Ap.mono {P:Program} {G:Nat→Option (List AV)} {i:Nat} {args:List AV} {T:aH} {p q:AV→aH→Prop} (a:Ap P G i args T p) (hpq:∀ r T',p r T'→q r T'):Ap P G i args T q :=
 λh φ w vals l hG hI hA hl =>
  let ⟨f,tmps,as_,body,h1,h2⟩:=a h φ w vals l hG hI hA hl
  ⟨f,tmps,as_,body,h1,h2.mono λ_ _ ⟨v,e1,e2⟩=>⟨v,e1,e2.mono hpq⟩⟩
def aC.mono {P:Program} {G:Nat→Option (List AV)} {f:FuncId} {args:List AV} {T:aH} {p q:AV→aH→Prop} (a:aC P G f args T p) (hpq:∀ r T',p r T'→q r T') :
  aC P G f args T q:=λh φ w vals hG hI hA =>
 (a h φ w vals hG hI hA).imp (λ⟨e,c⟩=>⟨e,c.mono λ_ _ ⟨v,e1,e2⟩=>⟨v,e1,e2.mono hpq⟩⟩) (λ⟨v,w',e,c⟩=>⟨v,w',e,c.mono hpq⟩)
end
section
inductive LK where
 | int (k:IntKind)
 | bool
 | str
 deriving DecidableEq,Inhabited
inductive HOp where
 | mov (x:Operand)
 | pick (c a b:Operand)
 | bin (op:BinOp) (x y:Operand)
 | eqa (neg:Bool) (ks:List LK) (x y:Operand)
 | eqb (neg:Bool) (x y:Operand)
 | un (op:UnOp) (x:Operand)
 | conv (k:IntKind) (x:Operand)
 | box (x:Operand)
 | alloc (z:List Value)
 | bld (z:List Value) (parts:List (Nat×Nat×Operand))
 | bsl (k:Nat) (z:List Value) (parts:List (Nat×Nat×Operand)) (len:Nat)
 | ld (n:Option Nat) (p:Operand)
 | st (n:Nat) (p x:Operand)
 | fad (p:Operand) (off:Nat)
 | fld (x:Operand) (off:Nat) (n:Option Nat)
 | iad (x ix:Operand) (k:Nat)
 | iadA (x ix:Operand) (len k:Nat)
 | ixS (x ix:Operand)
 | lenS (x:Operand)
 | lenL (x:Operand)
 | app (x y:Operand) (k bytes:Nat)
 | ext (x:Operand) (i:Nat)
 | clo (f:FuncId) (caps:List Operand)
 | call (f:Operand) (args:List Operand)
 | nilc (x:Operand)
 | slc (x:Operand) (lo hi:Option Operand) (k:Nat)
 | slcS (x:Operand) (lo hi:Option Operand)
 | nilS (neg:Bool) (kind:Nat) (x:Operand)
 | mm (max:Bool) (x y:Operand)
 | mkm (ag:Bool)
 | lku (ag:Bool) (ls:List LK) (z:Value) (m k:Operand) (ok:Bool)
 | mup (ag:Bool) (ls:List LK) (m k x:Operand)
 | men (ag:Bool) (ls:List LK) (z:Value) (m k:Operand)
 | mst (m s x:Operand)
 | del (ag:Bool) (ls:List LK) (m k:Operand)
 | lenM (m:Operand)
 | mks (k:Nat) (z:List Value) (bytes:Nat) (x y:Operand)
 | s2b (x:Operand)
 | b2s (x:Operand)
 | apS (x y:Operand)
 | slx (x:Operand) (lo:Option Operand) (hi mx:Operand) (k:Nat)
 | bmo (f:FuncId) (k:Nat) (caps:List Operand)
 | rgm (m:Operand)
 | nxt (p:Operand)
 | ent (p:Operand)
 | bad
 | clr (x:Operand) (k:Nat) (z:List Value)
 | bslS (k:Nat) (z:List Value) (parts:List (Nat×Nat×Operand)) (len:Nat)
 | b2b (x:Operand)
 deriving Inhabited
structure HOper where
 dst:Option Nat
 op:HOp
 guard:Option (Nat×Bool)
 deriving Inhabited
inductive HD where
 | done (gc:Bool)
 | no
 | q (o:HOper) (next:HD)
 | alt (o:HOper) (chk:List HOper) (next other:HD)
 | perm (chk ops:List HOper) (next:HD)
 | plan (hops:List HOper) (pre:List (List Nat)) (n:Nat) (gc:Bool) (E:List Nat)
 deriving Inhabited
inductive HC where
 | skip
 | reg (ops:List HOper)
 | regd (d:HD)
 | seq (a b:HC)
 | cond (c:Operand) (a b:HC)
 | block (id:Nat) (a:HC)
 | loop (drop:List Nat) (a:HC)
 | exit (id:Nat)
 | ret
 | kill (d:List Nat)
 | own (j:Nat) (c:Option Nat) (k:Nat)
 | shut (j:Nat)
 | rng (g:Operand) (ps d:List Nat) (a b:HC)
 deriving Inhabited
structure St where
 r:Nat
 s:List (Nat×AV)
 T:aH
 deriving Inhabited
def aP:List (Nat×AV)→Nat→AV
 | [],_=>.any
 | (i,x)::r,j=>if i=j then x else aP r j
def Fa:List (Nat×AV)→Nat→List (Nat×AV)
 | [],_=>[]
 | (i,x)::r,j=>if i=j then Fa r j else (i,x)::Fa r j
def CN (l:List (Nat×AV)) (j:Nat) (x:AV):List (Nat×AV):=(j,x)::Fa l j
def dH (l:List (Nat×AV)) (d:Option Nat) (x:AV):List (Nat×AV):=match d with | some j=>CN l j x | none=>l
def cQ (G:Nat→Option (List AV)) (s:List (Nat×AV)):Operand→AV
 | .tmp t=>aP s t
 | .const x=>.v x
 | .global g=>match G g with | some cs=>.rp cs | none=>.any
 | .func f=>.cl f []
def oX:Option AObj→Option (Nat×List (List AV)×Bool)
 | some (.arr k es)=>some (k,es,true)
 | some (.arf k es)=>some (k,es,false)
 | _=>none
def fY:Bool→Nat→List (List AV)→AObj
 | true,k,es=>.arr k es
 | false,k,es=>.arf k es
def Lu:Bool→AV→Bool
 | true,c=>aO c
 | false,c=>eO c
def bZ (T:aH) (i:Nat):Option AObj:=match T[i]? with | some (some o)=>some o | _=>none
def cR:AV→List AV
 | .ag cs=>cs
 | .v (.agg us)=>us.toList.map .v
 | x=>[x]
def Rv:AV→Option (List AV)
 | .ag cs=>some cs
 | .v (.agg us)=>some (us.toList.map .v)
 | _=>none
def JY (cs:List AV) (off:Nat):Option Nat→Option AV
 | none=>cs[off]?
 | some n=>if off+n≤cs.length then some (.ag ((cs.drop off).take n)) else none
def bM (op:BinOp):Value→Value→Option Value
 | .int k a,.int k' b =>
  match op with
  | .shl=>if b<0 then none else some (.int k (k.wrap (a*2^(min b.toNat k.bits))))
  | .shr=>if b<0 then none else some (.int k (a.fdiv (2^(min b.toNat k.bits))))
  | _ =>
   if k=k' then
    match op with
    | .add=>some (.int k (k.wrap (a+b)))
    | .sub=>some (.int k (k.wrap (a-b)))
    | .mul=>some (.int k (k.wrap (a*b)))
    | .quo=>if b=0 then none else some (.int k (k.wrap (a.tdiv b)))
    | .rem=>if b=0 then none else some (.int k (a.tmod b))
    | .and=>some (.int k (k.wrap (BitVec.ofInt k.bits a &&& BitVec.ofInt k.bits b).toNat))
    | .or=>some (.int k (k.wrap (BitVec.ofInt k.bits a ||| BitVec.ofInt k.bits b).toNat))
    | .xor=>some (.int k (k.wrap (BitVec.ofInt k.bits a ^^^ BitVec.ofInt k.bits b).toNat))
    | .andNot=>some (.int k (k.wrap (BitVec.ofInt k.bits a &&& ~~~ (BitVec.ofInt k.bits b)).toNat))
    | .eql=>some (.bool (a==b))
    | .neq=>some (.bool (a !=b))
    | .lss=>some (.bool (a<b))
    | .leq=>some (.bool (a≤b))
    | .gtr=>some (.bool (a>b))
    | .geq=>some (.bool (a≥b))
    | _=>none
   else none
 | .string a,.string b =>
  match op with
  | .add=>if a.size+b.size≤maxLen then some (.string (a++b)) else none
  | .eql=>some (.bool (a.toList==b.toList))
  | .neq=>some (.bool (!(a.toList==b.toList)))
  | .lss=>some (.bool (Op.bytesLess a.toList b.toList))
  | .leq=>some (.bool (Op.bytesLess a.toList b.toList||a.toList==b.toList))
  | .gtr=>some (.bool (!(Op.bytesLess a.toList b.toList||a.toList==b.toList)))
  | .geq=>some (.bool (!Op.bytesLess a.toList b.toList))
  | _=>none
 | _,_=>none
def pun (op:UnOp):Value→Option Value
 | .bool b=>match op with | .not=>some (.bool (!b)) | _=>none
 | .int k n=>match op with
  | .neg=>some (.int k (k.wrap (0-n)))
  | .xor=>some (.int k (k.wrap (BitVec.ofInt k.bits (if k.signed then -1 else k.max) ^^^ BitVec.ofInt k.bits n).toNat))
  | _=>none
 | _=>none
def eqC:List LK→List AV→List AV→Option Bool
 | [],[],[]=>some true
 | .int k::ks,.v (.int k1 a)::cs,.v (.int k2 b)::ds=>if k1=k∧k2=k then (match eqC ks cs ds with | some r=>some (a==b&&r) | none=>none) else none
 | .bool::ks,.v (.bool a)::cs,.v (.bool b)::ds=>match eqC ks cs ds with | some r=>some (a==b&&r) | none=>none
 | .str::ks,.v (.string a)::cs,.v (.string b)::ds=>match eqC ks cs ds with | some r=>some (a.toList==b.toList&&r) | none=>none
 | _,_,_=>none
def oU:List LK→List Value→List Value→Option Bool
 | [],[],[]=>some true
 | .int k::ks,.int k1 a::cs,.int k2 b::ds=>if k1=k∧k2=k then (match oU ks cs ds with | some r=>some (a==b&&r) | none=>none) else none
 | .bool::ks,.bool a::cs,.bool b::ds=>match oU ks cs ds with | some r=>some (a==b&&r) | none=>none
 | .str::ks,.string a::cs,.string b::ds=>match oU ks cs ds with | some r=>some (a.toList==b.toList&&r) | none=>none
 | _,_,_=>none
def mK (ls:List LK) (k:List Value):List (List Value)→Nat→Option (Option Nat)
 | [],_=>some none
 | k'::r,i=>match oU ls k k' with
  | some true=>some (some i)
  | some false=>mK ls k r (i+1)
  | none=>none
def Eh:List AV→Option (List Value)
 | []=>some []
 | .v x::r=>match Eh r with
  | some l=>some (x::l)
  | none=>none
 | _::_=>none
def IB (ag:Bool) (ls:List LK) (x:AV):Option (List Value) :=
 match (if ag then (match Rv x with | some cs=>Eh cs | none=>none) else (match x with | .v u=>some [u] | _=>none)) with
 | some k=>match oU ls k k with
  | some _=>some k
  | none=>none
 | none=>none
def Xw (T:aH) (ag:Bool):AV→Option (List (List Value)×List AV)
 | .v (.map none)=>some ([],[])
 | .mp i=>match bZ T i with
  | some (.map ag' ks vs _ _)=>if ag=ag' then some (ks,vs) else none
  | _=>none
 | _=>none
def Gp (cells:List AV):List (Nat×Nat×AV)→Option (List AV)
 | []=>some cells
 | (off,n,x)::r =>
  if (cR x).length=n∧off+n≤cells.length∧(cR x).all eO=true then Gp (cells.take off++cR x++cells.drop (off+n)) r else none
def uE (k:Nat):Nat→List AV→List (List AV)
 | 0,_=>[]
 | n+1,cs=>cs.take k::uE k n (cs.drop k)
def jC (s:ByteArray):List (List AV):=s.data.toList.map λb=>[.v (.int .u8 b.toNat)]
def Hn:List (List AV)→Option (List UInt8)
 | []=>some []
 | [.v (.int .u8 n)]::r=>match Hn r with
  | some l=>some (UInt8.ofNat n.toNat::l)
  | none=>none
 | _::_=>none
def N1 (T:aH) (k:Nat):AV→Option (List (List AV))
 | .ls k' es=>if k=k' then some es else none
 | .own a=>match bZ T a with
  | some (.arr k' es)=>if k=k' then some es else none
  | _=>none
 | .v (.slice none 0 0)=>some []
 | .vw a k' lo m=>match bZ T a with
  | some (.arr k'' es)=>if k=k'∧k=k''∧lo+m≤es.length then some ((es.drop lo).take m) else none
  | _=>none
 | _=>none
def VY:AV→Option Nat
 | .v (.int _ n)=>if 0≤n then some n.toNat else none
 | _=>none
mutual
def dZ:AV→List Nat
 | .own i=>[i]
 | .ptr i _=>[i]
 | .elt i _ _ _=>[i]
 | .vw i _ _ _=>[i]
 | .mp i=>[i]
 | .yl i=>[i]
 | .bm _ _ cs=>fU cs
 | .ag cs=>fU cs
 | .cl _ cs=>fU cs
 | .tup cs=>fU cs
 | _=>[]
def fU:List AV→List Nat
 | []=>[]
 | c::cs=>dZ c++fU cs
end
mutual
def zH (i k:Nat) (es:List (List AV)):AV→AV
 | .own j=>if j=i then .ls k es else .own j
 | .elt j k' m off=>if j=i then (if k'=k then (match es[m]? with | some e=>.rp (e.drop off) | none=>.any) else .any) else .elt j k' m off
 | .vw j k' lo m=>if j=i then (if k'=k∧lo+m≤es.length then .ls k ((es.drop lo).take m) else .any) else .vw j k' lo m
 | .ag cs=>.ag (Fb i k es cs)
 | .cl f cs=>.cl f (Fb i k es cs)
 | .bm f m cs=>.bm f m (Fb i k es cs)
 | .tup cs=>.tup (Fb i k es cs)
 | x=>x
def Fb (i k:Nat) (es:List (List AV)):List AV→List AV
 | []=>[]
 | c::cs=>zH i k es c::Fb i k es cs
end
def Ms (i k:Nat) (es:List (List AV)):List (Nat×AV)→List (Nat×AV)
 | []=>[]
 | (j,x)::r=>(j,zH i k es x)::Ms i k es r
def VZ (i k:Nat) (es:List (List AV)):List (List AV)→List (List AV)
 | []=>[]
 | e::r=>Fb i k es e::VZ i k es r
def Rq (i k:Nat) (es:List (List AV)):AObj→Option AObj
 | .box cs=>some (.box (Fb i k es cs))
 | .arf k' es'=>if (VZ i k es es').all (·.all eO) then some (.arf k' (VZ i k es es')) else none
 | .lp r s=>some (.lp r (Ms i k es s))
 | .mit a b c d=>some (.mit a b c d)
 | .map ag ks vs bs cl=>some (.map ag ks (Fb i k es vs) bs cl)
 | .arr k' es'=>some (.arr k' es')
def Mt (i k:Nat) (es:List (List AV)):aH→aH
 | []=>[]
 | o::r=>o.bind (Rq i k es)::Mt i k es r
def EH (T:aH):List Nat→aH
 | []=>T
 | i::r=>match bZ T i with
  | some (.arr k es)=>EH ((Mt i k es T).set i none) r
  | _=>EH T r
def qX (T:aH):List Nat→AV→AV
 | [],x=>x
 | i::r,x=>match bZ T i with
  | some (.arr k es)=>qX ((Mt i k es T).set i none) r (zH i k es x)
  | _=>qX T r x
def bO (T:aH) (ev:Operand→AV):HOp→Option (AV×aH)
 | .mov x=>some (ev x,T)
 | .pick c a b=>match ev c with
  | .v (.bool t)=>some (if t then ev a else ev b,T)
  | _=>none
 | .bin op x y=>match ev x,ev y with
  | .v a,.v b=>match bM op a b with
   | some u=>some (.v u,T)
   | none=>none
  | _,_=>none
 | .eqa neg ks x y=>match Rv (ev x),Rv (ev y) with
  | some cs,some ds=>match eqC ks cs ds with
   | some t=>some (.v (.bool (if neg then !t else t)),T)
   | none=>none
  | _,_=>none
 | .eqb neg x y=>match ev x,ev y with
  | .v (.bool a),.v (.bool b)=>some (.v (.bool (if neg then !(a==b) else a==b)),T)
  | _,_=>none
 | .un op x=>match ev x with
  | .v a=>match pun op a with
   | some u=>some (.v u,T)
   | none=>none
  | _=>none
 | .conv k x=>match ev x with
  | .v (.int _ n)=>some (.v (.int k (k.wrap n)),T)
  | _=>none
 | .box x=>if (cR (ev x)).all eO then some (.ptr T.length 0,T++[some (.box (cR (ev x)))]) else none
 | .alloc z=>some (.ptr T.length 0,T++[some (.box (z.map .v))])
 | .bld z parts=>match Gp (z.map .v) (parts.map λp=>(p.1,p.2.1,ev p.2.2)) with
  | some cs=>some (.ag cs,T)
  | none=>none
 | .bsl k z parts len=>match Gp (z.map .v) (parts.map λp=>(p.1,p.2.1,ev p.2.2)) with
  | some cs=>if cs.all aO then some (.own T.length,T++[some (.arr k (uE k len cs))]) else if cs.all eO then some (.own T.length,T++[some (.arf k (uE k len cs))]) else none
  | none=>none
 | .bslS k z parts len=>match Gp (z.map .v) (parts.map λp=>(p.1,p.2.1,qX T (fU (parts.map λp=>ev p.2.2)) (ev p.2.2))) with
  | some cs=>if cs.all aO then some (.own (EH T (fU (parts.map λp=>ev p.2.2))).length,EH T (fU (parts.map λp=>ev p.2.2))++[some (.arr k (uE k len cs))]) else none
  | none=>none
 | .ld n p=>match ev p with
  | .ptr i off=>match bZ T i with
   | some (.box cs)=>match JY cs off n with
    | some x=>some (x,T)
    | none=>none
   | _=>none
  | .rp cs=>match JY cs 0 n with
   | some x=>some (x,T)
   | none=>none
  | .elt i k j off=>match oX (bZ T i) with
   | some (k',es,_)=>if k=k' then match es[j]? with
    | some e=>match JY e off n with
     | some x=>some (x,T)
     | none=>none
    | none=>none else none
   | _=>none
  | _=>none
 | .st n p x=>match ev p with
  | .ptr i off=>match bZ T i with
   | some (.box cs) =>
    if (cR (ev x)).length=n∧off+n≤cs.length∧(cR (ev x)).all eO then
     some (.v undef,T.set i (some (.box (cs.take off++cR (ev x)++cs.drop (off+n)))))
    else none
   | _=>none
  | .elt i k j off=>match oX (bZ T i) with
   | some (k',es,b)=>if k=k' then match es[j]? with
    | some e =>
     if (cR (ev x)).length=n∧off+n≤e.length∧(cR (ev x)).all (Lu b) then
      some (.v undef,T.set i (some (fY b k (es.set j (e.take off++cR (ev x)++e.drop (off+n))))))
     else none
    | none=>none else none
   | _=>none
  | _=>none
 | .fad p off=>match ev p with
  | .ptr i o=>some (.ptr i (o+off),T)
  | .elt i k j o=>some (.elt i k j (o+off),T)
  | .rp cs=>some (.rp (cs.drop off),T)
  | _=>none
 | .fld x off n=>match ev x with
  | .ag cs=>match JY cs off n with
   | some y=>some (y,T)
   | none=>none
  | .v (.agg us)=>match JY (us.toList.map .v) off n with
   | some y=>some (y,T)
   | none=>none
  | _=>none
 | .iad x ix k=>match ev x,ev ix with
  | .ls k' es,.v (.int _ i)=>if k=k'∧0≤i then match es[i.toNat]? with
   | some e=>some (.rp e,T)
   | none=>none else none
  | .own a,.v (.int _ i)=>match oX (bZ T a) with
   | some (k',es,_)=>if k=k'∧0≤i∧i.toNat<es.length then some (.elt a k i.toNat 0,T) else none
   | _=>none
  | .vw a k' lo m,.v (.int _ i)=>if k=k'∧0≤i∧i.toNat<m then some (.elt a k (lo+i.toNat) 0,T) else none
  | _,_=>none
 | .iadA x ix len k=>match ev x,ev ix with
  | .ptr a o,.v (.int _ i)=>if 0≤i∧i<len then some (.ptr a (o+i.toNat*k),T) else none
  | .rp cs,.v (.int _ i)=>if 0≤i∧i<len then some (.rp (cs.drop (i.toNat*k)),T) else none
  | .elt a k' j o,.v (.int _ i)=>if 0≤i∧i<len then some (.elt a k' j (o+i.toNat*k),T) else none
  | _,_=>none
 | .ixS x ix=>match ev x,ev ix with
  | .v (.string s),.v (.int _ i)=>if 0≤i then match s.data[i.toNat]? with
   | some b=>some (.v (.int .u8 b.toNat),T)
   | none=>none else none
  | _,_=>none
 | .lenS x=>match ev x with
  | .v (.string s)=>some (.v (.int .i64 s.size),T)
  | _=>none
 | .lenL x=>match ev x with
  | .ls _ es=>some (.v (.int .i64 es.length),T)
  | .own a=>match oX (bZ T a) with
   | some (_,es,_)=>some (.v (.int .i64 es.length),T)
   | _=>none
  | .v (.slice none 0 0)=>some (.v (.int .i64 0),T)
  | .vw _ _ _ m=>some (.v (.int .i64 m),T)
  | _=>none
 | .app x y k bytes =>
  let src:Option (List (List AV)×Bool):=match ev y with
   | .ls k' es=>if k=k' then some (es,true) else none
   | .own a=>match oX (bZ T a) with
    | some (k',es,b)=>if k=k' then some (es,b) else none
    | _=>none
   | .v (.slice none 0 0)=>some ([],true)
   | .vw a k' lo m=>match oX (bZ T a) with
    | some (k'',es,b)=>if k=k'∧k=k''∧lo+m≤es.length then some ((es.drop lo).take m,b) else none
    | _=>none
   | _=>none
  match src with
  | none=>none
  | some (new,b)=>match ev x with
   | .v (.slice none 0 0)=>if new.length*bytes≤140737488355328∧new.length≤maxLen then some (.own T.length,T++[some (fY b k new)]) else none
   | .own a=>match oX (bZ T a) with
    | some (k',es,b')=>if k=k'∧(es.length+new.length)*bytes≤140737488355328∧es.length+new.length≤maxLen then some (.own T.length,T.set a none++[some (fY (b&&b') k (es++new))]) else none
    | _=>none
   | _=>none
 | .ext x i=>match ev x with
  | .tup vs=>match vs[i]? with
   | some y=>some (y,T)
   | none=>none
  | .v (.tuple us)=>match us.toList[i]? with
   | some y=>some (.v y,T)
   | none=>none
  | _=>none
 | .clo f caps=>some (.cl f (caps.map ev),T)
 | .call _ _=>none
 | .nilc x=>match ev x with
  | .ptr i o=>some (.ptr i o,T)
  | .elt i k j o=>some (.elt i k j o,T)
  | .rp cs=>some (.rp cs,T)
  | _=>none
 | .slc x lo hi k =>
  let mL (o:Option Operand) (d:Nat):Option Nat:=match o with
   | none=>some d
   | some o=>match ev o with
    | .v (.int _ n)=>if 0≤n then some n.toNat else none
    | _=>none
  match ev x with
  | .ls k' es=>match mL lo 0,mL hi es.length with
   | some l,some h=>if k=k'∧l≤h∧h≤es.length then some (.ls k ((es.drop l).take (h-l)),T) else none
   | _,_=>none
  | .own a=>match oX (bZ T a) with
   | some (k',es,_)=>match mL lo 0,mL hi es.length with
    | some l,some h=>if k=k'∧l≤h∧h≤es.length then some (.vw a k l (h-l),T) else none
    | _,_=>none
   | _=>none
  | .vw a k' lo' m=>match mL lo 0,mL hi m with
   | some l,some h=>if k=k'∧l≤h∧h≤m then some (.vw a k (lo'+l) (h-l),T) else none
   | _,_=>none
  | .v (.slice none 0 0)=>match mL lo 0,mL hi 0 with
   | some l,some h=>if l=0∧h=0 then some (.v (.slice none 0 0),T) else none
   | _,_=>none
  | _=>none
 | .slcS x lo hi =>
  let mL (o:Option Operand) (d:Nat):Option Nat:=match o with
   | none=>some d
   | some o=>match ev o with
    | .v (.int _ n)=>if 0≤n then some n.toNat else none
    | _=>none
  match ev x with
  | .v (.string s)=>match mL lo 0,mL hi s.size with
   | some l,some h=>if l≤h∧h≤s.size then some (.v (.string (s.extract l h)),T) else none
   | _,_=>none
  | _=>none
 | .nilS neg kd x =>
  let r:Option Bool:=match kd,ev x with
   | 0,.v (.pointer none)=>some true
   | 0,.ptr _ _=>some false
   | 0,.elt _ _ _ _=>some false
   | 0,.rp _=>some false
   | 1,.v (.slice none 0 0)=>some true
   | 1,.own a=>match oX (bZ T a) with
    | some (_,_::_,_)=>some false
    | _=>none
   | 1,.ls _ (_::_)=>some false
   | 2,.v .nilFunc=>some true
   | 2,.cl _ _=>some false
   | 2,.v (.func _ _ _)=>some false
   | _,_=>none
  match r with
  | some b=>some (.v (.bool (if neg then !b else b)),T)
  | none=>none
 | .mm mx x y=>match ev x,ev y with
  | .v (.int k a),.v (.int k' b)=>if k=k' then some (.v (.int k (if mx then (if b>a then b else a) else if b<a then b else a)),T) else none
  | _,_=>none
 | .mkm ag=>some (.mp T.length,T++[some (.map ag [] [] [] 0)])
 | .lku ag ls z m k ok=>match Xw T ag (ev m),IB ag ls (ev k) with
  | some (ks,vs),some kc=>match mK ls kc ks 0 with
   | some none=>some (if ok then .tup [.v z,.v (.bool false)] else .v z,T)
   | some (some j)=>match vs[j]? with
    | some x=>some (if ok then .tup [x,.v (.bool true)] else x,T)
    | none=>none
   | none=>none
  | _,_=>none
 | .mup ag ls m k x=>match ev m with
  | .mp i=>match bZ T i,IB ag ls (ev k) with
   | some (.map ag' ks vs bs cl),some kc=>if ag=ag' then match mK ls kc ks 0 with
    | some none=>some (.v undef,T.set i (some (.map ag (ks++[kc]) (vs++[ev x]) (bs++[cl]) (cl+1))))
    | some (some j)=>some (.v undef,T.set i (some (.map ag ks (vs.set j (ev x)) bs cl)))
    | none=>none else none
   | _,_=>none
  | _=>none
 | .men ag ls z m k=>match ev m with
  | .mp i=>match bZ T i,IB ag ls (ev k) with
   | some (.map ag' ks vs bs cl),some kc=>if ag=ag' then match mK ls kc ks 0 with
    | some none=>some (.tup [.v z,.v (.int .i64 cl)],T.set i (some (.map ag (ks++[kc]) (vs++[.v z]) (bs++[cl]) (cl+1))))
    | some (some j)=>match vs[j]?,bs[j]? with
     | some x,some b=>some (.tup [x,.v (.int .i64 b)],T)
     | _,_=>none
    | none=>none else none
   | _,_=>none
  | _=>none
 | .mst m s x=>match ev m,ev s with
  | .mp i,.v (.int _ n)=>match bZ T i with
   | some (.map ag ks vs bs cl)=>match bs.findIdx? (λ(b:Nat)=>(b:Int)==n) with
    | some j=>some (.v undef,T.set i (some (.map ag ks (vs.set j (ev x)) bs cl)))
    | none=>none
   | _=>none
  | _,_=>none
 | .del ag ls m k=>match ev m with
  | .mp i=>match bZ T i,IB ag ls (ev k) with
   | some (.map ag' ks vs bs cl),some kc=>if ag=ag' then match mK ls kc ks 0 with
    | some none=>some (.v (.tuple #[]),T)
    | some (some j)=>some (.v (.tuple #[]),T.set i (some (.map ag (ks.eraseIdx j) (vs.eraseIdx j) (bs.eraseIdx j) cl)))
    | none=>none else none
   | _,_=>none
  | _=>none
 | .lenM m=>match ev m with
  | .v (.map none)=>some (.v (.int .i64 0),T)
  | .mp i=>match bZ T i with
   | some (.map _ ks _ _ _)=>some (.v (.int .i64 ks.length),T)
   | _=>none
  | _=>none
 | .mks k z bytes x y=>match ev x,ev y with
  | .v (.int .i64 n),.v (.int .i64 c)=>if 0≤n∧n≤c∧c*bytes≤140737488355328∧c≤maxLen then some (.own T.length,T++[some (.arr k (List.replicate n.toNat (z.map .v)))]) else none
  | _,_=>none
 | .s2b x=>match ev x with
  | .v (.string s)=>if s.size≤maxLen then some (.ls 1 (jC s),T) else none
  | _=>none
 | .b2b x=>match ev x with
  | .own i=>match bZ T i with
   | some (.arr k (e::es))=>if k=1 then some (.ls 1 (e::es),T.set i none) else none
   | _=>none
  | _=>none
 | .b2s x=>match N1 T 1 (ev x) with
  | some es=>match Hn es with
   | some l=>some (.v (.string ⟨l.toArray⟩),T)
   | none=>none
  | none=>none
 | .apS x y=>match ev y with
  | .v (.string s)=>match ev x with
   | .v (.slice none 0 0)=>if s.size≤140737488355328∧s.size≤maxLen then some (.own T.length,T++[some (.arr 1 (jC s))]) else none
   | .own a=>match bZ T a with
    | some (.arr k' es)=>if k'=1∧es.length+s.size≤140737488355328∧es.length+s.size≤maxLen then some (.own T.length,T.set a none++[some (.arr 1 (es++jC s))]) else none
    | _=>none
   | _=>none
  | _=>none
 | .slx x lo hi mx k=>match (match lo with | none=>some 0 | some o=>VY (ev o)),VY (ev hi),VY (ev mx) with
  | some l,some h,some m=>match ev x with
   | .ls k' es=>if k=k'∧l≤h∧h≤m∧m≤es.length then (if m=l then some (.own T.length,T++[some (.arr k [])]) else some (.ls k ((es.drop l).take (h-l)),T)) else none
   | .own a=>match bZ T a with
    | some (.arr k' es)=>if k=k'∧l≤h∧h≤m∧m≤es.length then (if m=l then some (.own T.length,T++[some (.arr k [])]) else some (.vw a k l (h-l),T)) else none
    | _=>none
   | .vw a k' lo' n=>if k=k'∧l≤h∧h≤m∧m≤n then (if m=l then some (.own T.length,T++[some (.arr k [])]) else some (.vw a k (lo'+l) (h-l),T)) else none
   | .v (.slice none 0 0)=>if l=0∧h=0∧m=0 then some (.own T.length,T++[some (.arr k [])]) else none
   | _=>none
  | _,_,_=>none
 | .bmo f k caps=>some (.bm f k (caps.map ev),T)
 | .rgm m=>match ev m with
  | .v (.map none)=>some (.ptr T.length 0,T++[some (.mit none 0 [] 0)])
  | .mp j=>match bZ T j with
   | some (.map _ _ _ _ cl)=>some (.ptr T.length 0,T++[some (.mit (some j) cl [] cl)])
   | _=>none
  | _=>none
 | .nxt _=>none
 | .bad=>none
 | .ent p=>match ev p with
  | .ptr i 0=>match bZ T i with
   | some (.mit (some j) _ seen la)=>match bZ T j,seen.getLast? with
    | some (.map ag ks vs bs cl),some b=>if cl=la then match bs.findIdx? (· == b) with
     | some e=>match ks[e]?,vs[e]? with
      | some k,some v=>some (.tup [.v (gY ag k),v],T)
      | _,_=>none
     | none=>none else none
    | _,_=>none
   | _=>none
  | _=>none
 | .clr x k z=>match ev x with
  | .ls _ []=>some (.v (.tuple #[]),T)
  | .v (.slice none 0 0)=>some (.v (.tuple #[]),T)
  | .own a=>match bZ T a with
   | some (.arr k' es)=>if k=k'∧z.length=k∧(z.all λv=>aO (.v v))=true then some (.v (.tuple #[]),T.set a (some (.arr k (List.replicate es.length (z.map .v))))) else none
   | _=>none
  | .vw a k' lo m=>match bZ T a with
   | some (.arr k'' es)=>if k=k'∧k=k''∧z.length=k∧lo+m≤es.length∧(z.all λv=>aO (.v v))=true then some (.v (.tuple #[]),T.set a (some (.arr k (es.take lo++List.replicate m (z.map .v)++es.drop (lo+m))))) else none
   | _=>none
  | _=>none
end
section
def aCp:List (List AV)→List Nat
 | []=>[]
 | e::es=>fU e++aCp es
def Lv:List (Nat×AV)→List Nat
 | []=>[]
 | (_,x)::r=>dZ x++Lv r
def aEf:Option AObj→List Nat
 | some (.box cs)=>fU cs
 | some (.arf _ es)=>aCp es
 | some (.lp _ s)=>Lv s
 | some (.mit (some j) _ _ _)=>[j]
 | some (.map _ _ vs _ _)=>fU vs
 | _=>[]
def Fc:List Nat→List Nat→List Nat
 | L,[]=>L
 | L,i::r=>if L.contains i then Fc L r else Fc (L++[i]) r
def Xx (T:aH):List Nat→List Nat
 | []=>[]
 | i::r=>aEf (bZ T i)++Xx T r
def CO (T:aH):aH→List Nat→List Nat
 | [],L=>L
 | _::R,L=>CO T R (Fc L (Xx T L))
def sA (T:aH) (ids:List Nat):List Nat:=CO T T (Fc [] ids)
def Rr (L:List Nat) (i:Nat):Option Nat:=L.idxOf? i
mutual
def AF (L:List Nat):AV→AV
 | .own i=>match Rr L i with | some j=>.own j | none=>.any
 | .ptr i o=>match Rr L i with | some j=>.ptr j o | none=>.any
 | .elt i k j o=>match Rr L i with | some m=>.elt m k j o | none=>.any
 | .vw i k j o=>match Rr L i with | some m=>.vw m k j o | none=>.any
 | .mp i=>match Rr L i with | some m=>.mp m | none=>.any
 | .yl i=>match Rr L i with | some m=>.yl m | none=>.any
 | .bm f k cs=>.bm f k (uF L cs)
 | .ag cs=>.ag (uF L cs)
 | .cl f cs=>.cl f (uF L cs)
 | .tup cs=>.tup (uF L cs)
 | x=>x
def uF (L:List Nat):List AV→List AV
 | []=>[]
 | c::cs=>AF L c::uF L cs
end
def Pu (L:List Nat):List (Nat×AV)→List (Nat×AV)
 | []=>[]
 | (i,x)::r=>(i,AF L x)::Pu L r
def XP (L:List Nat):List (List AV)→List (List AV)
 | []=>[]
 | e::es=>uF L e::XP L es
def Va (L:List Nat):AObj→Option AObj
 | .box cs=>some (.box (uF L cs))
 | .arf k es=>if (XP L es).all (·.all eO) then some (.arf k (XP L es)) else none
 | .lp r s=>some (.lp r (Pu L s))
 | .mit none a b c=>some (.mit none a b c)
 | .mit (some j) a b c=>match Rr L j with | some m=>some (.mit (some m) a b c) | none=>none
 | .arr k es=>some (.arr k es)
 | .map ag ks vs bs cl=>some (.map ag ks (uF L vs) bs cl)
def CP (L:List Nat) (T:aH):aH:=L.map λi=>(bZ T i).bind (Va L)
def IC (p:Nat×AV):List (Nat×AV)→List (Nat×AV)
 | []=>[p]
 | q::r=>if p.1<q.1 then p::q::r else q::IC p r
def oH:List (Nat×AV)→List (Nat×AV)
 | []=>[]
 | p::r=>IC p (oH r)
def jL (d:List Nat):List (Nat×AV)→List (Nat×AV)
 | []=>[]
 | (i,x)::r=>if d.contains i then jL d r else (i,x)::jL d r
def Aq (d:List Nat) (st:St):St :=
 let s:=oH (jL d st.s)
 let L:=sA st.T (List.range st.r++Lv s)
 ⟨st.r,Pu L s,CP L st.T⟩
def bk (L:List Nat) (n:Nat) (j:Nat):Nat:=if j<L.length then L.getD j 0 else n+(j-L.length)
mutual
def vG (L:List Nat) (n:Nat):AV→AV
 | .own i=>.own (bk L n i)
 | .ptr i o=>.ptr (bk L n i) o
 | .elt i k j o=>.elt (bk L n i) k j o
 | .vw i k j o=>.vw (bk L n i) k j o
 | .mp i=>.mp (bk L n i)
 | .yl i=>.yl (bk L n i)
 | .bm f k cs=>.bm f k (B9 L n cs)
 | .ag cs=>.ag (B9 L n cs)
 | .cl f cs=>.cl f (B9 L n cs)
 | .tup cs=>.tup (B9 L n cs)
 | x=>x
def B9 (L:List Nat) (n:Nat):List AV→List AV
 | []=>[]
 | c::cs=>vG L n c::B9 L n cs
end
def bkS (L:List Nat) (n:Nat):List (Nat×AV)→List (Nat×AV)
 | []=>[]
 | (i,x)::r=>(i,vG L n x)::bkS L n r
def bkF (L:List Nat) (n:Nat):List (List AV)→List (List AV)
 | []=>[]
 | e::es=>B9 L n e::bkF L n es
def CI (L:List Nat) (n:Nat):Option AObj→Option AObj
 | some (.box cs)=>some (.box (B9 L n cs))
 | some (.arf k es)=>some (.arf k (bkF L n es))
 | some (.lp r s)=>some (.lp r (bkS L n s))
 | some (.mit none a b c)=>some (.mit none a b c)
 | some (.mit (some j) a b c)=>some (.mit (some (bk L n j)) a b c)
 | some (.arr k es)=>some (.arr k es)
 | some (.map ag ks vs bs cl)=>some (.map ag ks (B9 L n vs) bs cl)
 | none=>none
def Fd (L:List Nat) (n:Nat):aH→List Nat→aH→aH
 | T,_,[]=>T
 | T,[],T'=>T++T'.map (CI L n)
 | T,i::L',o::T'=>Fd L n (T.set i (CI L n o)) L' T'
mutual
def qY (T:aH):AV→AV
 | .own i=>match bZ T i with | some (.arr k es)=>.ls k es | _=>.any
 | .vw i k lo m=>match bZ T i with | some (.arr k' es)=>if k=k'∧lo+m≤es.length then .ls k ((es.drop lo).take m) else .any | _=>.any
 | .ag cs=>.ag (AJ T cs)
 | x=>x
def AJ (T:aH):List AV→List AV
 | []=>[]
 | c::cs=>qY T c::AJ T cs
end
mutual
def fF:AV→Prop
 | .ls _ es=>es=[]
 | .rp cs=>cs=[]
 | .ag cs=>oY cs
 | .cl _ cs=>oY cs
 | .bm _ _ cs=>oY cs
 | .tup cs=>oY cs
 | _=>True
def oY:List AV→Prop
 | []=>True
 | c::cs=>fF c∧oY cs
end
def uX:Option AObj→Prop
 | some (.box cs)=>oY cs
 | some (.map _ _ vs _ _)=>oY vs
 | some (.arr _ es)=>∀ e∈es,∀ c∈e,∃ x,c=.v x
 | some (.arf _ es)=>∀ e∈es,oY e
 | some (.lp _ s)=>∀ p∈s,fF p.2
 | some (.mit _ _ _ _)=>True
 | none=>True
mutual
def pT:AV→AV→Prop
 | .ag cs,y=>y=.ag cs∨∃ ds,y=.ag ds∧Ar cs ds
 | .v u,y=>y=.v u∨(u=.slice none 0 0∧∃ k,y=.ls k [])∨(∃ us,u=.agg us∧y=.ag (us.toList.map .v))
 | x,y=>y=x
def Ar:List AV→List AV→Prop
 | [],y=>y=[]
 | c::cs,y=>∃ d ds,y=d::ds∧pT c d∧Ar cs ds
end
def Xy (P:Program) (G:Nat→Option (List AV)) (f:FuncId) (args:List AV) (T:aH) (K:AV→aH→Prop):Prop :=
 (∃ L:List Nat,L.Nodup∧(∀ i∈L,i<T.length)∧aC P G f (uF L args) (CP L T) λr T'=>K (vG L T.length r) (Fd L T.length T L T')) ∨
 (fU (AJ T args)=[]∧aC P G f (AJ T args) [] λr T'=>fF r∧(∀ o∈T',uX o)∧K (vG [] T.length r) (T++T'.map (CI [] T.length))) ∨
 aC P G f args T K
def EI (P:Program) (G:Nat→Option (List AV)) (f:FuncId) (args:List AV) (T:aH) (K:AV→aH→Prop):Prop :=
 ∃ args',Ar args args'∧Xy P G f args' T K
def JZ (st:St) (j:Nat) (c:Option Nat) (k:Nat):St :=
 match c with
 | none=>match aP st.s j with
  | .v (.slice none 0 0)=>⟨st.r,CN st.s j (.own st.T.length),st.T++[some (.arr k [])]⟩
  | _=>st
 | some c=>match aP st.s j with
  | .ptr i _=>match bZ st.T i with
   | some (.box cs)=>match cs[c]? with
    | some (.v (.slice none 0 0))=>⟨st.r,st.s,(st.T++[some (AObj.arr k [])]).set i (some (.box (cs.set c (.own st.T.length))))⟩
    | _=>st
   | _=>st
  | _=>st
def shutI (st:St) (i:Nat):St:=match bZ st.T i with
 | some (.arr k es)=>⟨st.r,Ms i k es st.s,(Mt i k es st.T).set i none⟩
 | _=>st
def CQ (st:St):List Nat→St
 | []=>st
 | i::r=>CQ (shutI st i) r
def Ja (st:St) (j:Nat):St:=CQ st (dZ (aP st.s j))
def N2 (kd:Nat) (x:AV):Bool:=match kd,x with
 | 1,.ls _ []=>true
 | _,_=>false
def fnA:AV→AV
 | .v (.func (.func g) a b)=>if a.size=0∧b.size=0 then .cl g [] else .v (.func (.func g) a b)
 | x=>x
def rV (P:Program) (G:Nat→Option (List AV)) (st:St) (o:HOp) (K:AV→aH→Prop):Prop :=
 match o with
 | .call f args=>match fnA (cQ G st.s f) with
  | .cl g caps=>EI P G g (args.map (cQ G st.s)++caps) st.T K
  | .bm g k cs=>EI P G g (cs.take k++args.map (cQ G st.s)++cs.drop k) st.T K
  | .yl i=>Ap P G i (args.map (cQ G st.s)) st.T K
  | _=>False
 | .nxt p=>match cQ G st.s p with
  | .ptr i 0=>match bZ st.T i with
   | some (.mit none _ _ _)=>K (.v (.tuple #[.bool false])) st.T
   | some (.mit (some j) since seen la)=>match bZ st.T j with
    | some (.map ag ks vs bs cl)=>since≤la∧(∀ b∈bs,b<since)∧((∀ b∈bs,b∈seen)→K (.v (.tuple #[.bool false])) st.T) ∧
      ∀ (e:Nat) (k:List Value) (v:AV) (b:Nat),ks[e]?=some k→vs[e]?=some v→bs[e]?=some b→b∉seen →
       K (.tup [.v (.bool true),.v (gY ag k),v]) (st.T.set i (some (.mit (some j) since (seen++[b]) cl)))
    | _=>False
   | _=>False
  | _=>False
 | .nilS neg kd x=>if N2 kd (cQ G st.s x)=true then K (.v (.bool true)) st.T∧K (.v (.bool false)) st.T else match bO st.T (cQ G st.s) (.nilS neg kd x) with
  | some (y,T)=>K y T
  | none=>False
 | o=>match bO st.T (cQ G st.s) o with
  | some (x,T)=>K x T
  | none=>False
def dM (s:List (Nat×AV)):Option (Nat×Bool)→Option Bool
 | none=>some true
 | some (j,b)=>match aP s j with
  | .v (.bool t)=>some (t==b)
  | .v (.tuple _)=>some false
  | _=>none
def Gq (P:Program) (G:Nat→Option (List AV)):List HOper→St→(St→Prop)→Prop
 | [],st,K=>K st
 | o::os,st,K=>match dM st.s o.guard with
  | some true=>rV P G st o.op λx T=>Gq P G os ⟨st.r,dH st.s o.dst x,T⟩ K
  | some false=>Gq P G os ⟨st.r,dH st.s o.dst (.v undef),st.T⟩ K
  | none=>False
def lT (G:Nat→Option (List AV)) (st:St):List HOper→Prop
 | []=>True
 | o::os=>(match dM st.s o.guard with
  | some true=>match bO st.T (cQ G st.s) o.op with
   | some (x,_)=>o.dst.map (aP st.s)=some x
   | none=>False
  | some false=>o.dst.map (aP st.s)=some (.v undef)
  | none=>False)∧lT G st os
def aY:Operand→List Nat
 | .tmp t=>[t]
 | _=>[]
def mF:HOp→List Nat
 | .mov x=>aY x
 | .pick c a b=>aY c++aY a++aY b
 | .bin _ x y=>aY x++aY y
 | .eqa _ _ x y=>aY x++aY y
 | .eqb _ x y=>aY x++aY y
 | .un _ x=>aY x
 | .conv _ x=>aY x
 | .box x=>aY x
 | .alloc _=>[]
 | .bld _ ps=>ps.flatMap λp=>aY p.2.2
 | .bsl _ _ ps _=>ps.flatMap λp=>aY p.2.2
 | .bslS _ _ ps _=>ps.flatMap λp=>aY p.2.2
 | .ld _ p=>aY p
 | .st _ p x=>aY p++aY x
 | .fad p _=>aY p
 | .fld x _ _=>aY x
 | .iad x i _=>aY x++aY i
 | .iadA x i _ _=>aY x++aY i
 | .ixS x i=>aY x++aY i
 | .lenS x=>aY x
 | .lenL x=>aY x
 | .app x y _ _=>aY x++aY y
 | .ext x _=>aY x
 | .clo _ cs=>cs.flatMap aY
 | .call f as_=>aY f++as_.flatMap aY
 | .nilc x=>aY x
 | .slc x lo hi _=>aY x++(match lo with | some o=>aY o | none=>[])++(match hi with | some o=>aY o | none=>[])
 | .slcS x lo hi=>aY x++(match lo with | some o=>aY o | none=>[])++(match hi with | some o=>aY o | none=>[])
 | .nilS _ _ x=>aY x
 | .mm _ x y=>aY x++aY y
 | .mkm _=>[]
 | .lku _ _ _ m k _=>aY m++aY k
 | .mup _ _ m k x=>aY m++aY k++aY x
 | .men _ _ _ m k=>aY m++aY k
 | .mst m s x=>aY m++aY s++aY x
 | .del _ _ m k=>aY m++aY k
 | .lenM m=>aY m
 | .mks _ _ _ x y=>aY x++aY y
 | .s2b x=>aY x
 | .b2s x=>aY x
 | .b2b x=>aY x
 | .apS x y=>aY x++aY y
 | .slx x lo hi mx _=>aY x++(match lo with | some o=>aY o | none=>[])++aY hi++aY mx
 | .bmo _ _ cs=>cs.flatMap aY
 | .rgm m=>aY m
 | .nxt p=>aY p
 | .ent p=>aY p
 | .bad=>[]
 | .clr x _ _=>aY x
def Rs (o:HOper):List Nat:=mF o.op++(match o.guard with | some (j,_)=>[j] | none=>[])
def fG:HOp→Bool
 | .box _=>false
 | .alloc _=>false
 | .bsl _ _ _ _=>false
 | .bslS _ _ _ _=>false
 | .st _ _ _=>false
 | .app _ _ _ _=>false
 | .call _ _=>false
 | .mkm _=>false
 | .mup _ _ _ _ _=>false
 | .men _ _ _ _ _=>false
 | .mst _ _ _=>false
 | .del _ _ _ _=>false
 | .mks _ _ _ _ _=>false
 | .s2b _=>false
 | .b2b _=>false
 | .apS _ _=>false
 | .slx _ _ _ _ _=>false
 | .rgm _=>false
 | .nxt _=>false
 | .ent _=>false
 | .bad=>false
 | .clr _ _ _=>false
 | _=>true
structure Plan where
 hops:List HOper
 pre:List (List Nat)
def Plan.p (p:Plan) (i:Nat):List Nat:=p.pre.getD i []
def Plan.ng (p:Plan):Bool:=decide (p.hops.length<p.pre.length)
def Plan.quiet (p:Plan) (i:Nat):Bool :=
 match p.hops[i]? with
 | none=>false
 | some o=>fG o.op&&(match o.dst with
  | none=>false
  | some d=>(List.range p.hops.length).all λr=>match p.hops[r]? with
   | none=>true
   | some o'=>!(Rs o').contains d||(p.p r).contains i)
def Plan.ready (p:Plan) (E:List Nat):List Nat:=(List.range p.hops.length).filter λi=>!E.contains i&&(p.p i).all E.contains
def Plan.pend (p:Plan) (E:List Nat):List HOper :=
 (E.filter λq=>p.quiet q&&!(E.any λh=>!p.quiet h&&(p.p h).contains q)).filterMap λq=>p.hops[q]?
def Fe (P:Program) (G:Nat→Option (List AV)) (chk:List HOper):Nat→List HOper→St→(St→Prop)→Prop
 | 0,_,st,K=>K st
 | n+1,ops,st,K=>∀ i o,ops[i]?=some o→match dM st.s o.guard with
  | some true=>rV P G st o.op λx T=>lT G ⟨st.r,dH st.s o.dst x,T⟩ chk∧Fe P G chk n (ops.eraseIdx i) ⟨st.r,dH st.s o.dst x,T⟩ K
  | some false=>lT G ⟨st.r,dH st.s o.dst (.v undef),st.T⟩ chk∧Fe P G chk n (ops.eraseIdx i) ⟨st.r,dH st.s o.dst (.v undef),st.T⟩ K
  | none=>False
def sB (P:Program) (G:Nat→Option (List AV)) (p:Plan):Nat→Bool→List Nat→St→(St→Prop)→Prop
 | 0,_,_,_,_=>False
 | n+1,gc,E,st,K=>match (p.ready E).find? p.quiet with
  | some i=>match p.hops[i]? with
   | some o=>match dM st.s o.guard with
    | some true=>match bO st.T (cQ G st.s) o.op with
     | some (x,_)=>sB P G p n gc (i::E) ⟨st.r,dH st.s o.dst x,st.T⟩ K
     | none=>False
    | some false=>sB P G p n gc (i::E) ⟨st.r,dH st.s o.dst (.v undef),st.T⟩ K
    | none=>False
   | none=>False
  | none=>match p.ready E with
   | []=>K (if gc then Aq [] st else st)
   | c::cs=>∀ i,i∈c::cs→∃ o,p.hops[i]?=some o∧match dM st.s o.guard with
    | some true=>rV P G st o.op λy T=>lT G ⟨st.r,dH st.s o.dst y,T⟩ (if fG o.op then [] else p.pend (i::E))∧sB P G p n (gc||!cs.isEmpty) (i::E) ⟨st.r,dH st.s o.dst y,T⟩ K
    | some false=>lT G ⟨st.r,dH st.s o.dst (.v undef),st.T⟩ (if fG o.op then [] else p.pend (i::E))∧sB P G p n (gc||!cs.isEmpty) (i::E) ⟨st.r,dH st.s o.dst (.v undef),st.T⟩ K
    | none=>False
def DT (P:Program) (G:Nat→Option (List AV)):HD→St→(St→Prop)→Prop
 | .done b,st,K=>K (if b then Aq [] st else st)
 | .no,_,_=>True
 | .q o next,st,K=>match dM st.s o.guard with
  | some true=>match bO st.T (cQ G st.s) o.op with
   | some (x,_)=>DT P G next ⟨st.r,dH st.s o.dst x,st.T⟩ K
   | none=>False
  | some false=>DT P G next ⟨st.r,dH st.s o.dst (.v undef),st.T⟩ K
  | none=>False
 | .alt o chk next other,st,K=>(match dM st.s o.guard with
  | some true=>rV P G st o.op λx T=>lT G ⟨st.r,dH st.s o.dst x,T⟩ chk∧DT P G next ⟨st.r,dH st.s o.dst x,T⟩ K
  | some false=>lT G ⟨st.r,dH st.s o.dst (.v undef),st.T⟩ chk∧DT P G next ⟨st.r,dH st.s o.dst (.v undef),st.T⟩ K
  | none=>False)∧DT P G other st K
 | .perm chk ops next,st,K=>Fe P G chk ops.length ops st λs=>DT P G next s K
 | .plan hops pre n gc E,st,K=>sB P G ⟨hops,pre⟩ n gc E st K
inductive Ex where
 | normal
 | exit (id:Nat)
 | ret
def EJ (d:List Nat):List (Nat×AV)→List (Nat×AV)
 | []=>[]
 | (i,x)::r=>if d.contains i then (i,x)::EJ d r else EJ d r
def uG:List (Nat×AV)→List Nat→List AV→List (Nat×AV)
 | s,p::ps,x::xs=>uG (CN s p x) ps xs
 | s,_,_=>s
def N3 (P:Program) (f:FuncId):Prop:=∃ fn c,P.funcs[f]?=some fn∧fn.body=some c∧¬fn.name = "runtime.NumGoroutine"
def left (r:Loop) (c:Code):Loop:={ r with state:=.done,pending:=some c }
def Gr (i:Nat) (r:Loop) (s:List (Nat×AV)) (n:Nat) (post:AV→aH→Prop) (e:Ex) (st:St):Prop :=
 ∃ gc:Bool,match e with
  | .normal=>post (.v (.bool true)) ((if gc then (Aq [] ⟨n,[],st.T⟩).T else st.T).set i (some (.lp r s)))
  | .exit id=>post (.v (.bool false)) ((if gc then (Aq [] ⟨n,[],st.T⟩).T else st.T).set i (some (.lp (left r (.exit id)) s)))
  | .ret=>post (.v (.bool false)) ((if gc then (Aq [] ⟨n,[],st.T⟩).T else st.T).set i (some (.lp (left r .ret) s)))
def Rw (Q:Ex→St→Prop) (r:Nat) (s:List (Nat×AV)) (n:Nat) (T:aH):Prop :=
 match bZ T n with
 | some (.lp rec _)=>rec.state≠.busy∧(match rec.pending with
  | none=>Q .normal ⟨r,s,T.set n none⟩
  | some (.exit id)=>Q (.exit id) ⟨r,s,T.set n none⟩
  | some .ret=>Q .ret ⟨r,s,T.set n none⟩
  | _=>False)
 | _=>False
def dD (P:Program) (G:Nat→Option (List AV)):HC→(Ex→St→Prop)→St→Prop
 | .skip,Q,st=>Q .normal st
 | .reg ops,Q,st=>Gq P G ops st (Q .normal)
 | .regd d,Q,st=>DT P G d st (Q .normal)
 | .seq a b,Q,st=>dD P G a (λe st'=>match e with | .normal=>dD P G b Q st' | e=>Q e st') st
 | .cond c a b,Q,st=>match cQ G st.s c with
  | .v (.bool t)=>if t then dD P G a Q st else dD P G b Q st
  | _=>False
 | .block id a,Q,st=>dD P G a (λe st'=>match e with | .exit j=>if j=id then Q .normal st' else Q (.exit j) st' | e=>Q e st') st
 | .loop d a,Q,st=>∃ I:Nat→St→Prop,(∃ n,I n (Aq d st)∨I n st)∧∀ n s,I n s→dD P G a (λe s'=>match e with | .normal=>∃ m,m<n∧(I m (Aq d s')∨I m s') | e=>Q e s') s
 | .exit id,Q,st=>Q (.exit id) st
 | .ret,Q,st=>Q .ret st
 | .kill d,Q,st=>Q .normal ⟨st.r,jL d st.s,st.T⟩
 | .own j c k,Q,st=>Q .normal (JZ st j c k)
 | .shut j,Q,st=>Q .normal (Aq [] (Ja st j))
 | .rng g ps d a b,Q,st=>∀ r:Loop,r.state=.ready→r.pending=none→r.params.size=ps.length →
   (∀ (i:Nat) (s:List (Nat×AV)) (T:aH) (args:List AV) (post:AV→aH→Prop),bZ T i=some (.lp r s)→args.length=ps.length →
    dD P G a (λe s1=>match e with | .normal=>dD P G b (Gr i r s T.length post) s1 | _=>False) ⟨T.length,uG s ps args,T.set i none⟩→Ap P G i args T post) →
   match cQ G st.s g with
   | .cl f caps=>N3 P f∧EI P G f (.yl st.T.length::caps) (st.T++[some (.lp r (EJ d st.s))]) λ_ T2=>Rw Q st.r st.s st.T.length T2
   | _=>False
end
section
def lU (P:Program) (t:TypeId):Option Nat:=(P.info? t).map (·.size)
def D2 (P:Program) (t:TypeId):Option (Option Nat) :=
 match P.underlying t,P.info? t with
 | some (.struct _),some i=>some (some i.size)
 | some (.array _ _),some i=>some (some i.size)
 | some _,some _=>some none
 | _,_=>none
def aC0 (ag:Bool) (n:Nat):Option Nat:=if ag then some n else none
def Ei (P:Program) (g:TypeId→Option (Bool×List LK)):List Field→Nat→Option (List LK)
  | [],_=>some []
  | f::fs,off=>match g f.type with
    | some (ag,ks)=>if f.name ≠ "_" ∧ f.offset=off∧D2 P f.type=some (aC0 ag ks.length) then
        match Ei P g fs (off+ks.length) with
        | some l=>some (ks++l)
        | none=>none
      else none
    | none=>none
def fH (P:Program):Nat→TypeId→Option (Bool×List LK)
 | 0,_=>none
 | n+1,t=>match P.underlying t with
  | some (.int k)=>some (false,[.int k])
  | some .bool=>some (false,[.bool])
  | some .string=>some (false,[.str])
  | some (.struct fs)=>if P.stoodInHeld t then none else match Ei P (fH P n) fs.toList 0 with
   | some ks=>some (true,ks)
   | none=>none
  | _=>none
def Gt (P:Program) (fs:List Field):List (Nat×Operand)→Option (List (Nat×Nat×Operand))
 | []=>some []
 | (i,x)::r=>match fs[i]? with
  | none=>none
  | some f=>match lU P f.type,Gt P fs r with
   | some n,some l=>some ((f.offset,n,x)::l)
   | _,_=>none
def Gu (n:Nat):List (Nat×Operand)→List (Nat×Nat×Operand)
 | []=>[]
 | (i,x)::r=>(i*n,n,x)::Gu n r
def Ff (z:List Value):Nat→List Value
 | 0=>[]
 | n+1=>z++Ff z n
def eF (P:Program) (o:Oper):Option HOp :=
 match o.op with
 | .move x=>some (.mov x)
 | .assign x=>some (.mov x)
 | .pick c a b=>some (.pick c a b)
 | .binOp op t x y _ =>
  if op=.eql∨op=.neq then
   match P.underlying t with
   | some (.int _)=>some (.bin op x y)
   | some .bool=>some (.eqb (op==.neq) x y)
   | some .string=>some (.bin op x y)
   | some (.struct _)=>match fH P 20 t with
    | some (_,ks)=>if P.eqGuardType P.depth t then none else some (.eqa (op==.neq) ks x y)
    | none=>none
   | _=>none
  else some (.bin op x y)
 | .unOp op _ x=>some (.un op x)
 | .convert src dst x=>match P.underlying src,P.underlying dst with
  | some _,some (.int k)=>some (.conv k x)
  | _,_=>none
 | .box _ x=>some (.box x)
 | .alloc e=>match P.info? e with
  | some i=>match i.zero with
   | some z=>if z.cells.toList.all (λx=>eO (.v x)) then some (.alloc z.cells.toList) else none
   | none=>none
  | none=>none
 | .build t parts=>match P.underlying t,P.info? t with
  | some (.struct fs),some i=>match i.zero,Gt P fs.toList parts.toList with
   | some z,some l=>if fs.toList.all (λf=>(lU P f.type).isSome) then some (.bld z.cells.toList l) else none
   | _,_=>none
  | _,_=>none
 | .buildSlice t len parts=>match P.underlying t with
  | some (.slice e)=>match P.info? e with
   | some i=>match i.zero with
    | some z=>if z.cells.size=i.size∧0<i.size∧len*i.size≤2^20∧0<len then some (.bsl i.size (Ff z.cells.toList len) (Gu i.size parts.toList) len) else none
    | none=>none
   | none=>none
  | _=>none
 | .load t a=>match D2 P t with
  | some n=>some (.ld n a)
  | none=>none
 | .store t a x=>match lU P t with
  | some n=>some (.st n a x)
  | none=>none
 | .fieldAddr t x f=>match P.underlying t with
  | some (.struct fs)=>match fs[f]? with
   | some fd=>match lU P fd.type with
    | some n=>if n=0 then none else some (.fad x fd.offset)
    | none=>none
   | none=>none
  | _=>none
 | .field t x f=>match P.underlying t with
  | some (.struct fs)=>match fs[f]? with
   | some fd=>match D2 P fd.type with
    | some n=>some (.fld x fd.offset n)
    | none=>none
   | none=>none
  | _=>none
 | .indexAddr t x ix=>match P.underlying t with
  | some (.slice e)=>match lU P e with
   | some k=>if k=0 then none else some (.iad x ix k)
   | none=>none
  | some (.array len e)=>match lU P e with
   | some k=>some (.iadA x ix len k)
   | none=>none
  | _=>none
 | .index t x ix=>match P.underlying t with
  | some .string=>some (.ixS x ix)
  | _=>none
 | .extract x i=>some (.ext x i)
 | .nilCheck x=>some (.nilc x)
 | .makeFunc (.func f) first caps=>if first.size=0 then some (.clo f caps.toList) else none
 | .call c=>match c.callee with
  | .value f=>some (.call f c.args.toList)
  | .builtin .len=>match c.argTypes[0]?,c.args.toList with
   | some t,[x]=>match P.underlying t with
    | some .string=>some (.lenS x)
    | some (.slice _)=>some (.lenL x)
    | _=>none
   | _,_=>none
  | .builtin .append=>match c.argTypes.toList,c.args.toList with
   | [t,t'],[x,y]=>if t'≠t then none else match P.underlying t with
    | some (.slice e)=>match P.info? e with
     | some i=>match i.zero with
      | some z=>if z.cells.size=i.size∧0<i.size then some (.app x y i.size i.bytes) else none
      | none=>none
     | none=>none
    | _=>none
   | _,_=>none
  | _=>none
 | _=>none
end
section
def aZ {T:aH} {i:Nat} {o:AObj} (e:bZ T i=some o):T[i]?=some (some o):=by
 unfold bZ at e;split at e
 ·rename_i o' h;injection e with e;subst e;exact h
 ·simp at e
def UE {T:aH} {i:Nat} {o:AObj} (e:bZ T i=some o):i<T.length:=by
 have:=aZ e;rcases gM i T.length with h | h
 ·exact h
 ·simp [oW h] at this
section
variable {P:Program} {G:Nat→Option (List AV)} {h:GH} {φ:Nat→Value} {n:Nat} {T:aH} {w:World} {s:List (Nat×AV)} {a:Act}
def qU (h:GH) (φ:Nat→Value) (n:Nat) (s:List (Nat×AV)) (a:Act):Prop:=∀ i,Rp h φ n (aP s i) (a.tmps.getD i undef)
def cJ (hG:pS G h) (hS:qU h φ n s a) (x:Operand):Rp h φ n (cQ G s x) (a.eval x):=by
 cases x with
 | tmp t=>exact hS t
 | const v=>simp [cQ,Act.eval,Rp]
 | global g =>
  simp only [cQ,Act.eval];split
  ·rename_i cs hg;simp only [Rp];exact ⟨g,0,rfl,hG g cs hg⟩
  ·simp [Rp]
 | func f=>simp only [cQ,Act.eval,Rp];exact ⟨#[],rfl,by simp [bK]⟩
def jO (hG:pS G h) (hS:qU h φ n s a) {x:Operand} {v:Value} (e:cQ G s x=.v v):a.eval x=v:=by
 have:=cJ hG hS x;rw [e] at this;simpa [Rp] using this
def Jb (hG:pS G h) (hS:qU h φ n s a) (l:List Operand):bK h φ n (l.map (cQ G s)) (l.map a.eval):=by
 induction l with
 | nil=>simp [bK]
 | cons x l ih=>simp only [fE,bK];exact ⟨_,_,rfl,cJ hG hS x,ih⟩
def AK:∀ {x:AV} {u:Value},Rp h φ n x u→(∀ c∈cR x,eO c=true)→bK h φ n (cR x) u.cells.toList
 | .ag cs,u,e,_=>by
  simp only [Rp] at e;obtain ⟨us,rfl,h2⟩:=e;exact h2
 | .v x,u,e,ho=>by
  simp only [Rp] at e;subst e
  cases u with
  | agg us =>
   simp only [cR,Value.cells];exact bK.mk (by simp) λi c u hc hu=>by
    simp only [lO] at hc;rw [hu] at hc;simp at hc;subst hc;simp [Rp]
  | _=>simp [cR,Value.cells,bK,Rp]
 | .ls k es,u,e,_=>by
  have e':=e;simp only [Rp,kY] at e';obtain ⟨A,c,rfl,_⟩:=e';simp only [cR,Value.cells,bK];exact ⟨_,[],rfl,e,rfl⟩
 | .own i,u,e,_=>by
  have e':=e;simp only [Rp] at e';obtain ⟨_,_,A,l,c,rfl⟩:=e';simp only [cR,Value.cells,bK];exact ⟨_,[],rfl,e,rfl⟩
 | .ptr i o,u,e,_=>by
  have e':=e;simp only [Rp] at e';obtain ⟨_,g,_,rfl⟩:=e';simp only [cR,Value.cells,bK];exact ⟨_,[],rfl,e,rfl⟩
 | .elt i k j o,u,e,_=>by
  have e':=e;simp only [Rp] at e';obtain ⟨_,g,_,_,_,rfl⟩:=e';simp only [cR,Value.cells,bK];exact ⟨_,[],rfl,e,rfl⟩
 | .mp i,u,e,_=>by
  have e':=e;simp only [Rp] at e';obtain ⟨_,_,g,rfl⟩:=e';simp only [cR,Value.cells,bK];exact ⟨_,[],rfl,e,rfl⟩
 | .yl i,u,e,_=>by
  have e':=e;simp only [Rp] at e';obtain ⟨_,_,g,rfl⟩:=e';simp only [cR,Value.cells,bK];exact ⟨_,[],rfl,e,rfl⟩
 | .vw i k j o,u,e,_=>by
  have e':=e;simp only [Rp] at e';obtain ⟨_,A,c,rfl,_⟩:=e';simp only [cR,Value.cells,bK];exact ⟨_,[],rfl,e,rfl⟩
 | .rp cs,u,e,_=>by
  have e':=e;simp only [Rp] at e';obtain ⟨_,_,rfl,_⟩:=e';simp only [cR,Value.cells,bK];exact ⟨_,[],rfl,e,rfl⟩
 | .cl f cs,u,e,_=>by
  have e':=e;simp only [Rp] at e';obtain ⟨us,rfl,_⟩:=e';simp only [cR,Value.cells,bK];exact ⟨_,[],rfl,e,rfl⟩
 | .bm f kk cs,u,e,_=>by
  have e':=e;simp only [Rp] at e';obtain ⟨us,rfl,_⟩:=e';simp only [cR,Value.cells,bK];exact ⟨_,[],rfl,e,rfl⟩
 | .tup cs,u,e,ho=>by simp [cR,eO] at ho
 | .any,u,e,ho=>by simp [cR,eO] at ho
def Ik:∀ {x:AV} {u:Value},Rp h φ n x u→eO x=true→u.oneCell'=true
 | .v x,u,e,ho=>by
  simp only [Rp] at e;subst e;cases u<;>simp_all [eO,Value.oneCell']
 | .ls k es,u,e,_=>by simp only [Rp,kY] at e;obtain ⟨A,c,rfl,_⟩:=e;rfl
 | .own i,u,e,_=>by simp only [Rp] at e;obtain ⟨_,_,A,l,c,rfl⟩:=e;rfl
 | .ptr i o,u,e,_=>by simp only [Rp] at e;obtain ⟨_,g,_,rfl⟩:=e;rfl
 | .elt i k j o,u,e,_=>by simp only [Rp] at e;obtain ⟨_,g,_,_,_,rfl⟩:=e;rfl
 | .vw i k j o,u,e,_=>by simp only [Rp] at e;obtain ⟨_,A,c,rfl,_⟩:=e;rfl
 | .mp i,u,e,_=>by simp only [Rp] at e;obtain ⟨_,_,g,rfl⟩:=e;rfl
 | .yl i,u,e,_=>by simp only [Rp] at e;obtain ⟨_,_,g,rfl⟩:=e;rfl
 | .rp cs,u,e,_=>by simp only [Rp] at e;obtain ⟨_,_,rfl,_⟩:=e;rfl
 | .cl f cs,u,e,_=>by simp only [Rp] at e;obtain ⟨us,rfl,_⟩:=e;rfl
 | .bm f kk cs,u,e,_=>by simp only [Rp] at e;obtain ⟨us,rfl,_⟩:=e;rfl
 | .ag cs,u,e,ho=>by simp [eO] at ho
 | .tup cs,u,e,ho=>by simp [eO] at ho
 | .any,u,e,ho=>by simp [eO] at ho
def UF {cs:List AV} {us:List Value} (hr:bK h φ n cs us) {off:Nat} {x:AV}:∀ {m:Option Nat},JY cs off m=some x →
  match m with
  | none=>∃ u,us[off]?=some u∧Rp h φ n x u
  | some k=>off+k≤us.length∧Rp h φ n x (.agg ((us.drop off).take k).toArray)
 | none,e=>by
  simp only [JY] at e;exact hr.get e
 | some k,e=>by
  simp only [JY] at e;split at e
  ·rename_i hle;injection e with e;subst e;have hl:=hr.length;exact ⟨by omega,by simp only [Rp];exact ⟨_,rfl,by simpa using (hr.drop off).take k⟩⟩
  ·simp at e
def Mu {i:Nat} {cs:List AV} (hI:Inv h φ w T) (hg:bZ T i=some (.box cs)) :
  ∃ (g:Nat) (us:Array Value) (E:TypeId),φ i=.pointer (some ⟨g,0,none⟩)∧w.heap[g]?=some (.cells us E (0,0))∧h g=none∧bK h φ T.length cs us.toList :=
 hI.obj i _ (aZ hg)
def As {g:Nat} {us:Array Value} {E:TypeId} {fr:Nat×Nat} (hw:w.heap[g]?=some (.cells us E fr)) (o:Nat):w.cell? ⟨g,o,none⟩=us[o]?:=by
 simp [World.cell?,hw]
def Pv {b o:Nat} {u:Value} (hI:Inv h φ w T) (e:lS h b o=some u):w.cell? ⟨b,o,none⟩=some u:=by
 unfold lS at e
 cases hb:h b with
 | none=>simp [hb] at e
 | some cs =>
  obtain ⟨E,fr,hw⟩:=hI.gh b cs hb;rw [As hw];simpa [hb] using e
def DU {t:TypeId} {m:Option Nat} (e:D2 P t=some m) :
  match m with
  | none=>(isAgg t).run P w=.ok false w∧True
  | some k=>(isAgg t).run P w=.ok true w∧(Go.sizeOf t).run P w=.ok k w:=by
 unfold D2 at e;split at e
 ·rename_i fs i hu hi;injection e with e;subst e;simp [isAgg,run_underlying hu,Go.sizeOf,typeInfo,hi]
 ·rename_i l el i hu hi;injection e with e;subst e;simp [isAgg,run_underlying hu,Go.sizeOf,typeInfo,hi]
 ·rename_i d i h1 h2 hu hi;injection e with e;subst e;refine ⟨?_,trivial⟩;simp only [isAgg,Sem.run_bind,run_underlying hu,Result.andThen_ok];cases d<;>first | rfl | (exfalso;first | exact h1 _ rfl | exact h2 _ _ rfl)
 ·simp at e
def Rx {t:TypeId} {m:Option Nat} (e:D2 P t=some m) {b o:Nat} {us:List Value} (hc:∀ j u,us[j]?=some u→w.cell? ⟨b,o+j,none⟩=some u) :
  match m with
  | none=>∀ u,us[0]?=some u→(loadVar t ⟨b,o,none⟩).run P w=.ok u w
  | some k=>k≤us.length→(loadVar t ⟨b,o,none⟩).run P w=.ok (.agg (us.take k).toArray) w:=by
 have ha:=DU (w:=w) e
 cases m with
 | none =>
  intro u hu;have:=hc 0 u hu;simp only [wK] at this;simp [loadVar,ha.1,this]
 | some k =>
  intro hk
  have hl:=run_loadCells_list (P:=P) (w:=w) ⟨b,o,none⟩ (us.take k) (λj v hv=>by
   have:(⟨b,o,none⟩:Addr).add j=⟨b,o+j,none⟩:=by unfold Addr.add;split<;>simp_all
   rw [this];refine hc j v ?_;rw [zD] at hv;split at hv
   ·exact hv
   ·simp at hv)
  have hlen:(us.take k).length=k:=by simp;omega
  rw [hlen] at hl;simp [loadVar,ha.1,ha.2,hl]
end
end
section
section
variable {P:Program} {G:Nat→Option (List AV)} {h:GH} {φ:Nat→Value} {T:aH} {w:World} {s:List (Nat×AV)} {a:Act}
def N4 {op:BinOp} {t:TypeId} {x y:Operand} {a b u:Value} (e:bM op a b=some u) :
    (do eqGuard op t x y a b;binOp op t a b:Sem Value).run P w=.ok u w:=by
  unfold bM at e;split at e
  · rename_i k p k' q
    cases op
    case shl =>
      simp only at e
      split at e
      · simp at e
      · rename_i hq
        injection e with e;subst e
        have:(binOp BinOp.shl t (Value.int k p) (Value.int k' q))=Op.shift BinOp.shl k p k' q:=rfl
        simp [eqGuard,this,Op.shift,hq]
    case shr =>
      simp only at e
      split at e
      · simp at e
      · rename_i hq
        injection e with e;subst e
        have:(binOp BinOp.shr t (Value.int k p) (Value.int k' q))=Op.shift BinOp.shr k p k' q:=rfl
        simp [eqGuard,this,Op.shift,hq]
    all_goals
      simp only at e
      split at e
      · rename_i hk
        subst hk
        first
          | (injection e with e;subst e;simp [eqGuard,binOp,Op.intArith,Op.intBits,Op.intCmp];done)
          | (split at e
             · simp at e
             · rename_i hq
               injection e with e;subst e;simp [eqGuard,binOp,Op.intDiv,hq])
          | (simp at e;done)
      · simp at e
  · rename_i p q
    cases op<;>simp only at e<;>(try split at e)<;>(try (simp at e;done))<;>(injection e with e;subst e)<;>(try (simp [eqGuard,binOp,Op.stringOp];done))
    rename_i hle
    unfold maxLen at hle
    simp [eqGuard,binOp,Op.stringOp]
    omega
  · simp at e
def Jc {t:TypeId} (ht:P.underlying t=some .bool) {a b:Bool}:(Op.equal t (.bool a) (.bool b)).run P w=.ok (a==b) w:=by
 have key:∀ d,(Op.equalIn (d+1) t (.bool a) (.bool b)).run P w=.ok (a==b) w:=λd=>by simp [Op.equalIn,run_underlying ht]
 exact key 9999
def aAs {op:BinOp} (bO:op=.eql∨op=.neq) {t:TypeId} (ht:P.underlying t=some .bool) {x y:Operand} {a b:Bool} :
  (do eqGuard op t x y (.bool a) (.bool b);binOp op t (.bool a) (.bool b):Sem Value).run P w=.ok (.bool (if op==.neq then !(a==b) else a==b)) w:=by
 rcases bO with rfl | rfl
 ·have e:binOp .eql t (.bool a) (.bool b)=(do pure (.bool (←Op.equal t (.bool a) (.bool b)))):=rfl;rw [e];simp [eqGuard,Jc ht]
 ·have e:binOp .neq t (.bool a) (.bool b)=(do pure (.bool (!(←Op.equal t (.bool a) (.bool b))))):=rfl;rw [e];simp [eqGuard,Jc ht]
def aCr {op:UnOp} {a u:Value} (e:pun op a=some u):(Op.unary op a).run P w=.ok u w:=by
 unfold pun at e;split at e
 ·cases op<;>simp only at e<;>(try (simp at e;done))<;>(injection e with e;subst e;simp [Op.unary])
 ·rename_i k p;cases op<;>simp only at e<;>(try (simp at e;done))<;>(injection e with e;subst e;simp [Op.unary,Op.intArith,Op.intBits])
 ·simp at e
end
end
end Hud
