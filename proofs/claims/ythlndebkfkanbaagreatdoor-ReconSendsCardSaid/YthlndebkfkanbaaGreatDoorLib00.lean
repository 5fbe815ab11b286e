import Derived.WalkKit
set_option linter.all false
namespace Hud
open Go
section
abbrev aL:=@List.length_map
abbrev fG:=@List.getD_eq_getElem?_getD
abbrev fV:=@List.getElem?_eq_getElem
abbrev dU:=@List.length_append
abbrev gQ:=@List.map_append
abbrev gK:=@List.mem_cons
abbrev jY:=@List.getElem_mem
abbrev cH:=@Eq.trans
abbrev fW:=@Nat.le_refl
abbrev mA:=@List.length_set
abbrev gV:=@List.getElem?_eq_none
abbrev eD:=@List.getElem?_map
abbrev eE:=@List.append_assoc
abbrev bY:=@Nat.lt_or_ge
abbrev cN:=@List.map_cons
abbrev eM:=@Bool.and_eq_true
abbrev oT:=@List.take_succ_eq_append_getElem
abbrev cZ:=@Nat.lt_irrefl
abbrev eO:=@List.mem_append
abbrev gZ:=@List.mem_singleton
abbrev dE:=@List.mem_map
abbrev hZ:=@List.length_take
abbrev jZ:=@Bool.false_eq_true
abbrev eQ:=@List.map_nil
abbrev kH:=@List.take_length
abbrev kS:=@List.length_cons
abbrev pY:=@List.take_of_length_le
abbrev kI:=@List.length_nil
abbrev kY:=@List.all_eq_true
abbrev kT:=@List.append_nil
abbrev kZ:=@Option.map_some
abbrev jG:=@Bool.true_and
abbrev rU:=@Bool.not_eq_eq_eq_not
abbrev mL:=@List.take_zero
abbrev pQ:=@List.not_mem_nil
abbrev qP:=@List.flatten_cons
abbrev CR:=@List.eq_nil_of_length_eq_zero
abbrev nG:=@Bool.false_and
abbrev oU:=@Bool.eq_iff_iff
abbrev nW:=@Bool.not_false
abbrev nH:=@Bool.not_true
abbrev nX:=@Nat.le_trans
abbrev tT:=@List.length_drop
abbrev rV:=@List.mem_range
abbrev Eb:=@List.getElem?_append_left
abbrev AH:=@List.getElem_of_mem
abbrev AI:=@List.getElem?_take
abbrev CS:=@List.mem_of_mem_take
abbrev yM:=@List.flatten_nil
abbrev rW:=@Nat.zero_add
abbrev CT:=@List.length_pos_iff
abbrev uO:=@Bool.and_true
abbrev HM:=@List.getElem?_eq_some_iff
abbrev CU:=@Nat.lt_of_lt_of_le
abbrev BV:=@List.ext_getElem?
abbrev Ag:=@List.cons_append
abbrev GA:=@Array.getElem?_eq_none
abbrev Cf:=@BitVec.toNat_ofInt
abbrev Ai:=@List.mem_filter
abbrev FL:=@List.mem_cons_of_mem
abbrev KF:=@Array.getD_eq_getD_getElem?
abbrev Cg:=@Bool.not_eq_true'
abbrev CV:=@Array.toList_inj
abbrev KG:=@List.getElem?_append_right
abbrev FM:=@Array.length_toList
abbrev GB:=@List.contains_eq_mem
abbrev I8:=@List.getElem?_cons_succ
abbrev Ec:=@List.getElem?_set
abbrev FN:=@List.getElem?_drop
abbrev FO:=@List.mem_cons_self
abbrev yN:=@Nat.add_zero
abbrev Ed:=@Nat.mod_eq_of_lt
abbrev KH:=@List.getElem?_cons_zero
abbrev xC:=@Nat.zero_le
abbrev KI:=@List.length_replicate
abbrev KJ:=@Nat.Coprime.mul_right
abbrev FQ:=@List.nil_append
abbrev HN:=@List.nodup_append
abbrev QW:=@Array.getElem?_eq_getElem
abbrev Aj:=@Nat.mod_lt
abbrev Mr:=@Nat.mul_le_mul_right
abbrev Ms:=@Nat.pow_le_pow_right
abbrev Og:=@List.drop_of_length_le
abbrev CW:=@Nat.add_mul
abbrev WY:=@List.findIdx?_eq_some_iff_getElem
abbrev HO:=@List.foldl_cons
abbrev HR:=@Bool.or_eq_true
abbrev Ee:=@List.map_map
abbrev Mt:=@List.map_congr_left
abbrev Sw:=@List.drop_length_add_append
abbrev KK:=@Int.toNat_natCast
abbrev GC:=@Bool.and_self
abbrev Sx:=@List.nodup_iff_pairwise_ne
abbrev Mu:=@List.find?_eq_none
abbrev FR:=@Nat.beq_refl
abbrev KL:=@Option.getD_some
abbrev QX:=@List.length_singleton
abbrev KM:=@List.nodup_cons
abbrev KN:=@Nat.min_eq_left
abbrev Oh:=@Nat.eq_zero_or_pos
abbrev GD:=@List.pairwise_cons
abbrev IR:=@List.mem_of_getElem?
abbrev IS:=@List.mem_of_mem_drop
abbrev Ch:=@Bool.and_false
abbrev Ey:=@List.take_left'
abbrev NU:=@List.mem_of_find?_eq_some
abbrev KO:=@List.take_append_drop
abbrev KP:=@Nat.eq_of_beq_eq_true
abbrev QY:=@List.take_append_of_le_length
abbrev GE:=@Nat.lt_of_not_le
abbrev Ci:=@Bool.false_or
abbrev Ak:=@Nat.mul_mod
abbrev Ez:=@List.foldl_nil
abbrev IT:=@List.size_toArray
abbrev CL:=@Nat.mul_one
abbrev Cj:=@Nat.pow_succ
abbrev Ck:=@Nat.le_of_lt
abbrev IU:=@List.mem_flatten
abbrev IV:=@List.getElem_inj
abbrev IW:=@List.getElem_map
abbrev GF:=@List.drop_drop
abbrev QZ:=@List.drop_eq_getElem_cons
abbrev Qa:=@Classical.byContradiction
abbrev Qb:=@List.mem_take_iff_getElem
abbrev E3:=@Nat.succ_mul
abbrev NV:=@List.getElem?_of_mem
abbrev Uo:=@Array.eq_empty_of_size_eq_zero
abbrev E4:=@Nat.sub_zero
abbrev Qc:=@List.eq_of_mem_replicate
abbrev Uq:=@List.eq_nil_iff_forall_not_mem
abbrev E5:=@Bool.true_or
abbrev NW:=@List.take_succ_cons
abbrev NX:=@List.flatten_append
abbrev KQ:=@Option.bind_some
abbrev KR:=@BitVec.toNat_and
abbrev Cl:=@Nat.beq_eq
abbrev GG:=@Nat.mul_comm
abbrev GI:=@List.map_set
abbrev KS:=@List.range_zero
abbrev Ur:=@Array.getElem?_append_left
abbrev Us:=@Int.tmod_eq_emod_of_nonneg
abbrev Ut:=@Int.fdiv_eq_ediv_of_nonneg
abbrev NY:=@List.length_range
abbrev NZ:=@List.pairwise_map
abbrev Qd:=@List.getElem?_modify
abbrev Uu:=@List.findIdx?_eq_none_iff
abbrev Uv:=@List.pairwise_iff_getElem
abbrev GJ:=@Nat.one_mul
abbrev YY:=@List.set_eq_take_append_cons_drop
abbrev Na:=@List.mem_flatMap
abbrev Nb:=@List.any_eq_true
abbrev Uw:=@List.Pairwise.imp_of_mem
abbrev IX:=@Nat.lt_trans
abbrev Qe:=@Array.toList_append
abbrev Qf:=@List.replicate_succ
abbrev Qg:=@List.length_zipWith
abbrev KU:=@Bool.or_false
abbrev Nc:=@List.range_succ
abbrev Qh:=@Nat.lt_of_le_of_lt
abbrev YZ:=@Nat.and_two_pow_sub_one_eq_mod
abbrev Ux:=@List.append_eq_nil_iff
abbrev IY:=@Nat.pow_mul
abbrev IZ:=@Int.le_refl
abbrev Ya:=@List.drop_append_of_le_length
abbrev Qi:=@Nat.or_lt_two_pow
abbrev Uy:=@Array.getElem?_modify
abbrev KV:=@Bool.or_true
abbrev Uz:=@List.Perm.append_left
abbrev Nd:=@List.nodup_nil
abbrev Yb:=@List.take_length_add_append
abbrev U0:=@Array.toArray_toList
abbrev Qj:=@Nat.zero_testBit
abbrev U1:=@List.getLast?_concat
abbrev Qk:=@Nat.lt_succ_self
abbrev Nf:=@Nat.add_assoc
abbrev Ng:=@Nat.mul_assoc
abbrev KW:=@Nat.pow_mod
abbrev KX:=@Nat.mod_mod
abbrev U2:=@List.drop_succ_cons
abbrev U3:=@List.mergeSort_perm
abbrev U4:=@Nat.mul_le_mul_left
abbrev U5:=@Int.toNat_of_nonneg
abbrev Ql:=@List.find?_some
abbrev Qm:=@Nat.div_le_self
abbrev Qn:=@Nat.div_add_mod
abbrev Yc:=@Option.isSome_iff_exists
abbrev U6:=@Array.empty_append
abbrev Nh:=@Nat.sub_self
abbrev U7:=@List.map_replicate
abbrev U9:=@List.mem_filterMap
abbrev VA:=@List.filter_append
abbrev Yd:=@List.take_append_getElem
abbrev Qo:=@Bool.and_assoc
abbrev Qp:=@List.take_take
abbrev Qq:=@List.drop_zero
abbrev Ye:=@List.getElem?_replicate
abbrev VB:=@List.foldl_append
abbrev Ni:=@Nat.le_succ
abbrev Yf:=@Option.map_eq_some_iff
abbrev Qr:=@List.map_take
abbrev VC:=@List.ext_getElem
abbrev VD:=@Int.fdiv_eq_ediv
abbrev VE:=@List.perm_middle
abbrev Yg:=@List.getElem?_zipWith
abbrev Yi:=@List.singleton_append
abbrev Yj:=@List.set_append_right
abbrev Yk:=@List.getElem_set_self
abbrev Yl:=@Bool.and_eq_false_iff
abbrev Ym:=@List.range_eq_range'
abbrev VF:=@Option.map_none
abbrev Yn:=@Nat.eq_of_testBit_eq
abbrev VG:=@BitVec.toNat_or
abbrev Qs:=@Nat.mul_zero
abbrev aDi:=@List.getElem!_eq_getElem?_getD
abbrev VH:=@List.all_append
abbrev Yo:=@List.getElem?_mapIdx
abbrev Qt:=@Nat.ne_of_gt
abbrev aDj:=@List.find?_eq_some_iff_getElem
abbrev Yp:=@Nat.pow_lt_pow_right
abbrev Yq:=@List.getElem_zipWith
abbrev Yr:=@Bool.or_eq_false_iff
abbrev Ys:=@List.getD_cons_zero
abbrev Yt:=@List.replicate_zero
abbrev Yu:=@List.getD_cons_succ
abbrev Yv:=@List.getElem?_range
abbrev Yw:=@List.filter_eq_self
abbrev VI:=@List.take_left
abbrev aDk:=@Array.getElem?_setIfInBounds
abbrev VJ:=@Nat.testBit_or
abbrev Qu:=@Nat.le_zero
abbrev Qv:=@Nat.pow_add
abbrev Qw:=@Nat.add_mod
abbrev Yx:=@List.set_cons_zero
abbrev Yy:=@List.set_cons_succ
abbrev Yz:=@List.contains_cons
abbrev Y0:=@Int.natCast_nonneg
abbrev aDl:=@List.attach_map_subtype_val
abbrev aDm:=@List.idxOf_lt_length_of_mem
abbrev aDn:=@Array.getElem?_eq_some_iff
abbrev aDo:=@List.length_eraseIdx_of_lt
abbrev aDp:=@List.perm_ext_iff_of_nodup
abbrev aDq:=@Nat.mod_two_eq_zero_or_one
abbrev VK:=@List.map_drop
abbrev aDr:=@List.takeWhile_cons_of_pos
abbrev Y1:=@Nat.mul_left_comm
abbrev Y2:=@Nat.lt_trichotomy
abbrev aDs:=@Array.mapM_eq_mapM_toList
abbrev aDt:=@List.mem_or_eq_of_mem_set
abbrev aDu:=@Nat.shiftRight_eq_div_pow
abbrev VM:=@List.all_nil
abbrev Y3:=@List.isEmpty_iff
abbrev Y4:=@List.nodup_range
abbrev aDv:=@Array.size_setIfInBounds
abbrev VN:=@Nat.min_self
abbrev Y5:=@Nat.le_add_right
abbrev VO:=@Int.le_trans
abbrev Y6:=@Nat.le_of_not_lt
abbrev aDw:=@List.eraseIdx_cons_succ
abbrev Y7:=@List.drop_left'
abbrev Y8:=@Nat.and_le_left
abbrev Y9:=@Int.natCast_add
abbrev ZA:=@Int.natCast_pow
abbrev ZB:=@Nat.mul_le_mul
abbrev ZC:=@List.Perm.refl
end
section
inductive AV where
 | v (x:Value)
 | ls (k:Nat) (es:List (List AV))
 | ag (cs:List AV)
 | own (i:Nat)
 | ptr (i off:Nat)
 | elt (i k j off:Nat)
 | vw (i k lo n:Nat)
 | mp (i:Nat)
 | yl (i:Nat)
 | bm (f k:Nat) (cs:List AV)
 | rp (cs:List AV)
 | cl (f:Nat) (caps:List AV)
 | tup (vs:List AV)
 | any
 deriving Inhabited
def bB:AV→Bool
 | .v (.agg _)=>false
 | .v (.tuple _)=>false
 | .v _=>true
 | .ls _ _=>true
 | _=>false
def jU:AV→Bool
 | .v (.agg _)=>false
 | .v (.tuple _)=>false
 | .v _=>true
 | .ls _ _=>true
 | .own _=>true
 | .ptr _ _=>true
 | .elt _ _ _ _=>true
 | .vw _ _ _ _=>true
 | .mp _=>true
 | .yl _=>true
 | .bm _ _ _=>true
 | .cl _ _=>true
 | .rp _=>true
 | _=>false
abbrev GH:=Nat→Option (Array Value)
def nZ (h:GH) (b o:Nat):Option Value:=(h b).bind (·[o]?)
mutual
def mB (h:GH):AV→Value→Prop
 | .v x,u=>u=x
 | .ls k es,u=>∃ A c,u=.slice A es.length c∧es.length≤c∧c≤maxLen∧(es=[]∨∃ b o,A=some ⟨b,o,none⟩∧iY h b k es o)
 | .ag cs,u=>∃ us:Array Value,u=.agg us∧cB h cs us.toList
 | .any,_=>True
 | _,_=>False
def iY (h:GH) (b k:Nat):List (List AV)→Nat→Prop
 | [],_=>True
 | e::es,o=>e.length=k∧lA h b e o∧iY h b k es (o+k)
def lA (h:GH) (b:Nat):List AV→Nat→Prop
 | [],_=>True
 | c::cs,o=>(∃ u,bB c=true∧nZ h b o=some u∧mB h c u)∧lA h b cs (o+1)
def cB (h:GH):List AV→List Value→Prop
 | [],us=>us=[]
 | c::cs,us=>∃ u us',us=u::us'∧mB h c u∧cB h cs us'
end
mutual
def Rp (h:GH) (φ:Nat→Value) (n:Nat):AV→Value→Prop
 | .v x,u=>u=x
 | .ls k es,u=>mB h (.ls k es) u
 | .ag cs,u=>∃ us:Array Value,u=.agg us∧bW h φ n cs us.toList
 | .own i,u=>i<n∧u=φ i∧∃ A l c,u=.slice A l c
 | .ptr i off,u=>i<n∧∃ g,φ i=.pointer (some ⟨g,0,none⟩)∧u=.pointer (some ⟨g,off,none⟩)
 | .elt i k j off,u=>i<n∧∃ g l c,φ i=.slice (some ⟨g,0,none⟩) l c∧u=.pointer (some ⟨g,j*k+off,none⟩)
 | .mp i,u=>i<n∧u=φ i∧∃ g,u=.map (some g)
 | .yl i,u=>i<n∧u=φ i∧∃ l,u=.func (.yield l) #[] #[]
 | .bm f k caps,u=>∃ us:Array Value,u=.func (.func f) (us.toList.take k).toArray (us.toList.drop k).toArray∧bW h φ n caps us.toList
 | .vw i k lo m,u=>i<n∧∃ A c,u=.slice A m c∧m≤c∧c≤maxLen∧(m=0∨∃ g l c',φ i=.slice (some ⟨g,0,none⟩) l c'∧A=some ⟨g,lo*k,none⟩∧lo+m≤l)
 | .rp cs,u=>∃ b o,u=.pointer (some ⟨b,o,none⟩)∧lA h b cs o
 | .cl f caps,u=>∃ us:Array Value,u=.func (.func f) #[] us∧bW h φ n caps us.toList
 | .tup vs,u=>∃ us:Array Value,u=.tuple us∧bW h φ n vs us.toList
 | .any,_=>True
def bW (h:GH) (φ:Nat→Value) (n:Nat):List AV→List Value→Prop
 | [],us=>us=[]
 | c::cs,us=>∃ u us',us=u::us'∧Rp h φ n c u∧bW h φ n cs us'
end
def Ad (h h':GH):Prop:=∀ b cs,h b=some cs→h' b=some cs
def Ad.refl (h:GH):Ad h h:=λ_ _ e=>e
def Ad.trans {a b c:GH} (h:Ad a b) (k:Ad b c):Ad a c:=λx cs e=>k x cs (h x cs e)
def Ad.cell {h h':GH} (g:Ad h h') {b o:Nat} {u:Value} (e:nZ h b o=some u):nZ h' b o=some u:=by
 unfold nZ at *
 cases hb:h b with
 | none=>simp [hb] at e
 | some cs=>rw [hb] at e;rw [g b cs hb];exact e
mutual
def mB.mono {h h':GH} (g:Ad h h'):∀ {x:AV} {u:Value},mB h x u→mB h' x u
 | .v _,_,e=>by simpa [mB] using e
 | .ls k es,u,e=>by
  simp only [mB] at e ⊢;obtain ⟨A,c,h1,h2,h3,h4⟩:=e;exact ⟨A,c,h1,h2,h3,h4.imp id λ⟨b,o,hA,hE⟩=>⟨b,o,hA,iY.mono g hE⟩⟩
 | .ag cs,u,e=>by
  simp only [mB] at e ⊢;obtain ⟨us,h1,h2⟩:=e;exact ⟨us,h1,cB.mono g h2⟩
 | .any,_,_=>by simp [mB]
 | .own _,_,e=>by simp [mB] at e
 | .ptr _ _,_,e=>by simp [mB] at e
 | .elt _ _ _ _,_,e=>by simp [mB] at e
 | .vw _ _ _ _,_,e=>by simp [mB] at e
 | .mp _,_,e=>by simp [mB] at e
 | .yl _,_,e=>by simp [mB] at e
 | .bm _ _ _,_,e=>by simp [mB] at e
 | .rp _,_,e=>by simp [mB] at e
 | .cl _ _,_,e=>by simp [mB] at e
 | .tup _,_,e=>by simp [mB] at e
def iY.mono {h h':GH} (g:Ad h h') {b k:Nat}:∀ {es:List (List AV)} {o:Nat},iY h b k es o→iY h' b k es o
 | [],_,_=>by simp [iY]
 | e::es,o,hh=>by
  simp only [iY] at hh ⊢;exact ⟨hh.1,lA.mono g hh.2.1,iY.mono g hh.2.2⟩
def lA.mono {h h':GH} (g:Ad h h') {b:Nat}:∀ {cs:List AV} {o:Nat},lA h b cs o→lA h' b cs o
 | [],_,_=>by simp [lA]
 | c::cs,o,hh=>by
  simp only [lA] at hh ⊢;obtain ⟨⟨u,h0,h1,h2⟩,h3⟩:=hh;exact ⟨⟨u,h0,g.cell h1,mB.mono g h2⟩,lA.mono g h3⟩
def cB.mono {h h':GH} (g:Ad h h'):∀ {cs:List AV} {us:List Value},cB h cs us→cB h' cs us
 | [],_,e=>by simpa [cB] using e
 | c::cs,us,hh=>by
  simp only [cB] at hh ⊢;obtain ⟨u,us',h1,h2,h3⟩:=hh;exact ⟨u,us',h1,mB.mono g h2,cB.mono g h3⟩
end
mutual
def Rp.mono {h h':GH} {φ φ':Nat→Value} {n n':Nat} (g:Ad h h') (hn:n≤n') (hp:∀ i,i<n→φ' i=φ i):∀ {x:AV} {u:Value},Rp h φ n x u→Rp h' φ' n' x u
 | .v _,_,e=>by simpa [Rp] using e
 | .ls k es,u,e=>by simp only [Rp] at e ⊢;exact mB.mono g e
 | .ag cs,u,e=>by
  simp only [Rp] at e ⊢;obtain ⟨us,h1,h2⟩:=e;exact ⟨us,h1,bW.mono g hn hp h2⟩
 | .any,_,_=>by simp [Rp]
 | .own i,_,e=>by simp only [Rp] at e ⊢;exact ⟨by omega,by rw [hp i e.1];exact e.2.1,e.2.2⟩
 | .ptr i _,_,e=>by simp only [Rp] at e ⊢;exact ⟨by omega,by rw [hp i e.1];exact e.2⟩
 | .elt i _ _ _,_,e=>by simp only [Rp] at e ⊢;exact ⟨by omega,by rw [hp i e.1];exact e.2⟩
 | .vw i _ _ _,_,e=>by simp only [Rp] at e ⊢;exact ⟨by omega,by rw [hp i e.1];exact e.2⟩
 | .mp i,_,e=>by simp only [Rp] at e ⊢;exact ⟨by omega,by rw [hp i e.1];exact e.2.1,e.2.2⟩
 | .yl i,_,e=>by simp only [Rp] at e ⊢;exact ⟨by omega,by rw [hp i e.1];exact e.2.1,e.2.2⟩
 | .bm f k caps,u,e=>by
  simp only [Rp] at e ⊢;obtain ⟨us,h1,h2⟩:=e;exact ⟨us,h1,bW.mono g hn hp h2⟩
 | .rp cs,u,e=>by
  simp only [Rp] at e ⊢;obtain ⟨b,o,h1,h2⟩:=e;exact ⟨b,o,h1,lA.mono g h2⟩
 | .cl f caps,u,e=>by
  simp only [Rp] at e ⊢;obtain ⟨us,h1,h2⟩:=e;exact ⟨us,h1,bW.mono g hn hp h2⟩
 | .tup vs,u,e=>by
  simp only [Rp] at e ⊢;obtain ⟨us,h1,h2⟩:=e;exact ⟨us,h1,bW.mono g hn hp h2⟩
def bW.mono {h h':GH} {φ φ':Nat→Value} {n n':Nat} (g:Ad h h') (hn:n≤n') (hp:∀ i,i<n→φ' i=φ i):∀ {cs:List AV} {us:List Value},bW h φ n cs us→bW h' φ' n' cs us
 | [],_,e=>by simpa [bW] using e
 | c::cs,us,hh=>by
  simp only [bW] at hh ⊢;obtain ⟨u,us',h1,h2,h3⟩:=hh;exact ⟨u,us',h1,Rp.mono g hn hp h2,bW.mono g hn hp h3⟩
end
mutual
def mB.to {h:GH} {φ:Nat→Value} {n:Nat}:∀ {x:AV} {u:Value},mB h x u→Rp h φ n x u
 | .v _,_,e=>by simpa [Rp,mB] using e
 | .ls k es,u,e=>by simp only [Rp];exact e
 | .ag cs,u,e=>by
  simp only [mB] at e;simp only [Rp];obtain ⟨us,h1,h2⟩:=e;exact ⟨us,h1,cB.to h2⟩
 | .any,_,_=>by simp [Rp]
 | .own _,_,e=>by simp [mB] at e
 | .ptr _ _,_,e=>by simp [mB] at e
 | .elt _ _ _ _,_,e=>by simp [mB] at e
 | .vw _ _ _ _,_,e=>by simp [mB] at e
 | .mp _,_,e=>by simp [mB] at e
 | .yl _,_,e=>by simp [mB] at e
 | .bm _ _ _,_,e=>by simp [mB] at e
 | .rp _,_,e=>by simp [mB] at e
 | .cl _ _,_,e=>by simp [mB] at e
 | .tup _,_,e=>by simp [mB] at e
def cB.to {h:GH} {φ:Nat→Value} {n:Nat}:∀ {cs:List AV} {us:List Value},cB h cs us→bW h φ n cs us
 | [],_,e=>by simpa [cB,bW] using e
 | c::cs,us,hh=>by
  simp only [cB] at hh;simp only [bW];obtain ⟨u,us',h1,h2,h3⟩:=hh;exact ⟨u,us',h1,mB.to h2,cB.to h3⟩
end
def bW.length {h:GH} {φ:Nat→Value} {n:Nat}:∀ {cs:List AV} {us:List Value},bW h φ n cs us→cs.length=us.length
 | [],us,e=>by simp only [bW] at e;subst e;rfl
 | c::cs,us,e=>by
  simp only [bW] at e;obtain ⟨u,us',rfl,_,h⟩:=e;simp [h.length]
def cB.length {h:GH}:∀ {cs:List AV} {us:List Value},cB h cs us→cs.length=us.length
 | [],us,e=>by simp only [cB] at e;subst e;rfl
 | c::cs,us,e=>by
  simp only [cB] at e;obtain ⟨u,us',rfl,_,h⟩:=e;simp [h.length]
def bW.get {h:GH} {φ:Nat→Value} {n:Nat}:∀ {cs:List AV} {us:List Value},bW h φ n cs us→∀ {i:Nat} {c:AV},cs[i]?=some c→∃ u,us[i]?=some u∧Rp h φ n c u
 | [],us,e,i,c,hi=>by simp at hi
 | d::cs,us,e,i,c,hi=>by
  simp only [bW] at e;obtain ⟨u,us',rfl,h1,h2⟩:=e
  cases i with
  | zero=>simp only [KH,Option.some.injEq] at hi;subst hi;exact ⟨u,by simp,h1⟩
  | succ i=>simp only [I8] at hi ⊢;exact h2.get hi
def bW.mk {h:GH} {φ:Nat→Value} {n:Nat}:∀ {cs:List AV} {us:List Value},cs.length=us.length→(∀ (i:Nat) (c:AV) (u:Value),cs[i]?=some c→us[i]?=some u→Rp h φ n c u)→bW h φ n cs us
 | [],us,e,_=>by simp only [bW];exact CR (by simpa using e.symm)
 | d::cs,[],e,_=>by simp at e
 | d::cs,u::us,e,hh=>by
  simp only [bW];exact ⟨u,us,rfl,hh 0 d u (by simp) (by simp),bW.mk (by simpa using e) λi c x hc hx=>hh (i+1) c x (by simpa using hc) (by simpa using hx)⟩
def bW.app {h:GH} {φ:Nat→Value} {n:Nat} {cs ds:List AV} {us vs:List Value} (a:bW h φ n cs us) (b:bW h φ n ds vs):bW h φ n (cs++ds) (us++vs):=by
 induction cs generalizing us with
 | nil=>simp only [bW] at a;subst a;simpa using b
 | cons c cs ih =>
  simp only [bW] at a;obtain ⟨u,us',rfl,h1,h2⟩:=a;simp only [Ag,bW];exact ⟨u,us'++vs,rfl,h1,ih h2⟩
def bW.take {h:GH} {φ:Nat→Value} {n:Nat} {cs:List AV} {us:List Value} (a:bW h φ n cs us) (m:Nat):bW h φ n (cs.take m) (us.take m) :=
 bW.mk (by simp [a.length]) λi c u hc hu=>by
  rw [AI] at hc hu;split at hc
  ·rw [if_pos (by assumption)] at hu;obtain ⟨u',h1,h2⟩:=a.get hc;rw [h1] at hu;injection hu with hu;subst hu;exact h2
  ·simp at hc
def bW.drop {h:GH} {φ:Nat→Value} {n:Nat} {cs:List AV} {us:List Value} (a:bW h φ n cs us) (m:Nat):bW h φ n (cs.drop m) (us.drop m) :=
 bW.mk (by simp [a.length]) λi c u hc hu=>by
  rw [FN] at hc hu;obtain ⟨u',h1,h2⟩:=a.get hc;rw [h1] at hu;injection hu with hu;subst hu;exact h2
def bW.set {h:GH} {φ:Nat→Value} {n:Nat} {cs:List AV} {us:List Value} (a:bW h φ n cs us) {m:Nat} {c:AV} {u:Value} (hc:Rp h φ n c u):bW h φ n (cs.set m c) (us.set m u) :=
 bW.mk (by simp [a.length]) λi d x hd hx=>by
  have hl:=a.length;rw [Ec] at hd hx;by_cases hn:m=i
  ·simp only [hn,if_true] at hd hx;split at hd
   ·rw [if_pos (by omega)] at hx;injection hd with hd;injection hx with hx;subst hd;subst hx;exact hc
   ·simp at hd
  ·simp only [hn,if_false] at hd hx;obtain ⟨u',h1,h2⟩:=a.get hd;rw [h1] at hx;injection hx with hx;subst hx;exact h2
def cB.get {h:GH}:∀ {cs:List AV} {us:List Value},cB h cs us→∀ {i:Nat} {c:AV},cs[i]?=some c→∃ u,us[i]?=some u∧mB h c u
 | [],us,e,i,c,hi=>by simp at hi
 | d::cs,us,e,i,c,hi=>by
  simp only [cB] at e;obtain ⟨u,us',rfl,h1,h2⟩:=e
  cases i with
  | zero=>simp only [KH,Option.some.injEq] at hi;subst hi;exact ⟨u,by simp,h1⟩
  | succ i=>simp only [I8] at hi ⊢;exact h2.get hi
def cB.mk {h:GH}:∀ {cs:List AV} {us:List Value},cs.length=us.length→(∀ (i:Nat) (c:AV) (u:Value),cs[i]?=some c→us[i]?=some u→mB h c u)→cB h cs us
 | [],us,e,_=>by simp only [cB];exact CR (by simpa using e.symm)
 | d::cs,[],e,_=>by simp at e
 | d::cs,u::us,e,hh=>by
  simp only [cB];exact ⟨u,us,rfl,hh 0 d u (by simp) (by simp),cB.mk (by simpa using e) λi c x hc hx=>hh (i+1) c x (by simpa using hc) (by simpa using hx)⟩
def lA.get {h:GH} {b:Nat}:∀ {cs:List AV} {o:Nat},lA h b cs o→∀ {i:Nat} {c:AV},cs[i]?=some c→∃ u,bB c=true∧nZ h b (o+i)=some u∧mB h c u
 | [],_,_,i,c,hi=>by simp at hi
 | d::cs,o,e,i,c,hi=>by
  simp only [lA] at e;obtain ⟨⟨u,hc,h0,h1⟩,h2⟩:=e
  cases i with
  | zero=>simp only [KH,Option.some.injEq] at hi;subst hi;exact ⟨u,hc,h0,h1⟩
  | succ i=>simp only [I8] at hi;obtain ⟨u',c0,a,b⟩:=h2.get hi;exact ⟨u',c0,by rw [←a];congr 1;omega,b⟩
def lA.mk {h:GH} {b:Nat}:∀ {cs:List AV} {o:Nat},(∀ (i:Nat) (c:AV),cs[i]?=some c→∃ u,bB c=true∧nZ h b (o+i)=some u∧mB h c u)→lA h b cs o
 | [],_,_=>by simp [lA]
 | d::cs,o,hh=>by
  simp only [lA];exact ⟨hh 0 d (by simp),lA.mk λi c hc=>by obtain ⟨u,h0,h1,h2⟩:=hh (i+1) c (by simpa using hc);exact ⟨u,h0,by rw [←h1];congr 1;omega,h2⟩⟩
def lA.drop {h:GH} {b:Nat} {cs:List AV} {o:Nat} (a:lA h b cs o) (n:Nat):lA h b (cs.drop n) (o+n) :=
 lA.mk λi c hc=>by
  rw [FN] at hc;obtain ⟨u,h0,h1,h2⟩:=a.get hc;exact ⟨u,h0,by rw [←h1];congr 1;omega,h2⟩
def iY.get {h:GH} {b k:Nat}:∀ {es:List (List AV)} {o:Nat},iY h b k es o→∀ {j:Nat} {e:List AV},es[j]?=some e→e.length=k∧lA h b e (o+j*k)
 | [],_,_,j,e,hj=>by simp at hj
 | d::es,o,hh,j,e,hj=>by
  simp only [iY] at hh
  cases j with
  | zero=>simp only [KH,Option.some.injEq] at hj;subst hj;exact ⟨hh.1,by simpa using hh.2.1⟩
  | succ j=>simp only [I8] at hj;obtain ⟨h1,h2⟩:=hh.2.2.get hj;exact ⟨h1,by rw [show o+(j+1)*k=o+k+j*k from by rw [E3];omega];exact h2⟩
def iY.mk {h:GH} {b k:Nat}:∀ {es:List (List AV)} {o:Nat},(∀ (j:Nat) (e:List AV),es[j]?=some e→e.length=k∧lA h b e (o+j*k))→iY h b k es o
 | [],_,_=>by simp [iY]
 | d::es,o,hh=>by
  simp only [iY];obtain ⟨h1,h2⟩:=hh 0 d (by simp);exact ⟨h1,by simpa using h2,iY.mk λj e hj=>by obtain ⟨h3,h4⟩:=hh (j+1) e (by simpa using hj);exact ⟨h3,by rw [show o+(j+1)*k=o+k+j*k from by rw [E3];omega] at h4;exact h4⟩⟩
end
section
inductive AObj where
 | box (cs:List AV)
 | arr (k:Nat) (es:List (List AV))
 | arf (k:Nat) (es:List (List AV))
 | map (ag:Bool) (ks:List (List Value)) (vs:List AV) (bs:List Nat) (cl:Nat)
 | lp (r:Loop) (s:List (Nat×AV))
 | mit (m:Option Nat) (since:Nat) (seen:List Nat) (st:Nat)
 deriving Inhabited
abbrev aQ:=List (Option AObj)
def mC:Value→Option Nat
 | .pointer (some a)=>some a.block
 | .slice (some a) _ (_+1)=>some a.block
 | .map (some g)=>some g
 | .func (.yield l) _ _=>some l
 | _=>none
def iH (ag:Bool) (xs:List Value):Value:=if ag then .agg xs.toArray else xs.getD 0 undef
def vW (h:GH) (φ:Nat→Value) (n:Nat) (w:World) (i:Nat):AObj→Prop
 | .box cs=>∃ (g:Nat) (us:Array Value) (E:TypeId),φ i=.pointer (some ⟨g,0,none⟩)∧w.heap[g]?=some (.cells us E (0,0))∧h g=none∧bW h φ n cs us.toList
 | .arr k es=>(∀ e∈es,e.length=k∧∀ c∈e,bB c=true)∧((∃ A,φ i=.slice A 0 0∧es=[]) ∨
   ∃ (g c:Nat) (cur:Array Value) (E:TypeId),φ i=.slice (some ⟨g,0,none⟩) es.length (c+1)∧w.heap[g]?=some (.cells cur E (0,0))∧es.length≤c+1∧c+1≤maxLen∧cur.size=(c+1)*k∧h g=none ∧
    cB h es.flatten (cur.toList.take (es.length*k)))
 | .arf k es=>(∀ e∈es,e.length=k∧∀ c∈e,jU c=true)∧((∃ A,φ i=.slice A 0 0∧es=[]) ∨
   ∃ (g c:Nat) (cur:Array Value) (E:TypeId),φ i=.slice (some ⟨g,0,none⟩) es.length (c+1)∧w.heap[g]?=some (.cells cur E (0,0))∧es.length≤c+1∧c+1≤maxLen∧cur.size=(c+1)*k∧h g=none ∧
    bW h φ n es.flatten (cur.toList.take (es.length*k)))
 | .lp r s=>∃ l:Nat,φ i=.func (.yield l) #[] #[]∧w.heap[l]?=some (.loop r)∧h l=none∧(∀ i x y,(i,x)∈s→(i,y)∈s→x=y)∧∀ p∈s,Rp h φ n p.2 (r.tmps.getD p.1 undef)
 | .mit m since seen st=>∃ (g:Nat) (mo:Option Nat),φ i=.pointer (some ⟨g,0,none⟩)∧w.heap[g]?=some (.mapIter mo since seen.toArray st)∧h g=none ∧
   (match m with | none=>mo=none | some j=>∃ b,mo=some b∧j<n∧φ j=.map (some b))
 | .map ag ks vs bs cl=>∃ (g:Nat) (ens:Array MapEntry),φ i=.map (some g)∧w.heap[g]?=some (.map ens cl)∧h g=none ∧
   ens.toList.map (·.key)=ks.map (iH ag)∧ens.toList.map (·.born)=bs∧bW h φ n vs (ens.toList.map (·.val))
structure Inv (h:GH) (φ:Nat→Value) (w:World) (T:aQ):Prop where
 gh:∀ b cs,h b=some cs→∃ E fr,w.heap[b]?=some (.cells cs E fr)
 obj:∀ i o,T[i]?=some (some o)→vW h φ T.length w i o
 dis:∀ i j oi oj b,T[i]?=some (some oi)→T[j]?=some (some oj)→mC (φ i)=some b→mC (φ j)=some b→i=j
structure Evo (h:GH) (φ:Nat→Value) (T:aQ) (w:World) (h':GH) (φ':Nat→Value) (T':aQ) (w':World):Prop where
 os:w'.os=w.os
 tape:w'.tape=w.tape
 output:w'.output=w.output
 size:w.heap.size≤w'.heap.size
 frame:∀ b,b<w.heap.size→(∀ i o,T[i]?=some (some o)→mC (φ i)≠some b)→w'.heap[b]?=w.heap[b]?
 le:Ad h h'
 gfr:∀ b cs,h' b=some cs→h b=some cs∨w.heap.size≤b∨∃ i o,T[i]?=some (some o)∧mC (φ i)=some b
 phi:∀ i,i<T.length→φ' i=φ i
 org:∀ i o b,T'[i]?=some (some o)→mC (φ' i)=some b→w.heap.size≤b∨∃ j oj,T[j]?=some (some oj)∧mC (φ j)=some b
 len:T.length≤T'.length
 drawn:w.drawn≤w'.drawn
def Evo.refl {h:GH} {φ:Nat→Value} {T:aQ} {w:World}:Evo h φ T w h φ T w :=
 ⟨rfl,rfl,rfl,fW _,λ_ _ _=>rfl,Ad.refl h,λ_ _ e=>.inl e,λ_ _=>rfl,λi o b hi hb=>.inr ⟨i,o,hi,hb⟩,fW _,fW _⟩
def Evo.trans {h0 h1 h2:GH} {φ0 φ1 φ2:Nat→Value} {T0 T1 T2:aQ} {w0 w1 w2:World} (a:Evo h0 φ0 T0 w0 h1 φ1 T1 w1) (b:Evo h1 φ1 T1 w1 h2 φ2 T2 w2) :
  Evo h0 φ0 T0 w0 h2 φ2 T2 w2 where
 os:=b.os.trans a.os
 tape:=b.tape.trans a.tape
 output:=b.output.trans a.output
 size:=nX a.size b.size
 frame:=λg hg hn=>by
  rw [b.frame g (CU hg a.size) (λi o hi hb=>?_),a.frame g hg hn];rcases a.org i o g hi hb with h | ⟨j,oj,hj,hbj⟩
  ·omega
  ·exact hn j oj hj hbj
 le:=a.le.trans b.le
 gfr:=λg cs hg=>by
  rcases b.gfr g cs hg with h | h | ⟨i,o,hi,hb⟩
  ·exact a.gfr g cs h
  ·exact .inr (.inl (nX a.size h))
  ·exact .inr (a.org i o g hi hb)
 phi:=λi hi=>(b.phi i (CU hi a.len)).trans (a.phi i hi)
 org:=λi o g hi hb=>by
  rcases b.org i o g hi hb with h | ⟨j,oj,hj,hbj⟩
  ·exact .inl (nX a.size h)
  ·exact a.org j oj g hj hbj
 len:=nX a.len b.len
 drawn:=nX a.drawn b.drawn
def rD (G:Nat→Option (List AV)) (h:GH):Prop:=∀ g cs,G g=some cs→lA h g cs 0
def rD.mono {G:Nat→Option (List AV)} {h h':GH} (a:rD G h) (g:Ad h h'):rD G h':=λi cs e=>(a i cs e).mono g
def Ce (h:GH) (φ:Nat→Value) (T:aQ) (w:World) (post:AV→aQ→Prop) (v:Value) (w':World):Prop :=
 ∃ r T' h' φ',post r T'∧Evo h φ T w h' φ' T' w'∧Inv h' φ' w' T'∧Rp h' φ' T'.length r v
def aC (P:Program) (G:Nat→Option (List AV)) (f:FuncId) (args:List AV) (T:aQ) (post:AV→aQ→Prop):Prop :=
 ∀ (h:GH) (φ:Nat→Value) (w:World) (vals:Array Value),rD G h→Inv h φ w T→bW h φ T.length args vals.toList →
  ((callFunc f vals).run P w=.ok (.enter f vals) w∧Calls P f vals w (λe w'=>∃ v,e=.returned v∧Ce h φ T w post v w')) ∨
  (∃ v w',(callFunc f vals).run P w=.ok (.value v) w'∧Ce h φ T w post v w')
def BW (P:Program) (G:Nat→Option (List AV)) (i:Nat) (args:List AV) (T:aQ) (post:AV→aQ→Prop):Prop :=
 ∀ (h:GH) (φ:Nat→Value) (w:World) (vals:Array Value) (l:Nat),rD G h→Inv h φ w T→bW h φ T.length args vals.toList→φ i=.func (.yield l) #[] #[] →
  ∃ (f:FuncId) (tmps:Array Value) (assign body:Code),(Instr.yield l vals).run P w=.ok (.round l f tmps assign body) w ∧
   RoundIn Fence.wide 0 P l f tmps assign body w (λe w'=>∃ v,e=.returned v∧Ce h φ T w post v w')
def Ce.mono {h:GH} {φ:Nat→Value} {T:aQ} {w:World} {p q:AV→aQ→Prop} {v:Value} {w':World} (a:Ce h φ T w p v w') (hpq:∀ r T',p r T'→q r T'):Ce h φ T w q v w' :=
 let ⟨r,T',h',φ',e1,e2⟩:=a
 ⟨r,T',h',φ',hpq _ _ e1,e2⟩
def BW.mono {P:Program} {G:Nat→Option (List AV)} {i:Nat} {args:List AV} {T:aQ} {p q:AV→aQ→Prop} (a:BW P G i args T p) (hpq:∀ r T',p r T'→q r T'):BW P G i args T q :=
 λh φ w vals l hG hI hA hl =>
  let ⟨f,tmps,as_,body,h1,h2⟩:=a h φ w vals l hG hI hA hl
  ⟨f,tmps,as_,body,h1,h2.mono λ_ _ ⟨v,e1,e2⟩=>⟨v,e1,e2.mono hpq⟩⟩
def aC.mono {P:Program} {G:Nat→Option (List AV)} {f:FuncId} {args:List AV} {T:aQ} {p q:AV→aQ→Prop} (a:aC P G f args T p) (hpq:∀ r T',p r T'→q r T') :
  aC P G f args T q:=λh φ w vals hG hI hA =>
 (a h φ w vals hG hI hA).imp (λ⟨e,c⟩=>⟨e,c.mono λ_ _ ⟨v,e1,e2⟩=>⟨v,e1,e2.mono hpq⟩⟩) (λ⟨v,w',e,c⟩=>⟨v,w',e,c.mono hpq⟩)
end
section
inductive LK where
 | int (k:IntKind)
 | bool
 | str
 deriving DecidableEq,Inhabited
inductive HOp where
 | mov (x:Operand)
 | pick (c a b:Operand)
 | bin (op:BinOp) (x y:Operand)
 | eqa (neg:Bool) (ks:List LK) (x y:Operand)
 | eqb (neg:Bool) (x y:Operand)
 | un (op:UnOp) (x:Operand)
 | conv (k:IntKind) (x:Operand)
 | box (x:Operand)
 | alloc (z:List Value)
 | bld (z:List Value) (parts:List (Nat×Nat×Operand))
 | bsl (k:Nat) (z:List Value) (parts:List (Nat×Nat×Operand)) (len:Nat)
 | ld (n:Option Nat) (p:Operand)
 | st (n:Nat) (p x:Operand)
 | fad (p:Operand) (off:Nat)
 | fld (x:Operand) (off:Nat) (n:Option Nat)
 | iad (x ix:Operand) (k:Nat)
 | iadA (x ix:Operand) (len k:Nat)
 | ixS (x ix:Operand)
 | lenS (x:Operand)
 | lenL (x:Operand)
 | app (x y:Operand) (k bytes:Nat)
 | ext (x:Operand) (i:Nat)
 | clo (f:FuncId) (caps:List Operand)
 | call (f:Operand) (args:List Operand)
 | nilc (x:Operand)
 | slc (x:Operand) (lo hi:Option Operand) (k:Nat)
 | slcS (x:Operand) (lo hi:Option Operand)
 | nilS (neg:Bool) (kind:Nat) (x:Operand)
 | mm (max:Bool) (x y:Operand)
 | mkm (ag:Bool)
 | lku (ag:Bool) (ls:List LK) (z:Value) (m k:Operand) (ok:Bool)
 | mup (ag:Bool) (ls:List LK) (m k x:Operand)
 | men (ag:Bool) (ls:List LK) (z:Value) (m k:Operand)
 | mst (m s x:Operand)
 | del (ag:Bool) (ls:List LK) (m k:Operand)
 | lenM (m:Operand)
 | mks (k:Nat) (z:List Value) (bytes:Nat) (x y:Operand)
 | s2b (x:Operand)
 | b2s (x:Operand)
 | apS (x y:Operand)
 | slx (x:Operand) (lo:Option Operand) (hi mx:Operand) (k:Nat)
 | bmo (f:FuncId) (k:Nat) (caps:List Operand)
 | rgm (m:Operand)
 | nxt (p:Operand)
 | ent (p:Operand)
 | bad
 | clr (x:Operand) (k:Nat) (z:List Value)
 | bslS (k:Nat) (z:List Value) (parts:List (Nat×Nat×Operand)) (len:Nat)
 | b2b (x:Operand)
 deriving Inhabited
structure HOper where
 dst:Option Nat
 op:HOp
 guard:Option (Nat×Bool)
 deriving Inhabited
inductive HD where
 | done (gc:Bool)
 | no
 | q (o:HOper) (next:HD)
 | alt (o:HOper) (chk:List HOper) (next other:HD)
 | perm (chk ops:List HOper) (next:HD)
 | plan (hops:List HOper) (pre:List (List Nat)) (n:Nat) (gc:Bool) (E:List Nat)
 deriving Inhabited
inductive HC where
 | skip
 | reg (ops:List HOper)
 | regd (d:HD)
 | seq (a b:HC)
 | cond (c:Operand) (a b:HC)
 | block (id:Nat) (a:HC)
 | loop (drop:List Nat) (a:HC)
 | exit (id:Nat)
 | ret
 | kill (d:List Nat)
 | own (j:Nat) (c:Option Nat) (k:Nat)
 | shut (j:Nat)
 | rng (g:Operand) (ps d:List Nat) (a b:HC)
 deriving Inhabited
structure St where
 r:Nat
 s:List (Nat×AV)
 T:aQ
 deriving Inhabited
def aU:List (Nat×AV)→Nat→AV
 | [],_=>.any
 | (i,x)::r,j=>if i=j then x else aU r j
def GL:List (Nat×AV)→Nat→List (Nat×AV)
 | [],_=>[]
 | (i,x)::r,j=>if i=j then GL r j else (i,x)::GL r j
def Cm (l:List (Nat×AV)) (j:Nat) (x:AV):List (Nat×AV):=(j,x)::GL l j
def dT (l:List (Nat×AV)) (d:Option Nat) (x:AV):List (Nat×AV):=match d with | some j=>Cm l j x | none=>l
def bX (G:Nat→Option (List AV)) (s:List (Nat×AV)):Operand→AV
 | .tmp t=>aU s t
 | .const x=>.v x
 | .global g=>match G g with | some cs=>.rp cs | none=>.any
 | .func f=>.cl f []
def pO:Option AObj→Option (Nat×List (List AV)×Bool)
 | some (.arr k es)=>some (k,es,true)
 | some (.arf k es)=>some (k,es,false)
 | _=>none
def iA:Bool→Nat→List (List AV)→AObj
 | true,k,es=>.arr k es
 | false,k,es=>.arf k es
def Mv:Bool→AV→Bool
 | true,c=>bB c
 | false,c=>jU c
def cR (T:aQ) (i:Nat):Option AObj:=match T[i]? with | some (some o)=>some o | _=>none
def dI:AV→List AV
 | .ag cs=>cs
 | .v (.agg us)=>us.toList.map .v
 | x=>[x]
def Qx:AV→Option (List AV)
 | .ag cs=>some cs
 | .v (.agg us)=>some (us.toList.map .v)
 | _=>none
def KY (cs:List AV) (off:Nat):Option Nat→Option AV
 | none=>cs[off]?
 | some n=>if off+n≤cs.length then some (.ag ((cs.drop off).take n)) else none
def aZ (op:BinOp):Value→Value→Option Value
 | .int k a,.int k' b =>
  match op with
  | .shl=>if b<0 then none else some (.int k (k.wrap (a*2^(min b.toNat k.bits))))
  | .shr=>if b<0 then none else some (.int k (a.fdiv (2^(min b.toNat k.bits))))
  | _ =>
   if k=k' then
    match op with
    | .add=>some (.int k (k.wrap (a+b)))
    | .sub=>some (.int k (k.wrap (a-b)))
    | .mul=>some (.int k (k.wrap (a*b)))
    | .quo=>if b=0 then none else some (.int k (k.wrap (a.tdiv b)))
    | .rem=>if b=0 then none else some (.int k (a.tmod b))
    | .and=>some (.int k (k.wrap (BitVec.ofInt k.bits a &&& BitVec.ofInt k.bits b).toNat))
    | .or=>some (.int k (k.wrap (BitVec.ofInt k.bits a ||| BitVec.ofInt k.bits b).toNat))
    | .xor=>some (.int k (k.wrap (BitVec.ofInt k.bits a ^^^ BitVec.ofInt k.bits b).toNat))
    | .andNot=>some (.int k (k.wrap (BitVec.ofInt k.bits a &&& ~~~ (BitVec.ofInt k.bits b)).toNat))
    | .eql=>some (.bool (a==b))
    | .neq=>some (.bool (a !=b))
    | .lss=>some (.bool (a<b))
    | .leq=>some (.bool (a≤b))
    | .gtr=>some (.bool (a>b))
    | .geq=>some (.bool (a≥b))
    | _=>none
   else none
 | .string a,.string b =>
  match op with
  | .add=>if a.size+b.size≤maxLen then some (.string (a++b)) else none
  | .eql=>some (.bool (a.toList==b.toList))
  | .neq=>some (.bool (!(a.toList==b.toList)))
  | .lss=>some (.bool (Op.bytesLess a.toList b.toList))
  | .leq=>some (.bool (Op.bytesLess a.toList b.toList||a.toList==b.toList))
  | .gtr=>some (.bool (!(Op.bytesLess a.toList b.toList||a.toList==b.toList)))
  | .geq=>some (.bool (!Op.bytesLess a.toList b.toList))
  | _=>none
 | _,_=>none
def pun (op:UnOp):Value→Option Value
 | .bool b=>match op with | .not=>some (.bool (!b)) | _=>none
 | .int k n=>match op with
  | .neg=>some (.int k (k.wrap (0-n)))
  | .xor=>some (.int k (k.wrap (BitVec.ofInt k.bits (if k.signed then -1 else k.max) ^^^ BitVec.ofInt k.bits n).toNat))
  | _=>none
 | _=>none
def eqC:List LK→List AV→List AV→Option Bool
 | [],[],[]=>some true
 | .int k::ks,.v (.int k1 a)::cs,.v (.int k2 b)::ds=>if k1=k∧k2=k then (match eqC ks cs ds with | some r=>some (a==b&&r) | none=>none) else none
 | .bool::ks,.v (.bool a)::cs,.v (.bool b)::ds=>match eqC ks cs ds with | some r=>some (a==b&&r) | none=>none
 | .str::ks,.v (.string a)::cs,.v (.string b)::ds=>match eqC ks cs ds with | some r=>some (a.toList==b.toList&&r) | none=>none
 | _,_,_=>none
def pZ:List LK→List Value→List Value→Option Bool
 | [],[],[]=>some true
 | .int k::ks,.int k1 a::cs,.int k2 b::ds=>if k1=k∧k2=k then (match pZ ks cs ds with | some r=>some (a==b&&r) | none=>none) else none
 | .bool::ks,.bool a::cs,.bool b::ds=>match pZ ks cs ds with | some r=>some (a==b&&r) | none=>none
 | .str::ks,.string a::cs,.string b::ds=>match pZ ks cs ds with | some r=>some (a.toList==b.toList&&r) | none=>none
 | _,_,_=>none
def nN (ls:List LK) (k:List Value):List (List Value)→Nat→Option (Option Nat)
 | [],_=>some none
 | k'::r,i=>match pZ ls k k' with
  | some true=>some (some i)
  | some false=>nN ls k r (i+1)
  | none=>none
def BY:List AV→Option (List Value)
 | []=>some []
 | .v x::r=>match BY r with
  | some l=>some (x::l)
  | none=>none
 | _::_=>none
def KZ (ag:Bool) (ls:List LK) (x:AV):Option (List Value) :=
 match (if ag then (match Qx x with | some cs=>BY cs | none=>none) else (match x with | .v u=>some [u] | _=>none)) with
 | some k=>match pZ ls k k with
  | some _=>some k
  | none=>none
 | none=>none
def ZD (T:aQ) (ag:Bool):AV→Option (List (List Value)×List AV)
 | .v (.map none)=>some ([],[])
 | .mp i=>match cR T i with
  | some (.map ag' ks vs _ _)=>if ag=ag' then some (ks,vs) else none
  | _=>none
 | _=>none
def HT (cells:List AV):List (Nat×Nat×AV)→Option (List AV)
 | []=>some cells
 | (off,n,x)::r =>
  if (dI x).length=n∧off+n≤cells.length∧(dI x).all jU=true then HT (cells.take off++dI x++cells.drop (off+n)) r else none
def rX (k:Nat):Nat→List AV→List (List AV)
 | 0,_=>[]
 | n+1,cs=>cs.take k::rX k n (cs.drop k)
def jH (s:ByteArray):List (List AV):=s.data.toList.map λb=>[.v (.int .u8 b.toNat)]
def Ia:List (List AV)→Option (List UInt8)
 | []=>some []
 | [.v (.int .u8 n)]::r=>match Ia r with
  | some l=>some (UInt8.ofNat n.toNat::l)
  | none=>none
 | _::_=>none
def Oi (T:aQ) (k:Nat):AV→Option (List (List AV))
 | .ls k' es=>if k=k' then some es else none
 | .own a=>match cR T a with
  | some (.arr k' es)=>if k=k' then some es else none
  | _=>none
 | .v (.slice none 0 0)=>some []
 | .vw a k' lo m=>match cR T a with
  | some (.arr k'' es)=>if k=k'∧k=k''∧lo+m≤es.length then some ((es.drop lo).take m) else none
  | _=>none
 | _=>none
def WZ:AV→Option Nat
 | .v (.int _ n)=>if 0≤n then some n.toNat else none
 | _=>none
mutual
def iB:AV→List Nat
 | .own i=>[i]
 | .ptr i _=>[i]
 | .elt i _ _ _=>[i]
 | .vw i _ _ _=>[i]
 | .mp i=>[i]
 | .yl i=>[i]
 | .bm _ _ cs=>iI cs
 | .ag cs=>iI cs
 | .cl _ cs=>iI cs
 | .tup cs=>iI cs
 | _=>[]
def iI:List AV→List Nat
 | []=>[]
 | c::cs=>iB c++iI cs
end
mutual
def HK (i k:Nat) (es:List (List AV)):AV→AV
 | .own j=>if j=i then .ls k es else .own j
 | .elt j k' m off=>if j=i then (if k'=k then (match es[m]? with | some e=>.rp (e.drop off) | none=>.any) else .any) else .elt j k' m off
 | .vw j k' lo m=>if j=i then (if k'=k∧lo+m≤es.length then .ls k ((es.drop lo).take m) else .any) else .vw j k' lo m
 | .ag cs=>.ag (Ib i k es cs)
 | .cl f cs=>.cl f (Ib i k es cs)
 | .bm f m cs=>.bm f m (Ib i k es cs)
 | .tup cs=>.tup (Ib i k es cs)
 | x=>x
def Ib (i k:Nat) (es:List (List AV)):List AV→List AV
 | []=>[]
 | c::cs=>HK i k es c::Ib i k es cs
end
def Ss (i k:Nat) (es:List (List AV)):List (Nat×AV)→List (Nat×AV)
 | []=>[]
 | (j,x)::r=>(j,HK i k es x)::Ss i k es r
def slF (i k:Nat) (es:List (List AV)):List (List AV)→List (List AV)
 | []=>[]
 | e::r=>Ib i k es e::slF i k es r
def slO (i k:Nat) (es:List (List AV)):AObj→Option AObj
 | .box cs=>some (.box (Ib i k es cs))
 | .arf k' es'=>if (slF i k es es').all (·.all jU) then some (.arf k' (slF i k es es')) else none
 | .lp r s=>some (.lp r (Ss i k es s))
 | .mit a b c d=>some (.mit a b c d)
 | .map ag ks vs bs cl=>some (.map ag ks (Ib i k es vs) bs cl)
 | .arr k' es'=>some (.arr k' es')
def QT (i k:Nat) (es:List (List AV)):aQ→aQ
 | []=>[]
 | o::r=>o.bind (slO i k es)::QT i k es r
def E6 (T:aQ):List Nat→aQ
 | []=>T
 | i::r=>match cR T i with
  | some (.arr k es)=>E6 ((QT i k es T).set i none) r
  | _=>E6 T r
def rY (T:aQ):List Nat→AV→AV
 | [],x=>x
 | i::r,x=>match cR T i with
  | some (.arr k es)=>rY ((QT i k es T).set i none) r (HK i k es x)
  | _=>rY T r x
def bK (T:aQ) (ev:Operand→AV):HOp→Option (AV×aQ)
 | .mov x=>some (ev x,T)
 | .pick c a b=>match ev c with
  | .v (.bool t)=>some (if t then ev a else ev b,T)
  | _=>none
 | .bin op x y=>match ev x,ev y with
  | .v a,.v b=>match aZ op a b with
   | some u=>some (.v u,T)
   | none=>none
  | _,_=>none
 | .eqa neg ks x y=>match Qx (ev x),Qx (ev y) with
  | some cs,some ds=>match eqC ks cs ds with
   | some t=>some (.v (.bool (if neg then !t else t)),T)
   | none=>none
  | _,_=>none
 | .eqb neg x y=>match ev x,ev y with
  | .v (.bool a),.v (.bool b)=>some (.v (.bool (if neg then !(a==b) else a==b)),T)
  | _,_=>none
 | .un op x=>match ev x with
  | .v a=>match pun op a with
   | some u=>some (.v u,T)
   | none=>none
  | _=>none
 | .conv k x=>match ev x with
  | .v (.int _ n)=>some (.v (.int k (k.wrap n)),T)
  | _=>none
 | .box x=>if (dI (ev x)).all jU then some (.ptr T.length 0,T++[some (.box (dI (ev x)))]) else none
 | .alloc z=>some (.ptr T.length 0,T++[some (.box (z.map .v))])
 | .bld z parts=>match HT (z.map .v) (parts.map λp=>(p.1,p.2.1,ev p.2.2)) with
  | some cs=>some (.ag cs,T)
  | none=>none
 | .bsl k z parts len=>match HT (z.map .v) (parts.map λp=>(p.1,p.2.1,ev p.2.2)) with
  | some cs=>if cs.all bB then some (.own T.length,T++[some (.arr k (rX k len cs))]) else if cs.all jU then some (.own T.length,T++[some (.arf k (rX k len cs))]) else none
  | none=>none
 | .bslS k z parts len=>match HT (z.map .v) (parts.map λp=>(p.1,p.2.1,rY T (iI (parts.map λp=>ev p.2.2)) (ev p.2.2))) with
  | some cs=>if cs.all bB then some (.own (E6 T (iI (parts.map λp=>ev p.2.2))).length,E6 T (iI (parts.map λp=>ev p.2.2))++[some (.arr k (rX k len cs))]) else none
  | none=>none
 | .ld n p=>match ev p with
  | .ptr i off=>match cR T i with
   | some (.box cs)=>match KY cs off n with
    | some x=>some (x,T)
    | none=>none
   | _=>none
  | .rp cs=>match KY cs 0 n with
   | some x=>some (x,T)
   | none=>none
  | .elt i k j off=>match pO (cR T i) with
   | some (k',es,_)=>if k=k' then match es[j]? with
    | some e=>match KY e off n with
     | some x=>some (x,T)
     | none=>none
    | none=>none else none
   | _=>none
  | _=>none
 | .st n p x=>match ev p with
  | .ptr i off=>match cR T i with
   | some (.box cs) =>
    if (dI (ev x)).length=n∧off+n≤cs.length∧(dI (ev x)).all jU then
     some (.v undef,T.set i (some (.box (cs.take off++dI (ev x)++cs.drop (off+n)))))
    else none
   | _=>none
  | .elt i k j off=>match pO (cR T i) with
   | some (k',es,b)=>if k=k' then match es[j]? with
    | some e =>
     if (dI (ev x)).length=n∧off+n≤e.length∧(dI (ev x)).all (Mv b) then
      some (.v undef,T.set i (some (iA b k (es.set j (e.take off++dI (ev x)++e.drop (off+n))))))
     else none
    | none=>none else none
   | _=>none
  | _=>none
 | .fad p off=>match ev p with
  | .ptr i o=>some (.ptr i (o+off),T)
  | .elt i k j o=>some (.elt i k j (o+off),T)
  | .rp cs=>some (.rp (cs.drop off),T)
  | _=>none
 | .fld x off n=>match ev x with
  | .ag cs=>match KY cs off n with
   | some y=>some (y,T)
   | none=>none
  | .v (.agg us)=>match KY (us.toList.map .v) off n with
   | some y=>some (y,T)
   | none=>none
  | _=>none
 | .iad x ix k=>match ev x,ev ix with
  | .ls k' es,.v (.int _ i)=>if k=k'∧0≤i then match es[i.toNat]? with
   | some e=>some (.rp e,T)
   | none=>none else none
  | .own a,.v (.int _ i)=>match pO (cR T a) with
   | some (k',es,_)=>if k=k'∧0≤i∧i.toNat<es.length then some (.elt a k i.toNat 0,T) else none
   | _=>none
  | .vw a k' lo m,.v (.int _ i)=>if k=k'∧0≤i∧i.toNat<m then some (.elt a k (lo+i.toNat) 0,T) else none
  | _,_=>none
 | .iadA x ix len k=>match ev x,ev ix with
  | .ptr a o,.v (.int _ i)=>if 0≤i∧i<len then some (.ptr a (o+i.toNat*k),T) else none
  | .rp cs,.v (.int _ i)=>if 0≤i∧i<len then some (.rp (cs.drop (i.toNat*k)),T) else none
  | _,_=>none
 | .ixS x ix=>match ev x,ev ix with
  | .v (.string s),.v (.int _ i)=>if 0≤i then match s.data[i.toNat]? with
   | some b=>some (.v (.int .u8 b.toNat),T)
   | none=>none else none
  | _,_=>none
 | .lenS x=>match ev x with
  | .v (.string s)=>some (.v (.int .i64 s.size),T)
  | _=>none
 | .lenL x=>match ev x with
  | .ls _ es=>some (.v (.int .i64 es.length),T)
  | .own a=>match pO (cR T a) with
   | some (_,es,_)=>some (.v (.int .i64 es.length),T)
   | _=>none
  | .v (.slice none 0 0)=>some (.v (.int .i64 0),T)
  | .vw _ _ _ m=>some (.v (.int .i64 m),T)
  | _=>none
 | .app x y k bytes =>
  let src:Option (List (List AV)×Bool):=match ev y with
   | .ls k' es=>if k=k' then some (es,true) else none
   | .own a=>match pO (cR T a) with
    | some (k',es,b)=>if k=k' then some (es,b) else none
    | _=>none
   | .v (.slice none 0 0)=>some ([],true)
   | .vw a k' lo m=>match pO (cR T a) with
    | some (k'',es,b)=>if k=k'∧k=k''∧lo+m≤es.length then some ((es.drop lo).take m,b) else none
    | _=>none
   | _=>none
  match src with
  | none=>none
  | some (new,b)=>match ev x with
   | .v (.slice none 0 0)=>if new.length*bytes≤140737488355328∧new.length≤maxLen then some (.own T.length,T++[some (iA b k new)]) else none
   | .own a=>match pO (cR T a) with
    | some (k',es,b')=>if k=k'∧(es.length+new.length)*bytes≤140737488355328∧es.length+new.length≤maxLen then some (.own T.length,T.set a none++[some (iA (b&&b') k (es++new))]) else none
    | _=>none
   | _=>none
 | .ext x i=>match ev x with
  | .tup vs=>match vs[i]? with
   | some y=>some (y,T)
   | none=>none
  | .v (.tuple us)=>match us.toList[i]? with
   | some y=>some (.v y,T)
   | none=>none
  | _=>none
 | .clo f caps=>some (.cl f (caps.map ev),T)
 | .call _ _=>none
 | .nilc x=>match ev x with
  | .ptr i o=>some (.ptr i o,T)
  | .elt i k j o=>some (.elt i k j o,T)
  | .rp cs=>some (.rp cs,T)
  | _=>none
 | .slc x lo hi k =>
  let nO (o:Option Operand) (d:Nat):Option Nat:=match o with
   | none=>some d
   | some o=>match ev o with
    | .v (.int _ n)=>if 0≤n then some n.toNat else none
    | _=>none
  match ev x with
  | .ls k' es=>match nO lo 0,nO hi es.length with
   | some l,some h=>if k=k'∧l≤h∧h≤es.length then some (.ls k ((es.drop l).take (h-l)),T) else none
   | _,_=>none
  | .own a=>match pO (cR T a) with
   | some (k',es,_)=>match nO lo 0,nO hi es.length with
    | some l,some h=>if k=k'∧l≤h∧h≤es.length then some (.vw a k l (h-l),T) else none
    | _,_=>none
   | _=>none
  | .vw a k' lo' m=>match nO lo 0,nO hi m with
   | some l,some h=>if k=k'∧l≤h∧h≤m then some (.vw a k (lo'+l) (h-l),T) else none
   | _,_=>none
  | .v (.slice none 0 0)=>match nO lo 0,nO hi 0 with
   | some l,some h=>if l=0∧h=0 then some (.v (.slice none 0 0),T) else none
   | _,_=>none
  | _=>none
 | .slcS x lo hi =>
  let nO (o:Option Operand) (d:Nat):Option Nat:=match o with
   | none=>some d
   | some o=>match ev o with
    | .v (.int _ n)=>if 0≤n then some n.toNat else none
    | _=>none
  match ev x with
  | .v (.string s)=>match nO lo 0,nO hi s.size with
   | some l,some h=>if l≤h∧h≤s.size then some (.v (.string (s.extract l h)),T) else none
   | _,_=>none
  | _=>none
 | .nilS neg kd x =>
  let r:Option Bool:=match kd,ev x with
   | 0,.v (.pointer none)=>some true
   | 0,.ptr _ _=>some false
   | 0,.elt _ _ _ _=>some false
   | 0,.rp _=>some false
   | 1,.v (.slice none 0 0)=>some true
   | 1,.own a=>match pO (cR T a) with
    | some (_,_::_,_)=>some false
    | _=>none
   | 1,.ls _ (_::_)=>some false
   | 2,.v .nilFunc=>some true
   | 2,.cl _ _=>some false
   | _,_=>none
  match r with
  | some b=>some (.v (.bool (if neg then !b else b)),T)
  | none=>none
 | .mm mx x y=>match ev x,ev y with
  | .v (.int k a),.v (.int k' b)=>if k=k' then some (.v (.int k (if mx then (if b>a then b else a) else if b<a then b else a)),T) else none
  | _,_=>none
 | .mkm ag=>some (.mp T.length,T++[some (.map ag [] [] [] 0)])
 | .lku ag ls z m k ok=>match ZD T ag (ev m),KZ ag ls (ev k) with
  | some (ks,vs),some kc=>match nN ls kc ks 0 with
   | some none=>some (if ok then .tup [.v z,.v (.bool false)] else .v z,T)
   | some (some j)=>match vs[j]? with
    | some x=>some (if ok then .tup [x,.v (.bool true)] else x,T)
    | none=>none
   | none=>none
  | _,_=>none
 | .mup ag ls m k x=>match ev m with
  | .mp i=>match cR T i,KZ ag ls (ev k) with
   | some (.map ag' ks vs bs cl),some kc=>if ag=ag' then match nN ls kc ks 0 with
    | some none=>some (.v undef,T.set i (some (.map ag (ks++[kc]) (vs++[ev x]) (bs++[cl]) (cl+1))))
    | some (some j)=>some (.v undef,T.set i (some (.map ag ks (vs.set j (ev x)) bs cl)))
    | none=>none else none
   | _,_=>none
  | _=>none
 | .men ag ls z m k=>match ev m with
  | .mp i=>match cR T i,KZ ag ls (ev k) with
   | some (.map ag' ks vs bs cl),some kc=>if ag=ag' then match nN ls kc ks 0 with
    | some none=>some (.tup [.v z,.v (.int .i64 cl)],T.set i (some (.map ag (ks++[kc]) (vs++[.v z]) (bs++[cl]) (cl+1))))
    | some (some j)=>match vs[j]?,bs[j]? with
     | some x,some b=>some (.tup [x,.v (.int .i64 b)],T)
     | _,_=>none
    | none=>none else none
   | _,_=>none
  | _=>none
 | .mst m s x=>match ev m,ev s with
  | .mp i,.v (.int _ n)=>match cR T i with
   | some (.map ag ks vs bs cl)=>match bs.findIdx? (λ(b:Nat)=>(b:Int)==n) with
    | some j=>some (.v undef,T.set i (some (.map ag ks (vs.set j (ev x)) bs cl)))
    | none=>none
   | _=>none
  | _,_=>none
 | .del ag ls m k=>match ev m with
  | .mp i=>match cR T i,KZ ag ls (ev k) with
   | some (.map ag' ks vs bs cl),some kc=>if ag=ag' then match nN ls kc ks 0 with
    | some none=>some (.v (.tuple #[]),T)
    | some (some j)=>some (.v (.tuple #[]),T.set i (some (.map ag (ks.eraseIdx j) (vs.eraseIdx j) (bs.eraseIdx j) cl)))
    | none=>none else none
   | _,_=>none
  | _=>none
 | .lenM m=>match ev m with
  | .v (.map none)=>some (.v (.int .i64 0),T)
  | .mp i=>match cR T i with
   | some (.map _ ks _ _ _)=>some (.v (.int .i64 ks.length),T)
   | _=>none
  | _=>none
 | .mks k z bytes x y=>match ev x,ev y with
  | .v (.int .i64 n),.v (.int .i64 c)=>if 0≤n∧n≤c∧c*bytes≤140737488355328∧c≤maxLen then some (.own T.length,T++[some (.arr k (List.replicate n.toNat (z.map .v)))]) else none
  | _,_=>none
 | .s2b x=>match ev x with
  | .v (.string s)=>if s.size≤maxLen then some (.ls 1 (jH s),T) else none
  | _=>none
 | .b2b x=>match ev x with
  | .own i=>match cR T i with
   | some (.arr k (e::es))=>if k=1 then some (.ls 1 (e::es),T.set i none) else none
   | _=>none
  | _=>none
 | .b2s x=>match Oi T 1 (ev x) with
  | some es=>match Ia es with
   | some l=>some (.v (.string ⟨l.toArray⟩),T)
   | none=>none
  | none=>none
 | .apS x y=>match ev y with
  | .v (.string s)=>match ev x with
   | .v (.slice none 0 0)=>if s.size≤140737488355328∧s.size≤maxLen then some (.own T.length,T++[some (.arr 1 (jH s))]) else none
   | .own a=>match cR T a with
    | some (.arr k' es)=>if k'=1∧es.length+s.size≤140737488355328∧es.length+s.size≤maxLen then some (.own T.length,T.set a none++[some (.arr 1 (es++jH s))]) else none
    | _=>none
   | _=>none
  | _=>none
 | .slx x lo hi mx k=>match (match lo with | none=>some 0 | some o=>WZ (ev o)),WZ (ev hi),WZ (ev mx) with
  | some l,some h,some m=>match ev x with
   | .ls k' es=>if k=k'∧l≤h∧h≤m∧m≤es.length then (if m=l then some (.own T.length,T++[some (.arr k [])]) else some (.ls k ((es.drop l).take (h-l)),T)) else none
   | .own a=>match cR T a with
    | some (.arr k' es)=>if k=k'∧l≤h∧h≤m∧m≤es.length then (if m=l then some (.own T.length,T++[some (.arr k [])]) else some (.vw a k l (h-l),T)) else none
    | _=>none
   | .vw a k' lo' n=>if k=k'∧l≤h∧h≤m∧m≤n then (if m=l then some (.own T.length,T++[some (.arr k [])]) else some (.vw a k (lo'+l) (h-l),T)) else none
   | .v (.slice none 0 0)=>if l=0∧h=0∧m=0 then some (.own T.length,T++[some (.arr k [])]) else none
   | _=>none
  | _,_,_=>none
 | .bmo f k caps=>some (.bm f k (caps.map ev),T)
 | .rgm m=>match ev m with
  | .v (.map none)=>some (.ptr T.length 0,T++[some (.mit none 0 [] 0)])
  | .mp j=>match cR T j with
   | some (.map _ _ _ _ cl)=>some (.ptr T.length 0,T++[some (.mit (some j) cl [] cl)])
   | _=>none
  | _=>none
 | .nxt _=>none
 | .bad=>none
 | .ent p=>match ev p with
  | .ptr i 0=>match cR T i with
   | some (.mit (some j) _ seen la)=>match cR T j,seen.getLast? with
    | some (.map ag ks vs bs cl),some b=>if cl=la then match bs.findIdx? (· == b) with
     | some e=>match ks[e]?,vs[e]? with
      | some k,some v=>some (.tup [.v (iH ag k),v],T)
      | _,_=>none
     | none=>none else none
    | _,_=>none
   | _=>none
  | _=>none
 | .clr x k z=>match ev x with
  | .ls _ []=>some (.v (.tuple #[]),T)
  | .v (.slice none 0 0)=>some (.v (.tuple #[]),T)
  | .own a=>match cR T a with
   | some (.arr k' es)=>if k=k'∧z.length=k∧(z.all λv=>bB (.v v))=true then some (.v (.tuple #[]),T.set a (some (.arr k (List.replicate es.length (z.map .v))))) else none
   | _=>none
  | .vw a k' lo m=>match cR T a with
   | some (.arr k'' es)=>if k=k'∧k=k''∧z.length=k∧lo+m≤es.length∧(z.all λv=>bB (.v v))=true then some (.v (.tuple #[]),T.set a (some (.arr k (es.take lo++List.replicate m (z.map .v)++es.drop (lo+m))))) else none
   | _=>none
  | _=>none
end
section
def aE4:List (List AV)→List Nat
 | []=>[]
 | e::es=>iI e++aE4 es
def Mw:List (Nat×AV)→List Nat
 | []=>[]
 | (_,x)::r=>iB x++Mw r
def aFG:Option AObj→List Nat
 | some (.box cs)=>iI cs
 | some (.arf _ es)=>aE4 es
 | some (.lp _ s)=>Mw s
 | some (.mit (some j) _ _ _)=>[j]
 | some (.map _ _ vs _ _)=>iI vs
 | _=>[]
def GN:List Nat→List Nat→List Nat
 | L,[]=>L
 | L,i::r=>if L.contains i then GN L r else GN (L++[i]) r
def ZE (T:aQ):List Nat→List Nat
 | []=>[]
 | i::r=>aFG (cR T i)++ZE T r
def Cn (T:aQ):aQ→List Nat→List Nat
 | [],L=>L
 | _::R,L=>Cn T R (GN L (ZE T L))
def tN (T:aQ) (ids:List Nat):List Nat:=Cn T T (GN [] ids)
def ZF (L:List Nat) (i:Nat):Option Nat:=L.idxOf? i
mutual
def F9 (L:List Nat):AV→AV
 | .own i=>match ZF L i with | some j=>.own j | none=>.any
 | .ptr i o=>match ZF L i with | some j=>.ptr j o | none=>.any
 | .elt i k j o=>match ZF L i with | some m=>.elt m k j o | none=>.any
 | .vw i k j o=>match ZF L i with | some m=>.vw m k j o | none=>.any
 | .mp i=>match ZF L i with | some m=>.mp m | none=>.any
 | .yl i=>match ZF L i with | some m=>.yl m | none=>.any
 | .bm f k cs=>.bm f k (Al L cs)
 | .ag cs=>.ag (Al L cs)
 | .cl f cs=>.cl f (Al L cs)
 | .tup cs=>.tup (Al L cs)
 | x=>x
def Al (L:List Nat):List AV→List AV
 | []=>[]
 | c::cs=>F9 L c::Al L cs
end
def Qy (L:List Nat):List (Nat×AV)→List (Nat×AV)
 | []=>[]
 | (i,x)::r=>(i,F9 L x)::Qy L r
def YX (L:List Nat):List (List AV)→List (List AV)
 | []=>[]
 | e::es=>Al L e::YX L es
def ZG (L:List Nat):AObj→Option AObj
 | .box cs=>some (.box (Al L cs))
 | .arf k es=>if (YX L es).all (·.all jU) then some (.arf k (YX L es)) else none
 | .lp r s=>some (.lp r (Qy L s))
 | .mit none a b c=>some (.mit none a b c)
 | .mit (some j) a b c=>match ZF L j with | some m=>some (.mit (some m) a b c) | none=>none
 | .arr k es=>some (.arr k es)
 | .map ag ks vs bs cl=>some (.map ag ks (Al L vs) bs cl)
def Ef (L:List Nat) (T:aQ):aQ:=L.map λi=>(cR T i).bind (ZG L)
def HU (p:Nat×AV):List (Nat×AV)→List (Nat×AV)
 | []=>[p]
 | q::r=>if p.1<q.1 then p::q::r else q::HU p r
def pP:List (Nat×AV)→List (Nat×AV)
 | []=>[]
 | p::r=>HU p (pP r)
def kK (d:List Nat):List (Nat×AV)→List (Nat×AV)
 | []=>[]
 | (i,x)::r=>if d.contains i then kK d r else (i,x)::kK d r
def yR (d:List Nat) (st:St):St :=
 let s:=pP (kK d st.s)
 let L:=tN st.T (List.range st.r++Mw s)
 ⟨st.r,Qy L s,Ef L st.T⟩
def bk (L:List Nat) (n:Nat) (j:Nat):Nat:=if j<L.length then L.getD j 0 else n+(j-L.length)
mutual
def Ae (L:List Nat) (n:Nat):AV→AV
 | .own i=>.own (bk L n i)
 | .ptr i o=>.ptr (bk L n i) o
 | .elt i k j o=>.elt (bk L n i) k j o
 | .vw i k j o=>.vw (bk L n i) k j o
 | .mp i=>.mp (bk L n i)
 | .yl i=>.yl (bk L n i)
 | .bm f k cs=>.bm f k (D3 L n cs)
 | .ag cs=>.ag (D3 L n cs)
 | .cl f cs=>.cl f (D3 L n cs)
 | .tup cs=>.tup (D3 L n cs)
 | x=>x
def D3 (L:List Nat) (n:Nat):List AV→List AV
 | []=>[]
 | c::cs=>Ae L n c::D3 L n cs
end
def bkS (L:List Nat) (n:Nat):List (Nat×AV)→List (Nat×AV)
 | []=>[]
 | (i,x)::r=>(i,Ae L n x)::bkS L n r
def bkF (L:List Nat) (n:Nat):List (List AV)→List (List AV)
 | []=>[]
 | e::es=>D3 L n e::bkF L n es
def HL (L:List Nat) (n:Nat):Option AObj→Option AObj
 | some (.box cs)=>some (.box (D3 L n cs))
 | some (.arf k es)=>some (.arf k (bkF L n es))
 | some (.lp r s)=>some (.lp r (bkS L n s))
 | some (.mit none a b c)=>some (.mit none a b c)
 | some (.mit (some j) a b c)=>some (.mit (some (bk L n j)) a b c)
 | some (.arr k es)=>some (.arr k es)
 | some (.map ag ks vs bs cl)=>some (.map ag ks (D3 L n vs) bs cl)
 | none=>none
def Ic (L:List Nat) (n:Nat):aQ→List Nat→aQ→aQ
 | T,_,[]=>T
 | T,[],T'=>T++T'.map (HL L n)
 | T,i::L',o::T'=>Ic L n (T.set i (HL L n o)) L' T'
mutual
def tO (T:aQ):AV→AV
 | .own i=>match cR T i with | some (.arr k es)=>.ls k es | _=>.any
 | .vw i k lo m=>match cR T i with | some (.arr k' es)=>if k=k'∧lo+m≤es.length then .ls k ((es.drop lo).take m) else .any | _=>.any
 | .ag cs=>.ag (Co T cs)
 | x=>x
def Co (T:aQ):List AV→List AV
 | []=>[]
 | c::cs=>tO T c::Co T cs
end
mutual
def eY:AV→Prop
 | .ls _ es=>es=[]
 | .rp cs=>cs=[]
 | .ag cs=>qA cs
 | .cl _ cs=>qA cs
 | .bm _ _ cs=>qA cs
 | .tup cs=>qA cs
 | _=>True
def qA:List AV→Prop
 | []=>True
 | c::cs=>eY c∧qA cs
end
def tQ:Option AObj→Prop
 | some (.box cs)=>qA cs
 | some (.map _ _ vs _ _)=>qA vs
 | some (.arr _ es)=>∀ e∈es,∀ c∈e,∃ x,c=.v x
 | some (.arf _ es)=>∀ e∈es,qA e
 | some (.lp _ s)=>∀ p∈s,eY p.2
 | some (.mit _ _ _ _)=>True
 | none=>True
mutual
def qQ:AV→AV→Prop
 | .ag cs,y=>y=.ag cs∨∃ ds,y=.ag ds∧CX cs ds
 | .v u,y=>y=.v u∨(u=.slice none 0 0∧∃ k,y=.ls k [])∨(∃ us,u=.agg us∧y=.ag (us.toList.map .v))
 | x,y=>y=x
def CX:List AV→List AV→Prop
 | [],y=>y=[]
 | c::cs,y=>∃ d ds,y=d::ds∧qQ c d∧CX cs ds
end
def ZH (P:Program) (G:Nat→Option (List AV)) (f:FuncId) (args:List AV) (T:aQ) (K:AV→aQ→Prop):Prop :=
 (∃ L:List Nat,L.Nodup∧(∀ i∈L,i<T.length)∧aC P G f (Al L args) (Ef L T) λr T'=>K (Ae L T.length r) (Ic L T.length T L T')) ∨
 (iI (Co T args)=[]∧aC P G f (Co T args) [] λr T'=>eY r∧(∀ o∈T',tQ o)∧K (Ae [] T.length r) (T++T'.map (HL [] T.length)))
def GO (P:Program) (G:Nat→Option (List AV)) (f:FuncId) (args:List AV) (T:aQ) (K:AV→aQ→Prop):Prop :=
 ∃ args',CX args args'∧ZH P G f args' T K
def Ka (st:St) (j:Nat) (c:Option Nat) (k:Nat):St :=
 match c with
 | none=>match aU st.s j with
  | .v (.slice none 0 0)=>⟨st.r,Cm st.s j (.own st.T.length),st.T++[some (.arr k [])]⟩
  | _=>st
 | some c=>match aU st.s j with
  | .ptr i _=>match cR st.T i with
   | some (.box cs)=>match cs[c]? with
    | some (.v (.slice none 0 0))=>⟨st.r,st.s,(st.T++[some (AObj.arr k [])]).set i (some (.box (cs.set c (.own st.T.length))))⟩
    | _=>st
   | _=>st
  | _=>st
def shutI (st:St) (i:Nat):St:=match cR st.T i with
 | some (.arr k es)=>⟨st.r,Ss i k es st.s,(QT i k es st.T).set i none⟩
 | _=>st
def Am (st:St):List Nat→St
 | []=>st
 | i::r=>Am (shutI st i) r
def Kb (st:St) (j:Nat):St:=Am st (iB (aU st.s j))
def Oj (kd:Nat) (x:AV):Bool:=match kd,x with
 | 1,.ls _ []=>true
 | _,_=>false
def tI (P:Program) (G:Nat→Option (List AV)) (st:St) (o:HOp) (K:AV→aQ→Prop):Prop :=
 match o with
 | .call f args=>match bX G st.s f with
  | .cl g caps=>GO P G g (args.map (bX G st.s)++caps) st.T K
  | .bm g k cs=>GO P G g (cs.take k++args.map (bX G st.s)++cs.drop k) st.T K
  | .yl i=>BW P G i (args.map (bX G st.s)) st.T K
  | _=>False
 | .nxt p=>match bX G st.s p with
  | .ptr i 0=>match cR st.T i with
   | some (.mit none _ _ _)=>K (.v (.tuple #[.bool false])) st.T
   | some (.mit (some j) since seen la)=>match cR st.T j with
    | some (.map ag ks vs bs cl)=>since≤la∧(∀ b∈bs,b<since)∧((∀ b∈bs,b∈seen)→K (.v (.tuple #[.bool false])) st.T) ∧
      ∀ (e:Nat) (k:List Value) (v:AV) (b:Nat),ks[e]?=some k→vs[e]?=some v→bs[e]?=some b→b∉seen →
       K (.tup [.v (.bool true),.v (iH ag k),v]) (st.T.set i (some (.mit (some j) since (seen++[b]) cl)))
    | _=>False
   | _=>False
  | _=>False
 | .nilS neg kd x=>if Oj kd (bX G st.s x)=true then K (.v (.bool true)) st.T∧K (.v (.bool false)) st.T else match bK st.T (bX G st.s) (.nilS neg kd x) with
  | some (y,T)=>K y T
  | none=>False
 | o=>match bK st.T (bX G st.s) o with
  | some (x,T)=>K x T
  | none=>False
def eC (s:List (Nat×AV)):Option (Nat×Bool)→Option Bool
 | none=>some true
 | some (j,b)=>match aU s j with
  | .v (.bool t)=>some (t==b)
  | .v (.tuple _)=>some false
  | _=>none
def HV (P:Program) (G:Nat→Option (List AV)):List HOper→St→(St→Prop)→Prop
 | [],st,K=>K st
 | o::os,st,K=>match eC st.s o.guard with
  | some true=>tI P G st o.op λx T=>HV P G os ⟨st.r,dT st.s o.dst x,T⟩ K
  | some false=>HV P G os ⟨st.r,dT st.s o.dst (.v undef),st.T⟩ K
  | none=>False
def mT (G:Nat→Option (List AV)) (st:St):List HOper→Prop
 | []=>True
 | o::os=>(match eC st.s o.guard with
  | some true=>match bK st.T (bX G st.s) o.op with
   | some (x,_)=>o.dst.map (aU st.s)=some x
   | none=>False
  | some false=>o.dst.map (aU st.s)=some (.v undef)
  | none=>False)∧mT G st os
def bC:Operand→List Nat
 | .tmp t=>[t]
 | _=>[]
def nI:HOp→List Nat
 | .mov x=>bC x
 | .pick c a b=>bC c++bC a++bC b
 | .bin _ x y=>bC x++bC y
 | .eqa _ _ x y=>bC x++bC y
 | .eqb _ x y=>bC x++bC y
 | .un _ x=>bC x
 | .conv _ x=>bC x
 | .box x=>bC x
 | .alloc _=>[]
 | .bld _ ps=>ps.flatMap λp=>bC p.2.2
 | .bsl _ _ ps _=>ps.flatMap λp=>bC p.2.2
 | .bslS _ _ ps _=>ps.flatMap λp=>bC p.2.2
 | .ld _ p=>bC p
 | .st _ p x=>bC p++bC x
 | .fad p _=>bC p
 | .fld x _ _=>bC x
 | .iad x i _=>bC x++bC i
 | .iadA x i _ _=>bC x++bC i
 | .ixS x i=>bC x++bC i
 | .lenS x=>bC x
 | .lenL x=>bC x
 | .app x y _ _=>bC x++bC y
 | .ext x _=>bC x
 | .clo _ cs=>cs.flatMap bC
 | .call f as_=>bC f++as_.flatMap bC
 | .nilc x=>bC x
 | .slc x lo hi _=>bC x++(match lo with | some o=>bC o | none=>[])++(match hi with | some o=>bC o | none=>[])
 | .slcS x lo hi=>bC x++(match lo with | some o=>bC o | none=>[])++(match hi with | some o=>bC o | none=>[])
 | .nilS _ _ x=>bC x
 | .mm _ x y=>bC x++bC y
 | .mkm _=>[]
 | .lku _ _ _ m k _=>bC m++bC k
 | .mup _ _ m k x=>bC m++bC k++bC x
 | .men _ _ _ m k=>bC m++bC k
 | .mst m s x=>bC m++bC s++bC x
 | .del _ _ m k=>bC m++bC k
 | .lenM m=>bC m
 | .mks _ _ _ x y=>bC x++bC y
 | .s2b x=>bC x
 | .b2s x=>bC x
 | .b2b x=>bC x
 | .apS x y=>bC x++bC y
 | .slx x lo hi mx _=>bC x++(match lo with | some o=>bC o | none=>[])++bC hi++bC mx
 | .bmo _ _ cs=>cs.flatMap bC
 | .rgm m=>bC m
 | .nxt p=>bC p
 | .ent p=>bC p
 | .bad=>[]
 | .clr x _ _=>bC x
def Su (o:HOper):List Nat:=nI o.op++(match o.guard with | some (j,_)=>[j] | none=>[])
def fY:HOp→Bool
 | .box _=>false
 | .alloc _=>false
 | .bsl _ _ _ _=>false
 | .bslS _ _ _ _=>false
 | .st _ _ _=>false
 | .app _ _ _ _=>false
 | .call _ _=>false
 | .mkm _=>false
 | .mup _ _ _ _ _=>false
 | .men _ _ _ _ _=>false
 | .mst _ _ _=>false
 | .del _ _ _ _=>false
 | .mks _ _ _ _ _=>false
 | .s2b _=>false
 | .b2b _=>false
 | .apS _ _=>false
 | .slx _ _ _ _ _=>false
 | .rgm _=>false
 | .nxt _=>false
 | .ent _=>false
 | .bad=>false
 | .clr _ _ _=>false
 | _=>true
structure Plan where
 hops:List HOper
 pre:List (List Nat)
def Plan.p (p:Plan) (i:Nat):List Nat:=p.pre.getD i []
def Plan.quiet (p:Plan) (i:Nat):Bool :=
 match p.hops[i]? with
 | none=>false
 | some o=>fY o.op&&(match o.dst with
  | none=>false
  | some d=>(List.range p.hops.length).all λr=>match p.hops[r]? with
   | none=>true
   | some o'=>!(Su o').contains d||(p.p r).contains i)
def Plan.ready (p:Plan) (E:List Nat):List Nat:=(List.range p.hops.length).filter λi=>!E.contains i&&(p.p i).all E.contains
def Plan.pend (p:Plan) (E:List Nat):List HOper :=
 (E.filter λq=>p.quiet q&&!(E.any λh=>!p.quiet h&&(p.p h).contains q)).filterMap λq=>p.hops[q]?
def GP (P:Program) (G:Nat→Option (List AV)) (chk:List HOper):Nat→List HOper→St→(St→Prop)→Prop
 | 0,_,st,K=>K st
 | n+1,ops,st,K=>∀ i o,ops[i]?=some o→match eC st.s o.guard with
  | some true=>tI P G st o.op λx T=>mT G ⟨st.r,dT st.s o.dst x,T⟩ chk∧GP P G chk n (ops.eraseIdx i) ⟨st.r,dT st.s o.dst x,T⟩ K
  | some false=>mT G ⟨st.r,dT st.s o.dst (.v undef),st.T⟩ chk∧GP P G chk n (ops.eraseIdx i) ⟨st.r,dT st.s o.dst (.v undef),st.T⟩ K
  | none=>False
def tR (P:Program) (G:Nat→Option (List AV)) (p:Plan):Nat→Bool→List Nat→St→(St→Prop)→Prop
 | 0,_,_,_,_=>False
 | n+1,gc,E,st,K=>match (p.ready E).find? p.quiet with
  | some i=>match p.hops[i]? with
   | some o=>match eC st.s o.guard with
    | some true=>match bK st.T (bX G st.s) o.op with
     | some (x,_)=>tR P G p n gc (i::E) ⟨st.r,dT st.s o.dst x,st.T⟩ K
     | none=>False
    | some false=>tR P G p n gc (i::E) ⟨st.r,dT st.s o.dst (.v undef),st.T⟩ K
    | none=>False
   | none=>False
  | none=>match p.ready E with
   | []=>K (if gc then yR [] st else st)
   | c::cs=>∀ i,i∈c::cs→∃ o,p.hops[i]?=some o∧match eC st.s o.guard with
    | some true=>tI P G st o.op λy T=>mT G ⟨st.r,dT st.s o.dst y,T⟩ (if fY o.op then [] else p.pend (i::E))∧tR P G p n (gc||!cs.isEmpty) (i::E) ⟨st.r,dT st.s o.dst y,T⟩ K
    | some false=>mT G ⟨st.r,dT st.s o.dst (.v undef),st.T⟩ (if fY o.op then [] else p.pend (i::E))∧tR P G p n (gc||!cs.isEmpty) (i::E) ⟨st.r,dT st.s o.dst (.v undef),st.T⟩ K
    | none=>False
def D4 (P:Program) (G:Nat→Option (List AV)):HD→St→(St→Prop)→Prop
 | .done b,st,K=>K (if b then yR [] st else st)
 | .no,_,_=>True
 | .q o next,st,K=>match eC st.s o.guard with
  | some true=>match bK st.T (bX G st.s) o.op with
   | some (x,_)=>D4 P G next ⟨st.r,dT st.s o.dst x,st.T⟩ K
   | none=>False
  | some false=>D4 P G next ⟨st.r,dT st.s o.dst (.v undef),st.T⟩ K
  | none=>False
 | .alt o chk next other,st,K=>(match eC st.s o.guard with
  | some true=>tI P G st o.op λx T=>mT G ⟨st.r,dT st.s o.dst x,T⟩ chk∧D4 P G next ⟨st.r,dT st.s o.dst x,T⟩ K
  | some false=>mT G ⟨st.r,dT st.s o.dst (.v undef),st.T⟩ chk∧D4 P G next ⟨st.r,dT st.s o.dst (.v undef),st.T⟩ K
  | none=>False)∧D4 P G other st K
 | .perm chk ops next,st,K=>GP P G chk ops.length ops st λs=>D4 P G next s K
 | .plan hops pre n gc E,st,K=>tR P G ⟨hops,pre⟩ n gc E st K
inductive Ex where
 | normal
 | exit (id:Nat)
 | ret
def E7 (d:List Nat):List (Nat×AV)→List (Nat×AV)
 | []=>[]
 | (i,x)::r=>if d.contains i then (i,x)::E7 d r else E7 d r
def vI:List (Nat×AV)→List Nat→List AV→List (Nat×AV)
 | s,p::ps,x::xs=>vI (Cm s p x) ps xs
 | s,_,_=>s
def Ok (P:Program) (f:FuncId):Prop:=∃ fn c,P.funcs[f]?=some fn∧fn.body=some c∧¬fn.name = "runtime.NumGoroutine"
def left (r:Loop) (c:Code):Loop:={ r with state:=.done,pending:=some c }
def HW (i:Nat) (r:Loop) (s:List (Nat×AV)) (n:Nat) (post:AV→aQ→Prop) (e:Ex) (st:St):Prop :=
 ∃ gc:Bool,match e with
  | .normal=>post (.v (.bool true)) ((if gc then (yR [] ⟨n,[],st.T⟩).T else st.T).set i (some (.lp r s)))
  | .exit id=>post (.v (.bool false)) ((if gc then (yR [] ⟨n,[],st.T⟩).T else st.T).set i (some (.lp (left r (.exit id)) s)))
  | .ret=>post (.v (.bool false)) ((if gc then (yR [] ⟨n,[],st.T⟩).T else st.T).set i (some (.lp (left r .ret) s)))
def Sy (Q:Ex→St→Prop) (r:Nat) (s:List (Nat×AV)) (n:Nat) (T:aQ):Prop :=
 match cR T n with
 | some (.lp rec _)=>rec.state≠.busy∧(match rec.pending with
  | none=>Q .normal ⟨r,s,T.set n none⟩
  | some (.exit id)=>Q (.exit id) ⟨r,s,T.set n none⟩
  | some .ret=>Q .ret ⟨r,s,T.set n none⟩
  | _=>False)
 | _=>False
def dS (P:Program) (G:Nat→Option (List AV)):HC→(Ex→St→Prop)→St→Prop
 | .skip,Q,st=>Q .normal st
 | .reg ops,Q,st=>HV P G ops st (Q .normal)
 | .regd d,Q,st=>D4 P G d st (Q .normal)
 | .seq a b,Q,st=>dS P G a (λe st'=>match e with | .normal=>dS P G b Q st' | e=>Q e st') st
 | .cond c a b,Q,st=>match bX G st.s c with
  | .v (.bool t)=>if t then dS P G a Q st else dS P G b Q st
  | _=>False
 | .block id a,Q,st=>dS P G a (λe st'=>match e with | .exit j=>if j=id then Q .normal st' else Q (.exit j) st' | e=>Q e st') st
 | .loop d a,Q,st=>∃ I:Nat→St→Prop,(∃ n,I n (yR d st)∨I n st)∧∀ n s,I n s→dS P G a (λe s'=>match e with | .normal=>∃ m,m<n∧(I m (yR d s')∨I m s') | e=>Q e s') s
 | .exit id,Q,st=>Q (.exit id) st
 | .ret,Q,st=>Q .ret st
 | .kill d,Q,st=>Q .normal ⟨st.r,kK d st.s,st.T⟩
 | .own j c k,Q,st=>Q .normal (Ka st j c k)
 | .shut j,Q,st=>Q .normal (yR [] (Kb st j))
 | .rng g ps d a b,Q,st=>∀ r:Loop,r.state=.ready→r.pending=none→r.params.size=ps.length →
   (∀ (i:Nat) (s:List (Nat×AV)) (T:aQ) (args:List AV) (post:AV→aQ→Prop),cR T i=some (.lp r s)→args.length=ps.length →
    dS P G a (λe s1=>match e with | .normal=>dS P G b (HW i r s T.length post) s1 | _=>False) ⟨T.length,vI s ps args,T.set i none⟩→BW P G i args T post) →
   match bX G st.s g with
   | .cl f caps=>Ok P f∧GO P G f (.yl st.T.length::caps) (st.T++[some (.lp r (E7 d st.s))]) λ_ T2=>Sy Q st.r st.s st.T.length T2
   | _=>False
end
end Hud
