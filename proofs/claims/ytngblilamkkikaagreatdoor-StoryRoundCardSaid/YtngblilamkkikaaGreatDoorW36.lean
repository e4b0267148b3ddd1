import Derived.Test.YtngblilamkkikaaGreatDoorW35
import Derived.Shelf.Strings.MapGrows
set_option maxHeartbeats 40000000
set_option maxRecDepth 100000
set_option linter.all false
namespace Go.Proofs.YtngblilamkkikaaGreatDoor
section
open Go.RowKit
theorem sizeBuilder:(Tryz.prog.info? 80).map (·.size)=some 2:=ah
theorem liesBuilder:liesAt Tryz.prog Tryz.prog.depth 80 (2/Tryz.prog.cellsOf 80) 0 80 1=true:=ah
theorem infoByte:(Tryz.prog.info? 5).map (fun i=>(i.zero,i.size,i.bytes))=some (some (.int .u8 0),1,1):=ah
theorem axT (b:Nat)(w:World)(h0:w.cell? ⟨b,0,none⟩=some (.pointer (some ⟨b,0,none⟩))):
  Calls Tryz.prog 64 #[.pointer (some ⟨b,0,none⟩)] w fun e w'=>e=.returned (.tuple #[])/\w'=w:=by
 obtain⟨j,hj,_⟩:=bK.1 sizeBuilder;go_enter Tryz.func64,Tryz.ntmps64;go_wp2;rw[Lib.run_neq_ptr_same w _ Tryz.underlying77 hj];go_wp2;go_end0;exact⟨rfl,rfl⟩
theorem axU (b:Nat)(w:World)(h0:w.cell? ⟨b,0,none⟩=some (.pointer none))(Gk:w.shape? b=some (80,2))(Nc:w.frozen? ⟨b,0,none⟩=false):
  Calls Tryz.prog 64 #[.pointer (some ⟨b,0,none⟩)] w fun e w'=>e=.returned (.tuple #[])/\w'=w.setCell ⟨b,0,none⟩ (.pointer (some ⟨b,0,none⟩)):=by
 obtain⟨j,hj,Cy⟩:=bK.1 sizeBuilder;go_enter Tryz.func64,Tryz.ntmps64;go_wp2;rw[Lib.run_to_unsafe w ⟨b,0,none⟩ Tryz.underlying77 Tryz.underlying210 hj (by rw[Cy];decide) Gk (Nat.zero_lt_succ 1)];simp only[Result.andThen];rw[Oper.upon_value];go_wp2;rw[run_callFunc_extern Tryz.func111 ah ah ah (e:=Extern.AbiNoEscape.same) ah];rw[Lib.run_noEscape];simp only[Result.andThen];rw[Oper.upon_value];go_wp2;rw[Lib.run_from_unsafe w ⟨b,0,none⟩ Tryz.underlying210 Tryz.underlying77 hj Gk liesBuilder];simp only[Result.andThen];rw[Oper.upon_value];go_wp2;go_end0;exact⟨rfl,rfl⟩
theorem aiA (B b:Nat)(bs:List Value)(w:World)(h:Lib.IsBuilderF 80 5 B b bs w):
  Calls Tryz.prog 64 #[.pointer (some ⟨b,0,none⟩)] w fun e w'=>e=.returned (.tuple #[])/\(Lib.BuilderAtF 80 5 B b (.pointer (some ⟨b,0,none⟩)) bs w'/\Below B w w'/\Lib.OthersKept 5 (some b) w w'):=by
 rcases h with h|h
 ·refine(axU b w h.cell0 h.shape h.frozen0).mono ?_;rintro e w' ⟨rfl,rfl⟩;exact⟨rfl,h.used _,(Below.refl B w).setCell (p:=⟨b,0,none⟩) h.1 _,(Lib.OthersKept.refl _ _ w).setCell ⟨b,0,none⟩ rfl _⟩
 ·refine(axT b w h.cell0).mono ?_;rintro e w' ⟨rfl,rfl⟩;exact⟨rfl,h,Below.refl B _,Lib.OthersKept.refl _ _ _⟩
theorem axV (B b:Nat)(bs:List Value)(c:Int)(w:World)(h:Lib.IsBuilderF 80 5 B b bs w)(hlen:bs.length+1<=140737488355328)(xz:B<=w.heap.size):
  Calls Tryz.prog 26 #[.pointer (some ⟨b,0,none⟩),.int .u8 c] w fun e w'=>e=.returned .nilIface/\(Lib.BuilderAtF 80 5 B b (.pointer (some ⟨b,0,none⟩)) (bs++[.int .u8 c]) w'/\Below B w w'/\Lib.OthersKept 5 (some b) w w'):=by
 obtain⟨i0,hi,dY,dE,eB⟩:=uQ infoByte;go_enter Tryz.func26,Tryz.ntmps26
 go_wp2_with (go_at_call 64;refine(aiA B b bs _ h).mono ?_)
 rintro e w1 ⟨rfl,h1,cC,fM⟩;obtain⟨hB,v,ug,aV,hne⟩:=h1
 have c0:w1.cell? ⟨b,0,none⟩=some (.pointer (some ⟨b,0,none⟩)):=by rw[Lib.cell_of_heap ug];rfl
 have c1:w1.cell? ⟨b,1,none⟩=some v:=by rw[Lib.cell_of_heap ug];rfl
 go_wp2_with (at_builtin;refine wpList_append_ownF _ rfl _ _ 78 rfl B 5 i0 (.int .u8 0) 1 1 Tryz.underlying78 hi dY dE eB rfl aq _ _ _ rfl (aV.alloc _) ⟨w1.heap.size,0,none⟩ 1 1 [.int .u8 c] rfl rfl ?c1 ?c2 ?c3 ?c4 ?c5 ?_)
 case c1=>
  intro j u hj
  match j,hj with
  |0,hj=>simp at hj;subst hj;simp[Addr.add]
 case c2=>intro u hu;simp at hu;subst hu;rfl
 case c3=>unfold maxLen;omega
 case c4=>omega
 case c5=>have:=cC.size;simp;omega
 intro v' w2 NH xF _
 have hlt:b<w1.heap.size:=by
  rcases Ag b w1.heap.size with h'|h'
  ·exact h'
  ·simp[Array.getElem?_eq_none h'] at ug
 have cK:w2.heap[b]? =some (.cells #[.pointer (some ⟨b,0,none⟩),v] 80 (0,0)):=by
  rw[xF.block b bC (fun e=>hne e.symm),Lib.alloc_old w1 _ b hlt];exact ug
 have d0:w2.cell? ⟨b,0,none⟩=some (.pointer (some ⟨b,0,none⟩)):=by rw[Lib.cell_of_heap cK];rfl
 have d1:w2.cell? ⟨b,1,none⟩=some v:=by rw[Lib.cell_of_heap cK];rfl
 have f1:w2.frozen? ⟨b,1,none⟩=false:=Lib.frozen_of_heap cK 1
 obtain⟨g,cap,rfl⟩:∃g cap,v'=.slice (some ⟨g,0,none⟩) (bs.length+1) cap:=by
  rcases NH.2 with⟨_,h0⟩|⟨g,cap,cur,fz,hv,_⟩
  ·omega
  ·exact⟨g,cap,hv⟩
 go_wp2;go_ret;refine⟨rfl,?_,?_,((fM.alloc _).grown xF (Lib.ownsRowF_kind (aV.alloc _))).setCell ⟨b,1,none⟩ rfl _⟩
 ·exact Lib.BuilderAtF.put (T:=80) (e:=5) hB cK (bs':=bs++[.int .u8 c]) (by simpa using NH) aq
 ·exact((cC.alloc (by have:=cC.size;omega) _).grown xF (by have:=cC.size;simp;omega) (fun k hk=>(aV.lt k hk).1)).setCell (p:=⟨b,1,none⟩) hB _
theorem axW (B b:Nat)(bs:List Value)(s:ByteArray)(w:World)(h:Lib.IsBuilderF 80 5 B b bs w)(hlen:bs.length+s.size<=140737488355328)(xz:B<=w.heap.size):
  Calls Tryz.prog 21 #[.pointer (some ⟨b,0,none⟩),.string s] w fun e w'=>e=.returned (.tuple #[.int .i64 s.size,.nilIface])/\(Lib.BuilderAtF 80 5 B b (.pointer (some ⟨b,0,none⟩)) (bs++Lib.strCells s) w'/\Below B w w'/\Lib.OthersKept 5 (some b) w w'):=by
 obtain⟨i0,hi,dY,dE,eB⟩:=uQ infoByte;go_enter Tryz.func21,Tryz.ntmps21
 go_wp2_with (go_at_call 64;refine(aiA B b bs _ h).mono ?_)
 rintro e w1 ⟨rfl,h1,cC,fM⟩;obtain⟨hB,v,ug,aV,hne⟩:=h1
 have c0:w1.cell? ⟨b,0,none⟩=some (.pointer (some ⟨b,0,none⟩)):=by rw[Lib.cell_of_heap ug];rfl
 have c1:w1.cell? ⟨b,1,none⟩=some v:=by rw[Lib.cell_of_heap ug];rfl
 go_wp2_with (at_builtin;refine Lib.wpList_append_own_stringF _ rfl _ _ 78 9 rfl B 5 i0 Tryz.underlying78 Tryz.underlying9 hi dY dE eB _ _ _ rfl aV s rfl ?c3 ?c4 ?c5 ?_)
 case c3=>unfold maxLen;omega
 case c4=>omega
 case c5=>have:=cC.size;omega
 intro v' w2 NH xF _
 have hlt:b<w1.heap.size:=by
  rcases Ag b w1.heap.size with h'|h'
  ·exact h'
  ·simp[Array.getElem?_eq_none h'] at ug
 have cK:w2.heap[b]? =some (.cells #[.pointer (some ⟨b,0,none⟩),v] 80 (0,0)):=by
  rw[xF.block b hlt (fun e=>hne e.symm)];exact ug
 have d0:w2.cell? ⟨b,0,none⟩=some (.pointer (some ⟨b,0,none⟩)):=by rw[Lib.cell_of_heap cK];rfl
 have d1:w2.cell? ⟨b,1,none⟩=some v:=by rw[Lib.cell_of_heap cK];rfl
 have f1:w2.frozen? ⟨b,1,none⟩=false:=Lib.frozen_of_heap cK 1
 obtain⟨ao,n',cap,rfl⟩:∃ao n' cap,v'=.slice ao n' cap:=by
  rcases NH.2 with⟨hv,_⟩|⟨g,cap,cur,fz,hv,_⟩
  ·exact⟨_,_,_,hv⟩
  ·exact⟨_,_,_,hv⟩
 go_wp2;go_ret2;refine⟨rfl,?_,?_,(fM.grown xF (Lib.ownsRowF_kind aV)).setCell ⟨b,1,none⟩ rfl _⟩
 ·exact Lib.BuilderAtF.put (T:=80) (e:=5) hB cK (bs':=bs++Lib.strCells s) (by simpa [Lib.strCells_length] using NH) aq
 ·exact(cC.grown xF (by have:=cC.size;omega) (fun k hk=>(aV.lt k hk).1)).setCell (p:=⟨b,1,none⟩) hB _
end
section
open Go.RowKit
variable {B b gn q:Nat} {L:List (Nat×Nat)} {W W' W5 X Y:World} {arr cs:Array Value} {t:aw}
structure sG (B gn n:Nat)(W:World)(L:List (Nat×Nat))(arr:Array Value):Prop where
 bn:ax W gn arr
 ln:gn<B
 hB:B<=W.heap.size
 sn:arr.size=n
 row:∀a<n,∃va,arr[a]? =some va/\W.ownsRow B 3 1 va (aR L a).length (nv (aR L a))
 sep:∀(a a':Nat) (va fj:Value),a≠a'->arr[a]? =some va->arr[a']? =some fj->va.ownBlock=none\/va.ownBlock≠fj.ownBlock
theorem sG.kept{n:Nat}(h:sG B gn n W L arr)(hb:ay W W'):sG B gn n W' L arr:=
 { h with
  bn:=h.bn.kept hb h.bn.lt
  hB:=bh h.hB hb.size
  row:=fun a ha=>by
   obtain⟨va,h1,h2⟩:=h.row a ha
   exact⟨va,h1,rU h2 hb⟩ }
theorem sG.drew{n:Nat}(h:sG B gn n W L arr):sG B gn n W.drew L arr:=h.kept ((Below.refl _ W).drew)
theorem sG.start{n:Nat}(hn:ax W gn (eW n (.slice none 0 0)))(h1:gn<B)(hB:B<=W.heap.size):sG B gn n W [] (eW n (.slice none 0 0)) where
 bn:=hn
 ln:=h1
 hB:=hB
 sn:=DF _ _
 row:=fun a ha=>⟨_,DG _ _ _ ha,jU _ _ _ _⟩
 sep:=fun a a' va fj _ h1 _=>by
  have:va=.slice none 0 0:=by
   have hlt:=(nB.1 h1).1;rw[DF] at hlt;rw[DG _ _ _ hlt] at h1;exact(ei h1).symm
  subst this;exact .inl rfl
theorem sG.step{n:Nat}{W2:World}(h:sG B gn n W L arr)(p:Nat×Nat)(pS:p.1<n)(va:Value)(gG:arr[p.1]? =some va)
  (g cap:Nat) (aV:W2.ownsRow B 3 1 (.slice (some ⟨g,0,none⟩) ((aR L p.1).length+1) cap) ((aR L p.1).length+1) (nv (aR L p.1)++[I (p.2:Nat)])) (sF:W.grownBy W2 va.ownBlock) (hg:va.ownBlock=some g\/W.heap.size<=g) (hsz:W.heap.size<=W2.heap.size):
  sG B gn n (W2.setCell ⟨gn,p.1,none⟩ (.slice (some ⟨g,0,none⟩) ((aR L p.1).length+1) cap)) (L++[p])
   (arr.setIfInBounds p.1 (.slice (some ⟨g,0,none⟩) ((aR L p.1).length+1) cap)):=by
 have Gr:va.ownBlock=none\/∃g,va.ownBlock=some g/\B<=g/\g<W.heap.size:=by
  obtain⟨fj,e1,e2⟩:=h.row p.1 pS;rw[gG] at e1;cases e1;exact DK e2
 have hne:∀x,x<B->va.ownBlock≠some x:=fun x hx e=>by
  rcases Gr with h0|⟨g',h0,h1,_⟩
  ·rw[h0] at e;cases e
  ·rw[h0] at e;cases e;omega
 have DJ:B<=g:=(aV.lt g rfl).1
 have fq:∀{fj:Value} {m:Nat} {xs:List Value},W2.ownsRow B 3 1 fj m xs->(W2.setCell ⟨gn,p.1,none⟩ (.slice (some ⟨g,0,none⟩) ((aR L p.1).length+1) cap)).ownsRow B 3 1 fj m xs:=by
  intro fj m xs ho
  have Sp:∀x,x<B->fj.ownBlock=none\/fj.ownBlock≠some x:=fun x hx=>by
   rcases DK ho with h0|⟨g',h0,h1,_⟩
   ·exact .inl h0
   ·exact .inr (by rw[h0];intro e;cases e;omega)
  have h1:W2.grownBy (W2.setCell ⟨gn,p.1,none⟩ (.slice (some ⟨g,0,none⟩) ((aR L p.1).length+1) cap)) (some gn):=⟨rfl,rfl,rfl,ai,fun k _ hk=>zY _ _ _ _ (fun e=>hk (by rw[e]))⟩
  exact ho.kept h1 (Sp gn h.ln)
 exact {
  bn:=(h.bn.grown sF (hne gn h.ln)).set p.1 _
  ln:=h.ln
  hB:=by simp only[World.size_setCell];exact bh h.hB hsz
  sn:=by rw[Ip];exact h.sn
  row:=fun a ha=>by
   by_cases e:p.1=a
   ·subst e;refine⟨_,by rw[sT (by rw[h.sn];exact pS)],?_⟩;rw[Sn,aj rfl];have:=fq aV;simpa [nv] using this
   ·obtain⟨fj,e1,e2⟩:=h.row a ha;refine⟨fj,by rw[qp e];exact e1,?_⟩;rw[Sn,af e];exact fq (e2.kept sF (h.sep a p.1 fj va (fun x=>e x.symm) e1 gG))
  sep:=fun a a' x y Gs hx hy=>by
   by_cases e:p.1=a
   ·subst e;rw[sT (by rw[h.sn];exact pS)] at hx;cases hx;rw[qp Gs] at hy;right;intro e2;have ud:y.ownBlock=some g:=e2.symm
    have ha':a'<n:=by have:=(nB.1 hy).1;rw[h.sn] at this;exact this
    obtain⟨y',f1,f2⟩:=h.row a' ha';rw[hy] at f1;cases f1;have hlt:=(f2.lt g ud).2
    rcases hg with hg|hg
    ·rcases h.sep p.1 a' va y Gs gG hy with h0|h0
     ·rw[h0] at hg;cases hg
     ·exact h0 (hg.trans ud.symm)
    ·omega
   ·rw[qp e] at hx;by_cases e':p.1=a'
    ·subst e';rw[sT (by rw[h.sn];exact pS)] at hy;cases hy;right;intro e2;have vP:x.ownBlock=some g:=e2
     have ha:a<n:=by have:=(nB.1 hx).1;rw[h.sn] at this;exact this
     obtain⟨x',f1,f2⟩:=h.row a ha;rw[hx] at f1;cases f1;have hlt:=(f2.lt g vP).2
     rcases hg with hg|hg
     ·rcases h.sep p.1 a va x (fun z=>e z) gG hx with h0|h0
      ·rw[h0] at hg;cases hg
      ·exact h0 (hg.trans vP.symm)
     ·omega
    ·rw[qp e'] at hy
     exact h.sep a a' x y Gs hx hy }
def Bd (W:World)(b:Nat)(t:aw):Prop:=Lib.IsBuilderF 80 5 b b (Lib.byteCells t) W
theorem Bd.kept(h:Bd W b t)(hb:ay W W'):Bd W' b t:=
 h.elim (fun x=> .inl (Lib.BuilderAtF.below x hb)) (fun x=> .inr (Lib.BuilderAtF.below x hb))
theorem Bd.lt(h:Bd W b t):b<W.heap.size:=h.elim (fun x=>x.lt) (fun x=>x.lt)
theorem Bd.new(W:World):Bd (W.alloc (.cells #[.pointer none,.slice none 0 0] 80)) W.heap.size []:=
 .inl ⟨cI _,.slice none 0 0,ej _ _,⟨rfl,.inl ⟨rfl,rfl⟩⟩,by simp[Value.ownBlock]⟩
structure Gz (W W':World)(b:Nat)(t:aw):Prop where
 bd:Bd W' b t
 below:Below b W W'
 others:∀(k:Nat) (cs:Array Value) (T:TypeId) (fz:Nat×Nat),W.heap[k]? =some (.cells cs T fz)->k≠b->T≠5->W'.heap[k]? =some (.cells cs T fz)
theorem Gz.of(h:Lib.BuilderAtF 80 5 b b (.pointer (some ⟨b,0,none⟩)) (Lib.byteCells t) W')(hb:Below b W W')(ho:Lib.OthersKept 5 (some b) W W'):Gz W W' b t where
 bd:=.inr h
 below:=hb
 others:=fun k cs T fz hk Jz hT=>ho k _ hk (fun e=>Jz (ei e)) (fun c f e=>hT (by injection e))
theorem NI(W:World)(b:Nat)(t s:aw)(h:Bd W b t)(hl:t.length+s.length<=140737488355328):
  Calls Tryz.prog 21 #[.pointer (some ⟨b,0,none⟩),sv s] W fun e W'=>e=.returned (.tuple #[.int .i64 (s.length:Nat),.nilIface])/\Gz W W' b (t++s):=by
 have hz:(⟨s.toArray⟩:ByteArray).size=s.length:=by simp[ByteArray.size]
 refine(axW b b (Lib.byteCells t) ⟨s.toArray⟩ W h (by rw[Lib.byteCells_length,hz];exact hl) (Ah h.lt)).mono ?_;rintro e W' ⟨rfl,h1,h2,h3⟩;rw[show Lib.strCells ⟨s.toArray⟩=Lib.byteCells s from rfl,<-Lib.byteCells_append] at h1;exact⟨by rw[hz],Gz.of h1 h2 h3⟩
theorem SG(W:World)(b:Nat)(t:aw)(h:Bd W b t)(hl:t.length+1<=140737488355328):
  Calls Tryz.prog 26 #[.pointer (some ⟨b,0,none⟩),.int .u8 10] W fun e W'=>e=.returned .nilIface/\Gz W W' b (t++[10]):=by
 refine(axV b b (Lib.byteCells t) 10 W h (by rw[Lib.byteCells_length];exact hl) (Ah h.lt)).mono ?_;rintro e W' ⟨rfl,h1,h2,h3⟩;rw[show Lib.byteCells t++[.int .u8 10]=Lib.byteCells (t++[10]) by rw[Lib.byteCells_append];rfl] at h1;exact⟨rfl,Gz.of h1 h2 h3⟩
theorem axX(W:World)(b:Nat)(t:aw)(h:Bd W b t):
  Calls Tryz.prog 27 #[.pointer (some ⟨b,0,none⟩)] W fun e W'=>e=.returned (sv t)/\Below b W W':=by
 refine(Tryz.Builder_String_any_k b b t W h (Ah h.lt)).mono ?_;rintro e W' ⟨rfl,h1,h2,h3⟩;exact⟨rfl,h2⟩
structure PS (W5 X:World)(q:Nat)(cs:Array Value)(t:aw):Prop where
 row:X.heap[q]? =some (.cells cs 84 (0,0))
 below:ay W5 X
 bd:Bd X W5.heap.size t
 lt:W5.heap.size<q
theorem PS.qlt(h:PS W5 X q cs t):q<X.heap.size:=(nB.1 h.row).1
theorem PS.then(h:PS W5 X q cs t)(D:ay X Y):PS W5 Y q cs t where
 row:=(D.block q h.qlt).trans h.row
 below:=h.below.trans (D.mono h.below.size)
 bd:=h.bd.kept D
 lt:=h.lt
theorem PS.drew(h:PS W5 X q cs t):PS W5 X.drew q cs t:=h.then ((Below.refl _ X).drew)
theorem PS.alloc(h:PS W5 X q cs t)(o:Obj):PS W5 (X.alloc o) q cs t:=h.then ((Below.refl _ X).alloc aA o)
theorem PS.wrote{t':aw}(h:PS W5 X q cs t)(D:Gz X Y W5.heap.size t'):PS W5 Y q cs t' where
 row:=D.others q cs _ _ h.row (by have:=h.lt;omega) aq
 below:=h.below.trans D.below
 bd:=D.bd
 lt:=h.lt
theorem PS.cell(h:PS W5 X q cs t):∀j,X.cell? ⟨q,j,none⟩=cs[j]? :=fun j=>ax.cell ⟨_,h.row⟩ j
end
end Go.Proofs.YtngblilamkkikaaGreatDoor
