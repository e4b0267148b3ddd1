import Derived.Shelf.Strings.MapGrows
import Derived.Test.YtkanpepkdcmpmaaGreatDoorW13
set_option maxHeartbeats 40000000
set_option maxRecDepth 100000
set_option linter.all false
namespace Go.Proofs.YtkanpepkdcmpmaaGreatDoor
section
open Go.RowKit
theorem sizeBuilder:(Tryz.prog.info? 88).map (·.size)=some 2:=ah
theorem liesBuilder:liesAt Tryz.prog Tryz.prog.depth 88 (2/Tryz.prog.cellsOf 88) 0 88 1=true:=ah
theorem infoByte:(Tryz.prog.info? 5).map (fun i=>(i.zero,i.size,i.bytes))=some (some (.int .u8 0),1,1):=ah
theorem awe (b:Nat)(w:World)(h0:w.cell? ⟨b,0,none⟩=some (.pointer (some ⟨b,0,none⟩))):
  Calls Tryz.prog 72 #[.pointer (some ⟨b,0,none⟩)] w fun e w'=>e=.returned (.tuple #[])/\w'=w:=by
 obtain⟨j,hj,_⟩:=bU.1 sizeBuilder;go_enter Tryz.func72,Tryz.ntmps72;go_wp2;rw[Lib.run_neq_ptr_same w _ Tryz.underlying85 hj];go_wp2;go_end0;exact⟨rfl,rfl⟩
theorem awf (b:Nat)(w:World)(h0:w.cell? ⟨b,0,none⟩=some (.pointer none))(Iu:w.shape? b=some (88,2))(IM:w.frozen? ⟨b,0,none⟩=false):
  Calls Tryz.prog 72 #[.pointer (some ⟨b,0,none⟩)] w fun e w'=>e=.returned (.tuple #[])/\w'=w.setCell ⟨b,0,none⟩ (.pointer (some ⟨b,0,none⟩)):=by
 obtain⟨j,hj,Ed⟩:=bU.1 sizeBuilder;go_enter Tryz.func72,Tryz.ntmps72;go_wp2;rw[Lib.run_to_unsafe w ⟨b,0,none⟩ Tryz.underlying85 Tryz.underlying223 hj (by rw[Ed];decide) Iu (Nat.zero_lt_succ 1)];simp only[Result.andThen];rw[Oper.upon_value];go_wp2;rw[run_callFunc_extern Tryz.func130 ah ah ah (e:=Extern.AbiNoEscape.same) ah];rw[Lib.run_noEscape];simp only[Result.andThen];rw[Oper.upon_value];go_wp2;rw[Lib.run_from_unsafe w ⟨b,0,none⟩ Tryz.underlying223 Tryz.underlying85 hj Iu liesBuilder];simp only[Result.andThen];rw[Oper.upon_value];go_wp2;go_end0;exact⟨rfl,rfl⟩
theorem aif (B b:Nat)(bs:List Value)(w:World)(h:Lib.IsBuilderF 88 5 B b bs w):
  Calls Tryz.prog 72 #[.pointer (some ⟨b,0,none⟩)] w fun e w'=>e=.returned (.tuple #[])/\(Lib.BuilderAtF 88 5 B b (.pointer (some ⟨b,0,none⟩)) bs w'/\Below B w w'/\Lib.OthersKept 5 (some b) w w'):=by
 rcases h with h|h
 ·refine(awf b w h.cell0 h.shape h.frozen0).mono ?_;rintro e w' ⟨rfl,rfl⟩;exact⟨rfl,h.used _,(Below.refl B w).setCell (p:=⟨b,0,none⟩) h.1 _,(Lib.OthersKept.refl _ _ w).setCell ⟨b,0,none⟩ rfl _⟩
 ·refine(awe b w h.cell0).mono ?_;rintro e w' ⟨rfl,rfl⟩;exact⟨rfl,h,Below.refl B _,Lib.OthersKept.refl _ _ _⟩
theorem awg (B b:Nat)(bs:List Value)(c:Int)(w:World)(h:Lib.IsBuilderF 88 5 B b bs w)(hlen:bs.length+1<=140737488355328)(nP:B<=w.heap.size):
  Calls Tryz.prog 33 #[.pointer (some ⟨b,0,none⟩),.int .u8 c] w fun e w'=>e=.returned .nilIface/\(Lib.BuilderAtF 88 5 B b (.pointer (some ⟨b,0,none⟩)) (bs++[.int .u8 c]) w'/\Below B w w'/\Lib.OthersKept 5 (some b) w w'):=by
 obtain⟨i0,hi,fk,cQ,fy⟩:=wN infoByte;go_enter Tryz.func33,Tryz.ntmps33
 go_wp2_with (go_at_call 72;refine(aif B b bs _ h).mono ?_)
 rintro e w1 ⟨rfl,h1,cY,ej⟩;obtain⟨hB,v,oy,aT,hne⟩:=h1
 have c0:w1.cell? ⟨b,0,none⟩=some (.pointer (some ⟨b,0,none⟩)):=by rw[Lib.cell_of_heap oy];rfl
 have c1:w1.cell? ⟨b,1,none⟩=some v:=by rw[Lib.cell_of_heap oy];rfl
 go_wp2_with (at_builtin;refine wpList_append_ownF _ rfl _ _ 86 rfl B 5 i0 (.int .u8 0) 1 1 Tryz.underlying86 hi fk cQ fy rfl au _ _ _ rfl (aT.alloc _) ⟨w1.heap.size,0,none⟩ 1 1 [.int .u8 c] rfl rfl ?c1 ?c2 ?c3 ?c4 ?c5 ?_)
 case c1=>
  intro j u hj
  match j,hj with
  |0,hj=>simp at hj;subst hj;simp[Addr.add]
 case c2=>intro u hu;simp at hu;subst hu;rfl
 case c3=>unfold maxLen;omega
 case c4=>omega
 case c5=>have:=cY.size;simp;omega
 intro v' w2 OZ zd _
 have hlt:b<w1.heap.size:=by
  rcases BS b w1.heap.size with h'|h'
  ·exact h'
  ·simp[Array.getElem?_eq_none h'] at oy
 have fc:w2.heap[b]? =some (.cells #[.pointer (some ⟨b,0,none⟩),v] 88 (0,0)):=by
  rw[zd.block b bz (fun e=>hne e.symm),Lib.alloc_old w1 _ b hlt];exact oy
 have d0:w2.cell? ⟨b,0,none⟩=some (.pointer (some ⟨b,0,none⟩)):=by rw[Lib.cell_of_heap fc];rfl
 have d1:w2.cell? ⟨b,1,none⟩=some v:=by rw[Lib.cell_of_heap fc];rfl
 have f1:w2.frozen? ⟨b,1,none⟩=false:=Lib.frozen_of_heap fc 1
 obtain⟨g,cap,rfl⟩:∃g cap,v'=.slice (some ⟨g,0,none⟩) (bs.length+1) cap:=by
  rcases OZ.2 with⟨_,h0⟩|⟨g,cap,cur,fz,hv,_⟩
  ·omega
  ·exact⟨g,cap,hv⟩
 go_wp2;go_ret;refine⟨rfl,?_,?_,((ej.alloc _).grown zd (Lib.ownsRowF_kind (aT.alloc _))).setCell ⟨b,1,none⟩ rfl _⟩
 ·exact Lib.BuilderAtF.put (T:=88) (e:=5) hB fc (bs':=bs++[.int .u8 c]) (by simpa using OZ) au
 ·exact((cY.alloc (by have:=cY.size;omega) _).grown zd (by have:=cY.size;simp;omega) (fun k hk=>(aT.lt k hk).1)).setCell (p:=⟨b,1,none⟩) hB _
theorem awh (B b:Nat)(bs:List Value)(s:ByteArray)(w:World)(h:Lib.IsBuilderF 88 5 B b bs w)(hlen:bs.length+s.size<=140737488355328)(nP:B<=w.heap.size):
  Calls Tryz.prog 28 #[.pointer (some ⟨b,0,none⟩),.string s] w fun e w'=>e=.returned (.tuple #[.int .i64 s.size,.nilIface])/\(Lib.BuilderAtF 88 5 B b (.pointer (some ⟨b,0,none⟩)) (bs++Lib.strCells s) w'/\Below B w w'/\Lib.OthersKept 5 (some b) w w'):=by
 obtain⟨i0,hi,fk,cQ,fy⟩:=wN infoByte;go_enter Tryz.func28,Tryz.ntmps28
 go_wp2_with (go_at_call 72;refine(aif B b bs _ h).mono ?_)
 rintro e w1 ⟨rfl,h1,cY,ej⟩;obtain⟨hB,v,oy,aT,hne⟩:=h1
 have c0:w1.cell? ⟨b,0,none⟩=some (.pointer (some ⟨b,0,none⟩)):=by rw[Lib.cell_of_heap oy];rfl
 have c1:w1.cell? ⟨b,1,none⟩=some v:=by rw[Lib.cell_of_heap oy];rfl
 go_wp2_with (at_builtin;refine Lib.wpList_append_own_stringF _ rfl _ _ 86 9 rfl B 5 i0 Tryz.underlying86 Tryz.underlying9 hi fk cQ fy _ _ _ rfl aT s rfl ?c3 ?c4 ?c5 ?_)
 case c3=>unfold maxLen;omega
 case c4=>omega
 case c5=>have:=cY.size;omega
 intro v' w2 OZ zd _
 have hlt:b<w1.heap.size:=by
  rcases BS b w1.heap.size with h'|h'
  ·exact h'
  ·simp[Array.getElem?_eq_none h'] at oy
 have fc:w2.heap[b]? =some (.cells #[.pointer (some ⟨b,0,none⟩),v] 88 (0,0)):=by
  rw[zd.block b hlt (fun e=>hne e.symm)];exact oy
 have d0:w2.cell? ⟨b,0,none⟩=some (.pointer (some ⟨b,0,none⟩)):=by rw[Lib.cell_of_heap fc];rfl
 have d1:w2.cell? ⟨b,1,none⟩=some v:=by rw[Lib.cell_of_heap fc];rfl
 have f1:w2.frozen? ⟨b,1,none⟩=false:=Lib.frozen_of_heap fc 1
 obtain⟨ao,n',cap,rfl⟩:∃ao n' cap,v'=.slice ao n' cap:=by
  rcases OZ.2 with⟨hv,_⟩|⟨g,cap,cur,fz,hv,_⟩
  ·exact⟨_,_,_,hv⟩
  ·exact⟨_,_,_,hv⟩
 go_wp2;go_ret2;refine⟨rfl,?_,?_,(ej.grown zd (Lib.ownsRowF_kind aT)).setCell ⟨b,1,none⟩ rfl _⟩
 ·exact Lib.BuilderAtF.put (T:=88) (e:=5) hB fc (bs':=bs++Lib.strCells s) (by simpa [Lib.strCells_length] using OZ) au
 ·exact(cY.grown zd (by have:=cY.size;omega) (fun k hk=>(aT.lt k hk).1)).setCell (p:=⟨b,1,none⟩) hB _
end
section
open Go.RowKit
variable {B b gn q:Nat} {L:List (Nat×Nat)} {W W' W5 X Y:World} {arr cs:Array Value} {t:aq}
structure uj (B gn n:Nat)(W:World)(L:List (Nat×Nat))(arr:Array Value):Prop where
 bn:ay W gn arr
 ln:gn<B
 hB:B<=W.heap.size
 sn:arr.size=n
 row:∀a<n,∃va,arr[a]? =some va/\W.ownsRow B 3 1 va (aR L a).length (nv (aR L a))
 sep:∀(a a':Nat) (va gz:Value),a≠a'->arr[a]? =some va->arr[a']? =some gz->va.ownBlock=none\/va.ownBlock≠gz.ownBlock
theorem uj.kept{n:Nat}(h:uj B gn n W L arr)(hb:aw W W'):uj B gn n W' L arr:=
 { h with
  bn:=h.bn.kept hb h.bn.lt
  hB:=bm h.hB hb.size
  row:=fun a ha=>by
   obtain⟨va,h1,h2⟩:=h.row a ha
   exact⟨va,h1,pB h2 hb⟩ }
theorem uj.drew{n:Nat}(h:uj B gn n W L arr):uj B gn n W.drew L arr:=h.kept ((Below.refl _ W).drew)
theorem uj.start{n:Nat}(hn:ay W gn (eE n (.slice none 0 0)))(h1:gn<B)(hB:B<=W.heap.size):uj B gn n W [] (eE n (.slice none 0 0)) where
 bn:=hn
 ln:=h1
 hB:=hB
 sn:=AY _ _
 row:=fun a ha=>⟨_,CH _ _ _ ha,kz _ _ _ _⟩
 sep:=fun a a' va gz _ h1 _=>by
  have:va=.slice none 0 0:=by
   have hlt:=(nA.1 h1).1;rw[AY] at hlt;rw[CH _ _ _ hlt] at h1;exact(eA h1).symm
  subst this;exact .inl rfl
theorem uj.step{n:Nat}{W2:World}(h:uj B gn n W L arr)(p:Nat×Nat)(rE:p.1<n)(va:Value)(dX:arr[p.1]? =some va)
  (g cap:Nat) (aT:W2.ownsRow B 3 1 (.slice (some ⟨g,0,none⟩) ((aR L p.1).length+1) cap) ((aR L p.1).length+1) (nv (aR L p.1)++[I (p.2:Nat)])) (tZ:W.grownBy W2 va.ownBlock) (hg:va.ownBlock=some g\/W.heap.size<=g) (hsz:W.heap.size<=W2.heap.size):
  uj B gn n (W2.setCell ⟨gn,p.1,none⟩ (.slice (some ⟨g,0,none⟩) ((aR L p.1).length+1) cap)) (L++[p])
   (arr.setIfInBounds p.1 (.slice (some ⟨g,0,none⟩) ((aR L p.1).length+1) cap)):=by
 have Iz:va.ownBlock=none\/∃g,va.ownBlock=some g/\B<=g/\g<W.heap.size:=by
  obtain⟨gz,e1,e2⟩:=h.row p.1 rE;rw[dX] at e1;cases e1;exact ES e2
 have hne:∀x,x<B->va.ownBlock≠some x:=fun x hx e=>by
  rcases Iz with h0|⟨g',h0,h1,_⟩
  ·rw[h0] at e;cases e
  ·rw[h0] at e;cases e;omega
 have Lu:B<=g:=(aT.lt g rfl).1
 have iV:∀{gz:Value} {m:Nat} {xs:List Value},W2.ownsRow B 3 1 gz m xs->(W2.setCell ⟨gn,p.1,none⟩ (.slice (some ⟨g,0,none⟩) ((aR L p.1).length+1) cap)).ownsRow B 3 1 gz m xs:=by
  intro gz m xs ho
  have Tr:∀x,x<B->gz.ownBlock=none\/gz.ownBlock≠some x:=fun x hx=>by
   rcases ES ho with h0|⟨g',h0,h1,_⟩
   ·exact .inl h0
   ·exact .inr (by rw[h0];intro e;cases e;omega)
  have h1:W2.grownBy (W2.setCell ⟨gn,p.1,none⟩ (.slice (some ⟨g,0,none⟩) ((aR L p.1).length+1) cap)) (some gn):=⟨rfl,rfl,rfl,ai,fun k _ hk=>uJ _ _ _ _ (fun e=>hk (by rw[e]))⟩
  exact ho.kept h1 (Tr gn h.ln)
 exact {
  bn:=(h.bn.grown tZ (hne gn h.ln)).set p.1 _
  ln:=h.ln
  hB:=by simp only[World.size_setCell];exact bm h.hB hsz
  sn:=by rw[yc];exact h.sn
  row:=fun a ha=>by
   by_cases e:p.1=a
   ·subst e;refine⟨_,by rw[oI (by rw[h.sn];exact rE)],?_⟩;rw[Tq,aj rfl];have:=iV aT;simpa [nv] using this
   ·obtain⟨gz,e1,e2⟩:=h.row a ha;refine⟨gz,by rw[nz e];exact e1,?_⟩;rw[Tq,af e];exact iV (e2.kept tZ (h.sep a p.1 gz va (fun x=>e x.symm) e1 dX))
  sep:=fun a a' x y IA hx hy=>by
   by_cases e:p.1=a
   ·subst e;rw[oI (by rw[h.sn];exact rE)] at hx;cases hx;rw[nz IA] at hy;right;intro e2;have vM:y.ownBlock=some g:=e2.symm
    have ha':a'<n:=by have:=(nA.1 hy).1;rw[h.sn] at this;exact this
    obtain⟨y',f1,f2⟩:=h.row a' ha';rw[hy] at f1;cases f1;have hlt:=(f2.lt g vM).2
    rcases hg with hg|hg
    ·rcases h.sep p.1 a' va y IA dX hy with h0|h0
     ·rw[h0] at hg;cases hg
     ·exact h0 (hg.trans vM.symm)
    ·omega
   ·rw[nz e] at hx;by_cases e':p.1=a'
    ·subst e';rw[oI (by rw[h.sn];exact rE)] at hy;cases hy;right;intro e2;have uf:x.ownBlock=some g:=e2
     have ha:a<n:=by have:=(nA.1 hx).1;rw[h.sn] at this;exact this
     obtain⟨x',f1,f2⟩:=h.row a ha;rw[hx] at f1;cases f1;have hlt:=(f2.lt g uf).2
     rcases hg with hg|hg
     ·rcases h.sep p.1 a va x (fun z=>e z) dX hx with h0|h0
      ·rw[h0] at hg;cases hg
      ·exact h0 (hg.trans uf.symm)
     ·omega
    ·rw[nz e'] at hy
     exact h.sep a a' x y IA hx hy }
def Bd (W:World)(b:Nat)(t:aq):Prop:=Lib.IsBuilderF 88 5 b b (Lib.byteCells t) W
theorem Bd.kept(h:Bd W b t)(hb:aw W W'):Bd W' b t:=
 h.elim (fun x=> .inl (Lib.BuilderAtF.below x hb)) (fun x=> .inr (Lib.BuilderAtF.below x hb))
theorem Bd.lt(h:Bd W b t):b<W.heap.size:=h.elim (fun x=>x.lt) (fun x=>x.lt)
theorem Bd.new(W:World):Bd (W.alloc (.cells #[.pointer none,.slice none 0 0] 88)) W.heap.size []:=
 .inl ⟨cP _,.slice none 0 0,dY _ _,⟨rfl,.inl ⟨rfl,rfl⟩⟩,by simp[Value.ownBlock]⟩
structure IP (W W':World)(b:Nat)(t:aq):Prop where
 bd:Bd W' b t
 below:Below b W W'
 others:∀(k:Nat) (cs:Array Value) (T:TypeId) (fz:Nat×Nat),W.heap[k]? =some (.cells cs T fz)->k≠b->T≠5->W'.heap[k]? =some (.cells cs T fz)
theorem IP.of(h:Lib.BuilderAtF 88 5 b b (.pointer (some ⟨b,0,none⟩)) (Lib.byteCells t) W')(hb:Below b W W')(ho:Lib.OthersKept 5 (some b) W W'):IP W W' b t where
 bd:=.inr h
 below:=hb
 others:=fun k cs T fz hk xk hT=>ho k _ hk (fun e=>xk (eA e)) (fun c f e=>hT (by injection e))
theorem Pa(W:World)(b:Nat)(t s:aq)(h:Bd W b t)(hl:t.length+s.length<=140737488355328):
  Calls Tryz.prog 28 #[.pointer (some ⟨b,0,none⟩),sv s] W fun e W'=>e=.returned (.tuple #[.int .i64 (s.length:Nat),.nilIface])/\IP W W' b (t++s):=by
 have hz:(⟨s.toArray⟩:ByteArray).size=s.length:=by simp[ByteArray.size]
 refine(awh b b (Lib.byteCells t) ⟨s.toArray⟩ W h (by rw[Lib.byteCells_length,hz];exact hl) (BU h.lt)).mono ?_;rintro e W' ⟨rfl,h1,h2,h3⟩;rw[show Lib.strCells ⟨s.toArray⟩=Lib.byteCells s from rfl,<-Lib.byteCells_append] at h1;exact⟨by rw[hz],IP.of h1 h2 h3⟩
theorem TD(W:World)(b:Nat)(t:aq)(h:Bd W b t)(hl:t.length+1<=140737488355328):
  Calls Tryz.prog 33 #[.pointer (some ⟨b,0,none⟩),.int .u8 10] W fun e W'=>e=.returned .nilIface/\IP W W' b (t++[10]):=by
 refine(awg b b (Lib.byteCells t) 10 W h (by rw[Lib.byteCells_length];exact hl) (BU h.lt)).mono ?_;rintro e W' ⟨rfl,h1,h2,h3⟩;rw[show Lib.byteCells t++[.int .u8 10]=Lib.byteCells (t++[10]) by rw[Lib.byteCells_append];rfl] at h1;exact⟨rfl,IP.of h1 h2 h3⟩
theorem awi(W:World)(b:Nat)(t:aq)(h:Bd W b t):
  Calls Tryz.prog 34 #[.pointer (some ⟨b,0,none⟩)] W fun e W'=>e=.returned (sv t)/\Below b W W':=by
 refine(Tryz.Builder_String_any_k b b t W h (BU h.lt)).mono ?_;rintro e W' ⟨rfl,h1,h2,h3⟩;exact⟨rfl,h2⟩
structure PS (W5 X:World)(q:Nat)(cs:Array Value)(t:aq):Prop where
 row:X.heap[q]? =some (.cells cs 45 (0,0))
 below:aw W5 X
 bd:Bd X W5.heap.size t
 lt:W5.heap.size<q
theorem PS.qlt(h:PS W5 X q cs t):q<X.heap.size:=(nA.1 h.row).1
theorem PS.then(h:PS W5 X q cs t)(D:aw X Y):PS W5 Y q cs t where
 row:=(D.block q h.qlt).trans h.row
 below:=h.below.trans (D.mono h.below.size)
 bd:=h.bd.kept D
 lt:=h.lt
theorem PS.drew(h:PS W5 X q cs t):PS W5 X.drew q cs t:=h.then ((Below.refl _ X).drew)
theorem PS.alloc(h:PS W5 X q cs t)(o:Obj):PS W5 (X.alloc o) q cs t:=h.then ((Below.refl _ X).alloc ax o)
theorem PS.wrote{t':aq}(h:PS W5 X q cs t)(D:IP X Y W5.heap.size t'):PS W5 Y q cs t' where
 row:=D.others q cs _ _ h.row (by have:=h.lt;omega) au
 below:=h.below.trans D.below
 bd:=D.bd
 lt:=h.lt
theorem PS.cell(h:PS W5 X q cs t):∀j,X.cell? ⟨q,j,none⟩=cs[j]? :=fun j=>ay.cell ⟨_,h.row⟩ j
end
end Go.Proofs.YtkanpepkdcmpmaaGreatDoor
