/- errors.As at the one target of hop.Step. -/
import Derived.Test.YtdlkjofnnefjfaaGreatDoorZShort
import Derived.Test.YtdlkjofnnefjfaaGreatDoorZMay
import Derived.Stop.Asserts
set_option linter.all false
namespace Go.Proofs.YtdlkjofnnefjfaaGreatDoor
set_option maxRecDepth 100000
section
open Go.RowKit Go.Extern.Stop Go.Stop Go.Extern
theorem za5 (t:Addr) (w:World):(ReflectliteValue.unpack (.iface 134 (.pointer (some t)))).run Tryz.prog w
  = .ok (.agg #[.pointer (some ⟨6,134,none⟩),.pointer (some ⟨w.heap.size,0,none⟩),.int .u64 150]) (w.alloc (.cells #[.pointer (some t)] 134)):=by kernel_rfl
theorem zbG (a:Addr) (w:World):(ReflectliteValue.methodAny (ReflectliteValue.valueError "reflectlite.Value.Type" 0) (fun t _ _ _=>ReflectliteType.toType t) #[.agg #[.pointer (some ⟨6,134,none⟩),.pointer (some a),.int .u64 150]]).run Tryz.prog w
  = .ok (.iface 251 (.agg #[.pointer (some ⟨6,134,none⟩)])) w:=by kernel_rfl
theorem zbF (w:World):((ReflectliteType.abiMethod fun t=>(fun a:Nat=>Value.int IntKind.u8 (a:Int)) <$> Rtype.kind t) #[.pointer (some ⟨6,134,none⟩)]).run Tryz.prog w=.ok (.int .u8 22) w:=by kernel_rfl
theorem zbE (w:World):((ReflectliteType.abiMethod fun t=>(fun a:Nat=>Value.int IntKind.u8 (a:Int)) <$> Rtype.kind t) #[.pointer (some ⟨6,128,none⟩)]).run Tryz.prog w=.ok (.int .u8 25) w:=by kernel_rfl
theorem za3 (h:Value) (w:World):(Go.method 488 251 (.agg #[h]) "Kind").run Tryz.prog w=.ok (296,h) w:=by kernel_rfl
theorem za2 (h:Value) (w:World):(Go.method 488 251 (.agg #[h]) "Elem").run Tryz.prog w=.ok (317,.agg #[h]) w:=by kernel_rfl
theorem zaF (h:Value) (w:World):(Go.method 488 251 (.agg #[h]) "Implements").run Tryz.prog w=.ok (318,.agg #[h]) w:=by kernel_rfl
theorem zaB (h:Value) (w:World):(Go.method 488 251 (.agg #[h]) "AssignableTo").run Tryz.prog w=.ok (315,.agg #[h]) w:=by kernel_rfl
theorem zcN (h:Value) (w:World):(Go.method 488 132 (.agg #[h]) "Unwrap").run Tryz.prog w=.ok (301,.agg #[h]) w:=by kernel_rfl
theorem zbD (w:World):(ReflectliteType.method ReflectliteType.elem #[.agg #[.pointer (some ⟨6,134,none⟩)]]).run Tryz.prog w=.ok (.iface 251 (.agg #[.pointer (some ⟨6,128,none⟩)])) w:=by kernel_rfl
theorem zaM (w:World):(ReflectliteType.relation "Implements" ReflectliteType.implements_ #[.agg #[.pointer (some ⟨6,128,none⟩)],.iface 251 (.agg #[.pointer (some ⟨6,123,none⟩)])]).run Tryz.prog w=.ok (.bool true) w:=by kernel_rfl
theorem zbe (v:Value) (w:World):(ReflectliteType.typeOf #[.iface 128 v]).run Tryz.prog w=.ok (.iface 251 (.agg #[.pointer (some ⟨6,128,none⟩)])) w:=by kernel_rfl
theorem zd1 (v:Value) (w:World):(ReflectliteType.typeOf #[.iface 132 v]).run Tryz.prog w=.ok (.iface 251 (.agg #[.pointer (some ⟨6,132,none⟩)])) w:=by kernel_rfl
theorem zaL (w:World):(ReflectliteType.relation "AssignableTo" ReflectliteType.assignableTo #[.agg #[.pointer (some ⟨6,128,none⟩)],.iface 251 (.agg #[.pointer (some ⟨6,128,none⟩)])]).run Tryz.prog w=.ok (.bool true) w:=by kernel_rfl
theorem zci (w:World):(ReflectliteType.relation "AssignableTo" ReflectliteType.assignableTo #[.agg #[.pointer (some ⟨6,132,none⟩)],.iface 251 (.agg #[.pointer (some ⟨6,128,none⟩)])]).run Tryz.prog w=.ok (.bool false) w:=by kernel_rfl
theorem za4 (e:Int) (w:World):(ReflectliteValue.unpack (.iface 128 (.agg #[.int .i64 e]))).run Tryz.prog w
  = .ok (.agg #[.pointer (some ⟨6,128,none⟩),.pointer (some ⟨w.heap.size,0,none⟩),.int .u64 153]) (w.alloc (.cells #[.int .i64 e] 128)):=by kernel_rfl
theorem zhF (z:Sem Value) (f:TypeId→Addr→Nat→Nat→Sem Value) (v:Value) :
  ReflectliteValue.method z f #[v]=(do match ← ReflectliteValue.parts v with|none=>z|some (t,a,fl)=>f t a fl (fl % 32)):=rfl
theorem zcO (a:Addr) (w:World):(ReflectliteValue.parts (.agg #[.pointer (some ⟨6,134,none⟩),.pointer (some a),.int .u64 150])).run Tryz.prog w=.ok (some (134,a,150)) w:=by kernel_rfl
theorem zcM (a p:Addr) (W:World) (ha:W.cell? a=some (.pointer (some p))) :
  (ReflectliteValue.method (ReflectliteValue.valueError "reflectlite.Value.IsNil" 0) ReflectliteValue.isNil #[.agg #[.pointer (some ⟨6,134,none⟩),.pointer (some a),.int .u64 150]]).run Tryz.prog W=.ok (.bool false) W:=by
 rw[zhF]
 simp only[Sem.run_bind,zcO,Result.andThen]
 simp[ReflectliteValue.isNil,loadVar,isAgg,underlying,Tryz.underlying134,ha,Result.andThen]
theorem zdY (w:World):(Rtype.elem? 134).run Tryz.prog w=.ok (some 128) w:=by kernel_rfl
theorem zhm (p:Addr) (w:World):(ReflectliteValue.mk 128 p ReflectliteValue.flagAddr).run Tryz.prog w=.ok (.agg #[.pointer (some ⟨6,128,none⟩),.pointer (some p),.int .u64 409]) w:=by kernel_rfl
theorem zcL (a p:Addr) (W:World) (ha:W.cell? a=some (.pointer (some p))) :
  (ReflectliteValue.method (ReflectliteValue.valueError "reflectlite.Value.Elem" 0) ReflectliteValue.elem #[.agg #[.pointer (some ⟨6,134,none⟩),.pointer (some a),.int .u64 150]]).run Tryz.prog W
   = .ok (.agg #[.pointer (some ⟨6,128,none⟩),.pointer (some p),.int .u64 409]) W:=by
 rw[zhF]
 simp only[Sem.run_bind,zcO,Result.andThen]
 simp[ReflectliteValue.elem,loadVar,isAgg,underlying,Tryz.underlying134,ha,Result.andThen,zdY,zhm]
theorem ziq (v x:Value):ReflectliteValue.set #[v,x]=(do
  let (some (dst,a,fl),some (src,b,_)):=(← ReflectliteValue.parts v,← ReflectliteValue.parts x)
   | unsupported (.noEntry "extern/(internal/reflectlite.Value).Set.zeroValue")
  if fl / ReflectliteValue.flagAddr % 2 == 0 then unsupported (.noEntry "extern/(internal/reflectlite.Value).Set.unaddressable")
  let val ← loadVar src b
  if ← Rtype.directlyAssignable dst src then storeVar dst a val
  else if ← Rtype.implements dst src then
   if (← Rtype.kind src) == 20 then
    match val with
    | .nilIface=>unsupported (.noEntry "extern/reflectlite: a nil value of one interface type handed on as a value of another")
    | _=>storeVar dst a val
   else storeVar dst a (.iface src val)
  else panicString ("reflectlite.Set: value of type " ++ (← Rtype.spelt src) ++ " is not assignable to type " ++ (← Rtype.spelt dst))
  pure (.tuple #[])):=rfl
theorem zdZ (a:Addr) (w:World):(ReflectliteValue.parts (.agg #[.pointer (some ⟨6,128,none⟩),.pointer (some a),.int .u64 409])).run Tryz.prog w=.ok (some (128,a,409)) w:=by kernel_rfl
theorem zeG (a:Addr) (w:World):(ReflectliteValue.parts (.agg #[.pointer (some ⟨6,128,none⟩),.pointer (some a),.int .u64 153])).run Tryz.prog w=.ok (some (128,a,153)) w:=by kernel_rfl
theorem zdX (w:World):(Rtype.directlyAssignable 128 128).run Tryz.prog w=.ok true w:=by kernel_rfl
theorem zfA (b:Nat) (e:Int) (fr:Nat×Nat) (W:World) (hb:W.heap[b]? = some (.cells #[.int .i64 e] 128 fr)):(loadVar 128 ⟨b,0,none⟩).run Tryz.prog W=.ok (.agg #[.int .i64 e]) W :=
 run_loadVar_row W b 128 128 #[.int .i64 e] fr _ hb Tryz.underlying128 rfl (by kernel_rfl)
theorem zd0 (ta b:Nat) (e:Int) (old:Value) (fr:Nat×Nat) (W:World) (hb:W.heap[b]? = some (.cells #[.int .i64 e] 128 fr)) (ht:W.cell? ⟨ta,0,none⟩=some old) (hf:W.frozen? ⟨ta,0,none⟩=false) :
  (ReflectliteValue.set #[.agg #[.pointer (some ⟨6,128,none⟩),.pointer (some ⟨ta,0,none⟩),.int .u64 409],.agg #[.pointer (some ⟨6,128,none⟩),.pointer (some ⟨b,0,none⟩),.int .u64 153]]).run Tryz.prog W
   = .ok (.tuple #[]) (W.setCell ⟨ta,0,none⟩ (.int .i64 e)):=by
 rw[ziq]
 simp only[Sem.run_bind,zdZ,zeG,Result.andThen]
 simp[ReflectliteValue.flagAddr,zfA b e fr W hb,Result.andThen,zdX,storeVar,Value.cells,storeCells,Addr.add]
 rw[run_store Tryz.prog W ⟨ta,0,none⟩ _ _ (by rfl)]
 simp[ht,hf]
end
section
open Go.RowKit Go.Extern.Stop Go.Stop Go.Extern
theorem za0 {B t:Nat} {w w':World} (h:Below B w w') (ht:t < B) (v:Value):Below B (w.setCell ⟨t,0,none⟩ v) (w'.setCell ⟨t,0,none⟩ v):=by
 refine⟨h.os,h.tape,h.output,by simpa using h.size,fun k hk=>?_⟩
 by_cases e:k=t
 ·subst e
  have hb:=h.block k hk
  simp only[World.setCell]
  rw[Array.getElem?_modify,Array.getElem?_modify,hb]
 ·rw[yG _ _ _ _ e,yG _ _ _ _ e,h.block k hk]
set_option maxHeartbeats 4000000 in
theorem zit (e:Int) (t vb:Nat) (old tv:Value) (w:World) (ht:w.heap[t]? = some (.cells #[old] 128 (0,0))) (hv:w.heap[vb]? = some (.cells #[.pointer (some ⟨t,0,none⟩)] 134 (0,0))) :
  Calls Tryz.prog 134 #[.iface 128 (.agg #[.int .i64 e]),tv,.agg #[.pointer (some ⟨6,134,none⟩),.pointer (some ⟨vb,0,none⟩),.int .u64 150],.iface 251 (.agg #[.pointer (some ⟨6,128,none⟩)])] w fun ev w'=>ev=.returned (.bool true)∧Below w.heap.size (w.setCell ⟨t,0,none⟩ (.int .i64 e)) w':=by
 have h131:=@yL Tryz.prog 131 _ (fun args=>ReflectliteValue.unpack (args.getD 0 (.tuple #[]))) Tryz.func131 (by kernel_rfl) (by kernel_rfl) (by kernel_rfl) (by kernel_rfl)
 have h132:=@yL Tryz.prog 132 _ (ReflectliteValue.methodAny (ReflectliteValue.valueError "reflectlite.Value.Type" 0) (fun t _ _ _=>ReflectliteType.toType t)) Tryz.func132 (by kernel_rfl) (by kernel_rfl) (by kernel_rfl) (by kernel_rfl)
 have h133:=@yL Tryz.prog 133 _ (ReflectliteValue.method (ReflectliteValue.valueError "reflectlite.Value.IsNil" 0) ReflectliteValue.isNil) Tryz.func133 (by kernel_rfl) (by kernel_rfl) (by kernel_rfl) (by kernel_rfl)
 have h296:=@yL Tryz.prog 296 _ (ReflectliteType.abiMethod fun t=>do pure (.int .u8 (← Rtype.kind t))) Tryz.func296 (by kernel_rfl) (by kernel_rfl) (by kernel_rfl) (by kernel_rfl)
 have h317:=@yL Tryz.prog 317 _ (ReflectliteType.method ReflectliteType.elem) Tryz.func317 (by kernel_rfl) (by kernel_rfl) (by kernel_rfl) (by kernel_rfl)
 have h318:=@yL Tryz.prog 318 _ (ReflectliteType.relation "Implements" ReflectliteType.implements_) Tryz.func318 (by kernel_rfl) (by kernel_rfl) (by kernel_rfl) (by kernel_rfl)
 have h188:=@yL Tryz.prog 188 _ ReflectliteType.typeOf Tryz.func188 (by kernel_rfl) (by kernel_rfl) (by kernel_rfl) (by kernel_rfl)
 have h315:=@yL Tryz.prog 315 _ (ReflectliteType.relation "AssignableTo" ReflectliteType.assignableTo) Tryz.func315 (by kernel_rfl) (by kernel_rfl) (by kernel_rfl) (by kernel_rfl)
 have h189:=@yL Tryz.prog 189 _ (ReflectliteValue.method (ReflectliteValue.valueError "reflectlite.Value.Elem" 0) ReflectliteValue.elem) Tryz.func189 (by kernel_rfl) (by kernel_rfl) (by kernel_rfl) (by kernel_rfl)
 have h190:=@yL Tryz.prog 190 _ ReflectliteValue.set Tryz.func190 (by kernel_rfl) (by kernel_rfl) (by kernel_rfl) (by kernel_rfl)
 have tO:=zbe
 have mA:=zaB
 have a25:=zaL
 have v25:=za4
 have f6:=za5
 have f7:=zbG
 have mK:=za3
 have mE:=za2
 have mI:=zaF
 have k27:=zbF
 have k25:=zbE
 have e27:=zbD
 have i25:=zaM
 have htl:=yS ht
 have hvl:=yS hv
 obtain⟨ov,hov⟩:∃ o,o=Obj.cells #[.pointer (some ⟨6,134,none⟩),.pointer (some ⟨vb,0,none⟩),.int .u64 150] 182 (0,0):=⟨_,rfl⟩
 obtain⟨oe,hoe⟩:∃ o,o=Obj.cells #[.int .i64 e] 128 (0,0):=⟨_,rfl⟩
 have B1:Below w.heap.size w (w.alloc ov):=(Below.refl _ _).alloc (yV _) _
 have B2:Below w.heap.size w ((w.alloc ov).alloc oe):=B1.alloc (by simp) _
 have el:=zcL ⟨vb,0,none⟩ ⟨t,0,none⟩ (w.alloc ov) (yE (kept B1 hv) 0 _ rfl)
 have R2:((w.alloc ov).alloc oe).heap[w.heap.size + 1]? = some (.cells #[.int .i64 e] 128 (0,0)):=by
  have h:=World.alloc_heap_new (w.alloc ov) oe
  rw[World.size_alloc,hoe] at h
  rw[hoe];exact h
 have T2:=kept B2 ht
 have st:=zd0 t (w.heap.size + 1) e old (0,0) ((w.alloc ov).alloc oe) R2 (yE T2 0 _ rfl) (yF T2 0)
 have HB:=Lib.hid (za0 B2 htl (.int .i64 e))
 rw[hov] at el
 rw[hov,hoe] at st HB
 clear hov hoe B1 B2 R2 T2 ht hv
 go_enter Tryz.func134,Tryz.ntmps134
 go_wp2
 refine wp_loop_rounds 1 ?_
 rw[rounds_succ]
 go_wp2
 go_ret
 exact⟨rfl,((Below.refl _ _).alloc (by simp) _).alloc (by simp) _⟩
theorem zh6 (v:Value) (w:World):(Instr.typeAssert (.iface 132 v) 123 256 true).run Tryz.prog w=.ok (.tuple #[.nilIface,.bool false]) w:=run_typeAssert_lacksB Tryz.underlying256 (by kernel_rfl) (by kernel_rfl) v 123 w
theorem zfB (v:Value) (w:World):(Instr.typeAssert (.iface 132 v) 123 259 true).run Tryz.prog w=.ok (.tuple #[.iface 132 v,.bool true]) w:=run_typeAssert_hasB Tryz.underlying259 (by kernel_rfl) v 123 w
theorem zfE (v:Value) (w:World):Calls Tryz.prog 301 #[.agg #[v]] w fun e w'=>e=.returned v∧w.alloc (.cells #[v] 132)=w':=by
 go_enter Tryz.func301,Tryz.ntmps301
 go_wp2
 go_ret
 exact⟨rfl,rfl⟩
set_option maxHeartbeats 4000000 in
theorem zik (e:Int) (t vb:Nat) (old tv:Value) (w:World) (ht:w.heap[t]? = some (.cells #[old] 128 (0,0))) (hv:w.heap[vb]? = some (.cells #[.pointer (some ⟨t,0,none⟩)] 134 (0,0))) :
  Calls Tryz.prog 134 #[.iface 132 (.agg #[.iface 128 (.agg #[.int .i64 e])]),tv,.agg #[.pointer (some ⟨6,134,none⟩),.pointer (some ⟨vb,0,none⟩),.int .u64 150],.iface 251 (.agg #[.pointer (some ⟨6,128,none⟩)])] w fun ev w'=>ev=.returned (.bool true)∧Below w.heap.size (w.setCell ⟨t,0,none⟩ (.int .i64 e)) w':=by
 have h131:=@yL Tryz.prog 131 _ (fun args=>ReflectliteValue.unpack (args.getD 0 (.tuple #[]))) Tryz.func131 (by kernel_rfl) (by kernel_rfl) (by kernel_rfl) (by kernel_rfl)
 have h132:=@yL Tryz.prog 132 _ (ReflectliteValue.methodAny (ReflectliteValue.valueError "reflectlite.Value.Type" 0) (fun t _ _ _=>ReflectliteType.toType t)) Tryz.func132 (by kernel_rfl) (by kernel_rfl) (by kernel_rfl) (by kernel_rfl)
 have h133:=@yL Tryz.prog 133 _ (ReflectliteValue.method (ReflectliteValue.valueError "reflectlite.Value.IsNil" 0) ReflectliteValue.isNil) Tryz.func133 (by kernel_rfl) (by kernel_rfl) (by kernel_rfl) (by kernel_rfl)
 have h296:=@yL Tryz.prog 296 _ (ReflectliteType.abiMethod fun t=>do pure (.int .u8 (← Rtype.kind t))) Tryz.func296 (by kernel_rfl) (by kernel_rfl) (by kernel_rfl) (by kernel_rfl)
 have h317:=@yL Tryz.prog 317 _ (ReflectliteType.method ReflectliteType.elem) Tryz.func317 (by kernel_rfl) (by kernel_rfl) (by kernel_rfl) (by kernel_rfl)
 have h318:=@yL Tryz.prog 318 _ (ReflectliteType.relation "Implements" ReflectliteType.implements_) Tryz.func318 (by kernel_rfl) (by kernel_rfl) (by kernel_rfl) (by kernel_rfl)
 have h188:=@yL Tryz.prog 188 _ ReflectliteType.typeOf Tryz.func188 (by kernel_rfl) (by kernel_rfl) (by kernel_rfl) (by kernel_rfl)
 have h315:=@yL Tryz.prog 315 _ (ReflectliteType.relation "AssignableTo" ReflectliteType.assignableTo) Tryz.func315 (by kernel_rfl) (by kernel_rfl) (by kernel_rfl) (by kernel_rfl)
 have h189:=@yL Tryz.prog 189 _ (ReflectliteValue.method (ReflectliteValue.valueError "reflectlite.Value.Elem" 0) ReflectliteValue.elem) Tryz.func189 (by kernel_rfl) (by kernel_rfl) (by kernel_rfl) (by kernel_rfl)
 have h190:=@yL Tryz.prog 190 _ ReflectliteValue.set Tryz.func190 (by kernel_rfl) (by kernel_rfl) (by kernel_rfl) (by kernel_rfl)
 have tO:=zbe
 have mA:=zaB
 have a25:=zaL
 have v25:=za4
 have f6:=za5
 have f7:=zbG
 have mK:=za3
 have mE:=za2
 have mI:=zaF
 have k27:=zbF
 have k25:=zbE
 have e27:=zbD
 have i25:=zaM
 have tO2:=zd1
 have a2:=zci
 have mU:=zcN
 have ta1:=zh6
 have ta2:=zfB
 have HU:=fun w=>Lib.hid (zfE (.iface 128 (.agg #[.int .i64 e])) w)
 have htl:=yS ht
 have hvl:=yS hv
 obtain⟨ov,hov⟩:∃ o,o=Obj.cells #[.pointer (some ⟨6,134,none⟩),.pointer (some ⟨vb,0,none⟩),.int .u64 150] 182 (0,0):=⟨_,rfl⟩
 obtain⟨ou,hou⟩:∃ o,o=Obj.cells #[.iface 128 (.agg #[.int .i64 e])] 132 (0,0):=⟨_,rfl⟩
 obtain⟨oe,hoe⟩:∃ o,o=Obj.cells #[.int .i64 e] 128 (0,0):=⟨_,rfl⟩
 have B1:Below w.heap.size w (w.alloc ov):=(Below.refl _ _).alloc (yV _) _
 have BU:Below w.heap.size w ((w.alloc ov).alloc ou):=B1.alloc (by simp) _
 have B2:Below w.heap.size w (((w.alloc ov).alloc ou).alloc oe):=BU.alloc (by simp;omega) _
 have el:=zcL ⟨vb,0,none⟩ ⟨t,0,none⟩ ((w.alloc ov).alloc ou) (yE (kept BU hv) 0 _ rfl)
 have R2:(((w.alloc ov).alloc ou).alloc oe).heap[w.heap.size + 1 + 1]? = some (.cells #[.int .i64 e] 128 (0,0)):=by
  have h:=World.alloc_heap_new ((w.alloc ov).alloc ou) oe
  rw[World.size_alloc,World.size_alloc,hoe] at h
  rw[hoe];exact h
 have T2:=kept B2 ht
 have st:=zd0 t (w.heap.size + 1 + 1) e old (0,0) (((w.alloc ov).alloc ou).alloc oe) R2 (yE T2 0 _ rfl) (yF T2 0)
 have HB:=Lib.hid (za0 B2 htl (.int .i64 e))
 rw[hov,hou] at el
 rw[hov,hou,hoe] at st HB
 clear hov hou hoe B1 BU B2 R2 T2 ht hv
 go_enter Tryz.func134,Tryz.ntmps134
 go_wp2
 refine wp_loop_rounds 2 ?_
 rw[rounds_succ]
 go_wp2_with (first|(go_at_call 301;refine(HU _).out.mono ?_;rintro e2 w2 ⟨rfl,rfl⟩))
 rw[rounds_succ]
 go_wp2
 go_ret
 exact⟨rfl,HB.out⟩
set_option maxHeartbeats 4000000 in
theorem zgS (e:Int) (t:Nat) (old:Value) (w:World) (G:Glob w) (ht:w.heap[t]? = some (.cells #[old] 128 (0,0))) :
  Calls Tryz.prog 81 #[.iface 128 (.agg #[.int .i64 e]),.iface 134 (.pointer (some ⟨t,0,none⟩))] w fun ev w'=>ev=.returned (.bool true)∧Below w.heap.size (w.setCell ⟨t,0,none⟩ (.int .i64 e)) w':=by
 have h131:=@yL Tryz.prog 131 _ (fun args=>ReflectliteValue.unpack (args.getD 0 (.tuple #[]))) Tryz.func131 (by kernel_rfl) (by kernel_rfl) (by kernel_rfl) (by kernel_rfl)
 have h132:=@yL Tryz.prog 132 _ (ReflectliteValue.methodAny (ReflectliteValue.valueError "reflectlite.Value.Type" 0) (fun t _ _ _=>ReflectliteType.toType t)) Tryz.func132 (by kernel_rfl) (by kernel_rfl) (by kernel_rfl) (by kernel_rfl)
 have h133:=@yL Tryz.prog 133 _ (ReflectliteValue.method (ReflectliteValue.valueError "reflectlite.Value.IsNil" 0) ReflectliteValue.isNil) Tryz.func133 (by kernel_rfl) (by kernel_rfl) (by kernel_rfl) (by kernel_rfl)
 have h296:=@yL Tryz.prog 296 _ (ReflectliteType.abiMethod fun t=>do pure (.int .u8 (← Rtype.kind t))) Tryz.func296 (by kernel_rfl) (by kernel_rfl) (by kernel_rfl) (by kernel_rfl)
 have h317:=@yL Tryz.prog 317 _ (ReflectliteType.method ReflectliteType.elem) Tryz.func317 (by kernel_rfl) (by kernel_rfl) (by kernel_rfl) (by kernel_rfl)
 have h318:=@yL Tryz.prog 318 _ (ReflectliteType.relation "Implements" ReflectliteType.implements_) Tryz.func318 (by kernel_rfl) (by kernel_rfl) (by kernel_rfl) (by kernel_rfl)
 have h188:=@yL Tryz.prog 188 _ ReflectliteType.typeOf Tryz.func188 (by kernel_rfl) (by kernel_rfl) (by kernel_rfl) (by kernel_rfl)
 have h315:=@yL Tryz.prog 315 _ (ReflectliteType.relation "AssignableTo" ReflectliteType.assignableTo) Tryz.func315 (by kernel_rfl) (by kernel_rfl) (by kernel_rfl) (by kernel_rfl)
 have h189:=@yL Tryz.prog 189 _ (ReflectliteValue.method (ReflectliteValue.valueError "reflectlite.Value.Elem" 0) ReflectliteValue.elem) Tryz.func189 (by kernel_rfl) (by kernel_rfl) (by kernel_rfl) (by kernel_rfl)
 have h190:=@yL Tryz.prog 190 _ ReflectliteValue.set Tryz.func190 (by kernel_rfl) (by kernel_rfl) (by kernel_rfl) (by kernel_rfl)
 have tO:=zbe
 have mA:=zaB
 have a25:=zaL
 have v25:=za4
 have f6:=za5
 have f7:=zbG
 have mK:=za3
 have mE:=za2
 have mI:=zaF
 have k27:=zbF
 have k25:=zbE
 have e27:=zbD
 have i25:=zaM
 have htl:=yS ht
 obtain⟨op,hop⟩:∃ o,o=Obj.cells #[.pointer (some ⟨t,0,none⟩)] 134 (0,0):=⟨_,rfl⟩
 obtain⟨ov,hov⟩:∃ o,o=Obj.cells #[.pointer (some ⟨6,134,none⟩),.pointer (some ⟨w.heap.size,0,none⟩),.int .u64 150] 182 (0,0):=⟨_,rfl⟩
 have B1:Below w.heap.size w (w.alloc op):=(Below.refl _ _).alloc (yV _) _
 have B2:Below w.heap.size w ((w.alloc op).alloc ov):=B1.alloc (by simp) _
 have R1:((w.alloc op).alloc ov).heap[w.heap.size]? = some (.cells #[.pointer (some ⟨t,0,none⟩)] 134 (0,0)):=by
  rw[← hop];exact row2a _ _ _
 have n1:=zcM ⟨w.heap.size,0,none⟩ ⟨t,0,none⟩ ((w.alloc op).alloc ov) (yE R1 0 _ rfl)
 have g1:=(G.below B2).err
 have HI:=Lib.hid (zit e t w.heap.size old (.iface 134 (.pointer (some ⟨t,0,none⟩))) _ (kept B2 ht) R1)
 have HB:=Lib.hid (za0 B2 htl (.int .i64 e))
 have hz:Hid (((w.alloc op).alloc ov).heap.size=w.heap.size + 2):=by show _=_;simp
 have hpo:=Lib.hid hop
 rw[hop,hov] at n1 g1 HI HB hz
 clear hop hov B1 B2 R1 hpo
 go_enter Tryz.func81,Tryz.ntmps81
 go_wp2_with (first|(go_at_call 134;refine HI.out.mono ?_;rintro e2 w2 ⟨rfl,b2⟩))
 go_ret
 exact⟨rfl,HB.out.trans (b2.mono (by rw[hz.out];omega))⟩
set_option maxHeartbeats 4000000 in
theorem zfe (e:Int) (t:Nat) (old:Value) (w:World) (G:Glob w) (ht:w.heap[t]? = some (.cells #[old] 128 (0,0))) :
  Calls Tryz.prog 81 #[.iface 132 (.agg #[.iface 128 (.agg #[.int .i64 e])]),.iface 134 (.pointer (some ⟨t,0,none⟩))] w fun ev w'=>ev=.returned (.bool true)∧Below w.heap.size (w.setCell ⟨t,0,none⟩ (.int .i64 e)) w':=by
 have h131:=@yL Tryz.prog 131 _ (fun args=>ReflectliteValue.unpack (args.getD 0 (.tuple #[]))) Tryz.func131 (by kernel_rfl) (by kernel_rfl) (by kernel_rfl) (by kernel_rfl)
 have h132:=@yL Tryz.prog 132 _ (ReflectliteValue.methodAny (ReflectliteValue.valueError "reflectlite.Value.Type" 0) (fun t _ _ _=>ReflectliteType.toType t)) Tryz.func132 (by kernel_rfl) (by kernel_rfl) (by kernel_rfl) (by kernel_rfl)
 have h133:=@yL Tryz.prog 133 _ (ReflectliteValue.method (ReflectliteValue.valueError "reflectlite.Value.IsNil" 0) ReflectliteValue.isNil) Tryz.func133 (by kernel_rfl) (by kernel_rfl) (by kernel_rfl) (by kernel_rfl)
 have h296:=@yL Tryz.prog 296 _ (ReflectliteType.abiMethod fun t=>do pure (.int .u8 (← Rtype.kind t))) Tryz.func296 (by kernel_rfl) (by kernel_rfl) (by kernel_rfl) (by kernel_rfl)
 have h317:=@yL Tryz.prog 317 _ (ReflectliteType.method ReflectliteType.elem) Tryz.func317 (by kernel_rfl) (by kernel_rfl) (by kernel_rfl) (by kernel_rfl)
 have h318:=@yL Tryz.prog 318 _ (ReflectliteType.relation "Implements" ReflectliteType.implements_) Tryz.func318 (by kernel_rfl) (by kernel_rfl) (by kernel_rfl) (by kernel_rfl)
 have h188:=@yL Tryz.prog 188 _ ReflectliteType.typeOf Tryz.func188 (by kernel_rfl) (by kernel_rfl) (by kernel_rfl) (by kernel_rfl)
 have h315:=@yL Tryz.prog 315 _ (ReflectliteType.relation "AssignableTo" ReflectliteType.assignableTo) Tryz.func315 (by kernel_rfl) (by kernel_rfl) (by kernel_rfl) (by kernel_rfl)
 have h189:=@yL Tryz.prog 189 _ (ReflectliteValue.method (ReflectliteValue.valueError "reflectlite.Value.Elem" 0) ReflectliteValue.elem) Tryz.func189 (by kernel_rfl) (by kernel_rfl) (by kernel_rfl) (by kernel_rfl)
 have h190:=@yL Tryz.prog 190 _ ReflectliteValue.set Tryz.func190 (by kernel_rfl) (by kernel_rfl) (by kernel_rfl) (by kernel_rfl)
 have tO:=zbe
 have mA:=zaB
 have a25:=zaL
 have v25:=za4
 have f6:=za5
 have f7:=zbG
 have mK:=za3
 have mE:=za2
 have mI:=zaF
 have k27:=zbF
 have k25:=zbE
 have e27:=zbD
 have i25:=zaM
 have htl:=yS ht
 obtain⟨op,hop⟩:∃ o,o=Obj.cells #[.pointer (some ⟨t,0,none⟩)] 134 (0,0):=⟨_,rfl⟩
 obtain⟨ov,hov⟩:∃ o,o=Obj.cells #[.pointer (some ⟨6,134,none⟩),.pointer (some ⟨w.heap.size,0,none⟩),.int .u64 150] 182 (0,0):=⟨_,rfl⟩
 have B1:Below w.heap.size w (w.alloc op):=(Below.refl _ _).alloc (yV _) _
 have B2:Below w.heap.size w ((w.alloc op).alloc ov):=B1.alloc (by simp) _
 have R1:((w.alloc op).alloc ov).heap[w.heap.size]? = some (.cells #[.pointer (some ⟨t,0,none⟩)] 134 (0,0)):=by
  rw[← hop];exact row2a _ _ _
 have n1:=zcM ⟨w.heap.size,0,none⟩ ⟨t,0,none⟩ ((w.alloc op).alloc ov) (yE R1 0 _ rfl)
 have g1:=(G.below B2).err
 have HI:=Lib.hid (zik e t w.heap.size old (.iface 134 (.pointer (some ⟨t,0,none⟩))) _ (kept B2 ht) R1)
 have HB:=Lib.hid (za0 B2 htl (.int .i64 e))
 have hz:Hid (((w.alloc op).alloc ov).heap.size=w.heap.size + 2):=by show _=_;simp
 have hpo:=Lib.hid hop
 rw[hop,hov] at n1 g1 HI HB hz
 clear hop hov B1 B2 R1 hpo
 go_enter Tryz.func81,Tryz.ntmps81
 go_wp2_with (first|(go_at_call 134;refine HI.out.mono ?_;rintro e2 w2 ⟨rfl,b2⟩))
 go_ret
 exact⟨rfl,HB.out.trans (b2.mono (by rw[hz.out];omega))⟩
end
end Go.Proofs.YtdlkjofnnefjfaaGreatDoor
