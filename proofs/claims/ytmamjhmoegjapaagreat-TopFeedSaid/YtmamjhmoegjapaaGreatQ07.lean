/- Part 7. -/
import Derived.Test.YtmamjhmoegjapaaGreatProg
import Derived.Test.YtmamjhmoegjapaaGreatQ06
namespace Go.Proofs.YtmamjhmoegjapaaGreat
namespace Av
set_option linter.all false
abbrev zFN:TI:=⟨.func,1,8,[.nilFunc]⟩
def TT:List TI:=[
 ⟨.other,1,0,[.tuple #[]]⟩,zFN,⟨.int .i64,1,8,[.int .i64 0]⟩,⟨.int .i64,1,8,[.int .i64 0]⟩,⟨.bool,1,1,[.bool false]⟩,⟨.int .u8,1,1,[.int .u8 0]⟩,⟨.int .u8,1,1,[.int .u8 0]⟩,⟨.str [(0,2),(1,3),(2,4),(3,6)],4,24,[.int .i64 0,.int .i64 0,.bool false,.int .u8 0]⟩,⟨.str [(0,2),(1,3),(2,4),(3,6)],4,24,[.int .i64 0,.int .i64 0,.bool false,.int .u8 0]⟩,⟨.string,1,16,[.string ⟨#[]⟩]⟩,⟨.string,1,16,[.string ⟨#[]⟩]⟩,⟨.string,1,16,[.string ⟨#[]⟩]⟩,⟨.int .u64,1,8,[.int .u64 0]⟩,⟨.str [(0,9),(1,12)],2,24,[.string ⟨#[]⟩,.int .u64 0]⟩,⟨.str [(0,9),(1,12)],2,24,[.string ⟨#[]⟩,.int .u64 0]⟩,⟨.ptr 404,1,8,[.pointer none]⟩,⟨.ptr 407,1,8,[.pointer none]⟩,⟨.ptr 416,1,8,[.pointer none]⟩,⟨.str [(0,17)],1,8,[.pointer none]⟩,⟨.str [(0,17)],1,8,[.pointer none]⟩,⟨.other,1,16,[.nilIface]⟩,⟨.int .i32,1,4,[.int .i32 0]⟩,⟨.slice 3,1,24,[.slice none 0 0]⟩,zFN,zFN,⟨.ptr 103,1,8,[.pointer none]⟩,zFN,⟨.slice 93,1,24,[.slice none 0 0]⟩,⟨.slice 106,1,24,[.slice none 0 0]⟩,⟨.str [(0,27),(1,28),(2,3),(3,3),(4,3),(5,3)],6,80,[.slice none 0 0,.slice none 0 0,.int .i64 0,.int .i64 0,.int .i64 0,.int .i64 0]⟩,⟨.str [(0,27),(1,28),(2,3),(3,3),(4,3),(5,3)],6,80,[.slice none 0 0,.slice none 0 0,.int .i64 0,.int .i64 0,.int .i64 0,.int .i64 0]⟩,zFN,⟨.slice 160,1,24,[.slice none 0 0]⟩,⟨.slice 138,1,24,[.slice none 0 0]⟩,⟨.slice 164,1,24,[.slice none 0 0]⟩,⟨.slice 95,1,24,[.slice none 0 0]⟩,⟨.str [(0,30),(6,4),(7,3),(8,32),(9,33),(10,34),(11,22),(12,35)],13,216,[.slice none 0 0,.slice none 0 0,.int .i64 0,.int .i64 0,.int .i64 0,.int .i64 0,.bool false,.int .i64 0,.slice none 0 0,.slice none 0 0,.slice none 0 0,.slice none 0 0,.slice none 0 0]⟩,
 ⟨.str [(0,30),(6,4),(7,3),(8,32),(9,33),(10,34),(11,22),(12,35)],13,216,[.slice none 0 0,.slice none 0 0,.int .i64 0,.int .i64 0,.int .i64 0,.int .i64 0,.bool false,.int .i64 0,.slice none 0 0,.slice none 0 0,.slice none 0 0,.slice none 0 0,.slice none 0 0]⟩,⟨.slice 58,1,24,[.slice none 0 0]⟩,⟨.str [(0,37),(13,38)],14,240,[.slice none 0 0,.slice none 0 0,.int .i64 0,.int .i64 0,.int .i64 0,.int .i64 0,.bool false,.int .i64 0,.slice none 0 0,.slice none 0 0,.slice none 0 0,.slice none 0 0,.slice none 0 0,.slice none 0 0]⟩,⟨.str [(0,37),(13,38)],14,240,[.slice none 0 0,.slice none 0 0,.int .i64 0,.int .i64 0,.int .i64 0,.int .i64 0,.bool false,.int .i64 0,.slice none 0 0,.slice none 0 0,.slice none 0 0,.slice none 0 0,.slice none 0 0,.slice none 0 0]⟩,zFN,⟨.slice 46,1,24,[.slice none 0 0]⟩,zFN,⟨.slice 5,1,24,[.slice none 0 0]⟩,⟨.str [(0,3),(1,3),(2,3),(3,3),(4,44)],5,56,[.int .i64 0,.int .i64 0,.int .i64 0,.int .i64 0,.slice none 0 0]⟩,⟨.str [(0,3),(1,3),(2,3),(3,3),(4,44)],5,56,[.int .i64 0,.int .i64 0,.int .i64 0,.int .i64 0,.slice none 0 0]⟩,⟨.slice 44,1,24,[.slice none 0 0]⟩,⟨.str [(0,47),(1,44)],2,48,[.slice none 0 0,.slice none 0 0]⟩,⟨.str [(0,47),(1,44)],2,48,[.slice none 0 0,.slice none 0 0]⟩,⟨.other,1,0,[.tuple #[.agg #[.slice none 0 0,.slice none 0 0,.int .i64 0,.int .i64 0,.int .i64 0,.int .i64 0,.bool false,.int .i64 0,.slice none 0 0,.slice none 0 0,.slice none 0 0,.slice none 0 0,.slice none 0 0,.slice none 0 0],.agg #[.slice none 0 0,.slice none 0 0],.bool false]]⟩,zFN,zFN,zFN,⟨.slice 61,1,24,[.slice none 0 0]⟩,⟨.str [(0,44),(1,4)],2,32,[.slice none 0 0,.bool false]⟩,⟨.str [(0,44),(1,4)],2,32,[.slice none 0 0,.bool false]⟩,⟨.str [(0,4),(1,4),(2,56)],4,40,[.bool false,.bool false,.slice none 0 0,.bool false]⟩,
 ⟨.str [(0,4),(1,4),(2,56)],4,40,[.bool false,.bool false,.slice none 0 0,.bool false]⟩,⟨.slice 125,1,24,[.slice none 0 0]⟩,⟨.str [(0,4),(1,59)],2,32,[.bool false,.slice none 0 0]⟩,⟨.str [(0,4),(1,59)],2,32,[.bool false,.slice none 0 0]⟩,⟨.other,1,0,[.tuple #[.agg #[.bool false,.bool false,.slice none 0 0,.bool false],.agg #[.bool false,.slice none 0 0]]]⟩,zFN,⟨.slice 65,1,24,[.slice none 0 0]⟩,⟨.slice 72,1,24,[.slice none 0 0]⟩,⟨.str [(0,64),(1,65)],2,48,[.slice none 0 0,.slice none 0 0]⟩,⟨.str [(0,64),(1,65)],2,48,[.slice none 0 0,.slice none 0 0]⟩,⟨.other,1,0,[.tuple #[.agg #[.slice none 0 0,.slice none 0 0,.int .i64 0,.int .i64 0,.int .i64 0,.int .i64 0,.bool false,.int .i64 0,.slice none 0 0,.slice none 0 0,.slice none 0 0,.slice none 0 0,.slice none 0 0],.agg #[.slice none 0 0,.slice none 0 0]]]⟩,zFN,zFN,⟨.str [(0,3),(1,44),(2,22),(3,44)],4,80,[.int .i64 0,.slice none 0 0,.slice none 0 0,.slice none 0 0]⟩,⟨.str [(0,3),(1,44),(2,22),(3,44)],4,80,[.int .i64 0,.slice none 0 0,.slice none 0 0,.slice none 0 0]⟩,⟨.int .i64,1,8,[.int .i64 0]⟩,⟨.other,1,0,[.tuple #[.slice none 0 0,.int .i64 0]]⟩,zFN,zFN,zFN,⟨.slice 49,1,24,[.slice none 0 0]⟩,zFN,zFN,zFN,zFN,zFN,zFN,⟨.slice 35,1,24,[.slice none 0 0]⟩,zFN,zFN,zFN,⟨.other,1,0,[.tuple #[.slice none 0 0,.bool false]]⟩,zFN,⟨.slice 97,1,24,[.slice none 0 0]⟩,⟨.str [(0,91),(1,22),(2,3)],3,56,[.slice none 0 0,.slice none 0 0,.int .i64 0]⟩,⟨.str [(0,91),(1,22),(2,3)],3,56,[.slice none 0 0,.slice none 0 0,.int .i64 0]⟩,⟨.str [(0,4),(1,4),(2,22),(3,22)],4,56,[.bool false,.bool false,.slice none 0 0,.slice none 0 0]⟩,⟨.str [(0,4),(1,4),(2,22),(3,22)],4,56,[.bool false,.bool false,.slice none 0 0,.slice none 0 0]⟩,
 ⟨.str [(0,3),(1,3),(2,3),(3,3),(4,3),(5,3),(6,3),(7,3)],8,64,[.int .i64 0,.int .i64 0,.int .i64 0,.int .i64 0,.int .i64 0,.int .i64 0,.int .i64 0,.int .i64 0]⟩,⟨.str [(0,3),(1,3),(2,3),(3,3),(4,3),(5,3),(6,3),(7,3)],8,64,[.int .i64 0,.int .i64 0,.int .i64 0,.int .i64 0,.int .i64 0,.int .i64 0,.int .i64 0,.int .i64 0]⟩,⟨.int .u64,1,8,[.int .u64 0]⟩,zFN,⟨.other,1,0,[.tuple #[.int .i64 0,.int .i64 0]]⟩,zFN,⟨.str [(0,22),(1,3)],2,32,[.slice none 0 0,.int .i64 0]⟩,⟨.str [(0,22),(1,3)],2,32,[.slice none 0 0,.int .i64 0]⟩,zFN,⟨.str [(0,44),(1,3),(2,3),(3,22),(4,3),(5,3),(6,3),(7,3)],8,96,[.slice none 0 0,.int .i64 0,.int .i64 0,.slice none 0 0,.int .i64 0,.int .i64 0,.int .i64 0,.int .i64 0]⟩,⟨.str [(0,44),(1,3),(2,3),(3,22),(4,3),(5,3),(6,3),(7,3)],8,96,[.slice none 0 0,.int .i64 0,.int .i64 0,.slice none 0 0,.int .i64 0,.int .i64 0,.int .i64 0,.int .i64 0]⟩,zFN,zFN,zFN,zFN,zFN,zFN,zFN,zFN,zFN,zFN,zFN,zFN,zFN,zFN,zFN,⟨.other,1,0,[.tuple #[.agg #[.slice none 0 0,.slice none 0 0,.int .i64 0,.int .i64 0,.int .i64 0,.int .i64 0,.bool false,.int .i64 0,.slice none 0 0,.slice none 0 0,.slice none 0 0,.slice none 0 0,.slice none 0 0,.slice none 0 0],.agg #[.slice none 0 0,.slice none 0 0]]]⟩,zFN,⟨.str [(0,73),(1,3),(2,44)],3,40,[.int .i64 0,.int .i64 0,.slice none 0 0]⟩,⟨.str [(0,73),(1,3),(2,44)],3,40,[.int .i64 0,.int .i64 0,.slice none 0 0]⟩,⟨.other,1,0,[.tuple #[.agg #[.slice none 0 0,.bool false],.slice none 0 0]]⟩,zFN,zFN,zFN,⟨.slice 64,1,24,[.slice none 0 0]⟩,⟨.slice 220,1,24,[.slice none 0 0]⟩,⟨.other,1,0,[.tuple #[.slice none 0 0,.slice none 0 0,.slice none 0 0]]⟩,zFN,⟨.slice 254,1,24,[.slice none 0 0]⟩,⟨.str [(0,134),(1,3),(2,22),(3,3)],4,64,[.slice none 0 0,.int .i64 0,.slice none 0 0,.int .i64 0]⟩,
 ⟨.str [(0,134),(1,3),(2,22),(3,3)],4,64,[.slice none 0 0,.int .i64 0,.slice none 0 0,.int .i64 0]⟩,⟨.str [(0,136),(4,4)],5,72,[.slice none 0 0,.int .i64 0,.slice none 0 0,.int .i64 0,.bool false]⟩,⟨.str [(0,136),(4,4)],5,72,[.slice none 0 0,.int .i64 0,.slice none 0 0,.int .i64 0,.bool false]⟩,⟨.other,1,0,[.tuple #[.agg #[.slice none 0 0,.int .i64 0,.slice none 0 0,.int .i64 0,.bool false],.bool false]]⟩,zFN,zFN,⟨.ptr 37,1,8,[.pointer none]⟩,zFN,zFN,zFN,⟨.str [(0,3),(1,3),(2,3)],3,24,[.int .i64 0,.int .i64 0,.int .i64 0]⟩,⟨.str [(0,3),(1,3),(2,3)],3,24,[.int .i64 0,.int .i64 0,.int .i64 0]⟩,zFN,zFN,zFN,⟨.slice 298,1,24,[.slice none 0 0]⟩,⟨.slice 301,1,24,[.slice none 0 0]⟩,⟨.str [(0,3),(1,3),(2,3)],3,24,[.int .i64 0,.int .i64 0,.int .i64 0]⟩,⟨.str [(0,3),(1,3),(2,3)],3,24,[.int .i64 0,.int .i64 0,.int .i64 0]⟩,⟨.str [(0,3),(1,106),(9,151),(10,152),(11,154)],14,176,[.int .i64 0,.slice none 0 0,.int .i64 0,.int .i64 0,.slice none 0 0,.int .i64 0,.int .i64 0,.int .i64 0,.int .i64 0,.slice none 0 0,.slice none 0 0,.int .i64 0,.int .i64 0,.int .i64 0]⟩,⟨.str [(0,3),(1,106),(9,151),(10,152),(11,154)],14,176,[.int .i64 0,.slice none 0 0,.int .i64 0,.int .i64 0,.slice none 0 0,.int .i64 0,.int .i64 0,.int .i64 0,.int .i64 0,.slice none 0 0,.slice none 0 0,.int .i64 0,.int .i64 0,.int .i64 0]⟩,⟨.slice 263,1,24,[.slice none 0 0]⟩,⟨.slice 4,1,24,[.slice none 0 0]⟩,⟨.str [(0,156),(14,157),(15,47),(16,158)],17,248,[.int .i64 0,.slice none 0 0,.int .i64 0,.int .i64 0,.slice none 0 0,.int .i64 0,.int .i64 0,.int .i64 0,.int .i64 0,.slice none 0 0,.slice none 0 0,.int .i64 0,.int .i64 0,.int .i64 0,.slice none 0 0,.slice none 0 0,.slice none 0 0]⟩,
 ⟨.str [(0,156),(14,157),(15,47),(16,158)],17,248,[.int .i64 0,.slice none 0 0,.int .i64 0,.int .i64 0,.slice none 0 0,.int .i64 0,.int .i64 0,.int .i64 0,.int .i64 0,.slice none 0 0,.slice none 0 0,.int .i64 0,.int .i64 0,.int .i64 0,.slice none 0 0,.slice none 0 0,.slice none 0 0]⟩,zFN,zFN,⟨.str [(0,3),(1,3),(2,22)],3,40,[.int .i64 0,.int .i64 0,.slice none 0 0]⟩,⟨.str [(0,3),(1,3),(2,22)],3,40,[.int .i64 0,.int .i64 0,.slice none 0 0]⟩,zFN,zFN,⟨.slice 47,1,24,[.slice none 0 0]⟩,zFN,zFN,zFN,zFN,zFN,zFN,zFN,⟨.str [(0,3),(1,3),(2,125)],5,56,[.int .i64 0,.int .i64 0,.int .i64 0,.int .i64 0,.slice none 0 0]⟩,⟨.str [(0,3),(1,3),(2,125)],5,56,[.int .i64 0,.int .i64 0,.int .i64 0,.int .i64 0,.slice none 0 0]⟩,⟨.other,1,0,[.tuple #[.agg #[.int .i64 0,.slice none 0 0,.slice none 0 0,.slice none 0 0],.int .i64 0]]⟩,zFN,⟨.arr 4 5,4,4,[.int .u8 0,.int .u8 0,.int .u8 0,.int .u8 0]⟩,zFN,zFN,zFN,zFN,⟨.slice 186,1,24,[.slice none 0 0]⟩,zFN,⟨.arr 2 3,2,16,[.int .i64 0,.int .i64 0]⟩,zFN,zFN,zFN,zFN,zFN,zFN,⟨.int .u64,1,8,[.int .u64 0]⟩,zFN,⟨.other,1,0,[.tuple #[.agg #[.slice none 0 0,.bool false],.bool false]]⟩,zFN,⟨.ptr 160,1,8,[.pointer none]⟩,zFN,zFN,zFN,zFN,zFN,zFN,zFN,zFN,zFN,zFN,zFN,zFN,⟨.other,1,0,[.tuple #[.agg #[.int .i64 0,.slice none 0 0,.int .i64 0,.int .i64 0,.slice none 0 0,.int .i64 0,.int .i64 0,.int .i64 0,.int .i64 0,.slice none 0 0,.slice none 0 0,.int .i64 0,.int .i64 0,.int .i64 0,.slice none 0 0,.slice none 0 0,.slice none 0 0],.slice none 0 0,.slice none 0 0,.slice none 0 0]]⟩,zFN,⟨.other,1,0,[.tuple #[.agg #[.slice none 0 0,.int .i64 0,.slice none 0 0,.int .i64 0,.bool false],.agg #[.int .i64 0,.int .i64 0,.slice none 0 0]]]⟩,zFN,⟨.slice 312,1,24,[.slice none 0 0]⟩,zFN,zFN,zFN,zFN,⟨.str [(0,3),(1,3),(2,73)],3,24,[.int .i64 0,.int .i64 0,.int .i64 0]⟩,
 ⟨.str [(0,3),(1,3),(2,73)],3,24,[.int .i64 0,.int .i64 0,.int .i64 0]⟩,zFN,zFN,zFN,zFN,⟨.str [(0,3),(1,3),(2,3),(3,3),(4,3),(5,3)],6,48,[.int .i64 0,.int .i64 0,.int .i64 0,.int .i64 0,.int .i64 0,.int .i64 0]⟩,⟨.str [(0,3),(1,3),(2,3),(3,3),(4,3),(5,3)],6,48,[.int .i64 0,.int .i64 0,.int .i64 0,.int .i64 0,.int .i64 0,.int .i64 0]⟩,⟨.other,1,0,[.tuple #[.agg #[.int .i64 0,.int .i64 0,.int .i64 0,.int .i64 0,.int .i64 0,.int .i64 0],.bool false]]⟩,zFN,⟨.other,1,0,[.tuple #[.int .i64 0,.bool false]]⟩,zFN,zFN,⟨.int .u32,1,4,[.int .u32 0]⟩,zFN,⟨.str [(0,160),(17,38)],18,272,[.int .i64 0,.slice none 0 0,.int .i64 0,.int .i64 0,.slice none 0 0,.int .i64 0,.int .i64 0,.int .i64 0,.int .i64 0,.slice none 0 0,.slice none 0 0,.int .i64 0,.int .i64 0,.int .i64 0,.slice none 0 0,.slice none 0 0,.slice none 0 0,.slice none 0 0]⟩,⟨.str [(0,160),(17,38)],18,272,[.int .i64 0,.slice none 0 0,.int .i64 0,.int .i64 0,.slice none 0 0,.int .i64 0,.int .i64 0,.int .i64 0,.int .i64 0,.slice none 0 0,.slice none 0 0,.int .i64 0,.int .i64 0,.int .i64 0,.slice none 0 0,.slice none 0 0,.slice none 0 0,.slice none 0 0]⟩,zFN,zFN,zFN,zFN,zFN,⟨.other,1,0,[.tuple #[.agg #[.int .i64 0,.int .i64 0,.slice none 0 0],.int .i64 0,.bool false]]⟩,zFN,⟨.other,1,0,[.tuple #[.slice none 0 0,.slice none 0 0,.bool false]]⟩,zFN,⟨.str [(0,3),(1,3),(2,3),(3,3),(4,3)],5,40,[.int .i64 0,.int .i64 0,.int .i64 0,.int .i64 0,.int .i64 0]⟩,⟨.str [(0,3),(1,3),(2,3),(3,3),(4,3)],5,40,[.int .i64 0,.int .i64 0,.int .i64 0,.int .i64 0,.int .i64 0]⟩,zFN,zFN,zFN,zFN,zFN,zFN,⟨.str [(0,3),(1,3)],2,16,[.int .i64 0,.int .i64 0]⟩,⟨.str [(0,3),(1,3)],2,16,[.int .i64 0,.int .i64 0]⟩,zFN,zFN,zFN,zFN,zFN,zFN,⟨.slice 266,1,24,[.slice none 0 0]⟩,
 ⟨.str [(0,3),(1,3),(2,3),(3,3),(4,261)],5,56,[.int .i64 0,.int .i64 0,.int .i64 0,.int .i64 0,.slice none 0 0]⟩,⟨.str [(0,3),(1,3),(2,3),(3,3),(4,261)],5,56,[.int .i64 0,.int .i64 0,.int .i64 0,.int .i64 0,.slice none 0 0]⟩,zFN,⟨.str [(0,3),(1,3),(2,3),(3,3),(4,3)],5,40,[.int .i64 0,.int .i64 0,.int .i64 0,.int .i64 0,.int .i64 0]⟩,⟨.str [(0,3),(1,3),(2,3),(3,3),(4,3)],5,40,[.int .i64 0,.int .i64 0,.int .i64 0,.int .i64 0,.int .i64 0]⟩,zFN,zFN,zFN,zFN,zFN,⟨.other,1,0,[.tuple #[.agg #[.int .i64 0,.slice none 0 0,.int .i64 0,.int .i64 0,.slice none 0 0,.int .i64 0,.int .i64 0,.int .i64 0,.int .i64 0,.slice none 0 0,.slice none 0 0,.int .i64 0,.int .i64 0,.int .i64 0,.slice none 0 0,.slice none 0 0,.slice none 0 0],.agg #[.int .i64 0,.slice none 0 0,.slice none 0 0,.slice none 0 0],.agg #[.int .i64 0,.int .i64 0,.int .i64 0],.int .i64 0]]⟩,zFN,zFN,zFN,zFN,zFN,zFN,zFN,zFN,zFN,zFN,zFN,zFN,zFN,⟨.ptr 235,1,8,[.pointer none]⟩,⟨.other,1,0,[.tuple #[.int .i64 0,.int .i64 0,.int .i64 0]]⟩,zFN,zFN,zFN,zFN,zFN,zFN,⟨.ptr 136,1,8,[.pointer none]⟩,zFN,zFN,⟨.str [(0,4),(1,44),(2,3),(3,3),(4,3),(5,3)],6,64,[.bool false,.slice none 0 0,.int .i64 0,.int .i64 0,.int .i64 0,.int .i64 0]⟩,⟨.str [(0,4),(1,44),(2,3),(3,3),(4,3),(5,3)],6,64,[.bool false,.slice none 0 0,.int .i64 0,.int .i64 0,.int .i64 0,.int .i64 0]⟩,zFN,⟨.str [(0,3),(1,3)],2,16,[.int .i64 0,.int .i64 0]⟩,⟨.str [(0,3),(1,3)],2,16,[.int .i64 0,.int .i64 0]⟩,zFN,zFN,zFN,zFN,
 ⟨.other,1,0,[.tuple #[.agg #[.int .i64 0,.slice none 0 0,.int .i64 0,.int .i64 0,.slice none 0 0,.int .i64 0,.int .i64 0,.int .i64 0,.int .i64 0,.slice none 0 0,.slice none 0 0,.int .i64 0,.int .i64 0,.int .i64 0,.slice none 0 0,.slice none 0 0,.slice none 0 0],.agg #[.int .i64 0,.slice none 0 0,.slice none 0 0,.slice none 0 0],.int .i64 0,.int .i64 0]]⟩,zFN,zFN,zFN,zFN,⟨.str [(0,3),(1,3),(2,3),(3,3),(4,3)],5,40,[.int .i64 0,.int .i64 0,.int .i64 0,.int .i64 0,.int .i64 0]⟩,⟨.str [(0,3),(1,3),(2,3),(3,3),(4,3)],5,40,[.int .i64 0,.int .i64 0,.int .i64 0,.int .i64 0,.int .i64 0]⟩,zFN,zFN,zFN,zFN,zFN,zFN,zFN,zFN,zFN,zFN,zFN,zFN,⟨.other,1,0,[.tuple #[.agg #[.int .i64 0,.slice none 0 0,.int .i64 0,.int .i64 0,.slice none 0 0,.int .i64 0,.int .i64 0,.int .i64 0,.int .i64 0,.slice none 0 0,.slice none 0 0,.int .i64 0,.int .i64 0,.int .i64 0],.int .i64 0,.int .i64 0]]⟩,zFN,⟨.other,1,0,[.tuple #[.agg #[.int .i64 0,.slice none 0 0,.int .i64 0,.int .i64 0,.slice none 0 0,.int .i64 0,.int .i64 0,.int .i64 0,.int .i64 0,.slice none 0 0,.slice none 0 0,.int .i64 0,.int .i64 0,.int .i64 0,.slice none 0 0,.slice none 0 0,.slice none 0 0],.agg #[.int .i64 0,.slice none 0 0,.slice none 0 0,.slice none 0 0],.int .i64 0]]⟩,zFN,⟨.other,1,0,[.tuple #[.slice none 0 0,.int .i64 0]]⟩,zFN,zFN,zFN,zFN,zFN,zFN,zFN,zFN,zFN,zFN,zFN,zFN,zFN,⟨.other,1,0,[.tuple #[.int .i64 0,.int .i64 0]]⟩,zFN,⟨.other,1,0,[.tuple #[.agg #[.int .i64 0,.int .i64 0,.int .i64 0],.bool false]]⟩,zFN,⟨.other,1,0,[.tuple #[.agg #[.int .i64 0,.slice none 0 0,.int .i64 0,.int .i64 0,.slice none 0 0,.int .i64 0,.int .i64 0,.int .i64 0,.int .i64 0,.slice none 0 0,.slice none 0 0,.int .i64 0,.int .i64 0,.int .i64 0],.agg #[.int .i64 0,.slice none 0 0,.slice none 0 0,.slice none 0 0],.bool false,.int .i64 0]]⟩,zFN,zFN,zFN,zFN,zFN,zFN,zFN,zFN,
 zFN,zFN,zFN,zFN,zFN,zFN,zFN,zFN,zFN,⟨.ptr 156,1,8,[.pointer none]⟩,⟨.other,1,0,[.tuple #[.slice none 0 0,.int .i64 0]]⟩,zFN,zFN,⟨.other,1,0,[.tuple #[.slice none 0 0,.int .i64 0]]⟩,zFN,zFN,⟨.other,1,0,[.tuple #[.agg #[.int .i64 0,.int .i64 0],.bool false]]⟩,zFN,⟨.other,1,0,[.tuple #[.agg #[.int .i64 0,.int .i64 0,.int .i64 0,.int .i64 0,.int .i64 0],.int .i64 0]]⟩,zFN,zFN,zFN,zFN,zFN,zFN,zFN,zFN,zFN,zFN,⟨.other,1,0,[.tuple #[.slice none 0 0,.int .i64 0,.int .i64 0]]⟩,zFN,zFN,zFN,zFN,zFN,zFN,zFN,zFN,zFN,zFN,zFN,zFN,⟨.slice 152,1,24,[.slice none 0 0]⟩,zFN,zFN,zFN,zFN,⟨.str [(0,17),(1,17),(2,17),(3,9)],4,40,[.pointer none,.pointer none,.pointer none,.string ⟨#[]⟩]⟩,⟨.str [(0,17),(1,17),(2,17),(3,9)],4,40,[.pointer none,.pointer none,.pointer none,.string ⟨#[]⟩]⟩,⟨.arr 0 16,0,0,[]⟩,⟨.str [(0,405)],0,0,[]⟩,⟨.str [(0,405)],0,0,[]⟩,zFN,⟨.int .u8,1,1,[.int .u8 0]⟩,⟨.int .u8,1,1,[.int .u8 0]⟩,zFN,⟨.ptr 5,1,8,[.pointer none]⟩,⟨.int .i32,1,4,[.int .i32 0]⟩,⟨.int .i32,1,4,[.int .i32 0]⟩,⟨.str [(0,12),(1,12),(2,232),(3,409),(4,5),(5,5),(6,410),(7,411),(8,412),(9,413),(10,414)],11,48,[.int .u64 0,.int .u64 0,.int .u32 0,.int .u8 0,.int .u8 0,.int .u8 0,.int .u8 0,.nilFunc,.pointer none,.int .i32 0,.int .i32 0]⟩,⟨.str [(0,12),(1,12),(2,232),(3,409),(4,5),(5,5),(6,410),(7,411),(8,412),(9,413),(10,414)],11,48,[.int .u64 0,.int .u64 0,.int .u32 0,.int .u8 0,.int .u8 0,.int .u8 0,.int .u8 0,.nilFunc,.pointer none,.int .i32 0,.int .i32 0]⟩,
 ⟨.other,1,8,[.pointer none]⟩]
theorem tok:uL Tryz.prog TT:=AJ VL
section
variable {P:Program} {TT:List TI} {K0:List Nat} {F:Fr K0} {m:Nat} {ops:Array Oper} {rest:List Oper} {Q:List FP->St->Prop} {tm:List (Nat×AV)} {h:List (Nat×xN)} {dr:Bool} {fs:List FP}
variable {ty:Nat} {pos:String} {after:Array Edge} {t:Nat}
theorem zDn {h:List (Nat×xN)} {t:Nat} (hn:(zC h t).isNone=true): [t].all (λj=>(zC h j).isNone)=true:=by simpa using hn
theorem bF (hP:uL P TT) {T i:Nat} {x:Operand} {xs cs:List AV} {ti:TI} (hx:yL (zG tm) x= .fp xs i 0) (hT:TT[T]? =some ti) (ha:ti.d.agg=true) (hy:xs[i]? =some (.agg cs)) (hs:Nat.beq ti.size cs.length=true):
  wR P ⟨tm,h⟩ (.load T x) (.agg cs) [] [] []:=by
 have e:=zX4 hs;refine ZB hP hx hy hT ?_;unfold AP;rw[ha,e];simp[AV.cells,yBq (zXc cs.length)]
theorem bG (hP:uL P TT) {T i off:Nat} {x:Operand} {xs:List AV} {y v:AV} {ti:TI} (hx:yL (zG tm) x= .fp xs i off) (hT:TT[T]? =some ti) (ha:ti.d.agg=false) (hy:xs[i]? =some y) (hv:y.cells[off]? =some v):
  wR P ⟨tm,h⟩ (.load T x) v [] [] []:=by
 refine ZB hP hx hy hT ?_;unfold AP;rw[ha];exact hv
theorem dY (hP:uL P TT) {T k i sz:Nat} {x:Operand} {xs cs:List AV} {sl:Fl} {ti:TI} (hx:yL (zG tm) x= .ptr k i 0) (hk:zC h k=some (.arr sz xs sl)) (hT:TT[T]? =some ti) (ha:ti.d.agg=true) (hy:xs[i]? =some (.agg cs)) (hs:Nat.beq ti.size cs.length=true):
  wR P ⟨tm,h⟩ (.load T x) (.agg cs) [] [k] []:=by
 have e:=zX4 hs;refine fU hP hx hk hy hT ?_;unfold AP;rw[ha,e];simp[AV.cells,yBq (zXc cs.length)]
theorem dZ (hP:uL P TT) {T k i off sz:Nat} {x:Operand} {xs:List AV} {sl:Fl} {y v:AV} {ti:TI} (hx:yL (zG tm) x= .ptr k i off) (hk:zC h k=some (.arr sz xs sl)) (hT:TT[T]? =some ti) (ha:ti.d.agg=false) (hy:xs[i]? =some y) (hv:y.cells[off]? =some v):
  wR P ⟨tm,h⟩ (.load T x) v [] [k] []:=by
 refine fU hP hx hk hy hT ?_;unfold AP;rw[ha];exact hv
theorem zBm (hP:uL P TT) {T e n:Nat} {x y:Operand} {ti te:TI} {kx ky:IntKind} {nx ny:Int} {z:AV} (hx:yL (zG tm) x= .s (.int kx nx)) (hy:yL (zG tm) y= .s (.int ky ny)) (hT:TT[T]? =some ti) (hd:ti.d= .slice e) (he:TT[e]? =some te)
  (hb:Nat.ble te.bytes 65536=true) (hp:Nat.ble 1 te.size=true) (hzl:Nat.beq te.zero.length te.size=true) (hz1:te.zero.all (·.oneCell')=true) (hzc:Nat.beq (vU te).cells.length te.size=true) (hzc2:(vU te).cells=te.zero.map .s) (hz:vU te=z)
  (hnx:nx=(n:Int)) (hny:nx<=ny) (hmax:ny<=1073741824) (hm:Nat.blt t m=true) (hnn:(zC h t).isNone=true)
  {sz:Nat} (hse:te.size=sz) (hk:zZ P F m ops dr rest ⟨(t,.ref t 0 n)::tm,(t,.arr sz (List.replicate n z) false)::h⟩ (⟨true,[t,t],[]⟩::fs) Q):zZ P F m ops dr (⟨some t,.makeSlice T x y,ty,pos,after,none⟩::rest) ⟨tm,h⟩ fs Q:=by
 subst hse hz;exact uG (nw:=[t]) (YO hP t hx hy hT hd he hnx hny hmax hb hp hzl hz1 hzc hzc2) hm (zDn hnn) rfl hk
theorem qB (hP:uL P TT) {T e:Nat} {s x:Operand} {ti te:TI} {k sz len:Nat} {xs:List AV} {sb:Bool} {xv:AV} {ys:List AV} (hs:yL (zG tm) s= .ref k 0 len) (hk:zC h k=some (.arr sz xs ⟨sb,false⟩)) (hx:yL (zG tm) x=xv) (hT:TT[T]? =some ti) (hd:ti.d= .slice e) (he:TT[e]? =some te)
  (hys:CF (zC h) xv=some ys) (hss:Nat.beq sz te.size=true) (hb:Nat.ble te.bytes 65536=true) (hz:Nat.beq te.zero.length te.size=true) (hlen:len=xs.length) (hsz:∀y,ys[0]? =some y->y.cells.length=sz) (hn:xs.length+ys.length<=1073741824) (hm:Nat.blt t m=true)
  (hr:zZ P F m ops dr rest ⟨(t,.ref k 0 (xs++ys).length)::tm,(k,.arr sz (xs++ys) true)::h⟩ (⟨true,[k],k::PM xv⟩::fs) Q) (hz1:te.zero.all (·.oneCell')=true:=by rfl):zZ P F m ops dr (⟨some t,.call ⟨.builtin .append, #[s,x], #[T,T]⟩,ty,pos,after,none⟩::rest) ⟨tm,h⟩ fs Q:=by
 subst hlen;exact uG (nw:=[]) (PO hP hs hk hx hT hd he hys hsz hss hb hz hz1 hn) hm rfl rfl hr
theorem qY (hP:uL P TT) {T e:Nat} {s x:Operand} {ti te:TI} {k sz len:Nat} {xs:List AV} {sl:Fl} {xv:AV} {ys:List AV} (hs:yL (zG tm) s= .ref k 0 len) (hk:zC h k=some (.arr sz xs sl)) (hx:yL (zG tm) x=xv) (hT:TT[T]? =some ti) (hd:ti.d= .slice e) (he:TT[e]? =some te)
  (hys:VG true (zC h) xv=some ys) (hss:Nat.beq sz te.size=true) (hb:Nat.ble te.bytes 65536=true) (hz:Nat.beq te.zero.length te.size=true) (hlen:len=xs.length) (hsz:∀y,ys[0]? =some y->y.cells.length=sz) (hn:xs.length+ys.length<=1073741824) (hm:Nat.blt t m=true)
  (hr:zZ P F m ops dr rest ⟨(t,.ref k 0 (xs++ys).length)::tm,(k,.arr sz (xs++ys) ⟨true,true⟩)::h⟩ (⟨true,[k],k::PM xv⟩::fs) Q) (hz1:te.zero.all (·.oneCell')=true:=by rfl):zZ P F m ops dr (⟨some t,.call ⟨.builtin .append, #[s,x], #[T,T]⟩,ty,pos,after,none⟩::rest) ⟨tm,h⟩ fs Q:=by
 subst hlen;exact uG (nw:=[]) (SH hP hs hk hx hT hd he hys hsz hss hb hz hz1 hn) hm rfl rfl hr
section
variable {op:BinOp} {tx t2:Nat} {x y:Operand} {k:IntKind} {a b:Int} (hx:yL (zG tm) x= .s (.int k a)) (hy:yL (zG tm) y= .s (.int k b))
include hx hy
theorem zIi (hh:a<b):wR P ⟨tm,h⟩ (.binOp .lss tx x y t2) (.s (.bool true)) [] [] []:=by have:=IC (P:=P) (st:=⟨tm,h⟩) (tx:=tx) (ty:=t2) hx hy;rwa [zXg hh]at this
theorem zIj (hh:¬a<b):wR P ⟨tm,h⟩ (.binOp .lss tx x y t2) (.s (.bool false)) [] [] []:=by have:=IC (P:=P) (st:=⟨tm,h⟩) (tx:=tx) (ty:=t2) hx hy;rwa [zXj hh]at this
theorem zIk (hh:a<=b):wR P ⟨tm,h⟩ (.binOp .leq tx x y t2) (.s (.bool true)) [] [] []:=by have:=ID (P:=P) (st:=⟨tm,h⟩) (tx:=tx) (ty:=t2) hx hy;rwa [zXg hh]at this
theorem zIl (hh:¬a<=b):wR P ⟨tm,h⟩ (.binOp .leq tx x y t2) (.s (.bool false)) [] [] []:=by have:=ID (P:=P) (st:=⟨tm,h⟩) (tx:=tx) (ty:=t2) hx hy;rwa [zXj hh]at this
theorem zIm (hh:b<a):wR P ⟨tm,h⟩ (.binOp .gtr tx x y t2) (.s (.bool true)) [] [] []:=by have:=IE (P:=P) (st:=⟨tm,h⟩) (tx:=tx) (ty:=t2) hx hy;rwa [zXg hh]at this
theorem zIn (hh:¬b<a):wR P ⟨tm,h⟩ (.binOp .gtr tx x y t2) (.s (.bool false)) [] [] []:=by have:=IE (P:=P) (st:=⟨tm,h⟩) (tx:=tx) (ty:=t2) hx hy;rwa [zXj hh]at this
theorem zIo (hh:b<=a):wR P ⟨tm,h⟩ (.binOp .geq tx x y t2) (.s (.bool true)) [] [] []:=by have:=IF (P:=P) (st:=⟨tm,h⟩) (tx:=tx) (ty:=t2) hx hy;rwa [zXg hh]at this
theorem zIp (hh:¬b<=a):wR P ⟨tm,h⟩ (.binOp .geq tx x y t2) (.s (.bool false)) [] [] []:=by have:=IF (P:=P) (st:=⟨tm,h⟩) (tx:=tx) (ty:=t2) hx hy;rwa [zXj hh]at this
theorem zIq (hh:a=b):wR P ⟨tm,h⟩ (.binOp .eql tx x y t2) (.s (.bool true)) [] [] []:=by have:=IA (P:=P) (st:=⟨tm,h⟩) (tx:=tx) (ty:=t2) hx hy;rwa [show(a==b)=true by simpa using hh]at this
theorem zIr (hh:a≠b):wR P ⟨tm,h⟩ (.binOp .eql tx x y t2) (.s (.bool false)) [] [] []:=by have:=IA (P:=P) (st:=⟨tm,h⟩) (tx:=tx) (ty:=t2) hx hy;rwa [show(a==b)=false by simpa using hh]at this
theorem zIs (hh:a≠b):wR P ⟨tm,h⟩ (.binOp .neq tx x y t2) (.s (.bool true)) [] [] []:=by have:=IB (P:=P) (st:=⟨tm,h⟩) (tx:=tx) (ty:=t2) hx hy;rwa [show(a != b)=true by simpa using hh]at this
theorem zIt (hh:a=b):wR P ⟨tm,h⟩ (.binOp .neq tx x y t2) (.s (.bool false)) [] [] []:=by have:=IB (P:=P) (st:=⟨tm,h⟩) (tx:=tx) (ty:=t2) hx hy;rwa [show(a != b)=false by simpa using hh]at this
end
end
def frc {β:Type} (v:AV) (K:AV->Option β):Option β:=match v with
 | .s v=>K (.s v)
 | .ptr k i o=>K (.ptr k i o)
 | .agg cs=>K (.agg cs)
 | .sl b xs=>K (.sl b xs)
 | .slc b xs=>K (.slc b xs)
 | .ref k o n=>K (.ref k o n)
 | .fp xs i o=>K (.fp xs i o)
 | .fn f cs=>K (.fn f cs)
 | .tup vs=>K (.tup vs)
 | .bot=>K .bot
 | .gh n=>K (.gh n)
theorem aW {β:Type} (v:AV) (K:AV->Option β):frc v K=K v:=by cases v<;>rfl
def TZ {β:Type}:List AV->(List AV->Option β)->Option β
 | [],K=>K []
 |x::r,K=>frc x λx=>TZ r λr=>K (x::r)
theorem jT {β:Type}:∀(l:List AV) (K:List AV->Option β),TZ l K=K l
 | [],_=>rfl
 |x::r,K=>by rw[TZ,aW,jT r]
abbrev Res:=AV×List (Nat×xN)×List Nat×List Nat
def ldR (ti:TI) (row:List AV) (off:Nat) (r:List Nat):Option Res:=
 bif ti.d.agg then(bif Nat.ble (off+ti.size) row.length then TZ ((row.drop off).take ti.size) λl=>some (.agg l,[],r,[])else none)
 else match row[off]? with
  |some v=>frc v λv=>some (v,[],r,[])
  |none=>none
def zBn:BinOp->Bool
 | .eql| .neq| .lss| .leq| .gtr| .geq=>true
 |_=>false
def dP:Nat->List Nat->Bool
 |_,[]=>true
 |n,x::r=>Nat.beq x n&&dP (n+1) r
def exec (TT:List TI) (tm:List (Nat×AV)) (h:List (Nat×xN)) (t:Nat):Op->Option Res
 | .move x=>frc (yL (zG tm) x) λv=>some (v,[],[],[])
 | .assign x=>frc (yL (zG tm) x) λv=>some (v,[],[],[])
 | .pick c x y=>match yL (zG tm) c with
  | .s (.bool b)=>bif b then frc (yL (zG tm) x) λv=>some (v,[],[],[])else frc (yL (zG tm) y) λv=>some (v,[],[],[])
  |_=>none
 | .extract x i=>match yL (zG tm) x with
  | .tup vs=>match vs[i]? with
   |some v=>frc v λv=>some (v,[],[],[])
   |none=>none
  |_=>none
 | .box _ x=>match yL (zG tm) x with
  | .agg cs=>some (.ptr t 0 0,[(t,.box cs)],[],[t])
  |v=>bif v.one then frc v λv=>some (.ptr t 0 0,[(t,.box [v])],[],[t])else none
 | .alloc T=>match TT[T]? with
  |some ti=>bif ti.zero.all (·.oneCell')then TZ (ti.zero.map AV.s) λl=>some (.ptr t 0 0,[(t,.box l)],[],[t])else none
  |none=>none
 | .load T x=>match yL (zG tm) x,TT[T]? with
  | .ptr k 0 off,some ti=>match zC h k with
   |some (.box cs)=>ldR ti cs off [k]
   |some (.arr _ xs _)=>match xs[0]? with
    |some y=>ldR ti y.cells off [k]
    |none=>none
   |_=>none
  | .ptr k (i+1) off,some ti=>match zC h k with
   |some (.arr _ xs _)=>match xs[i+1]? with
    |some y=>ldR ti y.cells off [k]
    |none=>none
   |_=>none
  | .fp xs i off,some ti=>match xs[i]? with
   |some y=>ldR ti y.cells off []
   |none=>none
  |_,_=>none
 | .store T p x=>match yL (zG tm) p,TT[T]? with
  | .ptr k 0 off,some ti=>match zC h k with
   |some (.box cs)=>frc (yL (zG tm) x) λv=>bif v.ok&&(Nat.beq v.cells.length ti.size&&Nat.ble (off+ti.size) cs.length)then TZ (VH cs off v.cells) λl=>some (.bot,[(k,.box l)],[k],[])else none
   |_=>none
  |_,_=>none
 | .fieldAddr T x f=>match yL (zG tm) x,TT[T]? with
  | .ptr k 0 off,some ti=>match zC h k,ti.d with
   | some (.box _),.str fs=>match fs[f]? with
    |some (o,ft)=>match TT[ft]? with
     |some tf=>bif Nat.ble 1 tf.size then some (.ptr k 0 (off+o),[],[k],[])else none
     |none=>none
    |none=>none
   |_,_=>none
  |_,_=>none
 | .field T x f=>match yL (zG tm) x,TT[T]? with
  | .agg cs,some ti=>match ti.d with
   | .str fs=>match fs[f]? with
    |some (o,ft)=>match TT[ft]? with
     |some tf=>ldR tf cs o []
     |none=>none
    |none=>none
   |_=>none
  |_,_=>none
 | .nilCheck x=>match yL (zG tm) x with
  | .ptr k 0 off=>match zC h k with
   |some (.box _)=>some (.ptr k 0 off,[],[k],[])
   |_=>none
  |_=>none
 | .unOp .not _ x=>match yL (zG tm) x with
  | .s (.bool b)=>some (.s (.bool !b),[],[],[])
  |_=>none
 | .makeFunc (.func f) ⟨[]⟩ cap=>TZ (cap.toList.map (yL (zG tm))) λl=>some (.fn f l,[],[],[])
 | .build T ps=>match TT[T]? with
  | some ti=>match ti.d with
   | .str fs=>bif ti.zero.all (·.oneCell')then(match AN TT fs with
    |some pl=>match PJ (pl[·]?) (ti.zero.map .s) (bL ⟨tm,h⟩ ps)with
     |some cs=>TZ cs λl=>some (.agg l,[],[],[])
     |none=>none
    |none=>none)else none
   | .arr _ e=>bif ti.zero.all (·.oneCell')then(match TT[e]? with
    |some te=>match PJ (λi=>some (i*te.size,te.size)) (ti.zero.map .s) (bL ⟨tm,h⟩ ps)with
     |some cs=>TZ cs λl=>some (.agg l,[],[],[])
     |none=>none
    |none=>none)else none
   |_=>none
  |none=>none
 | .buildSlice T len ps=>match TT[T]? with
  | some ti=>match ti.d with
   | .slice e=>match TT[e]? with
    | some te=>bif dP 0 (ps.toList.map (·.1))&&(Nat.beq ps.toList.length len&&(Nat.ble 1 te.size&&(Nat.ble (len*te.size) 65536&&Nat.beq te.zero.length te.size)))then
      TZ (ps.toList.map λp=>yL (zG tm) p.2) λxs=>bif xs.all (λx=>Nat.beq x.cells.length te.size&&(x.ok&&x.nokey))then some (.ref t 0 len,[(t,.arr te.size xs false)],[],[t])else none else none
    |none=>none
   |_=>none
  |none=>none
 | .call ⟨.builtin .len,
 ⟨[x]⟩,⟨[T]⟩⟩=>match TT[T]? with
  | some ti=>match ti.d with
   | .slice _=>match yL (zG tm) x with
    | .sl _ xs=>some (.s (.int .i64 xs.length),[],[],[])
    | .ref k _ len=>match zC h k with
     |some (.arr _ _ _)=>some (.s (.int .i64 len),[],[k],[])
     |_=>none
    | .s (.slice _ n _)=>some (.s (.int .i64 n),[],[],[])
    |_=>none
   |_=>none
  |none=>none
 | .call ⟨.builtin .max,⟨[x,y]⟩,⟨[_,_]⟩⟩=>match yL (zG tm) x,yL (zG tm) y with
  | .s (.int .i64 m),.s (.int .i64 n)=>some (.s (.int .i64 (max m n)),[],[],[])
  |_,_=>none
 | .call ⟨.builtin .min,⟨[x,y]⟩,
 ⟨[_,_]⟩⟩=>match yL (zG tm) x,yL (zG tm) y with
  | .s (.int .i64 m),.s (.int .i64 n)=>some (.s (.int .i64 (min m n)),[],[],[])
  |_,_=>none
 |_=>none
section
variable {P:Program} {TT:List TI} (hP:uL P TT) {tm:List (Nat×AV)} {h:List (Nat×xN)} {t:Nat}
theorem QZ {ti:TI} {row:List AV} {off:Nat} {r:List Nat} {v:AV} {d:List (Nat×xN)} {r' nw:List Nat} (he:ldR ti row off r=some (v,d,r',nw)):AP ti.d.agg ti.size row off=some v/\d=[]/\r'=r/\nw=[]:=by
 unfold ldR at he;unfold AP
 cases hb:ti.d.agg with
 |true=>
  simp only[hb,zYk,jT]at he
  cases hc:Nat.ble (off+ti.size) row.length with
  |true=>simp only[hc,zYk,zYj,zY7]at he;simp[he.1,he.2.1,he.2.2.1,he.2.2.2]
  |false=>simp[hc]at he
 |false=>
  simp only[hb,zY8]at he
  cases hr:row[off]? with
  |none=>simp[hr]at he
  |some u=>simp only[hr,aW,zYj,zY7]at he;simp[he.1,he.2.1,he.2.2.1,he.2.2.2]
theorem XJ:∀(l:List Nat) (n:Nat),dP n l=true->∀(j:Nat) x,l[j]? =some x->x=n+j
 | [],_,_,_,_,h=>by simp at h
 |y::r,n,hr,0,x,h=>by simp at h;subst h;simp[dP]at hr;omega
 |y::r,n,hr,j+1,x,h=>by
  simp only[dP,zXo]at hr;have:=XJ r (n+1) hr.2 j x NS;omega
include hP in
theorem XK:∀{op:Op} {v:AV} {d:List (Nat×xN)} {r nw:List Nat},exec TT tm h t op=some (v,d,r,nw)->wR P ⟨tm,h⟩ op v d r nw:=by
 intro op v d r nw he;unfold exec at he;split at he
 ·simp only[aW,zYj,zY7]at he;obtain⟨rfl,rfl,rfl,rfl⟩:=he;exact zI9 rfl
 ·simp only[aW,zYj,zY7]at he;obtain⟨rfl,rfl,rfl,rfl⟩:=he;exact AS rfl
 ·split at he
  ·rename_i b hb
   cases b<;>simp only[zYk,zY8,aW,zYj,zY7]at he<;>obtain⟨rfl,rfl,rfl,rfl⟩:=he<;>exact zJa hb rfl
  ·cases he
 ·split at he
  ·rename_i hx;split at he
   ·rename_i hv;simp only[aW,zYj,zY7]at he;obtain⟨rfl,rfl,rfl,rfl⟩:=he;exact EY hx hv
   ·cases he
  ·cases he
 ·rename_i T x;generalize hx:yL (zG tm) x=u at he;by_cases ha:u.isAgg=true
  ·cases u<;>simp[AV.isAgg]at ha
   simp only[zYj,zY7]at he;obtain⟨rfl,rfl,rfl,rfl⟩:=he;exact kX (v:= .agg _) t hx rfl
  ·have he2:(bif u.one then some (AV.ptr t 0 0,[(t,xN.box [u])],([]:List Nat),[t])else none)=some (v,d,r,nw):=by
    cases u<;>first|exact he|(simp[AV.isAgg]at ha)
   cases ho:u.one with
   |false=>rw[ho]at he2;cases he2
   |true=>
    rw[ho]at he2;simp only[zYk,zYj,zY7]at he2;obtain⟨rfl,rfl,rfl,rfl⟩:=he2
    have ok:u.ok=true:=by cases u<;>first|rfl|exact ho
    have e:u.cells=[u]:=by cases u<;>first|rfl|(simp[AV.one]at ho)
    have:=kX (P:=P) (T:=T) (st:=⟨tm,h⟩) t hx ok
    rwa [e]at this
 ·split at he
  ·rename_i ti hT
   cases hz:ti.zero.all (·.oneCell')with
   |false=>simp[hz]at he
   |true=>
    simp only[hz,zYk,jT,zYj,zY7]at he;obtain⟨rfl,rfl,rfl,rfl⟩:=he;exact ZY hP t hT hz
  ·cases he
 ·split at he
  ·rename_i k off ti hx hT;split at he
   ·rename_i cs hk;obtain⟨q1,rfl,rfl,rfl⟩:=QZ he;exact JN hP hx hk hT q1
   ·rename_i xs _ hk;split at he
    ·rename_i y hy;obtain⟨q1,rfl,rfl,rfl⟩:=QZ he;exact fU hP hx hk hy hT q1
    ·cases he
   ·cases he
  ·rename_i k i off ti hx hT;split at he
   ·rename_i xs _ hk;split at he
    ·rename_i y hy;obtain⟨q1,rfl,rfl,rfl⟩:=QZ he;exact fU hP hx hk hy hT q1
    ·cases he
   ·cases he
  ·rename_i xs i off ti hx hT;split at he
   ·rename_i y hy;obtain⟨q1,rfl,rfl,rfl⟩:=QZ he;exact ZB hP hx hy hT q1
   ·cases he
  ·cases he
 ·rename_i T p x;split at he
  ·rename_i k off ti hp hT;split at he
   ·rename_i cs hk;rw[aW]at he
    cases hc:((yL (zG tm) x).ok&&(Nat.beq (yL (zG tm) x).cells.length ti.size&&Nat.ble (off+ti.size) cs.length))with
    |false=>rw[hc]at he;cases he
    |true=>
     rw[hc]at he;simp only[zYk,jT,zYj,zY7]at he;obtain⟨rfl,rfl,rfl,rfl⟩:=he;simp only[zXo]at hc;exact NR hP hp rfl hk hT hc.1 hc.2.1 hc.2.2
   ·cases he
  ·cases he
 ·split at he
  ·rename_i k off ti hx hT;split at he
   ·rename_i cs fs hk hd;split at he
    ·rename_i o ft hf;split at he
     ·rename_i tf hft
      cases hz:Nat.ble 1 tf.size with
      |false=>simp[hz]at he
      |true=>
       simp only[hz,zYk,zYj,zY7]at he;obtain⟨rfl,rfl,rfl,rfl⟩:=he;exact VI hP hx hk hT hd hf hft hz
     ·cases he
    ·cases he
   ·cases he
  ·cases he
 ·split at he
  ·rename_i cs ti hx hT;split at he
   ·rename_i fs hd;split at he
    ·rename_i o ft hf;split at he
     ·rename_i tf hft;obtain⟨q1,rfl,rfl,rfl⟩:=QZ he;exact zDr hP hx hT hd hf hft q1
     ·cases he
    ·cases he
   ·cases he
  ·cases he
 ·split at he
  ·rename_i hx;split at he
   ·rename_i hk;simp only[zYj,zY7]at he;obtain⟨rfl,rfl,rfl,rfl⟩:=he;exact UY hx hk
   ·cases he
  ·cases he
 ·split at he
  ·rename_i hx;simp only[zYj,zY7]at he;obtain⟨rfl,rfl,rfl,rfl⟩:=he;exact zOb hx
  ·cases he
 ·simp only[jT,zYj,zY7]at he;obtain⟨rfl,rfl,rfl,rfl⟩:=he;exact IH
 ·split at he
  ·rename_i ti hT;split at he
   ·rename_i fs hd
    cases hz:ti.zero.all (·.oneCell')with
    |false=>simp[hz]at he
    | true=>
     simp only[hz,zYk]at he;split at he
     ·rename_i pl hpl;split at he
      ·rename_i cs hf;simp only[jT,zYj,zY7]at he;obtain⟨rfl,rfl,rfl,rfl⟩:=he;exact zDq hP hT hd hz hpl hf
      ·cases he
     ·cases he
   ·rename_i e hd
    cases hz:ti.zero.all (·.oneCell')with
    |false=>simp[hz]at he
    | true=>
     simp only[hz,zYk]at he;split at he
     ·rename_i te hte;split at he
      ·rename_i cs hf;simp only[jT,zYj,zY7]at he;obtain⟨rfl,rfl,rfl,rfl⟩:=he;exact NQ hP hT hd hte hz hf
      ·cases he
     ·cases he
   ·cases he
  ·cases he
 ·split at he
  ·rename_i ti hT;split at he
   ·rename_i e hd;split at he
    ·rename_i T len ps _ _ _ te hte;rw[jT]at he
     cases hc:(dP 0 (ps.toList.map (·.1))&&(Nat.beq ps.toList.length len&&(Nat.ble 1 te.size&&(Nat.ble (len*te.size) 65536&&Nat.beq te.zero.length te.size))))with
     |false=>rw[hc]at he;cases he
     | true=>
      rw[hc]at he;simp only[zYk]at he;generalize hxs:(ps.toList.map λp=>yL (zG tm) p.2)=xs at he
      cases hw:xs.all (λx=>Nat.beq x.cells.length te.size&&(x.ok&&x.nokey))with
      |false=>simp[hw]at he
      | true=>
       simp only[hw,zYk,zYj,zY7]at he;obtain⟨rfl,rfl,rfl,rfl⟩:=he;simp only[zXo]at hc;obtain⟨c1,c2,c3,c4,c5⟩:=hc;refine yJ hP t hT hd hte c3 ?_ (by rw[<-hxs];simpa using c2) hw c4 c5;rw[<-hxs];apply zYp;intro j;simp only[bL,zXd,yBt,zYe]
       cases hj:ps.toList[j]? with
       |none=>simp
       |some p=>
        have:=XJ _ 0 c1 j p.1 (by simp[hj]);simp[this]
    ·cases he
   ·cases he
  ·cases he
 ·split at he
  ·rename_i ti hT;split at he
   ·rename_i hd;split at he
    ·rename_i hx;simp only[zYj,zY7]at he;obtain⟨rfl,rfl,rfl,rfl⟩:=he;exact AR hP hx hT hd
    ·rename_i hx;split at he
     ·rename_i hk;simp only[zYj,zY7]at he;obtain⟨rfl,rfl,rfl,rfl⟩:=he;exact EN hP hx hk hT hd
     ·cases he
    ·rename_i hx;simp only[zYj,zY7]at he;obtain⟨rfl,rfl,rfl,rfl⟩:=he;exact EO hP hx hT hd
    ·cases he
   ·cases he
  ·cases he
 ·split at he
  ·rename_i hx hy;simp only[zYj,zY7]at he;obtain⟨rfl,rfl,rfl,rfl⟩:=he;exact zN8 hx hy
  ·cases he
 ·split at he
  ·rename_i hx hy;simp only[zYj,zY7]at he;obtain⟨rfl,rfl,rfl,rfl⟩:=he;exact zN9 hx hy
  ·cases he
 ·cases he
end
def JC:BinOp->Int->Int->Prop
 | .eql,a,b=>a=b
 | .neq,a,b=>a≠b
 | .lss,a,b=>a<b
 | .leq,a,b=>a<=b
 | .gtr,a,b=>b<a
 | .geq,a,b=>b<=a
 |_,_,_=>False
def qZ:BinOp->Int->Int->Bool
 | .eql,a,b=>a==b
 | .neq,a,b=>a != b
 | .lss,a,b=>decide (a<b)
 | .leq,a,b=>decide (a<=b)
 | .gtr,a,b=>decide (b<a)
 | .geq,a,b=>decide (b<=a)
 |_,_,_=>false
section
variable {P:Program} {TT:List TI} {K0:List Nat} {F:Fr K0} {m:Nat} {ops:Array Oper} {rest:List Oper} {Q:List FP->St->Prop} {tm:List (Nat×AV)} {h:List (Nat×xN)} {dr:Bool} {fs:List FP}
variable {ty:Nat} {pos:String} {after:Array Edge} {t:Nat}
theorem vK (hP:uL P TT) {op:Op} {v:AV} {r:List Nat} (he:exec TT tm h t op=some (v,[],r,[])) (hm:Nat.blt t m=true) (hk:zZ P F m ops dr rest ⟨(t,v)::tm,h⟩ (⟨true,[],r⟩::fs) Q):
 zZ P F m ops dr (⟨some t,op,ty,pos,after,none⟩::rest) ⟨tm,h⟩ fs Q:=xK (XK hP he) hm hk
theorem ZW (hP:uL P TT) {op:Op} {v:AV} {k:Nat} {e:xN} {r nw:List Nat} (he:exec TT tm h t op=some (v,[(k,e)],r,nw)) (hm:Nat.blt t m=true) (hn:nw.all (λj=>(zC h j).isNone)=true) (hd:vX [(k,e)]=true)
 (hk:zZ P F m ops dr rest ⟨(t,v)::tm,(k,e)::h⟩ (⟨true,k::nw,r⟩::fs) Q):zZ P F m ops dr (⟨some t,op,ty,pos,after,none⟩::rest) ⟨tm,h⟩ fs Q:=uG (XK hP he) hm hn hd hk
theorem bH (hP:uL P TT) {op:Op} {v:AV} {k:Nat} {e:xN} {r nw:List Nat} (he:exec TT tm h 0 op=some (v,[(k,e)],r,nw)) (hn:nw.all (λj=>(zC h j).isNone)=true) (hd:vX [(k,e)]=true)
 (hk:zZ P F m ops dr rest ⟨tm,(k,e)::h⟩ (⟨true,k::nw,r⟩::fs) Q):zZ P F m ops dr (⟨none,op,ty,pos,after,none⟩::rest) ⟨tm,h⟩ fs Q:=x_s (XK hP he) hn hd hk
section
variable {op:BinOp} {tx t2:Nat} {x y:Operand} {k:IntKind} {a b:Int} (hop:zBn op=true) (hx:yL (zG tm) x= .s (.int k a)) (hy:yL (zG tm) y= .s (.int k b))
include hop hx hy
theorem JD:wR P ⟨tm,h⟩ (.binOp op tx x y t2) (.s (.bool (qZ op a b))) [] [] []:=by
 cases op<;>first
  |exact IA hx hy
  |exact IB hx hy
  |exact IC hx hy
  |exact ID hx hy
  |exact IE hx hy
  |exact IF hx hy
  |(simp[zBn]at hop)
theorem UT (hh:JC op a b):wR P ⟨tm,h⟩ (.binOp op tx x y t2) (.s (.bool true)) [] [] []:=by
 cases op<;>first
  |exact zIq hx hy hh
  |exact zIs hx hy hh
  |exact zIi hx hy hh
  |exact zIk hx hy hh
  |exact zIm hx hy hh
  |exact zIo hx hy hh
  |(simp[zBn]at hop)
theorem UU (hh:¬JC op a b):wR P ⟨tm,h⟩ (.binOp op tx x y t2) (.s (.bool false)) [] [] []:=by
 cases op<;>first
  |exact zIr hx hy hh
  |exact zIt hx hy (by simpa [JC]using hh)
  |exact zIj hx hy hh
  |exact zIl hx hy hh
  |exact zIn hx hy hh
  |exact zIp hx hy hh
  |(simp[zBn]at hop)
end
end
theorem MN {X:Nat->Prop} {h:yH} {β:uB} {w:World} (H:kI X h β w) {K:Nat} (hK:h K=none) {sz:Nat} (hp:1<=sz):xM X w h β w (over [(K,.arr sz [] true)] h) (cD β K []):=
 xM.step H K _ _ (zXc _) (λ_ _ _=>rfl) rfl rfl rfl (λb n hm=>by simp at hm) (λ_ _ _=>rfl) (λe he=>by rw[hK]at he;cases he) (λE=>⟨hp,by simp,λh=>absurd rfl h,λi y hy=>by simp at hy,
  λb n r hr=>by rw[zW]at hr;simp at hr,λ_ _=>undef,λi y j v hy _=>by simp at hy,λi j hi _=>by simp at hi,λb n hm=>by rw[zW]at hm;simp at hm⟩)
theorem fC {d:List (Nat×xN)} {h:yH} (hd:vX d=true) (nd:∀k,h k≠some .dead):∀k,over d h k≠some .dead:=λk=>by
 unfold over;split
 ·rename_i e he;intro h4;cases h4;exact qD hd he
 ·exact nd k
section
variable {P:Program} {K0:List Nat} {F:Fr K0} {m:Nat} {tm:List (Nat×AV)} {h:List (Nat×xN)}
theorem wH.virt {a:Act} {w:World} (H:wH F m ⟨tm,h⟩ a w) (t K sz:Nat) (hv:zG tm t= .s (.slice none 0 0)) (hK:(zC h K).isNone=true) (hp:Nat.ble 1 sz=true):wH F m ⟨(t,.ref K 0 0)::tm,(K,.arr sz [] true)::h⟩ a w:=by
 obtain⟨⟨X,β,hX,HH,Ht,KK,hJ,hD⟩,nd,gs,hl⟩:=H;have hk:zC h K=none:=by simpa using hK
 have G:=MN HH hk (zXq hp);have nd':∀k,over [(K,.arr sz [] true)] (zC h) k≠some .dead:=fC rfl nd
 have R:YF F m (zG ((t,.ref K 0 0)::tm)) (over [(K,.arr sz [] true)] (zC h)) a w:=by
  refine⟨⟨X,_,hX,G.hok,λj=>?_,KK.goes G nd' (G.lives HH nd'),λi hi=>?_,hD.goes HH G⟩,nd',gs,hl⟩
  ·rw[yN];split
   ·rename_i hj;subst hj;have:=Ht j;rw[hv]at this;rw[this.s_inv];exact .ref0 K 0 sz [] true none (qH _ _ _) (zXc _)
   ·exact(Ht j).evo G.evo
  ·rw[yN]at hi;split at hi
   ·cases hi
   ·exact F.go G (hJ i hi)
 unfold wH;dsimp only;rw[show zC ((K,.arr sz [] true)::h)=over [(K,.arr sz [] true)] (zC h)from wU [(K,.arr sz [] true)] h];exact R
theorem wH.virtB {a:Act} {w:World} (H:wH F m ⟨tm,h⟩ a w) (k i K sz:Nat) {cs:List AV} (hk:zC h k=some (.box cs)) (hv:cs[i]? =some (.s (.slice none 0 0))) (hK:(zC h K).isNone=true) (hp:Nat.ble 1 sz=true):wH F m ⟨tm,(k,.box (cs.set i (.ref K 0 0)))::(K,.arr sz [] true)::h⟩ a w:=by
 obtain⟨⟨X,β,hX,HH,Ht,KK,hJ,hD⟩,nd,gs,hl⟩:=H;have hkn:zC h K=none:=by simpa using hK
 have G:=MN HH hkn (zXq hp);have nd':∀k,over [(K,.arr sz [] true)] (zC h) k≠some .dead:=fC rfl nd;have hne:k≠K:=λe=>by rw[e,hkn]at hk;cases hk
 have hk2:over [(K,.arr sz [] true)] (zC h) k=some (.box cs):=by rw[<-wU,yA3,xI,zW8 hne];exact hk
 have H2:=G.hok;have hβ:cD β K [] k=β k:=by unfold cD;rw[zW8 hne]
 have G2:xM X w _ (cD β K []) w (over [(k,.box (cs.set i (.ref K 0 0)))] (over [(K,.arr sz [] true)] (zC h))) (cD (cD β K []) k (cD β K [] k)):=
  xM.step H2 k (.box (cs.set i (.ref K 0 0))) (cD β K [] k) (zXc _) (λ_ _ _=>rfl) rfl rfl rfl (λb n hm=> .inl ⟨n,hm⟩) (λ_ _ _=>rfl) (λe he=>by rw[hk2]at he;cases he;exact .inr ⟨⟨_,rfl⟩,λb n hm=>hm⟩) (λE=>by
   obtain⟨b,c,el,h1,h2,h3,h4,h5⟩:=H2.ent k _ hk2;refine⟨b,c,el,by rw[zW];exact h1,h2,by simpa using h3,h4,λj v hj=>?_⟩;rw[zZi]at hj;split at hj
   ·rename_i hij;subst hij;split at hj
    ·injection hj with hj
     subst hj;have h6:=h5 i _ hv;rw[h6.s_inv];refine .ref0 K 0 sz [] true none ?_ (zXc _);rw[show over [(k,xN.box (cs.set i (.ref K 0 0)))] (over [(K,.arr sz [] true)] (zC h)) K=_ from by rw[<-wU,<-wU,yA3,yA3,xI,zW8 (λe=>hne e.symm),xI,zW9 rfl]]
    ·cases hj
   ·exact(h5 j v hj).evo E)
 have nd2:=fC (d:=[(k,.box (cs.set i (.ref K 0 0)))]) rfl nd'
 have R:YF F m (zG tm) (over [(k,.box (cs.set i (.ref K 0 0)))] (over [(K,.arr sz [] true)] (zC h))) a w:=
  ⟨⟨X,_,hX,G2.hok,λj=>((Ht j).evo G.evo).evo G2.evo,(KK.goes G nd' (G.lives HH nd')).goes G2 nd2 (G2.lives H2 nd2),λi hi=>F.go G2 (F.go G (hJ i hi)),(hD.goes HH G).goes H2 G2⟩,nd2,gs,hl⟩
 unfold wH;dsimp only;rw[show zC ((k,.box (cs.set i (.ref K 0 0)))::(K,.arr sz [] true)::h)=over [(k,.box (cs.set i (.ref K 0 0)))] (over [(K,.arr sz [] true)] (zC h))from(wU [(k,.box (cs.set i (.ref K 0 0)))] _).trans (zX7 (over _) (wU [(K,.arr sz [] true)] h))];exact R
theorem xG {c:Code} {Q:Exit->St->Prop} (t K sz:Nat) (hv:zG tm t= .s (.slice none 0 0)) (hK:(zC h K).isNone=true) (hp:Nat.ble 1 sz=true) (hk:uC P F m c ⟨(t,.ref K 0 0)::tm,(K,.arr sz [] true)::h⟩ Q):uC P F m c ⟨tm,h⟩ Q:=⟨λa w H=>hk.run a w (H.virt t K sz hv hK hp)⟩
theorem vT {c:Code} {Q:Exit->St->Prop} (k i K sz:Nat) {cs cs':List AV} (hb:zC h k=some (.box cs)) (hv:cs[i]? =some (.s (.slice none 0 0))) (hK:(zC h K).isNone=true) (hp:Nat.ble 1 sz=true) (hc:cs.set i (.ref K 0 0)=cs') (hk:uC P F m c ⟨tm,(k,.box cs')::(K,.arr sz [] true)::h⟩ Q):
 uC P F m c ⟨tm,h⟩ Q:=⟨λa w H=>hk.run a w (hc▸H.virtB k i K sz hb hv hK hp)⟩
end
section
variable {P:Program} {TT:List TI} (hP:uL P TT) {tm:List (Nat×AV)} {h:List (Nat×xN)}
include hP in
theorem gF {T e:Nat} {x ix:Operand} {ti te:TI} {key len sz:Nat} {xs:List AV} {sl:Fl} {k:IntKind} {i:Int} (hx:yL (zG tm) x= .ref key 0 len) (hi:yL (zG tm) ix= .s (.int k i)) (hk:zC h key=some (.arr sz xs sl)) (hT:TT[T]? =some ti) (hd:ti.d= .slice e) (he:TT[e]? =some te)
  (h0:0<=i) (hl:i<len) (hs:Nat.beq sz te.size=true):wR P ⟨tm,h⟩ (.indexAddr T x ix) (.ptr key i.toNat 0) [] [key] []:=by
 have:=VJ (st:=⟨tm,h⟩) hP hx hi hk hT hd he h0 hl hs
 rwa [zYe]at this
end
section
variable {P:Program} {K0:List Nat} {F:Fr K0} {m:Nat} {ops:Array Oper} {rest:List Oper} {Q:List FP->St->Prop} {dr:Bool} {fs:List FP}
variable {ty t:Nat} {pos:String} {after:Array Edge} {st:St}
theorem yV {s x:Operand} {T T':Nat} (hk:zZ P F m ops dr (⟨some t,.call ⟨.builtin .append, #[s,x], #[T,T']⟩,ty,pos,after,none⟩::rest) st fs Q):zZ P F m ops dr (⟨some t,.call ⟨.builtin .append, #[s,x], #[T,T']⟩,ty,pos,after,none⟩::rest) st fs Q:=hk
theorem uI (n:Nat) {asq:Array Operand} {ts:Array Nat} (hk:zZ P F m ops dr (⟨some t,.call ⟨.value (.func n),asq,ts⟩,ty,pos,after,none⟩::rest) st fs Q):zZ P F m ops dr (⟨some t,.call ⟨.value (.func n),asq,ts⟩,ty,pos,after,none⟩::rest) st fs Q:=hk
theorem JE {S D:Nat} {x:Operand} (hk:zZ P F m ops dr (⟨some t,.convert S D x,ty,pos,after,none⟩::rest) st fs Q):zZ P F m ops dr (⟨some t,.convert S D x,ty,pos,after,none⟩::rest) st fs Q:=hk
theorem PA {op:UnOp} {x:Operand} {T:Nat} (hk:zZ P F m ops dr (⟨some t,.unOp op T x,ty,pos,after,none⟩::rest) st fs Q):zZ P F m ops dr (⟨some t,.unOp op T x,ty,pos,after,none⟩::rest) st fs Q:=hk
end
theorem aX {P:Program} {TT:List TI} {tm:List (Nat×AV)} {h:List (Nat×xN)} {src dst:Nat} {x:Operand} {k k':IntKind} {n:Int} {ts td:TI} (hP:uL P TT) (hs:TT[src]? =some ts) (hd:TT[dst]? =some td) (hk:td.d= .int k') (hx:yL (zG tm) x= .s (.int k n)) (hr:YI k' n):
  wR P ⟨tm,h⟩ (.convert src dst x) (.s (.int k' n)) [] [] []:=by
 have:=VO (st:=⟨tm,h⟩) hP hs hd hk hx
 rwa [qT hr]at this
end Av
end Go.Proofs.YtmamjhmoegjapaaGreat
